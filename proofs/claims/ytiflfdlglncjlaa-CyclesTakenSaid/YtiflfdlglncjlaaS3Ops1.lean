/-
  Soundness of the symbolic executor, part 1: operands, merging, arithmetic. Conditions: none (lemmas).
-/
import Derived.Test.YtiflfdlglncjlaaS3Rel
set_option linter.unusedSimpArgs false
set_option linter.unusedVariables false
namespace Go.S3

theorem atomOf_ok (x : Ctx) {v : Value} {a : A} (h : atomOf v = some a) : RA x a v := by
  unfold atomOf at h
  split at h <;> (try simp only [Option.some.injEq, reduceCtorEq] at h) <;> (try subst h)
  · exact .bool _ _ _
  · rename_i k n
    split at h
    · rename_i hk
      simp only [Bool.and_eq_true, decide_eq_true_eq] at hk
      simp only [Option.some.injEq] at h
      subst h
      exact .int _ _ _ _ hk
    · simp at h
  · exact .str _ _
  · exact .nilp _
  · exact .nilsl _
  · exact .raw _ _ trivial
  · exact .raw _ _ trivial
  · exact .raw _ _ trivial
theorem atomsOf_ok (x : Ctx) : ∀ {l : List Value} {r : List A}, atomsOf l = some r → RL x r l
  | [], r, h => by simp [atomsOf] at h; subst h; trivial
  | v :: l, r, h => by
    simp only [atomsOf] at h
    split at h
    · rename_i a r' h1 h2
      simp only [Option.some.injEq] at h
      subst h
      exact ⟨atomOf_ok x h1, atomsOf_ok x h2⟩
    · simp at h
theorem ofValue_ok (x : Ctx) {v : Value} {y : W} (h : ofValue v = some y) : RW x y v := by
  unfold ofValue at h
  split at h
  · rename_i cs
    rw [Option.map_eq_some_iff] at h
    obtain ⟨r, h1, h2⟩ := h
    subst h2
    exact ⟨cs.toList, by simp, atomsOf_ok x h1⟩
  · rw [Option.map_eq_some_iff] at h
    obtain ⟨r, h1, h2⟩ := h
    subst h2
    exact atomOf_ok x h1

theorem opd_ok {x : Ctx} {s : St} {a : Act} (hf : RF x s.slots a.tmps) {o : Operand} {v : V} (h : opd s o = some v) : RV x v (a.eval o) := by
  cases o with
  | tmp t => exact hf.slot t v h
  | const u =>
    simp only [opd, Option.map_eq_some_iff] at h
    obtain ⟨y, h1, h2⟩ := h
    subst h2
    exact ofValue_ok x h1
  | global g => simp [opd] at h
  | func f =>
    simp only [opd, Option.some.injEq] at h
    subst h
    exact .clo x f [] [] (fun _ => undef) rfl (fun j a h => by cases j <;> simp [nth] at h) (fun j a h => by cases j <;> simp [nth] at h)
theorem opd1_some {s : St} {o : Operand} {a : A} (h : opd1 s o = some a) : opd s o = some (.w (.one a)) := by
  simp only [opd1, Option.bind_eq_some_iff] at h
  obtain ⟨v, h1, h2⟩ := h
  unfold V.one at h2
  split at h2
  · simp only [Option.some.injEq] at h2; subst h2; exact h1
  · simp at h2
theorem opd1_ok {x : Ctx} {s : St} {a : Act} (hf : RF x s.slots a.tmps) {o : Operand} {b : A} (h : opd1 s o = some b) : RA x b (a.eval o) := opd_ok hf (opd1_some h)
theorem W.cells_ok {x : Ctx} {y : W} {v : Value} {l : List A} (h : RW x y v) (hl : y.cells = some l) : RL x l v.cells.toList := by
  cases y with
  | one a =>
    simp only [W.cells, Option.some.injEq] at hl
    subst hl
    have h1 : RA x a v := h
    have h2 := h1.atomic
    have h3 : v.cells = #[v] := by cases v <;> first | rfl | exact h2.elim
    rw [h3]; exact ⟨h1, trivial⟩
  | agg l' =>
    simp only [W.cells, Option.some.injEq] at hl
    subst hl
    obtain ⟨C, h1, h2⟩ := h
    subst h1
    simpa [Value.cells] using h2
  | junk => simp [W.cells] at hl
theorem opdC_ok {x : Ctx} {s : St} {a : Act} (hf : RF x s.slots a.tmps) {o : Operand} {l : List A} (h : opdC s o = some l) : RL x l (a.eval o).cells.toList := by
  simp only [opdC, Option.bind_eq_some_iff] at h
  obtain ⟨v, h1, h2⟩ := h
  have h3 := opd_ok hf h1
  cases v with
  | w y => exact W.cells_ok h3 h2
  | tup l => simp [V.cells] at h2
theorem opds_ok {x : Ctx} {s : St} {a : Act} (hf : RF x s.slots a.tmps) : ∀ {l : List Operand} {vs : List V}, opds s l = some vs → RVs x vs (l.map a.eval)
  | [], vs, h => by simp [opds] at h; subst h; trivial
  | o :: l, vs, h => by
    simp only [opds] at h
    split at h
    · rename_i v r h1 h2
      simp only [Option.some.injEq] at h
      subst h
      exact ⟨opd_ok hf h1, opds_ok hf h2⟩
    · simp at h
theorem RL.atomic {x : Ctx} : ∀ {l : List A} {vs : List Value}, RL x l vs → ∀ v ∈ vs, S3.atomic v
  | [], [], _, v, hv => by simp at hv
  | _ :: _, _ :: _, h, v, hv => by
    rcases List.mem_cons.1 hv with rfl | hv
    · exact h.1.atomic
    · exact RL.atomic h.2 v hv
  | [], _ :: _, h, _, _ => h.elim
  | _ :: _, [], h, _, _ => h.elim

/-! ### merging -/
theorem mB_eq (c l1 x l2 y : Bool) : ∃ l, mB c l1 x l2 y = .bool l (cond c x y) := by
  cases c <;> cases l1 <;> cases x <;> cases l2 <;> cases y <;> exact ⟨_, rfl⟩
theorem mI_eq (c : Bool) (k : IntKind) (l1 : Bool) (x : Int) (l2 : Bool) (y : Int) : ∃ l, mI c k l1 x l2 y = .int l k (cond c x y) := by
  unfold mI
  split
  · rename_i h
    simp only [Bool.and_eq_true, decide_eq_true_eq] at h
    obtain ⟨_, rfl⟩ := h
    exact ⟨true, by cases c <;> rfl⟩
  · exact ⟨_, rfl⟩

/-- x' is x, with the boxes below nb alone; tm: the tips' versions. -/
structure Cut (nb : Nat) (tm : Nat → Nat → Nat → Option Nat) (c : Bool) (x x' : Ctx) : Prop where
  M : ∀ b, b < nb → nth x'.M b = nth x.M b
  tip : ∀ h v v' m, tm h v v' = some m → ∀ val, RA x (.tip h (cond c v v')) val → RA x' (.tip h m) val
  fz : FzLe x x'
theorem Cut.refl (nb : Nat) (c : Bool) (x : Ctx) : Cut nb tip1 c x x := by
  refine ⟨fun _ _ => rfl, fun h v v' m hm val hv => ?_, fun _ _ _ h => h⟩
  unfold tip1 at hm
  split at hm
  · rename_i e
    simp only [Nat.beq_eq] at e; subst e
    simp only [Option.some.injEq] at hm; subst hm
    cases c <;> exact hv
  · simp at hm
theorem RA.lst_weak {x : Ctx} {r : R} {lit lit' f f' g g' : Bool} {l : List r.den} {v : Value} (h : RA x (.lst r lit f g l) v) (hf : f' = true → f = true) (hg : g' = true → g = true) : RA x (.lst r lit' f' g' l) v := by
  cases h with
  | lst0 _ _ _ _ _ _ a cap h1 h2 h3 => exact .lst0 _ _ _ _ _ _ _ _ h1 (fun e => h2 (hf e)) (fun e => h3 (hg e))
  | lst _ _ _ _ _ _ p o cap c h1 h2 hc hm h3 h4 => exact .lst _ _ _ _ _ _ _ _ _ c h1 (fun e => h2 (hf e)) hc hm h3 h4
theorem RA.nil_lst {x : Ctx} {r : R} {lit f : Bool} {v : Value} (h : RA x .nilsl v) : RA x (.lst r lit f false []) v := by
  cases h
  exact .lst0 _ _ _ _ _ _ _ _ rfl (fun _ => rfl) (fun e => by simp at e)

theorem mA_ok {nb : Nat} {tm : Nat → Nat → Nat → Option Nat} {c : Bool} {x x' : Ctx} (hx : Cut nb tm c x x') {a b z : A} {v : Value} (h : mA c tm nb a b = some z) (hv : RA x (cond c a b) v) : RA x' z v := by
  unfold mA at h
  split at h
  · rename_i l1 p l2 q
    simp only [Option.some.injEq] at h
    obtain ⟨l, hl⟩ := mB_eq c l1 p l2 q
    rw [← h, hl]
    cases c <;> (cases hv; exact .bool _ _ _)
  · rename_i l1 k p l2 k' q
    split at h
    · rename_i hk
      have := sameK_eq hk
      subst this
      simp only [Option.some.injEq] at h
      obtain ⟨l, hl⟩ := mI_eq c k l1 p l2 q
      rw [← h, hl]
      cases c <;> (cases hv; exact .int _ _ _ _ (by assumption))
    · simp at h
  · rename_i b o b' o'
    split at h
    · rename_i hk
      simp only [Bool.and_eq_true, Nat.beq_eq, Nat.blt_eq] at hk
      obtain ⟨⟨rfl, rfl⟩, hlt⟩ := hk
      simp only [Option.some.injEq] at h
      subst h
      cases c <;> (cases hv; rename_i p hp; exact .loc _ _ _ _ (by rw [hx.M _ hlt]; exact hp))
    · simp at h
  · rename_i b p b' q
    split at h
    · rename_i hk
      simp only [Nat.beq_eq] at hk
      subst hk
      rw [Option.map_eq_some_iff] at h
      obtain ⟨m, h1, h2⟩ := h
      subst h2
      refine hx.tip b p q m h1 v ?_
      cases c <;> exact hv
    · simp at h
  · rename_i r l1 f g p r' l2 f' g' q
    split at h
    · simp only [Option.some.injEq] at h; subst h
      cases c with
      | true => exact (RA.lst_weak (f' := f && f') (g' := g && g') hv (fun e => by simp at e; exact e.1) (fun e => by simp at e; exact e.1)).plain hx.fz rfl
      | false => exact (RA.lst_weak (f' := f && f') (g' := g && g') hv (fun e => by simp at e; exact e.2) (fun e => by simp at e; exact e.2)).plain hx.fz rfl
    · simp at h
  · rename_i r l1 f g q
    simp only [Option.some.injEq] at h; subst h
    cases c with
    | true => exact (RA.nil_lst hv).plain hx.fz rfl
    | false => exact (RA.lst_weak (f' := false) (g' := false) hv (fun e => by simp at e) (fun e => by simp at e)).plain hx.fz rfl
  · rename_i r l1 f g q
    simp only [Option.some.injEq] at h; subst h
    cases c with
    | true => exact (RA.lst_weak (f' := false) (g' := false) hv (fun e => by simp at e) (fun e => by simp at e)).plain hx.fz rfl
    | false => exact (RA.nil_lst hv).plain hx.fz rfl
  · simp only [Option.some.injEq] at h; subst h; cases c <;> (cases hv; exact .nilp _)
  · simp only [Option.some.injEq] at h; subst h; cases c <;> (cases hv; exact .nilsl _)
  · simp only [Option.some.injEq] at h; subst h; cases c <;> exact .junk _ _ hv.atomic
  · rename_i s t
    simp only [Option.some.injEq] at h; subst h
    cases c <;> (cases hv; exact .str _ _)
  · rename_i f g
    split at h
    · rename_i hk
      simp only [Nat.beq_eq] at hk
      subst hk
      simp only [Option.some.injEq] at h; subst h
      cases c <;> (cases hv; rename_i cs cc hl hc hr; exact .clo _ _ _ _ cc hl (fun j a h => by simp [nth_nil] at h) (fun j a h => by simp [nth_nil] at h))
    · simp at h
  · simp at h
theorem mL_ok {nb : Nat} {tm : Nat → Nat → Nat → Option Nat} {c : Bool} {x x' : Ctx} (hx : Cut nb tm c x x') : ∀ {l r z : List A} {vs : List Value}, mL c tm nb l r = some z → RL x (cond c l r) vs → RL x' z vs
  | [], [], z, vs, h, hv => by
    simp only [mL, Option.some.injEq] at h
    subst h
    have : RL x [] vs := by cases c <;> exact hv
    cases vs with
    | nil => trivial
    | cons _ _ => exact this.elim
  | a :: l, b :: r, z, vs, h, hv => by
    simp only [mL] at h
    split at h
    · rename_i y ys h1 h2
      simp only [Option.some.injEq] at h
      subst h
      cases vs with
      | nil => cases c <;> exact hv.elim
      | cons v vs =>
        refine ⟨mA_ok hx h1 ?_, mL_ok hx h2 ?_⟩
        · cases c <;> exact hv.1
        · cases c <;> exact hv.2
    · simp at h
  | [], _ :: _, _, _, h, _ => by simp [mL] at h
  | _ :: _, [], _, _, h, _ => by simp [mL] at h
theorem mW_ok {nb : Nat} {tm : Nat → Nat → Nat → Option Nat} {c : Bool} {x x' : Ctx} (hx : Cut nb tm c x x') {a b z : W} {v : Value} (h : mW c tm nb a b = some z) (hv : RW x (cond c a b) v) : RW x' z v := by
  unfold mW at h
  split at h
  · rename_i p q
    rw [Option.map_eq_some_iff] at h
    obtain ⟨r, h1, h2⟩ := h
    subst h2
    exact mA_ok hx h1 (by cases c <;> exact hv)
  · rename_i p q
    rw [Option.map_eq_some_iff] at h
    obtain ⟨r, h1, h2⟩ := h
    subst h2
    have : ∃ C : List Value, v = .agg C.toArray ∧ RL x (cond c p q) C := by cases c <;> exact hv
    obtain ⟨C, hC, hl⟩ := this
    exact ⟨C, hC, mL_ok hx h1 hl⟩
  · simp only [Option.some.injEq] at h; subst h; trivial
  · simp at h
theorem mV_ok {nb : Nat} {tm : Nat → Nat → Nat → Option Nat} {c : Bool} {x x' : Ctx} (hx : Cut nb tm c x x') {nm : Bool} {a b z : V} {v : Value} (h : mV c tm nb nm a b = some z) (hv : RV x (cond c a b) v) : RV x' z v := by
  unfold mV at h
  split at h
  · rename_i p q
    split at h
    · rename_i r hr
      simp only [Option.some.injEq] at h
      subst h
      exact mW_ok hx hr (by cases c <;> exact hv)
    · split at h
      · simp at h
      · simp only [Option.some.injEq] at h; subst h; trivial
  · simp only [Option.some.injEq] at h; subst h; trivial

/-! ### arithmetic -/
theorem inR_shr (k : IntKind) (n : Int) (m : Nat) (h : inR k n) : inR k (n.fdiv (2 ^ m)) := by
  have hp : (0 : Int) < 2 ^ m := Int.pow_pos (by omega)
  have h1 : n.fdiv (2 ^ m) = n / (2 ^ m) := Int.fdiv_eq_ediv_of_nonneg _ (by omega)
  rw [h1]
  unfold inR at *
  obtain ⟨ha, hb⟩ := h
  have hmin : k.min ≤ 0 := by cases k <;> decide
  have hmax : 0 ≤ k.max := by cases k <;> decide
  constructor
  · by_cases hn : 0 ≤ n
    · have := Int.ediv_nonneg hn (by omega : (0 : Int) ≤ 2 ^ m); omega
    · have h2 : n ≤ n / 2 ^ m := by
        rw [Int.le_ediv_iff_mul_le hp]
        have : n * 2 ^ m ≤ n * 1 := Int.mul_le_mul_of_nonpos_left (by omega) (by omega)
        omega
      omega
  · by_cases hn : 0 ≤ n
    · have := Int.ediv_le_self (2 ^ m) hn; omega
    · have : n / 2 ^ m < 0 := Int.ediv_neg_of_neg_of_pos (by omega) hp
      omega
theorem inR_tmod (k : IntKind) (n m : Int) (h : inR k n) : inR k (n.tmod m) := by
  unfold inR at *
  obtain ⟨ha, hb⟩ := h
  have hmin : k.min ≤ 0 := by cases k <;> decide
  have hmax : 0 ≤ k.max := by cases k <;> decide
  have h1 : (n.tmod m).natAbs ≤ n.natAbs := by rw [Int.natAbs_tmod]; exact Nat.mod_le _ _
  rcases Int.le_total 0 n with hn | hn
  · have := Int.tmod_nonneg m hn; omega
  · have h2 : n.tmod m ≤ 0 := by
      have := Int.tmod_nonneg m (a := -n) (by omega)
      rw [Int.neg_tmod] at this; omega
    omega
end Go.S3
