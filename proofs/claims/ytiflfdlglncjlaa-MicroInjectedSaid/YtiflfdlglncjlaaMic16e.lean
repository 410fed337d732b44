/-
  The law of injected instructions, as a plain function: always true. Conditions: none.
-/
import Derived.Test.YtiflfdlglncjlaaMic16d
open Go Go.S3 Go.Proofs
set_option linter.unusedVariables false
set_option linter.unusedSimpArgs false
set_option maxRecDepth 100000
namespace Go.Proofs.Ytiflfdlglncjlaa
noncomputable section
/-- The same processor, in front of the instruction. -/
def backC (c : CpuT) (i : InsT) : CpuT := (c.1, wPC c.2.1 (IntKind.wrap .u16 (pcOf c - IntKind.wrap .u16 i.2.1)), c.2.2)
/-- What corresponds: a cycle of the instruction from memory, and one of the injected one. -/
def Cor (c : CpuT) (x y : Cyc) : Prop :=
  x = y ∨ (x.1 = 1 ∧ y.1 = 8 ∧ y.2.1 = pcOf c ∧ x.2.2.1 = y.2.2.1) ∨ (x.1 = 2 ∧ y.1 = 9 ∧ y.2.1 = pcOf c ∧ x.2.2.1 = y.2.2.1) ∨ ((x.1 = 10 ∨ x.1 = 11) ∧ y.1 = x.1 ∧ x.2.2.1 = y.2.2.1)
inductive Cors (c : CpuT) : List Cyc → List Cyc → Prop
  | nil : Cors c [] []
  | cons {x y : Cyc} {a b : List Cyc} (h : Cor c x y) (t : Cors c a b) : Cors c (x :: a) (y :: b)
theorem Cors.refl (c : CpuT) : ∀ l, Cors c l l
  | [] => .nil
  | _ :: l => .cons (.inl rfl) (Cors.refl c l)
theorem Cors.append {c : CpuT} {a b a' b' : List Cyc} (h : Cors c a b) (h' : Cors c a' b') : Cors c (a ++ a') (b ++ b') := by
  induction h with
  | nil => exact h'
  | cons h _ ih => exact .cons h ih
theorem Cors.len {c : CpuT} {a b : List Cyc} (h : Cors c a b) : a.length = b.length := by
  induction h with
  | nil => rfl
  | cons _ _ ih => simp [ih]
theorem Cors.at_ {c : CpuT} {a b : List Cyc} (h : Cors c a b) : ∀ (k : Nat) (x y : Cyc), a[k]? = some x → b[k]? = some y → Cor c x y := by
  induction h with
  | nil => intro k x y e; simp at e
  | cons h _ ih =>
    intro k x y e1 e2
    cases k with
    | zero => simp at e1 e2; subst e1; subst e2; exact h
    | succ k => simp at e1 e2; exact ih k x y e1 e2
theorem cors_c {c : CpuT} {b : Bool} {x y x' y' : List Cyc} (h : Cors c x x') (h' : Cors c y y') : Cors c (bif b then x else y) (bif b then x' else y') := by cases b <;> assumption
theorem get_back (c : CpuT) (i : InsT) (n : Int) : rGet (backC c i).2.1 n = rGet c.2.1 n := rfl
theorem pair_back (c : CpuT) (i : InsT) (n : Int) : rPair (backC c i).2.1 n = rPair c.2.1 n := rfl
theorem psw_back (c : CpuT) (i : InsT) (n : Int) : rPSW n (backC c i).2.1 = rPSW n c.2.1 := rfl
theorem behind_back (c : CpuT) (i : InsT) (hp : inR .u16 (pcOf c)) : behindX (backC c i) false i = pcOf c := by
  have : pcOf (backC c i) = IntKind.wrap .u16 (pcOf c - IntKind.wrap .u16 i.2.1) := rfl
  simp only [behindX, this, cond_false, wrap_u16]
  have h1 : 0 ≤ pcOf c := by simpa [IntKind.min, IntKind.signed] using hp.1
  have h2 : pcOf c ≤ 65535 := by simpa [IntKind.max, IntKind.signed, IntKind.bits] using hp.2
  omega
theorem cor_op (c : CpuT) (i : InsT) (k : Int) : Cor c (opC (backC c i) false k) (opC c true k) := .inr (.inr (.inl ⟨rfl, rfl, rfl, rfl⟩))
theorem cor_idle (c : CpuT) (i : InsT) : Cor c (idleX (backC c i)) (idleX c) := .inr (.inr (.inr ⟨.inr rfl, rfl, rfl⟩))
theorem body_cor (c : CpuT) (hp : inR .u16 (pcOf c)) (g : List Int) (i : InsT) : Cors c (bodyX (backC c i) false g i) (bodyX c true g i) := by
  have t1 : takenX (backC c i) i = takenX c i := rfl
  have t2 : ∀ w, pushX (backC c i) w = pushX c w := fun w => rfl
  have t3 : popX (backC c i) = popX c := rfl
  have t4 : ∀ a, writeW (backC c i) a = writeW c a := fun a => rfl
  have t5 : ∀ v, countX (backC c i) i v = countX c i v := fun v => rfl
  have t6 : (backC c i).1 = c.1 := rfl
  have t7 : (backC c i).2.1.1 = c.2.1.1 := rfl
  have t8 : behindX c true i = pcOf c := rfl
  have o1 := cor_op c i 1
  have o2 := cor_op c i 2
  have d0 := cor_idle c i
  simp only [bodyX, targetX, t1, t2, t3, t4, t5, t6, t7, t8, get_back, pair_back, psw_back, behind_back c i hp]
  repeat' apply cors_c
  all_goals first
    | exact Cors.refl c _
    | exact .cons o1 .nil
    | exact .cons o1 (.cons o2 .nil)
    | exact .cons o1 (Cors.refl c _)
    | exact .cons o1 (.cons o2 (Cors.refl c _))
    | exact .cons d0 .nil
    | exact .cons d0 (.cons d0 .nil)
    | exact .cons o1 (.cons d0 .nil)
    | exact Cors.append (cors_c (.cons o1 .nil) (.cons o1 (.cons o2 .nil))) (Cors.refl c _)
    | exact .cons (.inr (.inr (.inr ⟨.inl rfl, rfl, rfl⟩))) .nil
    | exact Cors.refl c _
theorem int05 : rInternal 0 = false ∧ rInternal 5 = false := by constructor <;> simp [rInternal, rInternalT, RT.val]
theorem next_cor (c : CpuT) (hp : inR .u16 (pcOf c)) (op : Int) (b : List Int) (hb : b = [] ∨ ∃ t, b = op :: t) {x y : Cyc}
    (hx : nextX (backC c (rDecode c.1 op)) 0 b = (x, true)) (hy : nextX c 5 b = (y, true)) : Cor c x y := by
  have px := next_plan hx
  have py := next_plan hy
  simp only [planX, int05.1, int05.2, cond_false] at px py
  rcases hb with rfl | ⟨t, rfl⟩
  · simp at px py; subst px; subst py
    exact .inr (.inl ⟨rfl, rfl, rfl, rfl⟩)
  · simp only [List.length_cons, List.getElem?_cons_succ] at px py
    exact (body_cor c hp (op :: t) (rDecode c.1 op)).at_ _ _ _ px py
theorem cor_val (c : CpuT) {x y : Cyc} (h : Cor c x y) (b got : List Int) : stepV x b got = stepV y b got := by
  have hr : rReads x.1 = rReads y.1 := by
    rcases h with rfl | ⟨e1, e2, _⟩ | ⟨e1, e2, _⟩ | ⟨_, e2, _⟩
    · rfl
    · rw [e1, e2]; simp [rReads, rReadsT, RT.val]
    · rw [e1, e2]; simp [rReads, rReadsT, RT.val]
    · rw [e2]
  have hd : x.2.2.1 = y.2.2.1 := by
    rcases h with rfl | ⟨_, _, _, e⟩ | ⟨_, _, _, e⟩ | ⟨_, _, e⟩
    · rfl
    all_goals exact e
  simp only [stepV, hr, hd]
/-- Runs of one length correspond. -/
theorem run_cor (c : CpuT) (hp : inR .u16 (pcOf c)) (op : Int) (r : List Int) {A : List Cyc} {b : List Int} (hA : Run (backC c (rDecode c.1 op)) 0 (op :: r) A b) :
    ∀ {B : List Cyc} {b' : List Int}, Run c 5 (op :: r) B b' → A.length = B.length → b = b' ∧ Cors c A B ∧ (b = [] ∨ ∃ t, b = op :: t) := by
  induction hA with
  | nil =>
    intro B b' hB hl
    cases hB with
    | nil => exact ⟨rfl, .nil, .inl rfl⟩
    | step _ _ => simp at hl
  | @step out b x h hx ih =>
    intro B b' hB hl
    cases hB with
    | nil => simp at hl
    | @step out2 b2 y h2 hy =>
      obtain ⟨rfl, hc, hb⟩ := ih h2 (by simpa using hl)
      have hxy := next_cor c hp op b hb hx hy
      have hv := cor_val c hxy b (op :: r)
      refine ⟨by rw [hv], hc.append (.cons hxy .nil), .inr ?_⟩
      rcases hb with rfl | ⟨t, rfl⟩
      · have hpl := next_plan hx
        simp [planX, int05.1] at hpl
        refine ⟨[], ?_⟩
        rw [← hpl]
        simp [stepV, rReads, rReadsT, RT.val, iN]
      · exact ⟨t ++ [stepV x (op :: t) (op :: r)], rfl⟩
theorem fin_back (c : CpuT) (hp : inR .u16 (pcOf c)) (op : Int) (t : List Int) (l) : finX (backC c (rDecode c.1 op)) 0 (op :: t) l = finX c 5 (op :: t) l := by
  have t6 : (backC c (rDecode c.1 op)).1 = c.1 := rfl
  have t8 : ∀ i, behindX c true i = pcOf c := fun i => rfl
  have hb := behind_back c (rDecode c.1 op) hp
  have hw : ∀ v, wPC (backC c (rDecode c.1 op)).2.1 v = wPC c.2.1 v := fun v => rfl
  have e : ∀ (i : InsT), finI (backC c (rDecode c.1 op)) false (op :: t) l (rDecode c.1 op) = finI c true (op :: t) l (rDecode c.1 op) := by
    intro i
    simp only [finI, hb, t8, hw]
    rfl
  have e05 : ((0 : Int) == 5) = false := rfl
  have e55 : ((5 : Int) == 5) = true := rfl
  have d0 : (op :: t).getD 0 0 = op := rfl
  simp only [finX, int05.1, int05.2, cond_false, t6, e05, e55, d0]
  exact e (rDecode c.1 op)
theorem seq_sk {c : CpuT} {s : Int} {op : Int} {r : List Int} {out : List Cyc} {b : List Int} (h : Run c s (op :: r) out b) (hst : (nextX c s b).2 = false) (hi : rInternal s = false) : out.length = (bodyX c (s == 5) [op] (rDecode c.1 op)).length + 1 := by
  have hl := h.len
  have hs := stop_len hst
  rcases h.kinds hi with ⟨rfl, rfl⟩ | ⟨t, rfl, e⟩
  · have := (plan_len c s []).2; simp only [List.length_nil] at hs; omega
  · have hb : (planX c s (op :: t)).map sk = (planX c s [op]).map sk := by
      simp only [planX, hi, cond_false, List.map_cons]
      rw [sk_body c c (s == 5) (op :: t) [op] (rDecode c.1 op) rfl rfl]
    have h1 : ((planX c s [op]).map sk).length ≤ out.length := by rw [← hb, List.length_map, hl]; exact hs
    have h2 := congrArg List.length e
    simp only [List.length_map, List.length_take] at h1 h2
    have h3 : (planX c s [op]).length = (bodyX c (s == 5) [op] (rDecode c.1 op)).length + 1 := by simp [planX, hi]
    omega
theorem no1 {c : CpuT} {u : List Int} {k : Nat} {y : Cyc} (h : (planX c 5 u)[k]? = some y) : (y.1 == 1) = false := by
  have hp := plan_end c 5 u k y h
  simp only [planX, int05.2, cond_false] at h
  cases k with
  | zero => simp at h; subst h; rfl
  | succ k =>
    have h1 := hp.1
    simp only [Nat.succ_ne_zero, Nat.add_eq_zero_iff, decide_false, Bool.or_eq_false_iff] at h1
    simpa using h1.1
theorem inj_law (n : List Int) (op : Int) (h : inR .u8 op) (l) : lMInjC n op l = true ∧ lMInj n op l = true := by
  obtain ⟨hC, hc, hs, r, hg, _⟩ := operate_ok n op
  have hp : inR .u16 (pcOf (kOperate n op).1) := hc.2.1.2.2.2.2.2.2.2.2
  obtain ⟨hS1, A, b, hq1, hrun1, hstop1⟩ := seq_run (backC (kOperate n op).1 (rDecode (kOperate n op).1.1 op)) 0 (kOperate n op).2.2
  obtain ⟨hS2, B, b', hq2, hrun2, hstop2⟩ := seq_run (kOperate n op).1 5 (kOperate n op).2.2
  have hd : (((kOperate n op).1.1, ((kOperate n op).1.2.1.1, (kOperate n op).1.2.1.2.1, (kOperate n op).1.2.1.2.2.1, (kOperate n op).1.2.1.2.2.2.1, (kOperate n op).1.2.1.2.2.2.2.1, (kOperate n op).1.2.1.2.2.2.2.2.1, (kOperate n op).1.2.1.2.2.2.2.2.2.1, (kOperate n op).1.2.1.2.2.2.2.2.2.2.1, (kOperate n op).1.2.1.2.2.2.2.2.2.2.2.1, IntKind.wrap .u16 ((kOperate n op).1.2.1.2.2.2.2.2.2.2.2.2 - IntKind.wrap .u16 (rDecode (kOperate n op).1.1 op).2.1)), (kOperate n op).1.2.2) : CpuT) = backC (kOperate n op).1 (rDecode (kOperate n op).1.1 op) := rfl
  have e : (lMInjT n op l).val = some true := by
    simp only [lMInjT, RT.val, hC, hd, hS1, hS2, hq1, hq2, cond_true]
    rw [hg] at hrun1 hrun2
    generalize (kOperate n op).1 = c at *
    have hlA := seq_sk hrun1 hstop1 int05.1
    have hlB := seq_sk hrun2 hstop2 int05.2
    have hlen : A.length = B.length := by
      rw [hlA, hlB]; exact congrArg (· + 1) (body_cor c hp [op] (rDecode c.1 op)).len
    obtain ⟨rfl, hcor, hb⟩ := run_cor c hp op r hrun1 hrun2 hlen
    have hbt : ∃ t, b = op :: t := by
      rcases hb with rfl | hb
      · have h1 := stop_len hstop2
        have h2 := (plan_len c 5 []).2
        simp only [List.length_nil] at h1; omega
      · exact hb
    obtain ⟨t, rfl⟩ := hbt
    have h5 := hrun2.le
    have hl5 := hrun2.len
    obtain ⟨q, hr, hr1, j, hr2⟩ : ∃ q, runF true lMInjL0T (fun a => (a.2.2.2.2.2.1 - a.2.2.2.2.2.2.1).toNat + 1) (false, A, op :: t, B, op :: t, iN A.length, 0, l, c, rDecode c.1 op, backC c (rDecode c.1 op), ()) = some q ∧
        (q.1 = false ∧ ∃ j, q.2 = (false, A, op :: t, B, op :: t, iN A.length, j, l, c, rDecode c.1 op, backC c (rDecode c.1 op), ())) := by
      refine runF_ind (fun a => ∃ j : Nat, j ≤ A.length ∧ a = (false, A, op :: t, B, op :: t, iN A.length, (j : Int), l, c, rDecode c.1 op, backC c (rDecode c.1 op), ())) (fun a => (a.2.2.2.2.2.1 - a.2.2.2.2.2.2.1).toNat) _ ?_ _ ⟨0, by omega, rfl⟩ (by simp only; omega)
      rintro a ⟨j, hj, rfl⟩
      by_cases hlt : j < A.length
      · have hin : inRng (j : Int) A.length = true := inRng_iff.2 ⟨by omega, by omega⟩
        have hin2 : inRng (j : Int) B.length = true := inRng_iff.2 ⟨by omega, by omega⟩
        have hw : IntKind.wrap .i64 ((j : Int) + 1) = ((j + 1 : Nat) : Int) := by rw [wrap_i64 _ (by omega) (by omega)]; simp
        obtain ⟨x, hx⟩ : ∃ x, A[j]? = some x := ⟨_, List.getElem?_eq_getElem hlt⟩
        obtain ⟨y, hy⟩ : ∃ y, B[j]? = some y := ⟨_, List.getElem?_eq_getElem (by omega)⟩
        have hgA : R.get cycR A (j : Int) = x := by simp [R.get, List.getD_eq_getElem?_getD, hx]
        have hgB : R.get cycR B (j : Int) = y := by simp [R.get, List.getD_eq_getElem?_getD, hy]
        simp only [cycR] at hgA hgB
        have hxy := hcor.at_ j x y hx hy
        obtain ⟨u, hu⟩ := hrun2.at_ j y hy
        have hy1 := no1 hu
        have hlt' : decide ((j : Int) < iN A.length) = true := by simp [iN]; exact hlt
        have hpc : pcOf c = c.2.1.2.2.2.2.2.2.2.2.2 := rfl
        refine .inl ⟨(false, A, op :: t, B, op :: t, iN A.length, ((j + 1 : Nat) : Int), l, c, rDecode c.1 op, backC c (rDecode c.1 op), ()), ?_, ⟨j + 1, by omega, rfl⟩, by simp only [iN]; omega⟩
        simp only [lMInjL0T, RT.val, hlt', cond_true, hin, hin2, hgA, hgB, hw, Bool.not_true, Bool.false_or, Bool.or_true]
        rcases hxy with rfl | ⟨e1, e2, e3, e4⟩ | ⟨e1, e2, e3, e4⟩ | ⟨e1, e2, e4⟩
        · cases hx2 : x.1 == 2
          · simp [hy1, hx2]
          · have h2 : x.1 = 2 := by simpa using hx2
            simp [h2]
        · simp [e1, e2, e3, hpc]
        · simp [e1, e2, e3, hpc]
        · rcases e1 with e1 | e1 <;> simp [e1]
      · have hlt' : decide ((j : Int) < iN A.length) = false := by simp [iN]; omega
        refine .inr (.inl ⟨(false, A, op :: t, B, op :: t, iN A.length, (j : Int), l, c, rDecode c.1 op, backC c (rDecode c.1 op), ()), ?_, rfl, j, rfl⟩)
        simp only [lMInjL0T, RT.val, hlt', cond_false]
    have hne : (iN A.length != iN B.length) = false := by rw [hlen]; simp
    cases decide (iN n.length > 80)
    case true => rfl
    simp only [cond_false, hne, hr, hr1, hr2, okB, getO, Bool.not_true, Bool.false_or, BEq.rfl, cond_true, fin_back c hp op t l]
    simp [kKnown, kKnownT, RT.val]
  exact ⟨by simp only [lMInjC, e]; rfl, by simp only [lMInj, e, getO]⟩
end
end Go.Proofs.Ytiflfdlglncjlaa
