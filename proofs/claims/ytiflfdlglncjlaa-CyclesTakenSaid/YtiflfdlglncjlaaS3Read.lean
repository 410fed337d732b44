/-
  Contracts of functions that read one box of the caller's and hand back plain data. Conditions: none (definitions and lemmas).
-/
import Derived.Test.YtiflfdlglncjlaaS3Open
set_option linter.unusedSimpArgs false
set_option linter.unusedVariables false
namespace Go.S3

/-- A Nat as an Int. -/
abbrev iN (n : Nat) : Int := (n : Int)

/-- What an atom is to a call that leaves all memory alone. -/
def peekA (m : Mem) (a : A) : A := match a with
  | .tip h ver => match stgOf m h ver with
    | some g => .lst g.r false false false g.l
    | none => .junk
  | a => match plainA a with
    | true => a
    | false => .junk
def peekL (m : Mem) : List A → List A
  | [] => []
  | a :: l => peekA m a :: peekL m l
theorem argC_le {x : Ctx} {m : Mem} {w : World} (hm : MemOk x m w) : FzLe x (argC w) := fun b o v h => argC_fz (hm.fz b o v h)
theorem peekA_ok {x : Ctx} {m : Mem} {w : World} (hm : MemOk x m w) {a : A} {v : Value} (hv : RA x a v) : RA (argC w) (peekA m a) v := by
  have gen : RA (argC w) (match plainA a with | true => a | false => .junk) v := by
    cases hp : plainA a with
    | true => exact hv.plain (argC_le hm) hp
    | false => exact .junk _ _ hv.atomic
  unfold peekA
  split
  · rename_i h ver
    split
    · rename_i g hg
      obtain ⟨s, hs, hok, rfl⟩ := tip_of hm.toR hv hg
      cases hb : s.blk with
      | none =>
        have hl : g.l = [] := List.eq_nil_of_length_eq_zero (by rw [← hok.n]; exact (hok.nil hb).1)
        rw [tipVal_none hb]
        exact .lst0 _ _ _ _ _ _ _ _ hl (fun e => by simp at e) (fun e => by simp at e)
      | some pc =>
        obtain ⟨p, cap⟩ := pc
        obtain ⟨C, c1, c2, c3, c4, c5, c6, c7, c8⟩ := hok.row p cap hb
        rw [tipVal_blk hb, show Value.slice (some ⟨p, 0, none⟩) s.n cap = .slice (some ⟨p, 0, none⟩) g.l.length cap by rw [hok.n]]
        have key : ∀ i j d, i < g.l.length → nth (elN g.r g.l i) j = some d → ∃ u, C[i * g.r.wid + j]? = some u ∧ RA (argC w).bare d u := by
          intro i j d hi hd
          obtain ⟨u, e1, e2⟩ := c5 i j d (by rw [hok.n]; exact hi) hd
          exact ⟨u, e1, e2.plain (x' := (argC w).bare) (fun b o v h => argC_le hm b o v h) (R.enc_plain _ _ _ (nth_mem hd))⟩
        refine lst_of_block (C := C) (by rw [← hok.n]; exact c3) (by rw [← hok.n]; omega) (fun e => by simp at e) (fun k u e => ?_) key
        exact argC_fz (by rw [cell_of_heap c1]; exact e)
    · exact .junk _ _ hv.atomic
  · exact gen
theorem peekL_ok {x : Ctx} {m : Mem} {w : World} (hm : MemOk x m w) : ∀ {l : List A} {vs : List Value}, RL x l vs → RL (argC w) (peekL m l) vs
  | [], [], _ => trivial
  | _ :: _, _ :: _, h => ⟨peekA_ok hm h.1, peekL_ok hm h.2⟩
  | [], _ :: _, h => h.elim
  | _ :: _, [], h => h.elim

/-- Data without slices. -/
def R.flat : R → Bool
  | .int _ | .bool | .str | .unit => true
  | .sl _ => false
  | .pair a b => a.flat && b.flat
def flatA : A → Bool
  | .bool _ _ | .int _ _ _ | .str _ => true
  | _ => false
theorem R.flat_enc : ∀ (r : R) (y : r.den), r.flat = true → ∀ a ∈ r.enc y, flatA a = true
  | .int _, _, _, a, h => by simp [R.enc] at h; subst h; rfl
  | .bool, _, _, a, h => by simp [R.enc] at h; subst h; rfl
  | .str, _, _, a, h => by simp [R.enc] at h; subst h; rfl
  | .sl r, _, hf, a, h => by simp [R.flat] at hf
  | .pair p q, x, hf, a, h => by
    simp only [R.flat, Bool.and_eq_true] at hf
    simp only [R.enc, List.mem_append] at h
    rcases h with h | h
    · exact R.flat_enc p _ hf.1 a h
    · exact R.flat_enc q _ hf.2 a h
  | .unit, _, _, a, h => by simp [R.enc] at h
theorem RA.flat {x x' : Ctx} {a : A} {v : Value} (h : RA x a v) (hf : flatA a = true) : RA x' a v := by
  cases h <;> simp [flatA] at hf
  · exact .bool _ _ _
  · exact .int _ _ _ _ (by assumption)
  · exact .str _ _
theorem RL.flat {x x' : Ctx} : ∀ {l : List A} {vs : List Value}, (∀ a ∈ l, flatA a = true) → RL x l vs → RL x' l vs
  | [], [], _, _ => trivial
  | a :: _, _ :: _, hf, h => ⟨h.1.flat (hf a (by simp)), RL.flat (fun b hb => hf b (by simp [hb])) h.2⟩
  | [], _ :: _, _, h => h.elim
  | _ :: _, [], _, h => h.elim
def Sh.flat (s : Sh) : Bool := s.code.flat
def Rs.flat : Rs → Bool
  | .one s => s.flat
  | .tup l => l.all Sh.flat
theorem Sh.enc_flat {x x' : Ctx} (s : Sh) (y : s.den) (hf : s.flat = true) {v : Value} (h : RW x (s.enc y) v) : RW x' (s.enc y) v := by
  cases s with
  | one r =>
    simp only [Sh.enc] at h ⊢
    split at h
    · rename_i a ha
      have ha' : r.enc y = [a] := ha
      exact RA.flat h (R.flat_enc r y hf a (by simp [ha']))
    · trivial
  | agg r =>
    obtain ⟨C, e, hC⟩ := h
    exact ⟨C, e, RL.flat (R.flat_enc r y hf) hC⟩
theorem encWs_flat {x x' : Ctx} : ∀ (ts : List Sh) (y : HL ts) {vs : List Value}, ts.all Sh.flat = true → RWs x (encWs ts y) vs → RWs x' (encWs ts y) vs
  | [], _, vs, _, h => by
    cases vs with
    | nil => trivial
    | cons _ _ => exact h.elim
  | [s], y, vs, hf, h => match vs, h with
    | [v], h => ⟨s.enc_flat y (by simpa using hf) h.1, trivial⟩
  | s :: t :: l, y, vs, hf, h => by
    rw [List.all_cons, Bool.and_eq_true] at hf
    match vs, h with
    | v :: vs, h => exact ⟨s.enc_flat y.1 hf.1 h.1, encWs_flat (t :: l) y.2 hf.2 h.2⟩
theorem Rs.enc_flat {x x' : Ctx} (r : Rs) (y : r.den) (hf : r.flat = true) {v : Value} (h : RV x (r.enc y) v) : RV x' (r.enc y) v := by
  cases r with
  | one s => exact s.enc_flat y hf h
  | tup l => obtain ⟨C, e, hC⟩ := h; exact ⟨C, e, encWs_flat l y hf hC⟩

/-- The row that a pointer leads to. -/
def rowAt (m : Mem) : A → Option (List A)
  | .loc b 0 => (nth m.boxes b).map (peekL m)
  | .fp l => some (peekL emptyM l)
  | _ => none
/-- A function that is handed a pointer to a box first, whose row has the code rb; it reads alone. -/
def readE (rb : R) (ts : List Sh) (rs : Rs) (pre : rb.den × HL ts → Option Bool) (F : rb.den × HL ts → rs.den) : Entry :=
  .read fun vs m => match vs with
    | .w (.one p) :: rest => match rowAt m p with
      | some row => match rb.decW row with
        | some y => match decVs ts rest with
          | some a => some (pre (y, a), rs.enc (F (y, a)))
          | none => none
        | none => none
      | none => none
    | _ => none
def evRead (E : Env) (fn : Func) (rb : R) (ts : List Sh) (rs : Rs) (a : rb.den × HL ts) : RT (Option rs.den) := (evFunc E fn (.w (.one (.fp (rb.enc a.1))) :: encVs ts a.2) emptyM).map fun
  | some r => rs.out r.m r.v
  | none => none

theorem rowAt_ok {x : Ctx} {m : Mem} {w : World} (hm : MemOk x m w) {p : A} {row : List A} (h : rowAt m p = some row) {v : Value} (hv : RA x p v) : ∃ q o C, v = .pointer (some ⟨q, o, none⟩) ∧ RL (argC w) row C ∧ ∀ (j : Nat) u, C[j]? = some u → w.cell? ⟨q, o + j, none⟩ = some u := by
  unfold rowAt at h
  split at h
  · rename_i b
    rw [Option.map_eq_some_iff] at h
    obtain ⟨r0, h0, rfl⟩ := h
    obtain ⟨q, hq⟩ := hm.M_of h0
    obtain ⟨C, T, e1, e2⟩ := hm.box b r0 q h0 hq
    refine ⟨q, 0, C, ?_, peekL_ok hm e2, fun j u hu => by rw [Nat.zero_add, cell_of_heap e1]; exact hu⟩
    cases hv with
    | loc _ _ _ q' hq' => rw [hq] at hq'; simp only [Option.some.injEq] at hq'; subst hq'; rfl
  · rename_i l
    simp only [Option.some.injEq] at h; subst h
    cases hv with
    | fp _ _ q o c hf hr =>
      refine ⟨q, o, (List.range l.length).map c, rfl, ?_, fun j u hu => ?_⟩
      · have h1 : ∀ (l : List A) (c : Nat → Value), (∀ j a, nth l j = some a → RA x.bare a (c j)) → RL (argC w) (peekL emptyM l) ((List.range l.length).map c) := by
          intro l
          induction l with
          | nil => intro c _; trivial
          | cons a l ih =>
            intro c hc
            rw [List.length_cons, List.range_succ_eq_map, List.map_cons, List.map_map]
            refine ⟨?_, ih (fun j => c (j + 1)) (fun j b hb => hc (j + 1) b hb)⟩
            have hra := hc 0 a rfl
            have hle : FzLe x.bare (argC w) := fun b o v h => argC_le hm b o v h
            unfold peekA
            split
            · rename_i h' ver
              simp only [stgOf, emptyM, nth_nil]
              exact .junk _ _ hra.atomic
            · cases hp : plainA a with
              | true => exact hra.plain hle hp
              | false => exact .junk _ _ hra.atomic
        exact h1 l c hr
      · rw [List.getElem?_map] at hu
        cases hj : (List.range l.length)[j]? with
        | none => rw [hj] at hu; simp at hu
        | some j' =>
          rw [hj] at hu
          simp only [Option.map_some, Option.some.injEq] at hu
          have hlt : j < l.length := by have := (List.getElem?_eq_some_iff.1 hj).1; simpa using this
          have hjj : j' = j := by rw [List.getElem?_range hlt] at hj; simpa using hj.symm
          subst hjj
          obtain ⟨a, ha⟩ := nth_ex hlt
          rw [← hu]
          exact hm.fz _ _ _ (hf j' a ha)
  · simp at h

theorem peekA_stgs {m m' : Mem} (h : m'.stgs = m.stgs) (a : A) : peekA m' a = peekA m a := by
  unfold peekA stgOf
  rw [h]
theorem peekL_stgs {m m' : Mem} (h : m'.stgs = m.stgs) : ∀ l : List A, peekL m' l = peekL m l
  | [] => rfl
  | a :: l => by simp only [peekL, peekA_stgs h a, peekL_stgs h l]
theorem readE_local {rb : R} {ts : List Sh} {rs : Rs} {pre : rb.den × HL ts → Option Bool} {F : rb.den × HL ts → rs.den} : LocalG (fun vs m => match vs with
    | .w (.one p) :: rest => match rowAt m p with
      | some row => match rb.decW row with
        | some y => match decVs ts rest with
          | some a => some (pre (y, a), rs.enc (F (y, a)))
          | none => none
        | none => none
      | none => none
    | _ => none) := by
  intro vs m m' r h hs hb
  simp only at h ⊢
  split at h
  · rename_i p rest
    have : rowAt m' p = rowAt m p := by
      unfold rowAt
      split
      · rename_i b
        rw [hb b 0 (by simp)]
        cases nth m.boxes b with
        | none => rfl
        | some l => simp only [Option.map_some, peekL_stgs hs]
      · rfl
      · rfl
    simp only [this]
    exact h
  · simp at h
theorem readE_ok {E : Env} (hE : EnvOk E) {f : FuncId} {fn : Func} {c : Code} (hf : E.P.funcs[f]? = some fn) (hb : fn.body = some c) (hl : LoopsOk E c) (hcall : Callable E.P f)
    {rb : R} {ts : List Sh} {rs : Rs} (hfl : rs.flat = true) {pre : rb.den × HL ts → Option Bool} {F : rb.den × HL ts → rs.den} (h : ∀ a, rb.ok a.1 → okHL ts a.2 → pre a ≠ some false → (evRead E fn rb ts rs a).val = some (F a)) :
    EntryOk E.P f (readE rb ts rs pre F) := by
  refine ⟨hcall, readE_local, fun vs m chk v hp hc x w args hm hv => ?_⟩
  simp only at hp
  split at hp
  · rename_i pa rest
    split at hp
    · rename_i row hrow
      split at hp
      · rename_i y hy
        split at hp
        · rename_i a ha
          simp only [Option.some.injEq, Prod.mk.injEq] at hp
          obtain ⟨rfl, rfl⟩ := hp
          match args, hv with
          | v :: args, hv =>
            obtain ⟨q, o, C0, rfl, hC0, hcell⟩ := rowAt_ok hm hrow (show RA x pa v from hv.1)
            obtain ⟨hargs, hin⟩ := decVs_ok ha hv.2
            have hrow' := R.decW_ok hy hC0
            have hyok : rb.ok y := R.ok_of rb y (argC w) C0 hrow'
            have h1 := h (y, a) hyok hin hc
            unfold evRead at h1
            rw [RT.val_map] at h1
            split at h1
            · rename_i r hr
              have hpv : RA (argC w) (.fp (rb.enc y)) (.pointer (some ⟨q, o, none⟩)) := by
                refine RA.fp _ _ _ _ (fun j => (C0[j]?).getD .nilFunc) (fun j b hb => ?_) (fun j b hb => ?_)
                all_goals
                  obtain ⟨u, u1, u2⟩ := hrow'.nth j b hb
                · rw [u1]; exact argC_fz (hcell j u u1)
                · rw [u1]; exact u2
              have hargs' : RVs (argC w) (.w (.one (.fp (rb.enc y))) :: encVs ts a) (.pointer (some ⟨q, o, none⟩) :: args) :=
                ⟨hpv, RVs_mapW (encWs_ctx (argC_le hm) ts a (RWs_of_mapW hargs))⟩
              have h2 := calls_of_ev hE hf hb hl (argC_ok w) hargs' hr
              refine h2.mono fun e w' hres => ?_
              obtain ⟨val, x1, rfl, hrv, hm1, hext, hst⟩ := hres
              obtain ⟨x2, m2, hm2, hext2, hrv2⟩ := Rs.out_ok h1 hm1 hrv
              have hsame : SameC w w' := ⟨⟨hst.size, fun k hk => hst.block k (by simp only [argC]; omega)⟩, hst.os, hst.tape, hst.output⟩
              exact ⟨val, x, rfl, rs.enc_flat _ hfl hrv2, hm.old hsame.1, Ext.refl x, hsame⟩
            · simp at h1
          | [], hv => exact hv.elim
        · simp at hp
      · simp at hp
    · simp at hp
  · simp at hp

section
variable {P : Program} {l : List (FuncId × Entry)} {ol : List (Nat × Ora)} {n k : Nat} {f : FuncId} {fn : Func}
theorem read_part (hl : AllOk P l) (hf : P.funcs[f]? = some fn) (hb : fn.body.isSome = true) (hn : nodupL (loopsIn (fn.body.getD .skip)) = true) (hcall : Callable P f) (hol : AllL (envX P l ol n k) fn.body ol)
    {rb : R} {ts : List Sh} {rs : Rs} (hfl : rs.flat = true) {t : rb.den × HL ts → RT (Option rs.den)} (h : ∀ a, evRead (envX P l ol n k) fn rb ts rs a = t a) :
    EntryOk P f (readE rb ts rs (fun a => okO (t a).val) (fun a => getO rs.dflt (t a).val)) := by
  obtain ⟨c, hc, hlo⟩ := loopsFn hb hn hol
  exact readE_ok (E := envX P l ol n k) (envX_ok hl ol n k) hf hc hlo hcall hfl fun a _ _ hp => by rw [h a]; exact okO_get hp
theorem read_tot (hl : AllOk P l) (hf : P.funcs[f]? = some fn) (hb : fn.body.isSome = true) (hn : nodupL (loopsIn (fn.body.getD .skip)) = true) (hcall : Callable P f) (hol : AllL (envX P l ol n k) fn.body ol)
    {rb : R} {ts : List Sh} {rs : Rs} (hfl : rs.flat = true) {t : rb.den × HL ts → RT rs.den} (h : ∀ a, evRead (envX P l ol n k) fn rb ts rs a = (t a).map some) :
    EntryOk P f (readE rb ts rs (fun _ => none) (fun a => (t a).val)) := by
  obtain ⟨c, hc, hlo⟩ := loopsFn hb hn hol
  exact readE_ok (E := envX P l ol n k) (envX_ok hl ol n k) hf hc hlo hcall hfl fun a _ _ _ => by rw [h a, RT.val_map]
end
end Go.S3
