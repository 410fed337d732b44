/-
  The laws of the cycles and effects of instructions, as plain functions: always true. Conditions: none.
-/
import Derived.Test.YtiflfdlglncjlaaMic16
open Go Go.S3 Go.Proofs
set_option linter.unusedVariables false
set_option linter.unusedSimpArgs false
set_option maxRecDepth 100000
namespace Go.Proofs.Ytiflfdlglncjlaa
noncomputable section
theorem all_c {b : Bool} {x y : List Cyc} {p : Cyc → Prop} (hx : ∀ a ∈ x, p a) (hy : ∀ a ∈ y, p a) : ∀ a ∈ (bif b then x else y), p a := by cases b <;> assumption
def EndOk (x : Cyc) : Prop := (x.1 ≠ 1 ∧ x.1 ≠ 8 ∧ x.1 ≠ 12) ∧ 3 ≤ x.2.2.2 ∧ x.2.2.2 ≤ 6
theorem opC_end (c : CpuT) (inj : Bool) (k : Int) : EndOk (opC c inj k) := by cases inj <;> simp [EndOk, opC]
theorem body_end (c : CpuT) (inj : Bool) (g : List Int) (i : InsT) : ∀ x ∈ bodyX c inj g i, EndOk x := by
  simp only [bodyX, targetX, readW, writeW, pushX, popX]
  repeat' apply all_c
  all_goals first
    | (cases inj <;> simp [EndOk, idleX, opC]; done)
    | (cases inj <;> cases (i.2.2.1 == 6) <;> simp [EndOk, opC]; done)
    | (cases inj <;> cases takenX c i <;> cases (c.1 == 2) <;> simp [EndOk, opC]; done)
    | (cases (c.1 == 2) <;> simp [EndOk]; done)
theorem plan_end (c : CpuT) (s : Int) (u : List Int) (k : Nat) (x : Cyc) (h : (planX c s u)[k]? = some x) : (x.1 == 1 || (x.1 == 8 || x.1 == 12)) = decide (k = 0) ∧ 3 ≤ x.2.2.2 ∧ x.2.2.2 ≤ 6 := by
  unfold planX at h
  cases hi : rInternal s with
  | true =>
    rw [hi] at h
    match k, h with
    | 0, h => simp at h; subst h; simp
    | 1, h => simp [pushX] at h; subst h; simp
    | 2, h => simp [pushX] at h; subst h; simp
    | k + 3, h => simp [pushX] at h
  | false =>
    rw [hi] at h
    simp only [cond_false] at h
    cases k with
    | zero => simp at h; subst h; cases s == 5 <;> simp
    | succ k =>
      cases u with
      | nil => simp at h
      | cons o t =>
        simp only [List.getElem?_cons_succ] at h
        obtain ⟨⟨h1, h2, h3⟩, h4, h5⟩ := body_end c (s == 5) (o :: t) (rDecode c.1 o) x (List.mem_of_getElem? h)
        simp [h1, h2, h3, h4, h5]
theorem next_plan {c : CpuT} {s : Int} {b : List Int} {x : Cyc} (h : nextX c s b = (x, true)) : (planX c s b)[b.length]? = some x := by
  have hl := next_len h
  have := congrArg Prod.fst h
  simp only [nextX, pick] at this
  rw [List.getD_eq_getElem?_getD, List.getElem?_eq_getElem hl] at this
  rw [List.getElem?_eq_getElem hl]; simpa using this
theorem Run.at_ {c : CpuT} {s : Int} {got : List Int} {out : List Cyc} {b : List Int} (h : Run c s got out b) : ∀ (k : Nat) (x : Cyc), out[k]? = some x → ∃ u, (planX c s u)[k]? = some x := by
  induction h with
  | nil => intro k x e; simp at e
  | @step out b y h hx ih =>
    intro k x e
    by_cases hk : k < out.length
    · rw [List.getElem?_append_left hk] at e; exact ih k x e
    · rw [List.getElem?_append_right (by omega)] at e
      have : k - out.length = 0 := by
        cases hd : k - out.length with
        | zero => rfl
        | succ m => rw [hd] at e; simp at e
      rw [this] at e
      simp at e; subst e
      have hkb : k = b.length := by have := h.len; omega
      rw [hkb]; exact ⟨b, next_plan hx⟩
theorem stop_len {c : CpuT} {s : Int} {b : List Int} (h : (nextX c s b).2 = false) : (planX c s b).length ≤ b.length := by
  simpa [nextX, pick] using h
theorem ends_law (n : List Int) (op : Int) : lMEndsC n op = true ∧ lMEnds n op = true := by
  obtain ⟨hC, hc, hs, r, hg, _⟩ := operate_ok n op
  obtain ⟨hS, out, b, hq, hrun, hstop⟩ := seq_run (kOperate n op).1 (kOperate n op).2.1 (kOperate n op).2.2
  have h5 := hrun.le
  have hl := hrun.len
  have h1 : 1 ≤ out.length := by have := stop_len hstop; have := (plan_len (kOperate n op).1 (kOperate n op).2.1 b).2; omega
  obtain ⟨r, hr, hr1⟩ : ∃ r, runF true lMEndsL0T (fun a => (a.2.2.1 - a.2.2.2.1).toNat + 1) (false, out, iN out.length, 0, (kOperate n op).1, ()) = some r ∧ r.1 = false := by
    refine runF_ind (fun a => ∃ j : Nat, j ≤ out.length ∧ a = (false, out, iN out.length, (j : Int), (kOperate n op).1, ())) (fun a => (a.2.2.1 - a.2.2.2.1).toNat) _ ?_ _ ⟨0, by omega, rfl⟩ (by simp only; omega)
    rintro a ⟨j, hj, rfl⟩
    by_cases hlt : j < out.length
    · have hin : inRng (j : Int) out.length = true := inRng_iff.2 ⟨by omega, by omega⟩
      have hw : IntKind.wrap .i64 ((j : Int) + 1) = ((j + 1 : Nat) : Int) := by rw [wrap_i64 _ (by omega) (by omega)]; simp
      obtain ⟨x, hx⟩ : ∃ x, out[j]? = some x := ⟨_, List.getElem?_eq_getElem hlt⟩
      obtain ⟨u, hu⟩ := hrun.at_ j x hx
      obtain ⟨p1, p2, p3⟩ := plan_end _ _ u j x hu
      have hget : R.get cycR out (j : Int) = x := by simp [R.get, List.getD_eq_getElem?_getD, hx]
      simp only [cycR] at hget
      have e1 : ((j : Int) == 0) = decide (j = 0) := by
        by_cases h0 : j = 0
        · subst h0; rfl
        · have : ¬ (j : Int) = 0 := by omega
          simp [h0, this]
      have hlt' : decide ((j : Int) < iN out.length) = true := by simp [iN]; exact hlt
      have e2 : decide (x.2.2.2 < 3) = false := by simp; omega
      have e3 : decide (x.2.2.2 > 6) = false := by simp; omega
      refine .inl ⟨(false, out, iN out.length, ((j + 1 : Nat) : Int), (kOperate n op).1, ()), ?_, ⟨j + 1, by omega, rfl⟩, by simp only [iN]; omega⟩
      simp only [lMEndsL0T, RT.val, hlt', cond_true, hin, hget, p1, e1, e2, e3, hw, BEq.rfl, Bool.not_true, Bool.false_or, cond_false]
    · have hlt' : decide ((j : Int) < iN out.length) = false := by simp [iN]; omega
      refine .inr (.inl ⟨(false, out, iN out.length, (j : Int), (kOperate n op).1, ()), ?_, rfl⟩)
      simp only [lMEndsL0T, RT.val, hlt', cond_false]
  have e : (lMEndsT n op).val = some true := by
    have a1 : decide (iN out.length < 1) = false := by simp [iN]; omega
    have a2 : decide (iN out.length > 5) = false := by simp [iN]; omega
    simp only [lMEndsT, RT.val, hC, hS, hq, hr, hr1, a1, a2, okB, getO, Bool.not_true, Bool.false_or, cond_true, cond_false]
    cases decide (iN n.length > 80) <;> rfl
  exact ⟨by simp only [lMEndsC, e]; rfl, by simp only [lMEnds, e, getO]⟩
/-! ### registers -/
theorem set_hi (r : RegT) (n v : Int) : (rSet r n v).2.2.2.2.2.2.2 = r.2.2.2.2.2.2.2 := rfl
theorem setPair_fl (r : RegT) (n v : Int) : (rSetPair r n v).2.2.2.2.2.2.2.1 = r.2.2.2.2.2.2.2.1 := by
  simp only [rSetPair, rSetPairT, RT.val]; cases andI IntKind.i64 n 3 == 3 <;> rfl
theorem setPair_pc (r : RegT) (n v : Int) : (rSetPair r n v).2.2.2.2.2.2.2.2.2 = r.2.2.2.2.2.2.2.2.2 := by
  simp only [rSetPair, rSetPairT, RT.val]; cases andI IntKind.i64 n 3 == 3 <;> rfl
theorem setPair_sp (r : RegT) (n v : Int) (h : (andI .i64 n 3 == 3) = false) : (rSetPair r n v).2.2.2.2.2.2.2.2.1 = r.2.2.2.2.2.2.2.2.1 := by
  simp only [rSetPair, rSetPairT, RT.val, h]; rfl
theorem keepA0 (c : CpuT) (inj : Bool) (g : List Int) (l) (i : InsT) (h : i.1 = 1 ∨ i.1 = 6 ∨ i.1 = 8 ∨ i.1 = 10 ∨ i.1 = 46 ∨ i.1 = 34 ∨ i.1 = 24 ∨ i.1 = 25 ∨ i.1 = 26 ∨ i.1 = 27 ∨ i.1 = 45 ∨ i.1 = 28 ∨ i.1 = 29 ∨ i.1 = 30) :
    finI c inj g l i = (c.1, wPC (wSP c.2.1 (finI c inj g l i).2.1.2.2.2.2.2.2.2.2.1) (finI c inj g l i).2.1.2.2.2.2.2.2.2.2.2, c.2.2.1, false, false, c.2.2.2.2.2) := by
  rcases h with e | e | e | e | e | e | e | e | e | e | e | e | e | e
  all_goals simp only [finI, finR, e, Int.reduceBEq, cond_true, cond_false]
  all_goals (try generalize rHolds _ _ = bt)
  all_goals first
    | (simp (config := { implicitDefEqProofs := false }) only [wPC, wSP]; done)
    | (cases bt <;> simp (config := { implicitDefEqProofs := false }) only [wPC, wSP, cond_true, cond_false]; done)
theorem keepA (c : CpuT) (inj : Bool) (g : List Int) (l) (i : InsT) (h : i.1 = 1 ∨ i.1 = 6 ∨ i.1 = 8 ∨ i.1 = 10 ∨ i.1 = 46 ∨ i.1 = 34 ∨ i.1 = 24 ∨ i.1 = 25 ∨ i.1 = 26 ∨ i.1 = 27 ∨ i.1 = 45 ∨ i.1 = 28 ∨ i.1 = 29 ∨ i.1 = 30) :
    ∃ p q, finI c inj g l i = (c.1, wPC (wSP c.2.1 q) p, c.2.2.1, false, false, c.2.2.2.2.2) := ⟨_, _, keepA0 c inj g l i h⟩
theorem keepB (c : CpuT) (inj : Bool) (g : List Int) (l) (i : InsT) (h : i.1 = 2 ∨ i.1 = 3 ∨ i.1 = 4 ∨ i.1 = 5 ∨ i.1 = 7 ∨ i.1 = 47 ∨ i.1 = 9 ∨ i.1 = 33 ∨ i.1 = 11 ∨ i.1 = 32 ∨ i.1 = 20 ∨ i.1 = 43 ∨ i.1 = 44 ∨ i.1 = 38 ∨ i.1 = 39 ∨ i.1 = 35 ∨ i.1 = 36 ∨ i.1 = 37) :
    (finI c inj g l i).2.1.2.2.2.2.2.2.2.1 = c.2.1.2.2.2.2.2.2.2.1 := by
  rcases h with e | e | e | e | e | e | e | e | e | e | e | e | e | e | e | e | e | e
  all_goals simp only [finI, finR, e, Int.reduceBEq, cond_true, cond_false, setPair_fl, set_hi, rim_eq]
  all_goals rfl
theorem flg_eq (a b : FlgT) (h : a = b) : (a.1 == b.1 && (a.2.1 == b.2.1 && (a.2.2.1 == b.2.2.1 && (a.2.2.2.1 == b.2.2.2.1 && (a.2.2.2.2.1 == b.2.2.2.2.1 && (a.2.2.2.2.2.1 == b.2.2.2.2.2.1 && (a.2.2.2.2.2.2 == b.2.2.2.2.2.2 && true))))))) = true := by subst h; simp
theorem keeps_law (n : List Int) (op : Int) (h : inR .u8 op) (l) : lMKeepsC n op l = true ∧ lMKeeps n op l = true := by
  obtain ⟨hC, hc, hs, r, hg, _⟩ := operate_ok n op
  have e : (lMKeepsT n op l).val = some true := by
    simp only [lMKeepsT, RT.val, hC, cond_true]
    have hk := kind_in (kOperate n op).1.1 op h
    have hd : rDecode (kOperate n op).1.1 ((kOperate n op).2.2.getD 0 0) = rDecode (kOperate n op).1.1 op := by rw [hg]; rfl
    have hA := keepA (kOperate n op).1 ((kOperate n op).2.1 == 5) (kOperate n op).2.2 l (rDecode (kOperate n op).1.1 op)
    have hB := keepB (kOperate n op).1 ((kOperate n op).2.1 == 5) (kOperate n op).2.2 l (rDecode (kOperate n op).1.1 op)
    simp only [finX, hd]
    generalize finI (kOperate n op).1 ((kOperate n op).2.1 == 5) (kOperate n op).2.2 l (rDecode (kOperate n op).1.1 op) = f at *
    generalize (kOperate n op).1 = c at *
    generalize rDecode c.1 op = i at *
    cases decide (iN n.length > 80)
    case true => rfl
    cases rInternal (kOperate n op).2.1
    case true => rfl
    simp only [cond_false]
    rcases kinds47 hk.1 hk.2 with e | e | e | e | e | e | e | e | e | e | e | e | e | e | e | e | e | e | e | e | e | e | e | e | e | e | e | e | e | e | e | e | e | e | e | e | e | e | e | e | e | e | e | e | e | e | e
    all_goals simp only [e, Int.reduceBEq, cond_true, cond_false]
    all_goals first
      | rfl
      | (rw [flg_eq _ _ (hB (by omega))]; rfl)
      | (obtain ⟨p, q, rfl⟩ := hA (by omega); simp [wPC, wSP, kKnown, kKnownT, RT.val])
  exact ⟨by simp only [lMKeepsC, e]; rfl, by simp only [lMKeeps, e, getO]⟩
end
end Go.Proofs.Ytiflfdlglncjlaa
