/-
  The law of the stack, as a plain function: always true. Conditions: none.
-/
import Derived.Test.YtiflfdlglncjlaaMic16b
open Go Go.S3 Go.Proofs
set_option linter.unusedVariables false
set_option linter.unusedSimpArgs false
set_option maxRecDepth 100000
namespace Go.Proofs.Ytiflfdlglncjlaa
noncomputable section
/-- How far a list of cycles moves SP. -/
def mv1 (x : Cyc) : Int := bif x.1 == 5 then -1 else bif x.1 == 4 then 1 else 0
def mvS : List Cyc → Int
  | [] => 0
  | x :: l => mv1 x + mvS l
theorem mvS_append (a b : List Cyc) : mvS (a ++ b) = mvS a + mvS b := by
  induction a with
  | nil => simp [mvS]
  | cons x l ih => simp [mvS, ih]; omega
theorem mv1_b (x : Cyc) : -1 ≤ mv1 x ∧ mv1 x ≤ 1 := by
  unfold mv1; cases x.1 == 5 <;> cases x.1 == 4 <;> decide
theorem mvS_b : ∀ l : List Cyc, -(l.length : Int) ≤ mvS l ∧ mvS l ≤ l.length
  | [] => by simp [mvS]
  | x :: l => by have h1 := mv1_b x; have h2 := mvS_b l; simp only [mvS, List.length_cons]; omega
theorem mvS_take (l : List Cyc) (j : Nat) (x : Cyc) (h : l[j]? = some x) : mvS (l.take (j + 1)) = mvS (l.take j) + mv1 x := by
  rw [List.take_add_one, h, mvS_append]; simp [mvS]
/-- The first cycle, and those of the body: what they are for the kinds alone. -/
theorem Run.kinds {c : CpuT} {s : Int} {op : Int} {r : List Int} {out : List Cyc} {b : List Int} (h : Run c s (op :: r) out b) (hi : rInternal s = false) :
    (out = [] ∧ b = []) ∨ ∃ t, b = op :: t ∧ out.map sk = ((planX c s [op]).map sk).take out.length := by
  induction h with
  | nil => exact .inl ⟨rfl, rfl⟩
  | @step out b y h hx ih =>
    right
    have hp := next_plan hx
    have hl := h.len
    rcases ih with ⟨rfl, rfl⟩ | ⟨t, rfl, e⟩
    · refine ⟨[], ?_, ?_⟩
      · have : y = (bif s == 5 then 8 else 1, pcOf c, 0, 4) := by
          simp [planX, hi] at hp; exact hp.symm
        subst this
        have hr : rReads (bif s == 5 then 8 else 1) = true := by cases s == 5 <;> simp [rReads, rReadsT, RT.val]
        have hlt : decide (iN ([] : List Int).length < iN (op :: r).length) = true := by simp [iN]
        simp only [stepV, hr, hlt, Bool.and_true, cond_true]; rfl
      · have : y = (bif s == 5 then 8 else 1, pcOf c, 0, 4) := by
          simp [planX, hi] at hp; exact hp.symm
        subst this
        simp [planX, hi]
    · refine ⟨t ++ [stepV y (op :: t) (op :: r)], rfl, ?_⟩
      have hb : (planX c s (op :: t)).map sk = (planX c s [op]).map sk := by
        simp only [planX, hi, cond_false, List.map_cons]
        rw [sk_body c c (s == 5) (op :: t) [op] (rDecode c.1 op) rfl rfl]
      have hlen : out.length = (op :: t).length := hl
      have hget : ((planX c s [op]).map sk)[out.length]? = some (sk y) := by
        rw [← hb, List.getElem?_map, hlen, hp]; rfl
      rw [List.map_append, e, List.length_append, List.length_cons, List.length_nil, List.take_add_one, hget]
      simp
theorem mv_sk (x : Cyc) : mv1 (sk x) = mv1 x := rfl
theorem mvS_sk (l : List Cyc) : mvS (l.map sk) = mvS l := by
  induction l with
  | nil => rfl
  | cons x l ih => simp [mvS, ih, mv_sk]
/-- All cycles of an instruction move SP as the plan says. -/
theorem seq_mv {c : CpuT} {s : Int} {op : Int} {r : List Int} {out : List Cyc} {b : List Int} (h : Run c s (op :: r) out b) (hst : (nextX c s b).2 = false) : mvS out = mvS (planX c s [op]) := by
  have hl := h.len
  have hs := stop_len hst
  cases hi : rInternal s with
  | false =>
    rcases h.kinds hi with ⟨rfl, rfl⟩ | ⟨t, rfl, e⟩
    · have := (plan_len c s []).2; simp only [List.length_nil] at hs; omega
    · have hb : (planX c s (op :: t)).map sk = (planX c s [op]).map sk := by
        simp only [planX, hi, cond_false, List.map_cons]
        rw [sk_body c c (s == 5) (op :: t) [op] (rDecode c.1 op) rfl rfl]
      have hlen : ((planX c s [op]).map sk).length ≤ out.length := by rw [← hb, List.length_map, hl]; exact hs
      rw [List.take_of_length_le hlen] at e
      rw [← mvS_sk, e, mvS_sk]
  | true =>
    have hall : ∀ u, planX c s u = (12, pcOf c, 0, 6) :: pushX c (pcOf c) := fun u => by simp only [planX, hi, cond_true]
    have : out = planX c s [op] := by
      apply List.ext_getElem?
      intro k
      by_cases hk : k < out.length
      · obtain ⟨u, hu⟩ := h.at_ k _ (List.getElem?_eq_getElem hk)
        rw [hall u] at hu
        rw [hall [op], hu, List.getElem?_eq_getElem hk]
      · rw [List.getElem?_eq_none (by omega), List.getElem?_eq_none (by rw [hall b] at hs; rw [hall [op]]; omega)]
    rw [this]
theorem mv_c (b : Bool) (x y : List Cyc) : mvS (bif b then x else y) = bif b then mvS x else mvS y := by cases b <;> rfl
def prT (c op : Int) : Bool := decide (0 ≤ (rDecode c op).2.2.2.2.1) && decide ((rDecode c op).2.2.2.2.1 ≤ 3)
theorem pr_in (c op : Int) (hc : c = 1 ∨ c = 2) (h : inR .u8 op) : 0 ≤ (rDecode c op).2.2.2.2.1 ∧ (rDecode c op).2.2.2.2.1 ≤ 3 := by
  have fin : prT c op = true → 0 ≤ (rDecode c op).2.2.2.2.1 ∧ (rDecode c op).2.2.2.2.1 ≤ 3 := by intro hc; simpa [prT] using hc
  rcases hc with e | e
  · rw [e] at fin ⊢; exact fin (byte_all (prT 1) (by kernel_rfl) op h)
  · rw [e] at fin ⊢; exact fin (byte_all (prT 2) (by kernel_rfl) op h)
theorem pr3 (p : Int) (h0 : 0 ≤ p) (h3 : p ≤ 3) (hp : (p == 3) = false) : (andI .i64 p 3 == 3) = false := by
  have : p = 0 ∨ p = 1 ∨ p = 2 ∨ p = 3 := by omega
  rcases this with e | e | e | e <;> subst e <;> first | rfl | simp at hp
theorem set_sp (r : RegT) (n v : Int) : (rSet r n v).2.2.2.2.2.2.2.2.1 = r.2.2.2.2.2.2.2.2.1 := rfl
theorem psw_sp (chip : Int) (r : RegT) (v : Int) : (rSetPSW chip r v).2.2.2.2.2.2.2.2.1 = r.2.2.2.2.2.2.2.2.1 := rfl
theorem pr_lit : (andI .i64 1 3 == 3) = false ∧ (andI .i64 2 3 == 3) = false := ⟨rfl, rfl⟩
theorem spA (c : CpuT) (inj : Bool) (g : List Int) (l) (i : InsT) (h : i.1 = 1 ∨ i.1 = 2 ∨ i.1 = 3 ∨ i.1 = 5 ∨ i.1 = 6 ∨ i.1 = 7 ∨ i.1 = 8 ∨ i.1 = 9 ∨ i.1 = 10 ∨ i.1 = 11 ∨ i.1 = 12 ∨ i.1 = 13 ∨ i.1 = 14 ∨ i.1 = 15 ∨ i.1 = 18 ∨ i.1 = 19 ∨ i.1 = 20 ∨ i.1 = 21 ∨ i.1 = 22 ∨ i.1 = 23 ∨ i.1 = 24 ∨ i.1 = 28 ∨ i.1 = 32 ∨ i.1 = 33 ∨ i.1 = 34 ∨ i.1 = 35 ∨ i.1 = 36 ∨ i.1 = 37 ∨ i.1 = 38 ∨ i.1 = 39 ∨ i.1 = 40 ∨ i.1 = 41 ∨ i.1 = 42 ∨ i.1 = 43 ∨ i.1 = 44 ∨ i.1 = 46 ∨ i.1 = 47) : (finI c inj g l i).2.1.2.2.2.2.2.2.2.2.1 = spOf c := by
  rcases h with e | e | e | e | e | e | e | e | e | e | e | e | e | e | e | e | e | e | e | e | e | e | e | e | e | e | e | e | e | e | e | e | e | e | e | e | e
  all_goals simp (config := { implicitDefEqProofs := false }) only [finI, finR, e, Int.reduceBEq, cond_true, cond_false, rim_eq, rSim, rSimT, RT.val]
  all_goals first
    | rfl
    | (rw [setPair_sp _ _ _ pr_lit.1]; rfl)
    | (rw [setPair_sp _ _ _ pr_lit.2]; rfl)
    | (rw [setPair_sp _ _ _ (rfl : (andI .i64 0 3 == 3) = false)]; rfl)
    | (cases rHolds i.2.2.2.2.2.2.1 (flOf c.2.1) <;> rfl)
theorem mvA (c : CpuT) (inj : Bool) (g : List Int) (i : InsT) (h : i.1 = 1 ∨ i.1 = 2 ∨ i.1 = 3 ∨ i.1 = 5 ∨ i.1 = 6 ∨ i.1 = 7 ∨ i.1 = 8 ∨ i.1 = 9 ∨ i.1 = 10 ∨ i.1 = 11 ∨ i.1 = 12 ∨ i.1 = 13 ∨ i.1 = 14 ∨ i.1 = 15 ∨ i.1 = 18 ∨ i.1 = 19 ∨ i.1 = 20 ∨ i.1 = 21 ∨ i.1 = 22 ∨ i.1 = 23 ∨ i.1 = 24 ∨ i.1 = 28 ∨ i.1 = 32 ∨ i.1 = 33 ∨ i.1 = 34 ∨ i.1 = 35 ∨ i.1 = 36 ∨ i.1 = 37 ∨ i.1 = 38 ∨ i.1 = 39 ∨ i.1 = 40 ∨ i.1 = 41 ∨ i.1 = 42 ∨ i.1 = 43 ∨ i.1 = 44 ∨ i.1 = 46 ∨ i.1 = 47) : mvS (bodyX c inj g i) = 0 := by
  have ho : ∀ k, mv1 (opC c inj k) = 0 := fun k => by cases inj <;> rfl
  rcases h with e | e | e | e | e | e | e | e | e | e | e | e | e | e | e | e | e | e | e | e | e | e | e | e | e | e | e | e | e | e | e | e | e | e | e | e | e
  all_goals simp (config := { implicitDefEqProofs := false }) only [bodyX, targetX, readW, writeW, popX, idleX, e, Int.reduceBEq, cond_true, cond_false, Bool.or_true, Bool.or_false, mvS, mv_c, mvS_append, ho]
  all_goals first
    | rfl
    | (cases (i.2.2.2.1 == 6) <;> cases (i.2.2.1 == 6) <;> rfl)
    | (cases (c.1 == 2 && !takenX c i) <;> rfl)
    | (cases (c.1 == 2) <;> rfl)
theorem spS (c : CpuT) (hc : RegOk c.2.1) (inj : Bool) (g g' : List Int) (l) (i : InsT) (p0 : 0 ≤ i.2.2.2.2.1) (p3 : i.2.2.2.2.1 ≤ 3) (h : i.1 = 25 ∨ i.1 = 26 ∨ i.1 = 27 ∨ i.1 = 45 ∨ i.1 = 30 ∨ i.1 = 31) :
    (finI c inj g l i).2.1.2.2.2.2.2.2.2.2.1 = IntKind.wrap .u16 (spOf c + IntKind.wrap .u16 (mvS (bodyX c inj g' i))) := by
  have hsp : IntKind.wrap .u16 (spOf c + IntKind.wrap .u16 0) = spOf c := by
    rw [show IntKind.wrap .u16 0 = 0 by decide, Int.add_zero]; exact wrap_in hc.2.2.2.2.2.2.2.1
  have hm2 : IntKind.wrap .u16 (spOf c + IntKind.wrap .u16 (-2)) = IntKind.wrap .u16 (spOf c - 2) := by simp only [wrap_u16]; omega
  have hp2 : IntKind.wrap .u16 (spOf c + IntKind.wrap .u16 2) = IntKind.wrap .u16 (spOf c + 2) := by simp only [wrap_u16]; omega
  have ho : ∀ k, mv1 (opC c inj k) = 0 := fun k => by cases inj <;> rfl
  have ht : takenX c i = rHolds i.2.2.2.2.2.2.1 (flOf c.2.1) := rfl
  have hpush : ∀ w, mvS (pushX c w) = -2 := fun w => rfl
  have hpop : mvS (popX c) = 2 := rfl
  rcases h with e | e | e | e | e | e
  all_goals simp (config := { implicitDefEqProofs := false }) only [finI, finR, bodyX, targetX, e, ht, Int.reduceBEq, cond_true, cond_false, Bool.or_true, Bool.or_false, mvS, mv_c, mvS_append, ho, hpush, hpop]
  · cases rHolds i.2.2.2.2.2.2.1 (flOf c.2.1) <;> cases (c.1 == 2)
    · exact hsp.symm
    · exact hsp.symm
    · exact hm2.symm
    · exact hm2.symm
  · cases rHolds i.2.2.2.2.2.2.1 (flOf c.2.1)
    · exact hsp.symm
    · exact hp2.symm
  · exact hm2.symm
  · cases rHolds i.2.2.2.2.2.2.1 (flOf c.2.1)
    · exact hsp.symm
    · exact hm2.symm
  · exact hm2.symm
  · rw [hp2]
    cases hp : (i.2.2.2.2.1 == 3)
    · simp only [cond_false, wSP, spOfR]
      rw [setPair_sp _ _ _ (pr3 _ p0 p3 hp)]; rfl
    · rfl
end
end Go.Proofs.Ytiflfdlglncjlaa
