/-
  One clock state: the program's and the reference's are one plain function. Conditions: none.
-/
import Derived.Test.YteboknglfjadoaaGreatCoreC
import Derived.Test.YteboknglfjadoaaGreatCoreX
open Go Go.S3 Go.Proofs
set_option linter.unusedVariables false
set_option linter.unusedSimpArgs false
set_option maxRecDepth 100000
namespace Go.Proofs.YteboknglfjadoaaGreat
noncomputable section
abbrev PinT := Int × Int × Int × Bool × Bool × Bool × Bool × Bool × Bool × Bool × Bool × Bool × Bool × Bool × Bool × Bool × Bool
def haltC (c : CoreT) (t : Int) : Cyc := bif t == 9 then (0, c.1.2.1.2.2.2.2.2.2.2.2.2, 0, 0) else c.2.2.2.1
def pinsX (c : CoreT) (l : LnT) (d : Int) : PinT :=
  let t := stateX c.2.2.2.2.1
  rPins c.1.1 (bif l.2.2.1 then 10 else t) (haltC c t) (bif l.2.2.1 then 0 else d) c.1.2.2.1 c.1.2.2.2.2.2.2.2.2.2.2.2.2
theorem stateX_in (n : Int) : 1 ≤ stateX n ∧ stateX n ≤ 9 := by
  unfold stateX
  by_cases h : n < 1 ∨ n > 9
  · have : (decide (n < 1) || decide (n > 9)) = true := by simpa using h
    rw [this]; simp
  · have : (decide (n < 1) || decide (n > 9)) = false := by simpa using h
    rw [this]; simp only [cond_false]; omega
theorem rstate_eq (c) : rState c = stateX c.2.2.2.2.1 := rfl
theorem pstate_eq (c) : pState c = stateX c.2.2.2.2.1 := rfl
theorem rserve_eq (c : CoreT) (s) : rServe c s = (rAccept c.1 s, s, [], (nextX (rAccept c.1 s) s []).1, c.2.2.2.2) := rfl
theorem pserve_eq (c : CoreT) (s) : pServe c s = (rAccept c.1 s, s, [], (nextX (rAccept c.1 s) s []).1, c.2.2.2.2) := rfl
theorem pidle_eq (c : CoreT) (h : Bool) : pIdle c h = idlX c.1 c.2.1 h := by
  simp only [pIdle, pIdleT, idlX, RT.val]
theorem rend_eq (c : CoreT) (l : LnT) : rEnd c l = endX c.1 c.2.1 c.2.2.1 c.2.2.2.2.2 l := by
  cases h : (nextX c.1 c.2.1 c.2.2.1).2 <;> simp only [rEnd, rEndT, RT.val, h, cond_true, cond_false, rserve_eq, endX, rResting, rRestingT, idlX]
theorem pins10 (chip : Int) (x y : Cyc) (d : Int) (i o : Bool) : rPins chip 10 x d i o = rPins chip 10 y 0 i o := by
  simp only [rPins, rPinsT, RT.val, on_eq]
  generalize (chip == 2) = b
  cases b <;> simp
theorem pins10' (chip : Int) (x : Cyc) (i o : Bool) : rPins chip 10 x 0 i o = (10, 0, 0, false, false, false, (rPins chip 10 x 0 i o).2.2.2.2.2.2.1, false, false, false, false, false, false, (rPins chip 10 x 0 i o).2.2.2.2.2.2.2.2.2.2.2.2.2.1, false, false, (rPins chip 10 x 0 i o).2.2.2.2.2.2.2.2.2.2.2.2.2.2.2.2) := by
  simp only [rPins, rPinsT, RT.val, on_eq]
  generalize (chip == 2) = b
  cases b <;> simp
theorem reset_eta (c : CpuT) : rReset c = ((rReset c).1, ((rReset c).2.1.1, (rReset c).2.1.2.1, (rReset c).2.1.2.2.1, (rReset c).2.1.2.2.2.1, (rReset c).2.1.2.2.2.2.1, (rReset c).2.1.2.2.2.2.2.1, (rReset c).2.1.2.2.2.2.2.2.1, (rReset c).2.1.2.2.2.2.2.2.2.1, (rReset c).2.1.2.2.2.2.2.2.2.2.1, 0), false, false, false, (rReset c).2.2.2.2.2.1, false, false, false, false, false, false, false) := by
  simp only [rReset, rResetT, RT.val, on_eq]
theorem begin0 (c : CpuT) : beginX (rReset c) 0 = (rReset c, 0, [], (1, 0, 0, 4), 1, false) := by
  simp only [beginX]
  have : (nextX (rReset c) 0 []).1 = (1, 0, 0, 4) := by
    have hp : pcOf (rReset c) = 0 := by rw [reset_eta]; rfl
    simp [nextX, planX, rInternal, rInternalT, RT.val, hp]; rfl
  rw [this]
theorem len1 {α : Type} (l : List α) (x : α) (h : l.length + 1 ≤ most) : Nat.ble l.length most = true ∧ Nat.ble (l ++ [x]).length most = true := by
  rw [Nat.ble_eq, Nat.ble_eq]; simp only [List.length_append, List.length_cons, List.length_nil]; omega
theorem rread_eq (c : CoreT) (d : Int) (hg : c.2.2.1.length + 1 ≤ most) : (rReadT c 3 d).val = some (readX c.1 c.2.2.2.1 d, c.2.2.1 ++ [(readX c.1 c.2.2.2.1 d).2.2.1]) := by
  have h := len1 c.2.2.1 (bif rReads c.2.2.2.1.1 then d else c.2.2.2.1.2.2.1) hg
  simp only [rReadT, RT.val, List.nil_append, h.1, h.2, Bool.not_true, Bool.false_or, cond_true, readX, bne_self_eq_false, cond_false]
theorem rread_eq' (c : CoreT) (t d : Int) (ht : t ≠ 3) : (rReadT c t d).val = some (c.2.2.2.1, c.2.2.1) := by
  have : (t != 3) = true := by simpa using ht
  simp only [rReadT, RT.val, this, cond_true]
abbrev ChgT := Bool × CpuT × List Int × Cyc × CpuT
abbrev cpu0 : CpuT := (0, (0, 0, 0, 0, 0, 0, 0, (false, false, false, false, false, false, false), 0, 0), false, false, false, 0, false, false, false, false, false, false, false)
/-- What a clock state without RESET has done. -/
def changeX (c : CoreT) (l : LnT) (d : Int) : ChgT :=
  let t := stateX c.2.2.2.2.1
  let p := rLatch c.1 l
  let s := c.2.1
  let g := c.2.2.1
  let x := c.2.2.2.1
  bif t == 3 then
    (let y := readX p x d
     bif le3 y.2.2.2 && !(nextX p s (g ++ [y.2.2.1])).2 then (true, finX p s (g ++ [y.2.2.1]) l, g ++ [y.2.2.1], y, p) else (false, cpu0, [], y, p)) else
  bif (t == 4 || (t == 5 || t == 6)) && (!(decide (t < x.2.2.2) && !(t == 6)) && !(nextX p s g).2) then (true, finX p s g l, g, x, p) else (false, cpu0, [], x, p)
theorem gt3 (x : Int) : decide (x > 3) = !le3 x := by unfold le3; by_cases h : x ≤ 3 <;> simp [h] <;> omega
theorem pAdv_eq (c : CoreT) (l : LnT) (d : Int) (hg : c.2.2.1.length + 1 ≤ most) (hr : l.2.2.1 = false) : (pAdvT c l d).val = some (clockX c l d, changeX c l d) := by
  have h1 := fun x => len1 c.2.2.1 x hg
  obtain ⟨t1, t2⟩ := stateX_in c.2.2.2.2.1
  unfold pAdvT clockX changeX
  simp only [pstate_eq, hr, cond_false, RT.val, (h1 0).1, (h1 _).2, cond_true, Bool.or_true, pserve_eq, pidle_eq, endX, readX, idlX, pWaiting, pWaitingT, gt3]
  have : stateX c.2.2.2.2.1 = 1 ∨ stateX c.2.2.2.2.1 = 2 ∨ stateX c.2.2.2.2.1 = 7 ∨ stateX c.2.2.2.2.1 = 3 ∨ stateX c.2.2.2.2.1 = 4 ∨ stateX c.2.2.2.2.1 = 5 ∨ stateX c.2.2.2.2.1 = 6 ∨ stateX c.2.2.2.2.1 = 8 ∨ stateX c.2.2.2.2.1 = 9 := by omega
  rcases this with h | h | h | h | h | h | h | h | h <;> simp only [h, Int.reduceBEq, Int.reduceBNe, cond_true, cond_false, Bool.false_or, Bool.or_false, Bool.and_false, Bool.false_and, Bool.and_true, Bool.true_and, Bool.not_true, Bool.not_false, gt_iff_lt, show IntKind.wrap .i64 (4 + 1) = 4 + 1 from rfl, show IntKind.wrap .i64 (5 + 1) = 5 + 1 from rfl]
  · cases rAccepts c.2.2.2.1.1 <;> cases l.1 <;> rfl
  · cases rAccepts c.2.2.2.1.1 <;> cases l.1 <;> rfl
  · cases hA : le3 (readX (rLatch c.1 l) c.2.2.2.1 d).2.2.2 <;> cases hB : (nextX (rLatch c.1 l) c.2.1 (c.2.2.1 ++ [(readX (rLatch c.1 l) c.2.2.2.1 d).2.2.1])).2 <;> simp only [readX] at hA hB <;> simp only [hA, hB, cond_true, cond_false, Bool.not_true, Bool.not_false, Bool.and_true, Bool.and_false, Bool.false_and] <;> with_reducible rfl
  · cases decide (4 < c.2.2.2.1.2.2.2) <;> cases (nextX (rLatch c.1 l) c.2.1 c.2.2.1).2 <;> rfl
  · cases decide (5 < c.2.2.2.1.2.2.2) <;> cases (nextX (rLatch c.1 l) c.2.1 c.2.2.1).2 <;> rfl
  · cases (nextX (rLatch c.1 l) c.2.1 c.2.2.1).2 <;> rfl
  · have hb : (rPick (rLatch c.1 l) l != 0) = !(rPick (rLatch c.1 l) l == 0) := rfl
    rw [hb]
    cases hk : (rPick (rLatch c.1 l) l == 0) <;> rfl
theorem lt_le (t x : Int) : decide (t < x) = !decide (x ≤ t) := by by_cases h : x ≤ t <;> simp [h] <;> omega
theorem pclock_eq (c : CoreT) (l : LnT) (d : Int) (hg : c.2.2.1.length + 1 ≤ most) : (pClockT c l d).val = some (clockX c l d, pinsX c l d) := by
  obtain ⟨t1, t2⟩ := stateX_in c.2.2.2.2.1
  cases hr : l.2.2.1 with
  | true =>
    have hb : pBegin (rReset c.1) 0 = (rReset c.1, 0, [], (nextX (rReset c.1) 0 []).1, 1, false) := rfl
    simp only [pClockT, RT.val, hr, cond_true, clockX, pinsX, begin0, hb]
    rw [← reset_eta, pins_eq c.1.1 10 (by decide) (by decide) c.2.2.2.1 d 0 _ _ _ (fun h => absurd rfl h), pins10 c.1.1 _ (haltC c (stateX c.2.2.2.2.1)) 0]
  | false =>
    have h := pAdv_eq c l d hg hr
    have h1 : pAdvC c l d = true := by simp only [pAdvC, h, okB]
    have h2 : (pAdv c l d).1 = clockX c l d := by simp only [pAdv, h, getO]
    simp only [pClockT, RT.val, hr, cond_false, h1, cond_true, h2, pinsX, pstate_eq]
    rw [pins_eq c.1.1 (stateX c.2.2.2.2.1) t1 (by omega) c.2.2.2.1 d d _ _ _ (fun _ => rfl)]
    simp only [haltC]
theorem rclock_eq (c : CoreT) (l : LnT) (d : Int) (hg : c.2.2.1.length + 1 ≤ most) : (rClockT c l d).val = some (clockX c l d, pinsX c l d) := by
  obtain ⟨t1, t2⟩ := stateX_in c.2.2.2.2.1
  have hx : haltC c (stateX c.2.2.2.2.1) = (bif stateX c.2.2.2.2.1 == 9 then 0 else c.2.2.2.1.1, bif stateX c.2.2.2.2.1 == 9 then c.1.2.1.2.2.2.2.2.2.2.2.2 else c.2.2.2.1.2.1, bif stateX c.2.2.2.2.1 == 9 then 0 else c.2.2.2.1.2.2.1, bif stateX c.2.2.2.2.1 == 9 then 0 else c.2.2.2.1.2.2.2) := by
    unfold haltC; cases stateX c.2.2.2.2.1 == 9 <;> simp only [cond_true, cond_false, Bool.not_true, Bool.not_false, Bool.and_true, Bool.and_false, Bool.false_and, Bool.true_and, Bool.or_true, Bool.or_false, Bool.true_or, Bool.false_or]
  have hl : Nat.ble c.2.2.1.length most = true := (len1 c.2.2.1 0 hg).1
  cases hr : l.2.2.1 with
  | true =>
    simp only [rClockT, RT.val, hr, cond_true, clockX, pinsX, begin0, rstate_eq, ← hx]
    rw [← pins10', ← reset_eta]
  | false =>
    simp only [rClockT, RT.val, hr, cond_false, List.nil_append, hl, cond_true, rstate_eq, rserve_eq, rend_eq, ← hx, pinsX]
    have : stateX c.2.2.2.2.1 = 1 ∨ stateX c.2.2.2.2.1 = 2 ∨ stateX c.2.2.2.2.1 = 7 ∨ stateX c.2.2.2.2.1 = 3 ∨ stateX c.2.2.2.2.1 = 4 ∨ stateX c.2.2.2.2.1 = 5 ∨ stateX c.2.2.2.2.1 = 6 ∨ stateX c.2.2.2.2.1 = 8 ∨ stateX c.2.2.2.2.1 = 9 := by omega
    have q3 := rread_eq (rLatch c.1 l, c.2.1, c.2.2.1, c.2.2.2) d hg
    rcases this with h | h | h | h | h | h | h | h | h
    · simp only [clockX, hr, h, Int.reduceBEq, cond_true, cond_false]
    · simp only [clockX, hr, h, Int.reduceBEq, cond_true, cond_false, Bool.true_or]
      cases l.1 || !rAccepts c.2.2.2.1.1 <;> simp only [cond_true, cond_false, Bool.not_true, Bool.not_false, Bool.and_true, Bool.and_false, Bool.false_and, Bool.true_and, Bool.or_true, Bool.or_false, Bool.true_or, Bool.false_or]
    · simp only [clockX, hr, h, Int.reduceBEq, cond_true, cond_false, Bool.or_true]
      cases l.1 || !rAccepts c.2.2.2.1.1 <;> simp only [cond_true, cond_false, Bool.not_true, Bool.not_false, Bool.and_true, Bool.and_false, Bool.false_and, Bool.true_and, Bool.or_true, Bool.or_false, Bool.true_or, Bool.false_or]
    · have e1 : rReadC (rLatch c.1 l, c.2.1, c.2.2.1, c.2.2.2) 3 d = true := by simp only [rReadC, q3, okB]
      have e2 : rRead (rLatch c.1 l, c.2.1, c.2.2.1, c.2.2.2) 3 d = (readX (rLatch c.1 l) c.2.2.2.1 d, c.2.2.1 ++ [(readX (rLatch c.1 l) c.2.2.2.1 d).2.2.1]) := by simp only [rRead, q3, getO]
      simp only [clockX, hr, h, Int.reduceBEq, cond_true, cond_false, Bool.or_self, e1, e2, rEnds, rEndsT, RT.val]
      rw [show decide ((readX (rLatch c.1 l) c.2.2.2.1 d).2.2.2 ≤ 3) = le3 (readX (rLatch c.1 l) c.2.2.2.1 d).2.2.2 from rfl]
      cases le3 (readX (rLatch c.1 l) c.2.2.2.1 d).2.2.2 <;> rfl
    · have q := rread_eq' (rLatch c.1 l, c.2.1, c.2.2.1, c.2.2.2) 4 d (by decide)
      have e1 : rReadC (rLatch c.1 l, c.2.1, c.2.2.1, c.2.2.2) 4 d = true := by simp only [rReadC, q, okB]
      have e2 : rRead (rLatch c.1 l, c.2.1, c.2.2.1, c.2.2.2) 4 d = (c.2.2.2.1, c.2.2.1) := by simp only [rRead, q, getO]
      simp only [clockX, hr, h, Int.reduceBEq, cond_true, cond_false, Bool.or_self, Bool.not_false, Bool.and_true, e1, e2, rEnds, rEndsT, RT.val, show IntKind.wrap .i64 (4 + 1) = 4 + 1 from rfl, lt_le]
      cases decide (c.2.2.2.1.2.2.2 ≤ 4) <;> rfl
    · have q := rread_eq' (rLatch c.1 l, c.2.1, c.2.2.1, c.2.2.2) 5 d (by decide)
      have e1 : rReadC (rLatch c.1 l, c.2.1, c.2.2.1, c.2.2.2) 5 d = true := by simp only [rReadC, q, okB]
      have e2 : rRead (rLatch c.1 l, c.2.1, c.2.2.1, c.2.2.2) 5 d = (c.2.2.2.1, c.2.2.1) := by simp only [rRead, q, getO]
      simp only [clockX, hr, h, Int.reduceBEq, cond_true, cond_false, Bool.or_self, Bool.not_false, Bool.and_true, e1, e2, rEnds, rEndsT, RT.val, show IntKind.wrap .i64 (5 + 1) = 5 + 1 from rfl, lt_le]
      cases decide (c.2.2.2.1.2.2.2 ≤ 5) <;> rfl
    · have q := rread_eq' (rLatch c.1 l, c.2.1, c.2.2.1, c.2.2.2) 6 d (by decide)
      have e1 : rReadC (rLatch c.1 l, c.2.1, c.2.2.1, c.2.2.2) 6 d = true := by simp only [rReadC, q, okB]
      have e2 : rRead (rLatch c.1 l, c.2.1, c.2.2.1, c.2.2.2) 6 d = (c.2.2.2.1, c.2.2.1) := by simp only [rRead, q, getO]
      simp only [clockX, hr, h, Int.reduceBEq, cond_true, cond_false, Bool.or_self, Bool.not_true, Bool.and_false, e1, e2, rEnds, rEndsT, RT.val]
    · simp only [clockX, hr, h, Int.reduceBEq, cond_true, cond_false, Bool.or_self, rResting, rRestingT, RT.val, idlX]
      cases l.2.1 <;> rfl
    · have hb : (rPick (rLatch c.1 l) l != 0) = !(rPick (rLatch c.1 l) l == 0) := rfl
      simp only [clockX, hr, h, Int.reduceBEq, cond_true, cond_false, Bool.or_self, hb]
      cases hk : (rPick (rLatch c.1 l) l == 0) <;> rfl
end
end Go.Proofs.YteboknglfjadoaaGreat
