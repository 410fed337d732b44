/-
  Contracts of one clock state with one plain function. Conditions: none.
-/
import Derived.Test.YteboknglfjadoaaGreatClockEq
open Go Go.S3 Go.Proofs
set_option linter.unusedVariables false
set_option linter.unusedSimpArgs false
set_option maxRecDepth 100000
namespace Go.Proofs.YteboknglfjadoaaGreat
noncomputable section
def roomB (c : CoreT) : Bool := Nat.ble (c.2.2.1.length + 1) most
theorem roomB_iff {c : CoreT} : roomB c = true ↔ c.2.2.1.length + 1 ≤ most := by simp [roomB]
def clkX (c : CoreT) (l : LnT) (d : Int) : CoreT × PinT := (clockX c l d, pinsX c l d)
def pClock1E : Entry := pureE pClockTs pClockRs (fun a => some (roomB a.1)) (fun a => clkX a.1 a.2.1 a.2.2)
theorem pClock1_ok : EntryOk Tryz.prog 23 pClock1E := pClock_ok.pure_congr
  (fun a h hp => by have h1 := pclock_eq a.1 a.2.1 a.2.2 (roomB_iff.1 (by simpa using hp)); simp [pClockC, h1, okB])
  (fun a h hp => by have h1 := pclock_eq a.1 a.2.1 a.2.2 (roomB_iff.1 (by simpa using hp)); simp only [pClock, h1, getO, clkX])
def rClock1E : Entry := pureE rClockTs rClockRs (fun a => some (roomB a.1)) (fun a => clkX a.1 a.2.1 a.2.2)
theorem rClock1_ok : EntryOk Tryz.prog 37 rClock1E := rClock_ok.pure_congr
  (fun a h hp => by have h1 := rclock_eq a.1 a.2.1 a.2.2 (roomB_iff.1 (by simpa using hp)); simp [rClockC, h1, okB])
  (fun a h hp => by have h1 := rclock_eq a.1 a.2.1 a.2.2 (roomB_iff.1 (by simpa using hp)); simp only [rClock, h1, getO, clkX])
def pAdv1E : Entry := pureE pAdvTs pAdvRs (fun a => some (roomB a.1 && !a.2.1.2.2.1)) (fun a => (clockX a.1 a.2.1 a.2.2, changeX a.1 a.2.1 a.2.2))
theorem pAdv1_ok : EntryOk Tryz.prog 66 pAdv1E := pAdv_ok.pure_congr
  (fun a h hp => by
    have hp : (roomB a.1 && !a.2.1.2.2.1) = true := by simpa using hp
    simp only [Bool.and_eq_true, Bool.not_eq_true'] at hp
    have h1 := pAdv_eq a.1 a.2.1 a.2.2 (roomB_iff.1 hp.1) hp.2; simp [pAdvC, h1, okB])
  (fun a h hp => by
    have hp : (roomB a.1 && !a.2.1.2.2.1) = true := by simpa using hp
    simp only [Bool.and_eq_true, Bool.not_eq_true'] at hp
    have h1 := pAdv_eq a.1 a.2.1 a.2.2 (roomB_iff.1 hp.1) hp.2; simp only [pAdv, h1, getO])
def newX (chip : Int) : CoreT := beginX (rReset (chip, (0, 0, 0, 0, 0, 0, 0, (false, false, false, false, false, false, false), 0, 0), false, false, false, 0, false, false, false, false, false, false, false)) 0
theorem rnew_eq (chip : Int) : rNew chip = newX chip := by
  unfold newX
  rw [begin0]
  simp only [rNew, rNewT, RT.val, rReset, rResetT, on_eq]
theorem pnew_eq (chip : Int) : pNew chip = newX chip := by
  have hb : ∀ c, pBegin c 0 = beginX c 0 := fun _ => rfl
  unfold newX
  simp only [pNew, pNewT, RT.val, hb]
  rw [begin0]
  simp only [rReset, rResetT, RT.val, on_eq]
def pNew1E : Entry := pureE pNewTs pNewRs (fun _ => none) (fun a => newX a)
theorem pNew1_ok : EntryOk Tryz.prog 28 pNew1E := pNew_ok.tot (fun a h => by simp) (fun a h => pnew_eq _)
def rNew1E : Entry := pureE rNewTs rNewRs (fun _ => none) (fun a => newX a)
theorem rNew1_ok : EntryOk Tryz.prog 17 rNew1E := rNew_ok.tot (fun a h => by simp) (fun a h => rnew_eq _)
end
end Go.Proofs.YteboknglfjadoaaGreat
