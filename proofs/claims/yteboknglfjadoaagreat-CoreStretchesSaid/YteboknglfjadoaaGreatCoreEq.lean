/-
  What a processor's clock states rest on: the program's functions are the reference's. Conditions: none.
-/
import Derived.Test.YteboknglfjadoaaGreatCoreL
open Go Go.S3 Go.Proofs
set_option linter.unusedVariables false
set_option linter.unusedSimpArgs false
set_option maxRecDepth 100000
namespace Go.Proofs.YteboknglfjadoaaGreat
noncomputable section
theorem latch_eq (c l) : pLatch c l = rLatch c l := by
  simp only [pLatch, pLatchT, rLatch, rLatchT, RT.val, on_eq, bne]
theorem pick_eq (c l) : pPick c l = rPick c l := by simp [pPick, pPickT, rPick, rPickT, RT.val, on_eq]
theorem accept_eq (c) (s : Int) : pAccept c s = rAccept c s := by
  by_cases h : s = 1
  · subst h; simp [pAccept, pAcceptT, rAccept, rAcceptT, RT.val]
  · have h' : (s == 1) = false := by simpa using h
    simp [pAccept, pAcceptT, rAccept, rAcceptT, RT.val, h']
theorem reset_eq (c) : pReset c = rReset c := by simp [pReset, pResetT, rReset, rResetT, RT.val, on_eq]
theorem reads_eq (k) : pReads k = rReads k := by simp [pReads, pReadsT, rReads, rReadsT, RT.val]
theorem writes_eq (k) : pWrites k = rWrites k := by simp [pWrites, pWritesT, rWrites, rWritesT, RT.val]
theorem status_eq (k) : pStatus k = rStatus k := by simp [pStatus, pStatusT, rStatus, rStatusT, RT.val]
theorem levels_eq (k) : pLevels k = rLevels k := by simp [pLevels, pLevelsT, rLevels, rLevelsT, RT.val]
theorem accepts_eq (k) : pAccepts k = rAccepts k := by simp [pAccepts, pAcceptsT, rAccepts, rAcceptsT, RT.val]
def pLatch1E : Entry := pureE pLatchTs pLatchRs (fun _ => none) (fun a => rLatch a.1 a.2)
theorem pLatch1_ok : EntryOk Tryz.prog 128 pLatch1E := pLatch_ok.tot (fun a h => by simp) (fun a h => latch_eq _ _)
def pPick1E : Entry := pureE pPickTs pPickRs (fun _ => none) (fun a => rPick a.1 a.2)
theorem pPick1_ok : EntryOk Tryz.prog 132 pPick1E := pPick_ok.tot (fun a h => by simp) (fun a h => pick_eq _ _)
def pAccept1E : Entry := pureE pAcceptTs pAcceptRs (fun _ => none) (fun a => rAccept a.1 a.2)
theorem pAccept1_ok : EntryOk Tryz.prog 164 pAccept1E := pAccept_ok.tot (fun a h => by simp) (fun a h => accept_eq _ _)
def pReset1E : Entry := pureE pResetTs pResetRs (fun _ => none) (fun a => rReset a)
theorem pReset1_ok : EntryOk Tryz.prog 64 pReset1E := pReset_ok.tot (fun a h => by simp) (fun a h => reset_eq _)
def pReads1E : Entry := pureE pReadsTs pReadsRs (fun _ => none) (fun a => rReads a)
theorem pReads1_ok : EntryOk Tryz.prog 124 pReads1E := pReads_ok.tot (fun a h => by simp) (fun a h => reads_eq _)
def pWrites1E : Entry := pureE pWritesTs pWritesRs (fun _ => none) (fun a => rWrites a)
theorem pWrites1_ok : EntryOk Tryz.prog 123 pWrites1E := pWrites_ok.tot (fun a h => by simp) (fun a h => writes_eq _)
def pStatus1E : Entry := pureE pStatusTs pStatusRs (fun _ => none) (fun a => rStatus a)
theorem pStatus1_ok : EntryOk Tryz.prog 177 pStatus1E := pStatus_ok.tot (fun a h => by simp) (fun a h => status_eq _)
def pLevels1E : Entry := pureE pLevelsTs pLevelsRs (fun _ => none) (fun a => rLevels a)
theorem pLevels1_ok : EntryOk Tryz.prog 176 pLevels1E := pLevels_ok.tot (fun a h => by simp) (fun a h => levels_eq _)
def pAccepts1E : Entry := pureE pAcceptsTs pAcceptsRs (fun _ => none) (fun a => rAccepts a)
theorem pAccepts1_ok : EntryOk Tryz.prog 97 pAccepts1E := pAccepts_ok.tot (fun a h => by simp) (fun a h => accepts_eq _)
end
end Go.Proofs.YteboknglfjadoaaGreat
