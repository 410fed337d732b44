/-
  Contracts of the functions that the statements about layer 18 reach, and of these laws themselves. Conditions: none.
-/
import Derived.Test.YtmhebjdoodiikaaSxLoop
import Derived.Test.YtmhebjdoodiikaaProg
namespace Go.Proofs.Ytmhebjdoodiikaa
open Go.Sx
set_option linter.unusedVariables false
set_option linter.unusedSimpArgs false
noncomputable section

abbrev i64 : WC Int := WC.int .i64
abbrev u8 : WC Int := WC.int .u8
abbrev boo : WC Bool := WC.bool

def placeT (x : Int) (n : Int) : RT (Option (Int)) :=
  .br (IntKind.wrap IntKind.u64 n != 0)
  (.leaf (some ( (IntKind.wrap IntKind.i64 (Int.tmod (IntKind.wrap IntKind.u64 x) (IntKind.wrap IntKind.u64 n))))))
  (.leaf none)
def placeF (x n : Int) : Int := ((placeT x n).val).getD 0
def placeE : Entry := pureE (AC.cons i64 (AC.one i64)) (RC.one i64) (fun a => some (decide (0 < a.2))) (fun ⟨x, n⟩ => placeF x n)
theorem place_ok : EntryOk Try.prog 12 placeE :=
  pureE_part0 3 (l := []) trivial Try.func12 rfl Try.call12 (t := fun ⟨x, n⟩ => placeT x n) (fun ⟨x, n⟩ => by kernel_rfl)
    (fun a hi hp => by
      obtain ⟨x, n⟩ := a
      have hp : 0 < n := by simpa using hp
      obtain ⟨_, hn⟩ := hi
      have hn : inR .i64 n := hn
      have h1 : IntKind.wrap IntKind.u64 n = n := by
        simp [inR, IntKind.min, IntKind.max, IntKind.signed, IntKind.bits] at hn
        simp [IntKind.wrap, IntKind.signed, IntKind.bits]; omega
      have h2 : (IntKind.wrap IntKind.u64 n != 0) = true := by rw [h1]; simp; omega
      show (placeT x n).val = some ((placeT x n).val.getD 0)
      simp only [placeT, RT.val, h2, cond_true, Option.getD_some])

def statusByteT (kind : Int) : RT (Int) :=
  .br (kind == 1)
  (.leaf ( (162)))
  (.br (kind == 2)
   (.leaf ( (130)))
   (.br (kind == 4)
    (.leaf ( (134)))
    (.br (kind == 5)
     (.leaf ( (4)))
     (.br (kind == 6)
      (.leaf ( (66)))
      (.br (kind == 7)
       (.leaf ( (16)))
       (.br (kind == 8)
        (.leaf ( (35)))
        (.br (kind == 9)
         (.leaf ( (3)))
         (.br (kind == 10)
          (.leaf ( (138)))
          (.leaf ( (0)))))))))))
def statusByte (kind : Int) : Int := (statusByteT kind).val
def statusByteE : Entry := pureE (AC.one i64) (RC.one u8) (fun _ => none) (fun kind => statusByte kind)
theorem statusByte_ok : EntryOk Try.prog 13 statusByteE :=
  pureE_tree0 2 (l := []) trivial Try.func13 rfl Try.call13 (fun kind => by kernel_rfl)

def refStatusT (kind : Int) : RT (Int) :=
  .br (kind == 1)
  (.leaf ( (162)))
  (.br (kind == 2)
   (.leaf ( (130)))
   (.br (kind == 4)
    (.leaf ( (134)))
    (.br (kind == 5)
     (.leaf ( (4)))
     (.br (kind == 6)
      (.leaf ( (66)))
      (.br (kind == 7)
       (.leaf ( (16)))
       (.br (kind == 8)
        (.leaf ( (35)))
        (.br (kind == 9)
         (.leaf ( (3)))
         (.br (kind == 10)
          (.leaf ( (138)))
          (.leaf ( (0)))))))))))
def refStatus (kind : Int) : Int := (refStatusT kind).val
def refStatusE : Entry := pureE (AC.one i64) (RC.one u8) (fun _ => none) (fun kind => refStatus kind)
theorem refStatus_ok : EntryOk Try.prog 14 refStatusE :=
  pureE_tree0 2 (l := []) trivial Try.func14 rfl Try.call14 (fun kind => by kernel_rfl)

def statusLinesT (kind : Int) : RT (Bool × Bool × Bool) :=
  .br (kind == 1)
  (.leaf ((fun a b c => (a, b, c)) (false) (true) (true)))
  (.br (bif kind == 2 then kind == 2 else bif kind == 4 then kind == 4 else kind == 11)
   (.leaf ((fun a b c => (a, b, c)) (false) (true) (false)))
   (.br (bif kind == 3 then kind == 3 else kind == 5)
    (.leaf ((fun a b c => (a, b, c)) (false) (false) (true)))
    (.br (kind == 6)
     (.leaf ((fun a b c => (a, b, c)) (true) (true) (false)))
     (.br (kind == 7)
      (.leaf ((fun a b c => (a, b, c)) (true) (false) (true)))
      (.br (bif kind == 8 then kind == 8 else bif kind == 9 then kind == 9 else kind == 12)
       (.leaf ((fun a b c => (a, b, c)) (true) (true) (true)))
       (.leaf ((fun a b c => (a, b, c)) (false) (false) (false))))))))
def statusLines (kind : Int) : Bool × Bool × Bool := (statusLinesT kind).val
def statusLinesE : Entry := pureE (AC.one i64) (RC.three boo boo boo) (fun _ => none) (fun kind => statusLines kind)
theorem statusLines_ok : EntryOk Try.prog 16 statusLinesE :=
  pureE_tree0 4 (l := []) trivial Try.func16 rfl Try.call16 (fun kind => by kernel_rfl)

def refLevelsT (kind : Int) : RT (Bool × Bool × Bool) :=
  .br (kind == 1)
  (.leaf ((fun a b c => (a, b, c)) (false) (true) (true)))
  (.br (bif kind == 2 then kind == 2 else bif kind == 4 then kind == 4 else kind == 11)
   (.leaf ((fun a b c => (a, b, c)) (false) (true) (false)))
   (.br (bif kind == 3 then kind == 3 else kind == 5)
    (.leaf ((fun a b c => (a, b, c)) (false) (false) (true)))
    (.br (kind == 6)
     (.leaf ((fun a b c => (a, b, c)) (true) (true) (false)))
     (.br (kind == 7)
      (.leaf ((fun a b c => (a, b, c)) (true) (false) (true)))
      (.br (bif kind == 8 then kind == 8 else bif kind == 9 then kind == 9 else kind == 12)
       (.leaf ((fun a b c => (a, b, c)) (true) (true) (true)))
       (.leaf ((fun a b c => (a, b, c)) (false) (false) (false))))))))
def refLevels (kind : Int) : Bool × Bool × Bool := (refLevelsT kind).val
def refLevelsE : Entry := pureE (AC.one i64) (RC.three boo boo boo) (fun _ => none) (fun kind => refLevels kind)
theorem refLevels_ok : EntryOk Try.prog 17 refLevelsE :=
  pureE_tree0 4 (l := []) trivial Try.func17 rfl Try.call17 (fun kind => by kernel_rfl)

def statusReadsT (kind : Int) : RT (Bool) :=
  .br (bif kind == 1 then kind == 1 else bif kind == 2 then kind == 2 else bif kind == 4 then kind == 4 else bif kind == 6 then kind == 6 else bif kind == 8 then kind == 8 else kind == 9)
  (.leaf ( (true)))
  (.leaf ( (false)))
def statusReads (kind : Int) : Bool := (statusReadsT kind).val
def statusReadsE : Entry := pureE (AC.one i64) (RC.one boo) (fun _ => none) (fun kind => statusReads kind)
theorem statusReads_ok : EntryOk Try.prog 18 statusReadsE :=
  pureE_tree0 2 (l := []) trivial Try.func18 rfl Try.call18 (fun kind => by kernel_rfl)

def refReadsT (kind : Int) : RT (Bool) :=
  .leaf ( (kind == 1 || (kind == 2 || (kind == 4 || (kind == 6 || (kind == 8 || kind == 9))))))
def refReads (kind : Int) : Bool := (refReadsT kind).val
def refReadsE : Entry := pureE (AC.one i64) (RC.one boo) (fun _ => none) (fun kind => refReads kind)
theorem refReads_ok : EntryOk Try.prog 19 refReadsE :=
  pureE_tree0 2 (l := []) trivial Try.func19 rfl Try.call19 (fun kind => by kernel_rfl)

def statusWritesT (kind : Int) : RT (Bool) :=
  .leaf ( (kind == 3 || (kind == 5 || kind == 7)))
def statusWrites (kind : Int) : Bool := (statusWritesT kind).val
def statusWritesE : Entry := pureE (AC.one i64) (RC.one boo) (fun _ => none) (fun kind => statusWrites kind)
theorem statusWrites_ok : EntryOk Try.prog 20 statusWritesE :=
  pureE_tree0 2 (l := []) trivial Try.func20 rfl Try.call20 (fun kind => by kernel_rfl)

def refWritesT (kind : Int) : RT (Bool) :=
  .leaf ( (kind == 3 || (kind == 5 || kind == 7)))
def refWrites (kind : Int) : Bool := (refWritesT kind).val
def refWritesE : Entry := pureE (AC.one i64) (RC.one boo) (fun _ => none) (fun kind => refWrites kind)
theorem refWrites_ok : EntryOk Try.prog 21 refWritesE :=
  pureE_tree0 2 (l := []) trivial Try.func21 rfl Try.call21 (fun kind => by kernel_rfl)

def known18T  : RT (Bool) :=
  .leaf ( (true))
def known18  : Bool := (known18T ).val
def known18E : Entry := pureE AC.nil (RC.one boo) (fun _ => none) (fun _ => known18 )
theorem known18_ok : EntryOk Try.prog 15 known18E :=
  pureE_tree0 4 (l := [(16, statusLinesE), (13, statusByteE), (18, statusReadsE), (20, statusWritesE)]) ⟨statusLines_ok, statusByte_ok, statusReads_ok, statusWrites_ok, trivial⟩ Try.func15 rfl Try.call15 (fun _ => by kernel_rfl)

def lawBytesT (kind : Int) : RT (Option (Bool)) :=
  .br (decide (0 < 14))
  (.leaf (some ( (statusByte kind == refStatus kind && (statusByte (placeF kind 14) == refStatus (placeF kind 14) && known18)))))
  (.leaf none)
def lawBytesE : Entry := pureE (AC.one i64) (RC.one boo) (fun _ => none) (fun kind => (fun _ => true) kind)
theorem lawBytes_ok : EntryOk Try.prog 3 lawBytesE :=
  pureE_part0 3 (l := [(15, known18E), (13, statusByteE), (14, refStatusE), (12, placeE)]) ⟨known18_ok, statusByte_ok, refStatus_ok, place_ok, trivial⟩ Try.func3 rfl Try.call3 (t := fun kind => lawBytesT kind) (fun kind => by kernel_rfl)
    (fun kind _ _ => by
      have e : ∀ k, statusByte k = refStatus k := fun k => rfl
      have k1 : known18 = true := by decide
      simp [lawBytesT, RT.val, e, k1])

def lawLinesT (kind : Int) : RT (Option (Bool)) :=
  .br (decide (0 < 14))
  (.br (!Prod.fst (statusLines kind) == Prod.fst (refLevels kind) ||
  (!Prod.fst (Prod.snd (statusLines kind)) == Prod.fst (Prod.snd (refLevels kind)) || !Prod.snd (Prod.snd (statusLines kind)) == Prod.snd (Prod.snd (refLevels kind))))
   (.leaf (some ( (false))))
   (.br (!Prod.fst (statusLines (placeF kind 14)) == Prod.fst (refLevels (placeF kind 14)) ||
  (!Prod.fst (Prod.snd (statusLines (placeF kind 14))) == Prod.fst (Prod.snd (refLevels (placeF kind 14))) ||
    !Prod.snd (Prod.snd (statusLines (placeF kind 14))) == Prod.snd (Prod.snd (refLevels (placeF kind 14)))))
    (.leaf (some ( (false))))
    (.leaf (some ( (true))))))
  (.leaf none)
def lawLinesE : Entry := pureE (AC.one i64) (RC.one boo) (fun _ => none) (fun kind => (fun _ => true) kind)
theorem lawLines_ok : EntryOk Try.prog 4 lawLinesE :=
  pureE_part0 10 (l := [(15, known18E), (16, statusLinesE), (17, refLevelsE), (12, placeE)]) ⟨known18_ok, statusLines_ok, refLevels_ok, place_ok, trivial⟩ Try.func4 rfl Try.call4 (t := fun kind => lawLinesT kind) (fun kind => by kernel_rfl)
    (fun kind _ _ => by
      have e : ∀ k, statusLines k = refLevels k := fun k => by
        simp only [statusLines, refLevels, statusLinesT, refLevelsT, RT.val]
      simp [lawLinesT, RT.val, e])

def lawDirectionsT (kind : Int) : RT (Option (Bool)) :=
  .br (decide (0 < 14))
  (.br (!statusReads kind == refReads kind || (!statusWrites kind == refWrites kind || statusReads kind && statusWrites kind))
   (.leaf (some ( (false))))
   (.br (!statusReads (placeF kind 14) == refReads (placeF kind 14) || (!statusWrites (placeF kind 14) == refWrites (placeF kind 14) || statusReads (placeF kind 14) && statusWrites (placeF kind 14)))
    (.leaf (some ( (false))))
    (.leaf (some ( (true))))))
  (.leaf none)
def lawDirectionsE : Entry := pureE (AC.one i64) (RC.one boo) (fun _ => none) (fun kind => (fun _ => true) kind)
theorem lawDirections_ok : EntryOk Try.prog 5 lawDirectionsE :=
  pureE_part0 4 (l := [(15, known18E), (18, statusReadsE), (19, refReadsE), (20, statusWritesE), (21, refWritesE), (12, placeE)]) ⟨known18_ok, statusReads_ok, refReads_ok, statusWrites_ok, refWrites_ok, place_ok, trivial⟩ Try.func5 rfl Try.call5 (t := fun kind => lawDirectionsT kind) (fun kind => by kernel_rfl)
    (fun kind _ _ => by
      have e1 : ∀ k, statusReads k = refReads k := fun k => by
        simp only [statusReads, refReads, statusReadsT, refReadsT, RT.val]
        cases (k == 1) <;> cases (k == 2) <;> cases (k == 4) <;> cases (k == 6) <;> cases (k == 8) <;> cases (k == 9) <;> rfl
      have e2 : ∀ k, statusWrites k = refWrites k := fun k => rfl
      have e3 : ∀ k, (statusReads k && statusWrites k) = false := fun k => by
        rw [e1, e2]
        simp only [refReads, refWrites, refReadsT, refWritesT, RT.val]
        rw [Bool.eq_false_iff]
        intro h
        simp at h
        omega
      simp [lawDirectionsT, RT.val, ← e1, ← e2, e3])

def lawAgreesT (kind : Int) : RT (Option (Bool)) :=
  .br (decide (0 < 12))
  (.br (statusReads (IntKind.wrap IntKind.i64 (1 + placeF kind 12)))
   (.leaf (some ( (andI IntKind.u8 (statusByte (IntKind.wrap IntKind.i64 (1 + placeF kind 12))) 2 != 0 && (Prod.fst (Prod.snd (statusLines (IntKind.wrap IntKind.i64 (1 + placeF kind 12)))) && known18)))))
   (.br (statusWrites (IntKind.wrap IntKind.i64 (1 + placeF kind 12)))
    (.leaf (some ( (!andI IntKind.u8 (statusByte (IntKind.wrap IntKind.i64 (1 + placeF kind 12))) 2 != 0 && (Prod.snd (Prod.snd (statusLines (IntKind.wrap IntKind.i64 (1 + placeF kind 12)))) && known18)))))
    (.leaf (some ( (true))))))
  (.leaf none)
def lawAgreesE : Entry := pureE (AC.one i64) (RC.one boo) (fun _ => none) (fun kind => (fun _ => true) kind)
theorem lawAgrees_ok : EntryOk Try.prog 6 lawAgreesE :=
  pureE_part0 7 (l := [(15, known18E), (18, statusReadsE), (20, statusWritesE), (16, statusLinesE), (13, statusByteE), (12, placeE)]) ⟨known18_ok, statusReads_ok, statusWrites_ok, statusLines_ok, statusByte_ok, place_ok, trivial⟩ Try.func6 rfl Try.call6 (t := fun kind => lawAgreesT kind) (fun kind => by kernel_rfl)
    (fun kind _ _ => by
      have k1 : known18 = true := by decide
      have hr : ∀ k, statusReads k = true → (andI IntKind.u8 (statusByte k) 2 != 0) = true ∧ (statusLines k).2.1 = true := by
        intro k h
        simp only [statusReads, statusReadsT, RT.val] at h
        have h : k = 1 ∨ k = 2 ∨ k = 4 ∨ k = 6 ∨ k = 8 ∨ k = 9 := by
          by_cases a1 : k = 1 <;> by_cases a2 : k = 2 <;> by_cases a3 : k = 4 <;> by_cases a4 : k = 6 <;> by_cases a5 : k = 8 <;> by_cases a6 : k = 9 <;> simp [a1, a2, a3, a4, a5, a6] at h ⊢
        rcases h with rfl | rfl | rfl | rfl | rfl | rfl <;> decide
      have hw : ∀ k, statusWrites k = true → (andI IntKind.u8 (statusByte k) 2 != 0) = false ∧ (statusLines k).2.2 = true := by
        intro k h
        simp only [statusWrites, statusWritesT, RT.val] at h
        have h : k = 3 ∨ k = 5 ∨ k = 7 := by simpa using h
        rcases h with rfl | rfl | rfl <;> decide
      simp only [lawAgreesT, RT.val]
      generalize IntKind.wrap IntKind.i64 (1 + placeF kind 12) = k
      by_cases h1 : statusReads k = true
      · simp [h1, hr k h1, k1]
      · have h1 : statusReads k = false := by simpa using h1
        by_cases h2 : statusWrites k = true
        · simp [h1, h2, hw k h2, k1]
        · have h2 : statusWrites k = false := by simpa using h2
          simp [h1, h2])

end
end Go.Proofs.Ytmhebjdoodiikaa
