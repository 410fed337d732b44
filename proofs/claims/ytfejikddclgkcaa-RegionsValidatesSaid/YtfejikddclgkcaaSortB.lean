/-
  What the library's rotation does to a list of cells. Conditions: none.
-/
import Derived.Test.YtfejikddclgkcaaSort2
open Go Go.S3 Go.Proofs Go.Proofs.Cells
set_option linter.unusedVariables false
set_option linter.unusedSimpArgs false
set_option maxRecDepth 100000
namespace Go.Proofs.Ytfejikddclgkcaa
noncomputable section
theorem swapOk_of (l : List Cell) (a b n : Nat) (h1 : a + n ≤ b) (h2 : b + n ≤ l.length) : swapOk l a b n = true := by
  simp only [swapOk, Bool.and_eq_true, decide_eq_true_eq]; omega
theorem swap_at (A U M V B : List Cell) (a b n : Nat) (h : V.length = U.length) (ha : a = A.length) (hb : b = A.length + U.length + M.length) (hn : n = U.length) :
    swapOk (A ++ U ++ M ++ V ++ B) a b n = true ∧ swapX (A ++ U ++ M ++ V ++ B) a b n = A ++ V ++ M ++ U ++ B := by
  subst ha hb hn
  exact ⟨swapOk_of _ _ _ _ (by omega) (by simp; omega), swapX_eq A U M V B h⟩
theorem mst : most = 1073741824 := rfl
theorem rot_run (X U V Y : List Cell) (hU : 0 < U.length) (hV : 0 < V.length) (hm : (X ++ U ++ V ++ Y).length ≤ most) :
    (uRotT (X ++ U ++ V ++ Y) X.length (X.length + U.length : Nat) (X.length + U.length + V.length : Nat)).val = some (X ++ V ++ U ++ Y) := by
  have hms := mst
  simp only [List.length_append] at hm
  obtain ⟨r, hr, hR⟩ := runF_ind (fl := false) (t := uRotL0T) (fuel := fun a => Int.toNat (a.2.1 + a.2.2.1) + 1)
    (I := fun a => ∃ A U' V' B : List Cell, 0 < U'.length ∧ 0 < V'.length ∧ A.length + U'.length = X.length + U.length ∧ U'.length + V'.length ≤ U.length + V.length ∧ (A ++ U' ++ V' ++ B).length ≤ most ∧ A ++ V' ++ U' ++ B = X ++ V ++ U ++ Y ∧ a = (((X.length + U.length : Nat) : Int), (U'.length : Int), (V'.length : Int), A ++ U' ++ V' ++ B, ()))
    (m := fun a => Int.toNat (a.2.1 + a.2.2.1)) (R := fun r => ∃ A U' V' B : List Cell, 0 < U'.length ∧ V'.length = U'.length ∧ A.length + U'.length = X.length + U.length ∧ (A ++ U' ++ V' ++ B).length ≤ most ∧ A ++ V' ++ U' ++ B = X ++ V ++ U ++ Y ∧ r.2 = (((X.length + U.length : Nat) : Int), (U'.length : Int), (V'.length : Int), A ++ U' ++ V' ++ B, ()))
    (fun a hi => by
      obtain ⟨A, U', V', B, h1, h2, h3, h4, h5, h6, rfl⟩ := hi
      have h5' := h5
      simp only [List.length_append] at h5'
      have w1 : IntKind.wrap .i64 (((X.length + U.length : Nat) : Int) - (U'.length : Int)) = ((A.length : Nat) : Int) := by rw [wrap_i64 _ (by omega) (by omega)]; omega
      by_cases he : U'.length = V'.length
      · right; left
        refine ⟨_, ?_, A, U', V', B, h1, he.symm, h3, h5, h6, rfl⟩
        have d : (((U'.length : Nat) : Int) != (V'.length : Int)) = false := by simp [he]
        simp only [uRotL0T, RT.val, d, cond_false]
      · left
        have d : (((U'.length : Nat) : Int) != (V'.length : Int)) = true := by simp; omega
        by_cases hlt : V'.length < U'.length
        · obtain ⟨U1, U2, rfl, hl⟩ := split_at U' V'.length (by omega)
          simp only [List.length_append] at *
          obtain ⟨q1, q2⟩ := swap_at A U1 U2 V' B A.length (X.length + U.length) V'.length (by omega) rfl (by omega) (by omega)
          have e0 : A ++ (U1 ++ U2) ++ V' ++ B = A ++ U1 ++ U2 ++ V' ++ B := by simp
          have g : decide (((U1.length + U2.length : Nat) : Int) > (V'.length : Int)) = true := by simp; omega
          have w2 : IntKind.wrap .i64 (((U1.length + U2.length : Nat) : Int) - (V'.length : Int)) = (U2.length : Int) := by rw [wrap_i64 _ (by omega) (by omega)]; omega
          refine ⟨(((X.length + U.length : Nat) : Int), (U2.length : Int), (V'.length : Int), (A ++ V') ++ U2 ++ U1 ++ B, ()), ?_, ⟨A ++ V', U2, U1, B, by omega, by omega, by simp; omega, by omega, by simp; omega, by rw [← h6]; simp, by rw [hl]⟩, by simp; omega⟩
          rw [e0]
          simp only [uRotL0T, RT.val, d, cond_true, w1, g, q1, q2, Bool.not_true, Bool.false_or, Bool.true_or, w2, Int.toNat_natCast]
        · obtain ⟨V1, V2, rfl, hl⟩ := split_at V' (V'.length - U'.length) (by omega)
          simp only [List.length_append] at *
          obtain ⟨q1, q2⟩ := swap_at A U' V1 V2 B A.length (X.length + U.length + V1.length) U'.length (by omega) rfl (by omega) rfl
          have e0 : A ++ U' ++ (V1 ++ V2) ++ B = A ++ U' ++ V1 ++ V2 ++ B := by simp
          have g : decide (((U'.length : Nat) : Int) > ((V1.length + V2.length : Nat) : Int)) = false := by simp; omega
          have w2 : IntKind.wrap .i64 (((V1.length + V2.length : Nat) : Int) - (U'.length : Int)) = (V1.length : Int) := by rw [wrap_i64 _ (by omega) (by omega)]; omega
          have w3 : IntKind.wrap .i64 (IntKind.wrap .i64 (((X.length + U.length : Nat) : Int) + ((V1.length + V2.length : Nat) : Int)) - (U'.length : Int)) = ((X.length + U.length + V1.length : Nat) : Int) := by
            rw [wrap_i64 (((X.length + U.length : Nat) : Int) + _) (by omega) (by omega), wrap_i64 _ (by omega) (by omega)]; omega
          have hl2 : U'.length = V2.length := by omega
          refine ⟨(((X.length + U.length : Nat) : Int), (U'.length : Int), (V1.length : Int), A ++ V2 ++ V1 ++ U' ++ B, ()), ?_, ⟨A, V2, V1, U' ++ B, by omega, by omega, by omega, by omega, by simp; omega, by rw [← h6]; simp, by rw [hl2]; simp⟩, by simp; omega⟩
          rw [e0]
          simp only [uRotL0T, RT.val, d, cond_true, w1, g, q1, q2, Bool.not_true, Bool.not_false, Bool.false_or, Bool.true_or, cond_false, w2, w3, Int.toNat_natCast]
          )
    (((X.length + U.length : Nat) : Int), (U.length : Int), (V.length : Int), X ++ U ++ V ++ Y, ()) ⟨X, U, V, Y, hU, hV, rfl, by omega, by simp; omega, rfl, rfl⟩ (Nat.lt_succ_self _)
  obtain ⟨A, U', V', B, h1, h2, h3, h5, h6, hr2⟩ := hR
  have h5' := h5
  simp only [List.length_append] at h5'
  have w0 : IntKind.wrap .i64 (((X.length + U.length : Nat) : Int) - (X.length : Int)) = (U.length : Int) := by rw [wrap_i64 _ (by omega) (by omega)]; omega
  have w0' : IntKind.wrap .i64 (((X.length + U.length + V.length : Nat) : Int) - ((X.length + U.length : Nat) : Int)) = (V.length : Int) := by rw [wrap_i64 _ (by omega) (by omega)]; omega
  have w1 : IntKind.wrap .i64 (((X.length + U.length : Nat) : Int) - (U'.length : Int)) = ((A.length : Nat) : Int) := by rw [wrap_i64 _ (by omega) (by omega)]; omega
  obtain ⟨q1, q2⟩ := swap_at A U' [] V' B A.length (X.length + U.length) U'.length h2 rfl (by simp; omega) rfl
  rw [List.append_nil] at q1 q2
  simp only [uRotT, ownSt, RT.val, w0, w0', hr, okB, getO, cond_true, hr2, w1, q1, q2, Int.toNat_natCast, List.append_nil, h6]
def rotX (l : List Cell) (a m b : Nat) : List Cell := l.take a ++ (l.drop m).take (b - m) ++ (l.drop a).take (m - a) ++ l.drop b
theorem rotX_eq (X U V Y : List Cell) : rotX (X ++ U ++ V ++ Y) X.length (X.length + U.length) (X.length + U.length + V.length) = X ++ V ++ U ++ Y := by
  unfold rotX
  have e1 : (X ++ U ++ V ++ Y).take X.length = X := by simp [List.append_assoc]
  have e2 : ((X ++ U ++ V ++ Y).drop (X.length + U.length)).take (X.length + U.length + V.length - (X.length + U.length)) = V := by
    have : X ++ U ++ V ++ Y = (X ++ U) ++ (V ++ Y) := by simp
    rw [this, List.drop_left' (by simp), List.take_left' (by omega)]
  have e3 : ((X ++ U ++ V ++ Y).drop X.length).take (X.length + U.length - X.length) = U := by
    have : X ++ U ++ V ++ Y = X ++ (U ++ (V ++ Y)) := by simp
    rw [this, List.drop_left' rfl, List.take_left' (by omega)]
  have e4 : (X ++ U ++ V ++ Y).drop (X.length + U.length + V.length) = Y := List.drop_left' (by simp; omega)
  rw [e1, e2, e3, e4]
theorem parts4 {α : Type} (l : List α) (a m b : Nat) (h1 : a ≤ m) (h2 : m ≤ b) (h3 : b ≤ l.length) : ∃ X U V Y : List α, l = X ++ U ++ V ++ Y ∧ X.length = a ∧ X.length + U.length = m ∧ X.length + U.length + V.length = b := by
  obtain ⟨X, l1, rfl, hX⟩ := split_at l a (by omega)
  simp only [List.length_append] at h3
  obtain ⟨U, l2, rfl, hU⟩ := split_at l1 (m - a) (by omega)
  simp only [List.length_append] at h3
  obtain ⟨V, Y, rfl, hV⟩ := split_at l2 (b - m) (by omega)
  exact ⟨X, U, V, Y, by simp, hX, by omega, by omega⟩
def rotOk (l : List Cell) (a m b : Int) : Bool := decide (0 ≤ a) && decide (a < m) && decide (m < b) && decide (b ≤ l.length) && Nat.ble l.length most
def uRot1E : Entry := stE uRotRb uRotEl 48 uRotTs (fun a => some (rotOk a.1 a.2.1 a.2.2.1 a.2.2.2)) (fun a => rotX a.1 a.2.1.toNat a.2.2.1.toNat a.2.2.2.toNat)
theorem uRot1_ok : EntryOk Try.prog 63 uRot1E := stE_congr uRot_ok fun a h1 h2 hp => by
  obtain ⟨l, a, m, b⟩ := a
  have hp : rotOk l a m b = true := by cases h : rotOk l a m b <;> simp_all
  simp only [rotOk, Bool.and_eq_true, decide_eq_true_eq, Nat.ble_eq] at hp
  obtain ⟨⟨⟨⟨p1, p2⟩, p3⟩, p4⟩, p5⟩ := hp
  obtain ⟨a, rfl⟩ := Int.eq_ofNat_of_zero_le p1
  obtain ⟨m, rfl⟩ := Int.eq_ofNat_of_zero_le (show (0 : Int) ≤ m by omega)
  obtain ⟨b, rfl⟩ := Int.eq_ofNat_of_zero_le (show (0 : Int) ≤ b by omega)
  obtain ⟨X, U, V, Y, rfl, rfl, rfl, rfl⟩ := parts4 l a m b (by omega) (by omega) (by omega)
  have := rot_run X U V Y (by omega) (by omega) p5
  simp only [uRotC, uRot, Int.toNat_natCast]
  rw [this, rotX_eq]
  simp [okB, getO]
end
end Go.Proofs.Ytfejikddclgkcaa
