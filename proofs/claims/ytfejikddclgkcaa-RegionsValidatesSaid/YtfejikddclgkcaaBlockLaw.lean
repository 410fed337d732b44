/-
  Exchanges and rotations of blocks of a list; insertion. Conditions: none.
-/
import Derived.Test.YtfejikddclgkcaaSortLaw
set_option linter.unusedVariables false
set_option linter.unusedSimpArgs false
open Go.S3
namespace Go.Proofs.Cells
theorem get_mid {r : R} (X : List r.den) (x : r.den) (Y : List r.den) (i : Int) (h : i = X.length) : R.get r (X ++ x :: Y) i = x := by
  subst h; simp [R.get, List.getD_eq_getElem?_getD]
theorem set_mid {α : Type} (X : List α) (x y : α) (Y : List α) (i : Int) (h : i = X.length) : setI (X ++ x :: Y) i y = X ++ y :: Y := by
  subst h; simp [setI]
theorem swap_mid {α : Type} (X : List α) (p q : α) (M Y : List α) (i j : Int) (hi : i = X.length) (hj : j = X.length + 1 + M.length) :
    setI (setI (X ++ p :: (M ++ q :: Y)) i q) j p = X ++ q :: (M ++ p :: Y) := by
  rw [set_mid X p q _ i hi]
  have e : X ++ q :: (M ++ q :: Y) = (X ++ q :: M) ++ q :: Y := by simp
  rw [e, set_mid (X ++ q :: M) q p Y j (by simp; omega)]; simp
theorem swap_mid' {α : Type} (X : List α) (p q : α) (M Y : List α) (i j : Int) (hi : i = X.length) (hj : j = X.length + 1 + M.length) :
    setI (setI (X ++ p :: (M ++ q :: Y)) j p) i q = X ++ q :: (M ++ p :: Y) := by
  have e : X ++ p :: (M ++ q :: Y) = (X ++ p :: M) ++ q :: Y := by simp
  rw [e, set_mid (X ++ p :: M) q p Y j (by simp; omega)]
  have e : (X ++ p :: M) ++ p :: Y = X ++ p :: (M ++ p :: Y) := by simp
  rw [e, set_mid X p q _ i hi]
/-- x, taken back over all that are greater. -/
theorem ins_mid (x : Cell) : ∀ (P Q : List Cell), (∀ y ∈ P, y.1 ≤ x.1) → (∀ y ∈ Q, x.1 < y.1) → ins x (P ++ Q) = P ++ x :: Q
  | [], [], _, _ => rfl
  | [], q :: Q, _, h => by simp [ins, h q (by simp)]
  | p :: P, Q, h1, h2 => by
    have := h1 p (by simp)
    simp only [List.cons_append, ins]
    rw [if_neg (by omega), ins_mid x P Q (fun y hy => h1 y (by simp [hy])) h2]
theorem split_at {α : Type} (l : List α) (n : Nat) (h : n ≤ l.length) : ∃ a b, l = a ++ b ∧ a.length = n := ⟨l.take n, l.drop n, (List.take_append_drop n l).symm, by simp; omega⟩
end Go.Proofs.Cells
