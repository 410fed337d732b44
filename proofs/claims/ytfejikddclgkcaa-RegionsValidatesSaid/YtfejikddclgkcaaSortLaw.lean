/-
  Stable sorting of cells by their addresses, as plain lists. Conditions: none.
-/
import Derived.Test.YtfejikddclgkcaaS3D
set_option linter.unusedVariables false
set_option linter.unusedSimpArgs false
namespace Go.Proofs.Cells
abbrev Cell := Int × Int
def flt (k : Int) (l : List Cell) : List Cell := l.filter (fun c => c.1 == k)
def Srt (l : List Cell) : Prop := l.Pairwise (fun a b => a.1 ≤ b.1)
def Sm (l l' : List Cell) : Prop := ∀ k, flt k l = flt k l'
theorem flt_app (k : Int) (a b : List Cell) : flt k (a ++ b) = flt k a ++ flt k b := List.filter_append ..
theorem flt_nil {k : Int} {l : List Cell} (h : ∀ c ∈ l, c.1 ≠ k) : flt k l = [] := by
  simp only [flt, List.filter_eq_nil_iff, beq_iff_eq]; exact h
theorem Sm.refl (l : List Cell) : Sm l l := fun _ => rfl
theorem Sm.symm {a b : List Cell} (h : Sm a b) : Sm b a := fun k => (h k).symm
theorem Sm.trans {a b c : List Cell} (h : Sm a b) (k : Sm b c) : Sm a c := fun i => (h i).trans (k i)
theorem Sm.app {a b c d : List Cell} (h : Sm a b) (k : Sm c d) : Sm (a ++ c) (b ++ d) := fun i => by rw [flt_app, flt_app, h i, k i]
theorem Sm.mem {a b : List Cell} (h : Sm a b) (x : Cell) : x ∈ a ↔ x ∈ b := by
  have e : ∀ l : List Cell, x ∈ l ↔ x ∈ flt x.1 l := fun l => by simp [flt]
  rw [e a, e b, h x.1]
theorem uniq : ∀ {l l' : List Cell}, Srt l → Srt l' → Sm l l' → l = l'
  | [], [], _, _, _ => rfl
  | [], y :: r, _, _, h => by have := h y.1; simp [flt] at this
  | x :: l, [], _, _, h => by have := h x.1; simp [flt] at this
  | x :: l, y :: r, hl, hr, h => by
    have h1 := List.pairwise_cons.1 hl
    have h2 := List.pairwise_cons.1 hr
    have hx : x ∈ y :: r := (h.mem x).1 (by simp)
    have hy : y ∈ x :: l := (h.mem y).2 (by simp)
    have e1 : y.1 ≤ x.1 := by rcases List.mem_cons.1 hx with e | e; · rw [e]; exact Int.le_refl _
                              · exact h2.1 x e
    have e2 : x.1 ≤ y.1 := by rcases List.mem_cons.1 hy with e | e; · rw [e]; exact Int.le_refl _
                              · exact h1.1 y e
    have e : x.1 = y.1 := Int.le_antisymm e2 e1
    have hxy := h x.1
    have k1 : flt x.1 (x :: l) = x :: flt x.1 l := by simp [flt]
    have k2 : flt x.1 (y :: r) = y :: flt x.1 r := by simp [flt, e]
    rw [k1, k2] at hxy
    obtain ⟨exy, _⟩ := List.cons.inj hxy
    subst exy
    have : l = r := uniq h1.2 h2.2 fun k => by
      have := h k
      by_cases hk : x.1 = k
      · subst hk; simpa [flt] using this
      · simpa [flt, hk] using this
    rw [this]
/-- x behind all that are not greater. -/
def ins (x : Cell) : List Cell → List Cell
  | [] => [x]
  | y :: r => if x.1 < y.1 then x :: y :: r else y :: ins x r
def isort (l : List Cell) : List Cell := l.foldl (fun a x => ins x a) []
theorem ins_mem {x y : Cell} : ∀ {l : List Cell}, y ∈ ins x l ↔ y = x ∨ y ∈ l
  | [] => by simp [ins]
  | z :: r => by
    simp only [ins]
    split
    · simp
    · simp only [List.mem_cons, ins_mem (l := r)]
      constructor
      · rintro (h | h | h) <;> simp [h]
      · rintro (h | h | h) <;> simp [h]
theorem ins_srt (x : Cell) : ∀ {l : List Cell}, Srt l → Srt (ins x l)
  | [], _ => by simp [ins, Srt]
  | y :: r, h => by
    have h1 := List.pairwise_cons.1 h
    simp only [ins]
    split
    · rename_i hlt
      refine List.pairwise_cons.2 ⟨fun z hz => ?_, h⟩
      rcases List.mem_cons.1 hz with e | e
      · rw [e]; omega
      · have := h1.1 z e; omega
    · refine List.pairwise_cons.2 ⟨fun z hz => ?_, ins_srt x h1.2⟩
      rcases ins_mem.1 hz with e | e
      · rw [e]; omega
      · exact h1.1 z e
theorem ins_flt (k : Int) (x : Cell) : ∀ {l : List Cell}, Srt l → flt k (ins x l) = flt k l ++ flt k [x]
  | [], _ => by simp [ins, flt]
  | y :: r, h => by
    have h1 := List.pairwise_cons.1 h
    simp only [ins]
    split
    · rename_i hlt
      by_cases hk : x.1 = k
      · have : flt k (y :: r) = [] := flt_nil fun c hc => by
          rcases List.mem_cons.1 hc with e | e
          · rw [e]; omega
          · have := h1.1 c e; omega
        have e : flt k (x :: y :: r) = flt k [x] ++ flt k (y :: r) := flt_app k [x] (y :: r)
        rw [e, this]; simp
      · have e1 : flt k [x] = [] := flt_nil fun c hc => by simp at hc; rw [hc]; exact hk
        have e : flt k (x :: y :: r) = flt k [x] ++ flt k (y :: r) := flt_app k [x] (y :: r)
        rw [e, e1]; simp
    · have e : ∀ t, flt k (y :: t) = flt k [y] ++ flt k t := fun t => flt_app k [y] t
      rw [e, e r, ins_flt k x h1.2, List.append_assoc]
theorem isort_snoc (l : List Cell) (x : Cell) : isort (l ++ [x]) = ins x (isort l) := by simp [isort]
theorem fold_srt : ∀ (l acc : List Cell), Srt acc → Srt (l.foldl (fun a x => ins x a) acc)
  | [], _, h => h
  | x :: l, acc, h => fold_srt l (ins x acc) (ins_srt x h)
theorem fold_flt (k : Int) : ∀ (l acc : List Cell), Srt acc → flt k (l.foldl (fun a x => ins x a) acc) = flt k acc ++ flt k l
  | [], acc, _ => by simp [flt]
  | x :: l, acc, h => by
    have e : flt k (x :: l) = flt k [x] ++ flt k l := flt_app k [x] l
    rw [List.foldl_cons, fold_flt k l _ (ins_srt x h), ins_flt k x h, e, List.append_assoc]
theorem isort_srt (l : List Cell) : Srt (isort l) := fold_srt l [] List.Pairwise.nil
theorem isort_sm (l : List Cell) : Sm (isort l) l := fun k => by rw [isort, fold_flt k l [] List.Pairwise.nil]; rfl
theorem isort_eq {l l' : List Cell} (h1 : Srt l') (h2 : Sm l' l) : isort l = l' := uniq (isort_srt l) h1 ((isort_sm l).trans h2.symm)
theorem isort_mem {l : List Cell} {x : Cell} : x ∈ isort l ↔ x ∈ l := (isort_sm l).mem x
theorem isort_same {l : List Cell} (h : Srt l) : isort l = l := isort_eq h (Sm.refl l)
theorem isort_congr {l l' : List Cell} (h : Sm l l') : isort l = isort l' := isort_eq (isort_srt l') ((isort_sm l').trans h.symm)
theorem isort_app {a b : List Cell} (h : ∀ x ∈ a, ∀ y ∈ b, x.1 ≤ y.1) : isort (a ++ b) = isort a ++ isort b :=
  isort_eq (List.pairwise_append.2 ⟨isort_srt a, isort_srt b, fun x hx y hy => h x (isort_mem.1 hx) y (isort_mem.1 hy)⟩) ((isort_sm a).app (isort_sm b))
theorem isort_both (a b : List Cell) : isort (isort a ++ isort b) = isort (a ++ b) := isort_congr ((isort_sm a).app (isort_sm b))
/-- Blocks without a common address can be exchanged. -/
theorem Sm.swap {u v : List Cell} (h : ∀ x ∈ u, ∀ y ∈ v, x.1 ≠ y.1) (a b : List Cell) : Sm (a ++ u ++ v ++ b) (a ++ v ++ u ++ b) := by
  have : Sm (u ++ v) (v ++ u) := fun k => by
    rw [flt_app, flt_app]
    by_cases hu : flt k u = []
    · simp [hu]
    · have : flt k v = [] := flt_nil fun y hy e => by
        apply hu
        refine flt_nil fun x hx e' => h x hx y hy (by rw [e, e'])
      simp [this]
  rw [List.append_assoc a u v, List.append_assoc a v u]
  exact ((Sm.refl a).app this).app (Sm.refl b)
/-- What the merging by symmetric comparisons rests on: u1 u2 and v1 v2 sorted, v1 below u2, u1 not above v2. -/
theorem sym_law {u1 u2 v1 v2 : List Cell} (h12 : ∀ x ∈ u2, ∀ y ∈ v1, y.1 < x.1) (h1 : ∀ x ∈ u1, ∀ y ∈ v2, x.1 ≤ y.1) (hu : ∀ x ∈ u1, ∀ y ∈ u2, x.1 ≤ y.1) (hv : ∀ x ∈ v1, ∀ y ∈ v2, x.1 ≤ y.1) :
    isort (u1 ++ u2 ++ v1 ++ v2) = isort (u1 ++ v1) ++ isort (u2 ++ v2) := by
  rw [isort_congr (Sm.swap (fun x hx y hy => by have := h12 x hx y hy; omega) u1 v2)]
  rw [List.append_assoc (u1 ++ v1) u2 v2]
  refine isort_app fun x hx y hy => ?_
  rcases List.mem_append.1 hx with hx | hx <;> rcases List.mem_append.1 hy with hy | hy
  · exact hu x hx y hy
  · exact h1 x hx y hy
  · have := h12 y hy x hx; omega
  · exact hv x hx y hy
end Go.Proofs.Cells
