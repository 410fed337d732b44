/-
  Memories as lists of cells: the byte at an address, valid lists, the memory of a list. Conditions: none.
-/
import Derived.Test.YtfejikddclgkcaaSortLaw
set_option linter.unusedVariables false
set_option linter.unusedSimpArgs false
namespace Go.Proofs.Cells
/-- The byte at an address: that of the last cell. -/
def getX (l : List Cell) (a : Int) : Int := ((flt a l).getLast?.map Prod.snd).getD 0
def Vld (m : List Cell) : Prop := m.Pairwise (fun a b => a.1 < b.1) ∧ ∀ c ∈ m, c.2 ≠ 0
theorem getX_congr {l l' : List Cell} (h : Sm l l') (a : Int) : getX l a = getX l' a := by rw [getX, getX, h a]
theorem Vld.srt {m : List Cell} (h : Vld m) : Srt m := h.1.imp fun h => Int.le_of_lt h
theorem Vld.tail {c : Cell} {m : List Cell} (h : Vld (c :: m)) : Vld m := ⟨(List.pairwise_cons.1 h.1).2, fun x hx => h.2 x (List.mem_cons_of_mem _ hx)⟩
theorem getX_nil (a : Int) : getX [] a = 0 := rfl
theorem flt_cons (a : Int) (c : Cell) (l : List Cell) : flt a (c :: l) = if c.1 = a then c :: flt a l else flt a l := by
  by_cases h : c.1 = a <;> simp [flt, h]
theorem getX_cons (c : Cell) (l : List Cell) (a : Int) : getX (c :: l) a = if c.1 = a ∧ flt a l = [] then c.2 else getX l a := by
  simp only [getX, flt_cons]
  by_cases h : c.1 = a
  · simp only [h, if_true, true_and]
    cases hf : flt a l with
    | nil => simp
    | cons x r => simp [List.getLast?_cons_cons]
  · simp [h]
theorem Vld.flt {m : List Cell} (h : Vld m) (a : Int) : Cells.flt a m = if getX m a = 0 then [] else [(a, getX m a)] := by
  induction m with
  | nil => simp [Cells.flt, getX_nil]
  | cons c m ih =>
    have ih := ih h.tail
    have h1 := List.pairwise_cons.1 h.1
    by_cases hc : c.1 = a
    · have hn : Cells.flt a m = [] := flt_nil fun x hx => by have := h1.1 x hx; omega
      have hz := h.2 c (by simp)
      rw [flt_cons, getX_cons]
      simp only [hc, hn, and_self, if_true, hz, if_false]
      rw [← hc]
    · rw [flt_cons, getX_cons]
      simp only [hc, false_and, if_false, ih]
theorem vld_ext {m m' : List Cell} (h : Vld m) (h' : Vld m') (e : ∀ a, getX m a = getX m' a) : m = m' :=
  uniq h.srt h'.srt fun k => by rw [h.flt, h'.flt, e k]
/-- Of sorted cells: the last one of each address, where it is not zero. -/
def dd : List Cell → List Cell
  | [] => []
  | x :: r => match r with
    | [] => if x.2 = 0 then [] else [x]
    | y :: _ => if x.1 = y.1 then dd r else if x.2 = 0 then dd r else x :: dd r
theorem dd_sub : ∀ {l : List Cell} {c : Cell}, c ∈ dd l → c ∈ l ∧ c.2 ≠ 0
  | [], c, h => by simp [dd] at h
  | [x], c, h => by
    simp only [dd] at h
    split at h
    · simp at h
    · rename_i hz; simp at h; subst h; exact ⟨by simp, hz⟩
  | x :: y :: r, c, h => by
    rw [dd] at h
    split at h
    · have := dd_sub h; exact ⟨List.mem_cons_of_mem _ this.1, this.2⟩
    · split at h
      · have := dd_sub h; exact ⟨List.mem_cons_of_mem _ this.1, this.2⟩
      · rename_i hz
        rcases List.mem_cons.1 h with e | e
        · subst e; exact ⟨by simp, hz⟩
        · have := dd_sub e; exact ⟨List.mem_cons_of_mem _ this.1, this.2⟩
theorem dd_vld : ∀ {l : List Cell}, Srt l → Vld (dd l)
  | [], _ => ⟨List.Pairwise.nil, fun c h => by simp [dd] at h⟩
  | [x], _ => by
    refine ⟨?_, fun c h => (dd_sub h).2⟩
    simp only [dd]; split <;> simp
  | x :: y :: r, h => by
    have h1 := List.pairwise_cons.1 h
    have ih := dd_vld (l := y :: r) h1.2
    have h2 := List.pairwise_cons.1 h1.2
    rw [dd]
    split
    · exact ih
    · rename_i hne
      split
      · exact ih
      · rename_i hz
        refine ⟨List.pairwise_cons.2 ⟨fun c hc => ?_, ih.1⟩, fun c hc => ?_⟩
        · have hxy := h1.1 y (by simp)
          rcases List.mem_cons.1 (dd_sub hc).1 with e | e
          · rw [e]; omega
          · have := h2.1 c e; omega
        · rcases List.mem_cons.1 hc with e | e
          · rw [e]; exact hz
          · exact ih.2 c e
theorem dd_get : ∀ {l : List Cell}, Srt l → ∀ a, getX (dd l) a = getX l a
  | [], _, _ => rfl
  | [x], _, a => by
    simp only [dd]
    split
    · rename_i hz; rw [getX_cons]; simp [flt, getX, hz]
    · rfl
  | x :: y :: r, h, a => by
    have h1 := List.pairwise_cons.1 h
    have ih := dd_get (l := y :: r) h1.2 a
    have h2 := List.pairwise_cons.1 h1.2
    rw [dd, getX_cons x (y :: r)]
    by_cases hxy : x.1 = y.1
    · rw [if_pos hxy, ih]
      by_cases hc : x.1 = a ∧ flt a (y :: r) = []
      · obtain ⟨e, e2⟩ := hc
        rw [flt_cons, if_pos (by rw [← hxy]; exact e)] at e2; simp at e2
      · rw [if_neg hc]
    · rw [if_neg hxy]
      have hlt : ∀ c ∈ y :: r, x.1 < c.1 := fun c hc => by
        have := h1.1 y (by simp)
        rcases List.mem_cons.1 hc with e | e
        · rw [e]; omega
        · have := h2.1 c e; omega
      by_cases hc : x.1 = a
      · have hn : flt a (y :: r) = [] := flt_nil fun c hc' => by have := hlt c hc'; omega
        have hn2 : flt a (dd (y :: r)) = [] := flt_nil fun c hc' => by have := hlt c (dd_sub hc').1; omega
        by_cases hz : x.2 = 0
        · rw [if_pos hz, if_pos ⟨hc, hn⟩, hz, getX, hn2]; rfl
        · rw [if_neg hz, if_pos ⟨hc, hn⟩, getX_cons, if_pos ⟨hc, hn2⟩]
      · by_cases hz : x.2 = 0
        · rw [if_pos hz, if_neg (fun h => hc h.1), ih]
        · rw [if_neg hz, if_neg (fun h => hc h.1), getX_cons, if_neg (fun h => hc h.1), ih]
/-- A memory with another byte. -/
def putX : List Cell → Cell → List Cell
  | [], c => if c.2 = 0 then [] else [c]
  | x :: r, c => if x.1 < c.1 then x :: putX r c else if c.2 = 0 then (if x.1 = c.1 then r else x :: r) else if x.1 = c.1 then c :: r else c :: x :: r
theorem putX_sub : ∀ {m : List Cell} {c x : Cell}, x ∈ putX m c → x = c ∨ x ∈ m
  | [], c, x, h => by
    simp only [putX] at h
    split at h
    · simp at h
    · left; simpa using h
  | y :: r, c, x, h => by
    simp only [putX] at h
    split at h
    · rcases List.mem_cons.1 h with e | e
      · right; simp [e]
      · rcases putX_sub e with e | e
        · exact .inl e
        · right; simp [e]
    · split at h
      · split at h
        · right; simp [h]
        · right; exact h
      · split at h
        · rcases List.mem_cons.1 h with e | e
          · exact .inl e
          · right; simp [e]
        · rcases List.mem_cons.1 h with e | e
          · exact .inl e
          · right; exact e
theorem putX_vld : ∀ {m : List Cell} {c : Cell}, Vld m → Vld (putX m c)
  | [], c, _ => by
    simp only [putX]
    split
    · exact ⟨List.Pairwise.nil, fun c h => by simp at h⟩
    · rename_i hz; exact ⟨by simp, fun x h => by simp at h; rw [h]; exact hz⟩
  | y :: r, c, h => by
    have h1 := List.pairwise_cons.1 h.1
    have hy := h.2 y (by simp)
    simp only [putX]
    split
    · rename_i hlt
      have ih := putX_vld (c := c) h.tail
      refine ⟨List.pairwise_cons.2 ⟨fun x hx => ?_, ih.1⟩, fun x hx => ?_⟩
      · rcases putX_sub hx with e | e
        · rw [e]; exact hlt
        · exact h1.1 x e
      · rcases List.mem_cons.1 hx with e | e
        · rw [e]; exact hy
        · exact ih.2 x e
    · rename_i hge
      split
      · split
        · exact h.tail
        · exact h
      · rename_i hz
        split
        · rename_i he
          refine ⟨List.pairwise_cons.2 ⟨fun x hx => ?_, h1.2⟩, fun x hx => ?_⟩
          · have := h1.1 x hx; omega
          · rcases List.mem_cons.1 hx with e | e
            · rw [e]; exact hz
            · exact h.2 x (List.mem_cons_of_mem _ e)
        · rename_i hne
          refine ⟨List.pairwise_cons.2 ⟨fun x hx => ?_, h.1⟩, fun x hx => ?_⟩
          · rcases List.mem_cons.1 hx with e | e
            · rw [e]; omega
            · have := h1.1 x e; omega
          · rcases List.mem_cons.1 hx with e | e
            · rw [e]; exact hz
            · exact h.2 x e
theorem getX_out {l : List Cell} {a : Int} (h : ∀ c ∈ l, c.1 ≠ a) : getX l a = 0 := by rw [getX, flt_nil h]; rfl
theorem vcons_get {x : Cell} {r : List Cell} (h : ∀ c ∈ r, x.1 < c.1) (a : Int) : getX (x :: r) a = if x.1 = a then x.2 else getX r a := by
  rw [getX_cons]
  by_cases hx : x.1 = a
  · have : flt a r = [] := flt_nil fun c hc => by have := h c hc; omega
    simp [hx, this]
  · simp [hx]
theorem putX_get : ∀ {m : List Cell} {c : Cell}, Vld m → ∀ a, getX (putX m c) a = if c.1 = a then c.2 else getX m a
  | [], c, _, a => by
    simp only [putX]
    split
    · rename_i hz; rw [getX_nil, hz]; simp
    · rw [vcons_get (by simp)]
  | y :: r, c, h, a => by
    have h1 := List.pairwise_cons.1 h.1
    simp only [putX]
    split
    · rename_i hlt
      rw [vcons_get (fun x hx => by
        rcases putX_sub hx with e | e
        · rw [e]; exact hlt
        · exact h1.1 x e), vcons_get h1.1, putX_get h.tail a]
      by_cases e1 : y.1 = a
      · simp only [e1, if_true]; rw [if_neg (by omega)]
      · simp [e1]
    · rename_i hge
      split
      · rename_i hz
        split
        · rename_i he
          rw [vcons_get h1.1]
          by_cases e : c.1 = a
          · rw [if_pos e, hz]
            exact getX_out fun x hx => by have := h1.1 x hx; omega
          · rw [if_neg e, if_neg (by omega)]
        · rename_i hne
          by_cases e : c.1 = a
          · rw [if_pos e, hz]
            exact getX_out fun x hx => by
              rcases List.mem_cons.1 hx with e' | e'
              · rw [e']; omega
              · have := h1.1 x e'; omega
          · rw [if_neg e]
      · split
        · rename_i he
          rw [vcons_get (fun x hx => by have := h1.1 x hx; omega), vcons_get h1.1]
          by_cases e : c.1 = a
          · simp [e]
          · rw [if_neg e, if_neg e, if_neg (by omega)]
        · rename_i hne
          rw [vcons_get (fun x hx => by
            rcases List.mem_cons.1 hx with e | e
            · rw [e]; omega
            · have := h1.1 x e; omega)]
/-- The memory of a list. -/
def normX (l : List Cell) : List Cell := l.foldl putX []
theorem getX_snoc (l : List Cell) (c : Cell) (a : Int) : getX (l ++ [c]) a = if c.1 = a then c.2 else getX l a := by
  rw [getX, getX, flt_app]
  by_cases h : c.1 = a
  · have : flt a [c] = [c] := by simp [flt, h]
    rw [this, List.getLast?_append]; simp [h]
  · have : flt a [c] = [] := flt_nil fun x hx => by simp at hx; rw [hx]; exact h
    rw [this]; simp [h]
theorem fold_norm : ∀ (l : List Cell) {m : List Cell}, Vld m → Vld (l.foldl putX m) ∧ ∀ a, getX (l.foldl putX m) a = getX (m ++ l) a
  | [], m, h => ⟨h, fun a => by simp⟩
  | c :: l, m, h => by
    obtain ⟨h1, h2⟩ := fold_norm l (putX_vld (c := c) h)
    refine ⟨h1, fun a => ?_⟩
    rw [List.foldl_cons, h2 a]
    have e : m ++ c :: l = (m ++ [c]) ++ l := by simp
    rw [e]
    have key : ∀ {p q : List Cell}, (∀ b, getX p b = getX q b) → ∀ l b, getX (p ++ l) b = getX (q ++ l) b := by
      intro p q hpq l b
      simp only [getX, flt_app, List.getLast?_append]
      cases hl : (flt b l).getLast? with
      | none => simpa [getX] using hpq b
      | some x => simp
    exact key (fun b => by rw [putX_get h, getX_snoc]) l a
theorem normX_vld (l : List Cell) : Vld (normX l) := (fold_norm l ⟨List.Pairwise.nil, fun c h => by simp at h⟩).1
theorem normX_get (l : List Cell) (a : Int) : getX (normX l) a = getX l a := (fold_norm l ⟨List.Pairwise.nil, fun c h => by simp at h⟩).2 a
theorem normX_eq {l m : List Cell} (h : Vld m) (e : ∀ a, getX m a = getX l a) : normX l = m := vld_ext (normX_vld l) h fun a => by rw [normX_get, e]
theorem normX_same {m : List Cell} (h : Vld m) : normX m = m := normX_eq h fun _ => rfl
theorem normX_sort (l : List Cell) : dd (isort l) = normX l :=
  (normX_eq (dd_vld (isort_srt l)) fun a => by rw [dd_get (isort_srt l), getX_congr (isort_sm l)]).symm
end Go.Proofs.Cells
