/-
  Memories: the reference's functions, and the program's test and normal form, as plain functions. Conditions: none.
-/
import Derived.Test.YtfejikddclgkcaaMem2
import Derived.Test.YtfejikddclgkcaaNormLaw
open Go Go.S3 Go.Proofs Go.Proofs.Cells
set_option linter.unusedVariables false
set_option linter.unusedSimpArgs false
set_option maxRecDepth 100000
namespace Go.Proofs.Ytfejikddclgkcaa
noncomputable section
abbrev RegionT := Int × Int × Bool × Int
theorem drop_el (l : List Cell) (i : Nat) (h : i < l.length) : l.drop i = el l i :: l.drop (i + 1) := by
  rw [List.drop_eq_getElem_cons h]
  have := el_get l i h
  rw [List.getElem?_eq_getElem h, Option.some.injEq] at this
  rw [this]
theorem take_el (l : List Cell) (i : Nat) (h : i < l.length) : l.take (i + 1) = l.take i ++ [el l i] := by
  rw [List.take_add_one, el_get l i h]; rfl
theorem el_mem (l : List Cell) (i : Nat) (h : i < l.length) : el l i ∈ l := List.mem_iff_getElem?.2 ⟨i, el_get l i h⟩
/-! ### valid lists -/
def okAt (m : List Cell) (i : Nat) : Bool := !((el m i).2 == 0 || (decide ((i : Int) > 0) && decide ((el m i).1 ≤ (el m (i - 1)).1)))
def vldB (m : List Cell) : Bool := (List.range m.length).all (okAt m)
theorem vldB_false {m : List Cell} {i : Nat} (hi : i < m.length) (h : okAt m i = false) : vldB m = false := by
  rw [Bool.eq_false_iff]; intro he
  have := List.all_eq_true.1 he i (List.mem_range.2 hi)
  rw [h] at this; exact absurd this (by simp)
theorem vldB_true {m : List Cell} (h : ∀ i, i < m.length → okAt m i = true) : vldB m = true := List.all_eq_true.2 fun i hi => h i (List.mem_range.1 hi)
theorem vldB_iff {m : List Cell} : vldB m = true ↔ Vld m := by
  constructor
  · intro h
    have ha : ∀ i, i < m.length → okAt m i = true := fun i hi => List.all_eq_true.1 h i (List.mem_range.2 hi)
    have hs : ∀ i, i + 1 < m.length → (el m i).1 < (el m (i + 1)).1 := fun i hi => by
      have := ha (i + 1) hi
      simp only [okAt, Bool.not_eq_true', Bool.or_eq_false_iff, Bool.and_eq_false_iff, decide_eq_false_iff_not, Nat.add_sub_cancel] at this
      rcases this.2 with e | e
      · omega
      · omega
    refine ⟨?_, fun c hc => ?_⟩
    · rw [List.pairwise_iff_getElem]
      have key : ∀ d i, i + d + 1 < m.length → (el m i).1 < (el m (i + d + 1)).1 := by
        intro d
        induction d with
        | zero => intro i hi; exact hs i hi
        | succ d ih => intro i hi; have h1 := ih i (by omega); have h2 := hs (i + d + 1) (by omega); rw [show i + (d + 1) + 1 = i + d + 1 + 1 by omega]; omega
      intro i j hi hj hij
      have := key (j - i - 1) i (by omega)
      rw [show i + (j - i - 1) + 1 = j by omega] at this
      have e1 := el_get m i hi
      have e2 := el_get m j hj
      rw [List.getElem?_eq_getElem hi, Option.some.injEq] at e1
      rw [List.getElem?_eq_getElem hj, Option.some.injEq] at e2
      rw [e1, e2]; exact this
    · obtain ⟨i, hi⟩ := List.mem_iff_getElem?.1 hc
      have hlt := (List.getElem?_eq_some_iff.1 hi).1
      rw [el_get m i hlt, Option.some.injEq] at hi
      have := ha i hlt
      rw [← hi]
      simp only [okAt, Bool.not_eq_true', Bool.or_eq_false_iff, beq_eq_false_iff_ne] at this
      exact this.1
  · intro h
    refine vldB_true fun i hi => ?_
    simp only [okAt, Bool.not_eq_true', Bool.or_eq_false_iff, beq_eq_false_iff_ne, Bool.and_eq_false_iff, decide_eq_false_iff_not]
    refine ⟨h.2 _ (el_mem m i hi), ?_⟩
    by_cases h0 : i = 0
    · left; omega
    · right
      have := List.pairwise_iff_getElem.1 h.1 (i - 1) i (by omega) hi (by omega)
      have e1 := el_get m (i - 1) (by omega)
      have e2 := el_get m i hi
      rw [List.getElem?_eq_getElem (by omega), Option.some.injEq] at e1
      rw [List.getElem?_eq_getElem hi, Option.some.injEq] at e2
      rw [e1, e2] at this; omega
theorem wsub1 (i : Nat) (h : 0 < i) (h2 : i ≤ 4611686018427387904) : IntKind.wrap .i64 ((i : Int) - 1) = ((i - 1 : Nat) : Int) := by rw [wrap_i64 _ (by omega) (by omega)]; omega
theorem okAt_eq (m : List Cell) (i : Nat) : ((el m i).2 == 0 || (decide ((i : Int) > 0) && decide ((el m i).1 ≤ (el m (i - 1)).1))) = !okAt m i := by simp only [okAt, Bool.not_not]
theorem rng_false {α : Type} (l : List α) (i : Nat) (h : i < l.length) : (!inRng (i : Int) l.length) = false := by rw [rng_nat l i h]; rfl
theorem mvalid_run (m : List Cell) (hm : m.length ≤ most) : (mValidT m).val = some (vldB m) := by
  have hms := mst
  obtain ⟨r, hr, hR⟩ := runF_ind (fl := true) (t := mValidL0T) (fuel := fun a => 1000000000000)
    (I := fun a => ∃ i : Nat, i ≤ m.length ∧ (∀ k, k < i → okAt m k = true) ∧ a = (m, false, m, (m.length : Int), (i : Int), ()))
    (m := fun a => Int.toNat (a.2.2.2.1 - a.2.2.2.2.1)) (R := fun r => (r.1 = false ∧ vldB m = true) ∨ (r.1 = true ∧ vldB m = false ∧ r.2.2.1 = false))
    (fun a hi => by
      obtain ⟨i, hi, hk, rfl⟩ := hi
      by_cases hlt : i < m.length
      · have d : decide ((i : Int) < (m.length : Int)) = true := by simpa using hlt
        have r1 := rng_nat m i hlt
        have hw : decide ((i : Int) > 0) = true → inRng (IntKind.wrap .i64 ((i : Int) - 1)) m.length = true ∧ IntKind.wrap .i64 ((i : Int) - 1) = ((i - 1 : Nat) : Int) := fun h => by
          simp only [decide_eq_true_eq] at h
          have e := wsub1 i (by omega) (by omega)
          exact ⟨by rw [e]; exact rng_nat m (i - 1) (by omega), e⟩
        have hck : ((el m i).2 == 0 || (!decide ((i : Int) > 0) || inRng (IntKind.wrap .i64 ((i : Int) - 1)) m.length)) = true := by
          cases h : decide ((i : Int) > 0) with
          | false => simp
          | true => rw [(hw h).1]; simp
        have hcd : ((el m i).2 == 0 || (decide ((i : Int) > 0) && decide ((el m i).1 ≤ (R.get CR m (IntKind.wrap .i64 ((i : Int) - 1))).1))) = !okAt m i := by
          rw [← okAt_eq]
          cases h : decide ((i : Int) > 0) with
          | false => simp
          | true => rw [(hw h).2, get_el]
        cases ho : okAt m i with
        | true =>
          left
          refine ⟨(m, false, m, (m.length : Int), ((i + 1 : Nat) : Int), ()), ?_, ⟨i + 1, hlt, fun k hk' => ?_, rfl⟩, by simp only; omega⟩
          · rw [ho] at hcd
            simp only [mValidL0T, RT.val, d, r1, get_el, hck, hcd, Bool.not_true, Bool.false_or, cond_true, cond_false, wadd1 i (by omega)]
          · by_cases e : k = i
            · subst e; exact ho
            · exact hk k (by omega)
        | false =>
          right; right
          refine ⟨(m, false, m, (m.length : Int), (i : Int), ()), rfl, ?_, .inr ⟨rfl, vldB_false hlt ho, rfl⟩⟩
          rw [ho] at hcd
          simp only [mValidL0T, RT.val, d, r1, get_el, hck, hcd, Bool.not_true, Bool.not_false, Bool.false_or, cond_true, cond_false]
      · right; left
        have d : decide ((i : Int) < (m.length : Int)) = false := by simpa using hlt
        exact ⟨(m, false, m, (m.length : Int), (i : Int), ()), by simp only [mValidL0T, RT.val, d, cond_false], .inl ⟨rfl, vldB_true fun k hk' => hk k (by omega)⟩⟩)
    (m, false, m, (m.length : Int), 0, ()) ⟨0, Nat.zero_le _, fun k h => by omega, rfl⟩ (by simp only; omega)
  have hr' : runF true mValidL0T (fun a => 1000000000000) (m, false, m, iN m.length, 0, ()) = some r := hr
  rcases hR with ⟨h1, h2⟩ | ⟨h1, h2, h3⟩
  · simp only [mValidT, RT.val, hr', okB, getO, cond_true, h1, cond_false, h2]
  · simp only [mValidT, RT.val, hr', okB, getO, cond_true, h1, h2, h3]
theorem rvalid_run (m : List Cell) (hm : m.length ≤ most) : (rValidT m).val = some (vldB m) := by
  have hms := mst
  obtain ⟨r, hr, hR⟩ := runF_ind (fl := true) (t := rValidL0T) (fuel := fun a => 1000000000000)
    (I := fun a => ∃ i : Nat, i ≤ m.length ∧ (∀ k, k < i → okAt m k = true) ∧ a = (m, false, (m.length : Int), (i : Int), ()))
    (m := fun a => Int.toNat (a.2.2.1 - a.2.2.2.1)) (R := fun r => (r.1 = false ∧ vldB m = true) ∨ (r.1 = true ∧ vldB m = false ∧ r.2.2.1 = false))
    (fun a hi => by
      obtain ⟨i, hi, hk, rfl⟩ := hi
      by_cases hlt : i < m.length
      · have d : decide ((i : Int) < (m.length : Int)) = true := by simpa using hlt
        have r1 := rng_nat m i hlt
        have hw : decide ((i : Int) > 0) = true → inRng (IntKind.wrap .i64 ((i : Int) - 1)) m.length = true ∧ IntKind.wrap .i64 ((i : Int) - 1) = ((i - 1 : Nat) : Int) := fun h => by
          simp only [decide_eq_true_eq] at h
          have e := wsub1 i (by omega) (by omega)
          exact ⟨by rw [e]; exact rng_nat m (i - 1) (by omega), e⟩
        have hck : ((el m i).2 == 0 || (!decide ((i : Int) > 0) || inRng (IntKind.wrap .i64 ((i : Int) - 1)) m.length)) = true := by
          cases h : decide ((i : Int) > 0) with
          | false => simp
          | true => rw [(hw h).1]; simp
        have hcd : ((el m i).2 == 0 || (decide ((i : Int) > 0) && decide ((el m i).1 ≤ (R.get CR m (IntKind.wrap .i64 ((i : Int) - 1))).1))) = !okAt m i := by
          rw [← okAt_eq]
          cases h : decide ((i : Int) > 0) with
          | false => simp
          | true => rw [(hw h).2, get_el]
        cases ho : okAt m i with
        | true =>
          left
          refine ⟨(m, false, (m.length : Int), ((i + 1 : Nat) : Int), ()), ?_, ⟨i + 1, hlt, fun k hk' => ?_, rfl⟩, by simp only; omega⟩
          · rw [ho] at hcd
            simp only [rValidL0T, RT.val, d, r1, get_el, hck, hcd, Bool.not_true, Bool.false_or, Bool.or_true, cond_true, cond_false, wadd1 i (by omega)]
          · by_cases e : k = i
            · subst e; exact ho
            · exact hk k (by omega)
        | false =>
          right; right
          refine ⟨(m, false, (m.length : Int), (i : Int), ()), rfl, ?_, .inr ⟨rfl, vldB_false hlt ho, rfl⟩⟩
          rw [ho] at hcd
          simp only [rValidL0T, RT.val, d, r1, get_el, hck, hcd, Bool.not_true, Bool.not_false, Bool.false_or, Bool.or_true, cond_true, cond_false]
      · right; left
        have d : decide ((i : Int) < (m.length : Int)) = false := by simpa using hlt
        exact ⟨(m, false, (m.length : Int), (i : Int), ()), by simp only [rValidL0T, RT.val, d, cond_false], .inl ⟨rfl, vldB_true fun k hk' => hk k (by omega)⟩⟩)
    (m, false, (m.length : Int), 0, ()) ⟨0, Nat.zero_le _, fun k h => by omega, rfl⟩ (by simp only; omega)
  have hr' : runF true rValidL0T (fun a => 1000000000000) (m, false, iN m.length, 0, ()) = some r := hr
  rcases hR with ⟨h1, h2⟩ | ⟨h1, h2, h3⟩
  · simp only [rValidT, RT.val, hr', okB, getO, cond_true, h1, cond_false, h2]
  · simp only [rValidT, RT.val, hr', okB, getO, cond_true, h1, h2, h3]
/-! ### the byte at an address -/
theorem getX_at {m : List Cell} {t : Int} {i : Nat} (hi : i < m.length) (he : (el m i).1 = t) (hk : ∀ k, i < k → k < m.length → (el m k).1 ≠ t) : getX m t = (el m i).2 := by
  have e : m = m.take i ++ [el m i] ++ m.drop (i + 1) := by rw [List.append_assoc, List.singleton_append, ← drop_el m i hi, List.take_append_drop]
  have h0 : flt t (m.drop (i + 1)) = [] := flt_nil fun c hc => by
    obtain ⟨k, h1, h2, rfl⟩ := mem_drop hc
    exact hk k (by omega) h2
  have h1 : flt t [el m i] = [el m i] := by simp [flt, he]
  have h2 : flt t m = flt t (m.take i) ++ [el m i] := by
    conv => lhs; rw [e, flt_app, flt_app, h0, h1, List.append_nil]
  rw [getX, h2, List.getLast?_append]; simp
theorem rget_run (m : List Cell) (t : Int) (hm : m.length ≤ most) : (rGetMT m t).val = some (getX m t) := by
  have hms := mst
  obtain ⟨r, hr, hR⟩ := runF_ind (fl := true) (t := rGetML0T) (fuel := fun a => 1000000000000)
    (I := fun a => ∃ i : Nat, i ≤ m.length ∧ (∀ k, i ≤ k → k < m.length → (el m k).1 ≠ t) ∧ a = (m, t, 0, (i : Int) - 1, ()))
    (m := fun a => Int.toNat (a.2.2.2.1 + 1)) (R := fun r => (r.1 = false ∧ getX m t = 0) ∨ (r.1 = true ∧ r.2.2.2.1 = getX m t))
    (fun a hi => by
      obtain ⟨i, hi, hk, rfl⟩ := hi
      cases i with
      | zero =>
        right; left
        refine ⟨(m, t, 0, ((0 : Nat) : Int) - 1, ()), by simp [rGetML0T, RT.val], .inl ⟨rfl, getX_out fun c hc => ?_⟩⟩
        obtain ⟨k, hk'⟩ := List.mem_iff_getElem?.1 hc
        have hlt := (List.getElem?_eq_some_iff.1 hk').1
        rw [el_get m k hlt, Option.some.injEq] at hk'
        rw [← hk']; exact hk k (Nat.zero_le _) hlt
      | succ i =>
        have ei : ((i + 1 : Nat) : Int) - 1 = (i : Int) := by omega
        rw [ei]
        have d : decide ((i : Int) ≥ 0) = true := by simp
        have r1 := rng_nat m i (by omega)
        cases he : ((el m i).1 == t) with
        | true =>
          right; right
          refine ⟨(m, t, (el m i).2, (i : Int), ()), rfl, by simp only [rGetML0T, RT.val, d, r1, get_el, he, cond_true, Bool.not_true, Bool.false_or], .inr ⟨rfl, ?_⟩⟩
          exact (getX_at (by omega) (by simpa using he) fun k h1 h2 => hk k (by omega) h2).symm
        | false =>
          left
          refine ⟨(m, t, 0, (i : Int) - 1, ()), ?_, ⟨i, by omega, fun k h1 h2 => ?_, rfl⟩, by simp only; omega⟩
          · have w : IntKind.wrap .i64 ((i : Int) - 1) = (i : Int) - 1 := wrap_i64 _ (by omega) (by omega)
            simp only [rGetML0T, RT.val, d, r1, get_el, he, cond_true, cond_false, Bool.not_true, Bool.not_false, Bool.true_or, Bool.false_or, w]
          · by_cases e : k = i
            · subst e; simpa using he
            · exact hk k (by omega) h2)
    (m, t, 0, (m.length : Int) - 1, ()) ⟨m.length, Nat.le_refl _, fun k h1 h2 => by omega, rfl⟩ (by simp only; omega)
  have w : IntKind.wrap .i64 (iN m.length - 1) = (m.length : Int) - 1 := wrap_i64 _ (by simp only [iN]; omega) (by simp only [iN]; omega)
  rcases hR with ⟨h1, h2⟩ | ⟨h1, h2⟩
  · simp only [rGetMT, RT.val, w, hr, okB, getO, cond_true, h1, cond_false, h2]
  · simp only [rGetMT, RT.val, w, hr, okB, getO, cond_true, h1, h2]
end
end Go.Proofs.Ytfejikddclgkcaa
