/-
  The library's stable sorting of cells: the whole. Conditions: none.
-/
import Derived.Test.YtfejikddclgkcaaSort4
open Go Go.S3 Go.Proofs Go.Proofs.Cells
set_option linter.unusedVariables false
set_option linter.unusedSimpArgs false
set_option maxRecDepth 100000
namespace Go.Proofs.Ytfejikddclgkcaa
noncomputable section
/-- The cells from c on, before d. -/
def sb (s : List Cell) (c d : Nat) : List Cell := (s.drop c).take (d - c)
theorem sb_app1 (X T : List Cell) (c d : Nat) (h : d ≤ X.length) : sb (X ++ T) c d = sb X c d := by
  unfold sb
  by_cases hc : c ≤ X.length
  · rw [List.drop_append_of_le_length hc, List.take_append_of_le_length (by simp; omega)]
  · rw [show d - c = 0 by omega]; simp
theorem sb_mid (X L Y : List Cell) : sb (X ++ L ++ Y) X.length (X.length + L.length) = L := by
  unfold sb
  rw [List.append_assoc, List.drop_left' rfl, List.take_left' (by omega)]
theorem sb_app2 (X T : List Cell) (c d : Nat) (h : X.length ≤ c) : sb (X ++ T) c d = sb T (c - X.length) (d - X.length) := by
  unfold sb
  rw [List.drop_append, List.drop_eq_nil_of_le h, List.nil_append]
  congr 1; omega
theorem sortX_facts (s : List Cell) (a b : Nat) (h1 : a ≤ b) (h2 : b ≤ s.length) :
    (sortX s a b).length = s.length ∧ Sm (sortX s a b) s ∧ (∀ c d, d ≤ a → sb (sortX s a b) c d = sb s c d) ∧ (∀ c d, b ≤ c → sb (sortX s a b) c d = sb s c d) ∧ sb (sortX s a b) a b = isort (sb s a b) := by
  obtain ⟨X, L, Y, rfl, rfl, rfl⟩ := parts3 s a b h1 h2
  rw [sortX_eq, sb_mid]
  refine ⟨by simp [isort_len], ((Sm.refl X).app (isort_sm L)).app (Sm.refl Y), fun c d h => ?_, fun c d h => ?_, ?_⟩
  · rw [List.append_assoc, List.append_assoc, sb_app1 _ _ _ _ h, sb_app1 _ _ _ _ h]
  · rw [sb_app2 (X ++ isort L) Y c d (by simp [isort_len]; omega), sb_app2 (X ++ L) Y c d (by simp; omega)]
    simp [isort_len]
  · have := sb_mid X (isort L) Y
    rwa [isort_len] at this
/-- All blocks of w cells are sorted. -/
def Blk (w : Nat) (s : List Cell) : Prop := ∀ i, Srt (sb s (w * i) (w * i + w))
theorem srt_of_short {l : List Cell} (h : l.length ≤ 1) : Srt l := by
  match l, h with
  | [], _ => exact List.Pairwise.nil
  | [x], _ => simp [Srt]
theorem sb_ge (s : List Cell) (c d : Nat) (h : s.length ≤ d) : sb s c d = s.drop c := by
  unfold sb
  exact List.take_of_length_le (by simp; omega)
theorem sb_nil (s : List Cell) (c d : Nat) (h : s.length ≤ c) : sb s c d = [] := by
  unfold sb; rw [List.drop_eq_nil_of_le h]; simp
theorem sb_split (s : List Cell) (c d e : Nat) (h1 : c ≤ d) (h2 : d ≤ e) : sb s c e = sb s c d ++ sb s d e := by
  unfold sb
  have : s.drop d = (s.drop c).drop (d - c) := by rw [List.drop_drop]; congr 1; omega
  rw [this, ← List.take_append_drop (d - c) (((s.drop c).take (e - c))), List.take_take, List.drop_take]
  congr 1
  · congr 1; omega
  · congr 1; omega
theorem rangeOk_of (s : List Cell) (a b : Nat) (h1 : a ≤ b) (h2 : b ≤ s.length) (hm : s.length ≤ most) : rangeOk s a b = true := by
  simp only [rangeOk, Bool.and_eq_true, decide_eq_true_eq, Nat.ble_eq]; omega
theorem loop0 (L : List Cell) (hm : L.length ≤ most) :
    ∃ r, runF false uStabL0T (fun a => Int.toNat (a.1 - a.2.2.2.1) + 2) ((L.length : Int), 20, 0, 20, L, ()) = some r ∧
      ∃ (j : Nat) (s : List Cell), r.2 = ((L.length : Int), 20, ((20 * j : Nat) : Int), ((20 * j + 20 : Nat) : Int), s, ()) ∧ 20 * j ≤ L.length ∧ L.length < 20 * j + 20 ∧ s.length = L.length ∧ Sm s L ∧ ∀ i, i < j → Srt (sb s (20 * i) (20 * i + 20)) := by
  have hms := mst
  refine runF_ind (fl := false) (t := uStabL0T) (fuel := fun a => Int.toNat (a.1 - a.2.2.2.1) + 2)
    (I := fun a => ∃ (j : Nat) (s : List Cell), a = ((L.length : Int), 20, ((20 * j : Nat) : Int), ((20 * j + 20 : Nat) : Int), s, ()) ∧ 20 * j ≤ L.length ∧ s.length = L.length ∧ Sm s L ∧ ∀ i, i < j → Srt (sb s (20 * i) (20 * i + 20)))
    (m := fun a => Int.toNat (a.1 - a.2.2.2.1 + 1)) (R := fun r => ∃ (j : Nat) (s : List Cell), r.2 = ((L.length : Int), 20, ((20 * j : Nat) : Int), ((20 * j + 20 : Nat) : Int), s, ()) ∧ 20 * j ≤ L.length ∧ L.length < 20 * j + 20 ∧ s.length = L.length ∧ Sm s L ∧ ∀ i, i < j → Srt (sb s (20 * i) (20 * i + 20)))
    (fun a hi => ?_) _ ⟨0, L, by simp, by omega, rfl, Sm.refl L, fun i h => by omega⟩ (by simp only; omega)
  obtain ⟨j, s, rfl, h1, h2, h3, h4⟩ := hi
  by_cases hb : 20 * j + 20 ≤ L.length
  · left
    have d : decide (((20 * j + 20 : Nat) : Int) ≤ (L.length : Int)) = true := by simp; omega
    have hr := rangeOk_of s (20 * j) (20 * j + 20) (by omega) (by omega) (by omega)
    have w : IntKind.wrap .i64 (((20 * j + 20 : Nat) : Int) + 20) = ((20 * (j + 1) + 20 : Nat) : Int) := by rw [wrap_i64 _ (by omega) (by omega)]; omega
    obtain ⟨f1, f2, f3, f4, f5⟩ := sortX_facts s (20 * j) (20 * j + 20) (by omega) (by omega)
    refine ⟨((L.length : Int), 20, ((20 * j + 20 : Nat) : Int), ((20 * (j + 1) + 20 : Nat) : Int), sortX s (20 * j) (20 * j + 20), ()), ?_, ⟨j + 1, _, rfl, by omega, by omega, f2.trans h3, fun i hi => ?_⟩, by simp only; omega⟩
    · simp only [uStabL0T, RT.val, d, hr, cond_true, w, Int.toNat_natCast]
    · by_cases hij : i = j
      · subst hij; rw [f5]; exact isort_srt _
      · rw [f3 _ _ (by omega)]; exact h4 i (by omega)
  · right; left
    have d : decide (((20 * j + 20 : Nat) : Int) ≤ (L.length : Int)) = false := by simp; omega
    exact ⟨_, by simp only [uStabL0T, RT.val, d, cond_false], j, s, rfl, h1, by omega, h2, h3, h4⟩
theorem sym1Ok_of (s : List Cell) (a m b : Nat) (h1 : a < m) (h2 : m < b) (h3 : b ≤ s.length) (hm : s.length ≤ most) (k1 : Srt (sb s a m)) (k2 : Srt (sb s m b)) : uSym1Ok s a m b = true := by
  simp only [uSym1Ok, Int.toNat_natCast, Bool.and_eq_true]
  refine ⟨⟨?_, srtB_iff.2 k1⟩, srtB_iff.2 k2⟩
  simp only [rotOk, Bool.and_eq_true, decide_eq_true_eq, Nat.ble_eq]; omega
theorem loop1 (L : List Cell) (w n : Nat) (hn : n = L.length) (hw : 0 < w) (hw2 : w ≤ 2 * most) (hm : L.length ≤ most) (hB : Blk w L) :
    ∃ r, runF false uStabL1T (fun a => Int.toNat (a.1 - a.2.2.2.1) + 2) ((n : Int), (w : Int), 0, ((2 * w : Nat) : Int), L, ()) = some r ∧
      ∃ (j : Nat) (s : List Cell), r.2 = ((n : Int), (w : Int), ((2 * w * j : Nat) : Int), ((2 * w * j + 2 * w : Nat) : Int), s, ()) ∧ 2 * w * j ≤ n ∧ n < 2 * w * j + 2 * w ∧ s.length = n ∧ Sm s L ∧ (∀ i, i < j → Srt (sb s (2 * w * i) (2 * w * i + 2 * w))) ∧ ∀ i, 2 * w * j ≤ w * i → Srt (sb s (w * i) (w * i + w)) := by
  have hms := mst
  refine runF_ind (fl := false) (t := uStabL1T) (fuel := fun a => Int.toNat (a.1 - a.2.2.2.1) + 2)
    (I := fun a => ∃ (j : Nat) (s : List Cell), a = ((n : Int), (w : Int), ((2 * w * j : Nat) : Int), ((2 * w * j + 2 * w : Nat) : Int), s, ()) ∧ 2 * w * j ≤ n ∧ s.length = n ∧ Sm s L ∧ (∀ i, i < j → Srt (sb s (2 * w * i) (2 * w * i + 2 * w))) ∧ ∀ i, 2 * w * j ≤ w * i → Srt (sb s (w * i) (w * i + w)))
    (m := fun a => Int.toNat (a.1 - a.2.2.2.1 + 1)) (R := fun r => ∃ (j : Nat) (s : List Cell), r.2 = ((n : Int), (w : Int), ((2 * w * j : Nat) : Int), ((2 * w * j + 2 * w : Nat) : Int), s, ()) ∧ 2 * w * j ≤ n ∧ n < 2 * w * j + 2 * w ∧ s.length = n ∧ Sm s L ∧ (∀ i, i < j → Srt (sb s (2 * w * i) (2 * w * i + 2 * w))) ∧ ∀ i, 2 * w * j ≤ w * i → Srt (sb s (w * i) (w * i + w)))
    (fun a hi => ?_) _ ⟨0, L, by simp, by omega, hn.symm, Sm.refl L, fun i h => by omega, fun i _ => hB i⟩ (by simp only; omega)
  obtain ⟨j, s, rfl, h1, h2, h3, h4, h5⟩ := hi
  have q1 : 2 * w * (j + 1) = 2 * w * j + 2 * w := by rw [Nat.mul_add]; omega
  by_cases hb : 2 * w * j + 2 * w ≤ n
  · left
    have d : decide (((2 * w * j + 2 * w : Nat) : Int) ≤ (n : Int)) = true := decide_eq_true (Int.ofNat_le.2 hb)
    have e1 : IntKind.wrap .i64 (((2 * w * j : Nat) : Int) + (w : Int)) = ((2 * w * j + w : Nat) : Int) := wadd _ _ (by omega)
    have e2 : IntKind.wrap .i64 (2 * (w : Int)) = ((2 * w : Nat) : Int) := by rw [wrap_i64 _ (by omega) (by omega)]; omega
    have e3 : IntKind.wrap .i64 (((2 * w * j + 2 * w : Nat) : Int) + ((2 * w : Nat) : Int)) = ((2 * w * (j + 1) + 2 * w : Nat) : Int) := by rw [wadd _ _ (by omega), q1]
    have hr := sym1Ok_of s (2 * w * j) (2 * w * j + w) (2 * w * j + 2 * w) (by omega) (by omega) (by omega) (by omega)
      (by have := h5 (2 * j) (by rw [show w * (2 * j) = 2 * w * j by rw [Nat.mul_left_comm, Nat.mul_assoc]]; exact Nat.le_refl _); rwa [show w * (2 * j) = 2 * w * j by rw [Nat.mul_left_comm, Nat.mul_assoc]] at this)
      (by
        have e : w * (2 * j + 1) = 2 * w * j + w := by rw [Nat.mul_add, Nat.mul_left_comm, Nat.mul_assoc]; omega
        have := h5 (2 * j + 1) (by rw [e]; omega)
        rw [e] at this
        rwa [show 2 * w * j + w + w = 2 * w * j + 2 * w by omega] at this)
    obtain ⟨f1, f2, f3, f4, f5⟩ := sortX_facts s (2 * w * j) (2 * w * j + 2 * w) (by omega) (by omega)
    refine ⟨((n : Int), (w : Int), ((2 * w * j + 2 * w : Nat) : Int), ((2 * w * (j + 1) + 2 * w : Nat) : Int), sortX s (2 * w * j) (2 * w * j + 2 * w), ()), ?_, ⟨j + 1, _, by rw [q1], by omega, by omega, f2.trans h3, fun i hi => ?_, fun i hi => ?_⟩, by simp only; omega⟩
    · simp only [uStabL1T, RT.val, d, e1, e2, hr, cond_true, e3, Int.toNat_natCast]
    · by_cases hij : i = j
      · subst hij; rw [f5]; exact isort_srt _
      · have : 2 * w * i + 2 * w ≤ 2 * w * j := by
          have := Nat.mul_le_mul_left (2 * w) (show i + 1 ≤ j by omega)
          rw [Nat.mul_add] at this; omega
        rw [f3 _ _ this]; exact h4 i (by omega)
    · rw [f4 _ _ (by omega)]; exact h5 i (by omega)
  · right; left
    have d : decide (((2 * w * j + 2 * w : Nat) : Int) ≤ (n : Int)) = false := decide_eq_false (fun h => hb (Int.ofNat_le.1 h))
    exact ⟨_, by simp only [uStabL1T, RT.val, d, cond_false], j, s, rfl, h1, by omega, h2, h3, h4, h5⟩
theorem loop2 (L : List Cell) (n : Nat) (hn : n = L.length) (hm : L.length ≤ most) (hB : Blk 20 L) :
    ∃ r, runF false uStabL2T (fun a => Int.toNat (a.1 - a.2.1) + 1) ((n : Int), 20, L, ()) = some r ∧ r.2.2.2.1 = isort L := by
  have hms := mst
  refine runF_ind (fl := false) (t := uStabL2T) (fuel := fun a => Int.toNat (a.1 - a.2.1) + 1)
    (I := fun a => ∃ (w : Nat) (s : List Cell), a = ((n : Int), (w : Int), s, ()) ∧ 0 < w ∧ w ≤ 2 * most ∧ s.length = n ∧ Sm s L ∧ Blk w s)
    (m := fun a => Int.toNat (a.1 - a.2.1)) (R := fun r => r.2.2.2.1 = isort L)
    (fun a hi => ?_) _ ⟨20, L, by simp, by omega, by omega, hn.symm, Sm.refl L, hB⟩ (Nat.lt_succ_self _)
  obtain ⟨w, s, rfl, h0, h1, h2, h3, h4⟩ := hi
  by_cases hb : w < n
  · left
    have d : decide ((w : Int) < (n : Int)) = true := by simpa using hb
    have e0 : IntKind.wrap .i64 (2 * (w : Int)) = ((2 * w : Nat) : Int) := by rw [wrap_i64 _ (by omega) (by omega)]; omega
    obtain ⟨r, hr, j, t, hr2, k1, k2, k3, k4, k5, k6⟩ := loop1 s w n h2.symm h0 h1 (by omega) h4
    have e1 : IntKind.wrap .i64 (((2 * w * j : Nat) : Int) + (w : Int)) = ((2 * w * j + w : Nat) : Int) := wadd _ _ (by omega)
    have e2 : IntKind.wrap .i64 ((w : Int) * 2) = ((2 * w : Nat) : Int) := by rw [wrap_i64 _ (by omega) (by omega)]; omega
    have eA : w * (2 * j) = 2 * w * j := by rw [Nat.mul_left_comm, Nat.mul_assoc]
    have eB : w * (2 * j + 1) = 2 * w * j + w := by rw [Nat.mul_add, eA]; omega
    have s1 := k6 (2 * j) (by rw [eA]; exact Nat.le_refl _)
    have s2 := k6 (2 * j + 1) (by rw [eB]; omega)
    rw [eA] at s1
    rw [eB] at s2
    have tail : ∀ i, j < i → n ≤ 2 * w * i := fun i hi => by
      have := Nat.mul_le_mul_left (2 * w) (show j + 1 ≤ i by omega)
      rw [Nat.mul_add] at this; omega
    by_cases hm2 : 2 * w * j + w < n
    · have d2 : decide (((2 * w * j + w : Nat) : Int) < (n : Int)) = true := decide_eq_true (Int.ofNat_lt.2 hm2)
      have s2' : Srt (sb t (2 * w * j + w) n) := by
        rw [sb_ge _ _ _ (by omega)]
        rwa [sb_ge _ _ _ (by omega)] at s2
      have ho := sym1Ok_of t (2 * w * j) (2 * w * j + w) n (by omega) hm2 (by omega) (by omega) s1 s2'
      obtain ⟨f1, f2, f3, f4, f5⟩ := sortX_facts t (2 * w * j) n (by omega) (by omega)
      refine ⟨((n : Int), ((2 * w : Nat) : Int), sortX t (2 * w * j) n, ()), ?_, ⟨2 * w, _, rfl, by omega, by omega, by omega, f2.trans (k4.trans h3), fun i => ?_⟩, by simp only; omega⟩
      · simp only [uStabL2T, RT.val, d, e0, hr, hr2, okB, getO, cond_true, e1, d2, ho, e2, Bool.not_true, Bool.false_or, Bool.or_true, Int.toNat_natCast]
      · rcases Nat.lt_trichotomy i j with hij | hij | hij
        · have : 2 * w * i + 2 * w ≤ 2 * w * j := by
            have := Nat.mul_le_mul_left (2 * w) (show i + 1 ≤ j by omega)
            rw [Nat.mul_add] at this; omega
          rw [f3 _ _ this]; exact k5 i hij
        · subst hij
          rw [sb_ge _ _ _ (by omega), ← sb_ge _ _ n (by omega), f5]; exact isort_srt _
        · rw [sb_nil _ _ _ (by have := tail i hij; omega)]; exact List.Pairwise.nil
    · have d2 : decide (((2 * w * j + w : Nat) : Int) < (n : Int)) = false := decide_eq_false (fun h => hm2 (Int.ofNat_lt.1 h))
      refine ⟨((n : Int), ((2 * w : Nat) : Int), t, ()), ?_, ⟨2 * w, _, rfl, by omega, by omega, by omega, k4.trans h3, fun i => ?_⟩, by simp only; omega⟩
      · simp only [uStabL2T, RT.val, d, e0, hr, hr2, okB, getO, cond_true, cond_false, e1, d2, e2, Bool.not_true, Bool.not_false, Bool.true_or, Bool.false_or, Bool.or_true, Int.toNat_natCast]
      · rcases Nat.lt_trichotomy i j with hij | hij | hij
        · exact k5 i hij
        · subst hij
          rw [sb_ge _ _ _ (by omega)]
          rwa [sb_ge _ _ _ (by omega)] at s1
        · rw [sb_nil _ _ _ (by have := tail i hij; omega)]; exact List.Pairwise.nil
  · right; left
    have d : decide ((w : Int) < (n : Int)) = false := by simpa using hb
    refine ⟨((n : Int), (w : Int), s, ()), by simp only [uStabL2T, RT.val, d, cond_false], ?_⟩
    have := h4 0
    rw [sb_ge _ _ _ (by omega)] at this
    exact (isort_eq (by simpa using this) h3).symm
theorem stab_run (L : List Cell) (hm : L.length ≤ most) : (uStabT L L.length).val = some (isort L) := by
  have hms := mst
  obtain ⟨r, hr, j, s, hr2, k1, k2, k3, k4, k5⟩ := loop0 L hm
  have hok := rangeOk_of s (20 * j) L.length k1 (by omega) (by omega)
  obtain ⟨f1, f2, f3, f4, f5⟩ := sortX_facts s (20 * j) L.length k1 (by omega)
  obtain ⟨q, hq, hq2⟩ := loop2 (sortX s (20 * j) L.length) L.length (by omega) (by omega) (fun i => by
    rcases Nat.lt_trichotomy i j with hij | hij | hij
    · rw [f3 _ _ (by omega)]; exact k5 i hij
    · subst hij
      rw [sb_ge _ _ _ (by omega), ← sb_ge _ _ L.length (by omega), f5]; exact isort_srt _
    · rw [sb_nil _ _ _ (by omega)]; exact List.Pairwise.nil)
  have hfin : isort (sortX s (20 * j) L.length) = isort L := isort_congr (f2.trans k4)
  simp only [uStabT, ownSt, RT.val, hr, hr2, okB, getO, cond_true, hok, Int.toNat_natCast, hq, hq2, hfin]
def stabOk (l : List Cell) (n : Int) : Bool := decide (n = l.length) && Nat.ble l.length most
def uStab1E : Entry := stE uStabRb uStabEl 48 uStabTs (fun a => some (stabOk a.1 a.2)) (fun a => isort a.1)
theorem uStab1_ok : EntryOk Try.prog 56 uStab1E := stE_congr uStab_ok fun a h1 h2 hp => by
  obtain ⟨l, n⟩ := a
  have hp : stabOk l n = true := by cases h : stabOk l n <;> simp_all
  simp only [stabOk, Bool.and_eq_true, decide_eq_true_eq, Nat.ble_eq] at hp
  obtain ⟨rfl, p2⟩ := hp
  have := stab_run l p2
  simp only [uStabC, uStab]
  rw [this]
  simp [okB, getO]
end
end Go.Proofs.Ytfejikddclgkcaa
