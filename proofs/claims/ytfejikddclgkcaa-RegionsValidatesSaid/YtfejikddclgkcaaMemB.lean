/-
  Memories: put, Normalize, Put, Load, Same and Find of the reference, as plain functions. Conditions: none.
-/
import Derived.Test.YtfejikddclgkcaaMemA
open Go Go.S3 Go.Proofs Go.Proofs.Cells
set_option linter.unusedVariables false
set_option linter.unusedSimpArgs false
set_option maxRecDepth 100000
namespace Go.Proofs.Ytfejikddclgkcaa
noncomputable section
/-! ### put -/
def pst (c : Cell) (s : Bool × List Cell) (x : Cell) : Bool × List Cell :=
  let t := !s.1 && decide (x.1 ≥ c.1)
  let o := bif t then (bif c.2 != 0 then s.2 ++ [c] else s.2) else s.2
  (t || s.1, bif x.1 != c.1 then o ++ [x] else o)
def pfin (c : Cell) (s : Bool × List Cell) : List Cell := bif !s.1 && c.2 != 0 then s.2 ++ [c] else s.2
theorem pst_done (c : Cell) : ∀ (m : List Cell) (o : List Cell), (∀ x ∈ m, x.1 ≠ c.1) → m.foldl (pst c) (true, o) = (true, o ++ m)
  | [], o, _ => by simp
  | x :: m, o, h => by
    have hx : (x.1 != c.1) = true := by simpa using h x (by simp)
    simp only [List.foldl_cons, pst, Bool.not_true, Bool.false_and, cond_false, Bool.or_true, hx, cond_true]
    rw [pst_done c m (o ++ [x]) fun y hy => h y (List.mem_cons_of_mem _ hy)]
    simp
theorem pst_put (c : Cell) : ∀ (m : List Cell) (o : List Cell), m.Pairwise (fun a b => a.1 < b.1) → pfin c (m.foldl (pst c) (false, o)) = o ++ putX m c
  | [], o, _ => by
    simp only [List.foldl_nil, pfin, putX, Bool.not_false, Bool.true_and]
    by_cases h : c.2 = 0
    · simp [h]
    · have : (c.2 != 0) = true := by simpa using h
      simp [h, this]
  | x :: m, o, h => by
    have h1 := List.pairwise_cons.1 h
    by_cases hx : x.1 < c.1
    · have e1 : decide (x.1 ≥ c.1) = false := by simp; omega
      have e2 : (x.1 != c.1) = true := by simp; omega
      simp only [List.foldl_cons, pst, e1, Bool.and_false, cond_false, Bool.or_false, e2, cond_true]
      rw [pst_put c m (o ++ [x]) h1.2, putX, if_pos hx]; simp
    · have e1 : decide (x.1 ≥ c.1) = true := by simp; omega
      have hne : ∀ y ∈ m, y.1 ≠ c.1 := fun y hy => by have := h1.1 y hy; omega
      simp only [List.foldl_cons, pst, e1, Bool.not_false, Bool.and_self, cond_true, Bool.true_or]
      rw [pst_done c m _ hne, putX, if_neg hx]
      simp only [pfin, Bool.not_true, Bool.false_and, cond_false]
      by_cases hz : c.2 = 0
      · by_cases hk : x.1 = c.1
        · simp [hz, hk]
        · have : (x.1 != c.1) = true := by simpa using hk
          simp [hz, hk, this]
      · have hz1 : (c.2 != 0) = true := by simpa using hz
        by_cases hk : x.1 = c.1
        · simp [hz, hk, hz1]
        · have : (x.1 != c.1) = true := by simpa using hk
          simp [hz, hk, this, hz1]
theorem pst_len (c : Cell) : ∀ (m : List Cell) (s : Bool × List Cell), (m.foldl (pst c) s).2.length + (bif (m.foldl (pst c) s).1 then 0 else 1) ≤ s.2.length + (bif s.1 then 0 else 1) + m.length
  | [], s => by simp
  | x :: m, s => by
    rw [List.foldl_cons]
    have ih := pst_len c m (pst c s x)
    have : (pst c s x).2.length + (bif (pst c s x).1 then 0 else 1) ≤ s.2.length + (bif s.1 then 0 else 1) + 1 := by
      obtain ⟨d, o⟩ := s
      simp only [pst]
      generalize decide (x.1 ≥ c.1) = b1
      generalize (c.2 != 0) = b2
      generalize (x.1 != c.1) = b3
      cases d <;> cases b1 <;> cases b2 <;> cases b3 <;> simp <;> omega
    simp only [List.length_cons]; omega
theorem rput0_run (m : List Cell) (c : Cell) (hv : Vld m) (hm : m.length + 1 ≤ most) : rPut0C m c = true ∧ rPut0 m c = putX m c := by
  have hms := mst
  obtain ⟨r, hr, h1, i, hR⟩ := runF_ind (fl := false) (t := rPut0L0T) (fuel := fun a => 1000000000000)
    (fun a => ∃ i : Nat, i ≤ m.length ∧ a = (((m.take i).foldl (pst c) (false, [])).1, m, (m.length : Int), (i : Int), c, ((m.take i).foldl (pst c) (false, [])).2, ()))
    (fun a => Int.toNat (a.2.2.1 - a.2.2.2.1)) (fun r => r.1 = false ∧ ∃ i : Nat, r.2 = ((m.foldl (pst c) (false, [])).1, m, (m.length : Int), (i : Int), c, (m.foldl (pst c) (false, [])).2, ()))
    (by
      rintro a ⟨i, hi, rfl⟩
      by_cases hlt : i < m.length
      · left
        have d : decide ((i : Int) < (m.length : Int)) = true := by simpa using hlt
        have r1 := rng_nat m i hlt
        have hl := pst_len c (m.take i) (false, [])
        have hs : (m.take (i + 1)).foldl (pst c) (false, []) = pst c ((m.take i).foldl (pst c) (false, [])) (el m i) := by
          rw [take_el m i hlt, List.foldl_append]; rfl
        rw [List.length_take, Nat.min_eq_left (by omega)] at hl
        refine ⟨_, ?_, ⟨i + 1, hlt, rfl⟩, by simp only; omega⟩
        rw [hs]
        generalize (m.take i).foldl (pst c) (false, []) = s at hl ⊢
        obtain ⟨dn, o⟩ := s
        simp only [List.length_nil, cond_false] at hl
        simp only [rPut0L0T, RT.val, d, r1, get_el, cond_true, Bool.not_true, Bool.false_or, pst, wadd1 i (by omega)]
        generalize decide ((el m i).1 ≥ c.1) = b1
        generalize hb2 : (c.2 != 0) = b2
        generalize hb3 : ((el m i).1 != c.1) = b3
        have l1 : Nat.ble (o ++ [c]).length most = true ∨ dn = true := by
          cases dn with
          | true => exact .inr rfl
          | false => left; rw [Nat.ble_eq]; simp only [cond_false] at hl; simp only [List.length_append, List.length_singleton]; omega
        have l2 : Nat.ble (o ++ [el m i]).length most = true := by
          rw [Nat.ble_eq]; simp only [List.length_append, List.length_singleton]
          cases dn <;> simp only [cond_true, cond_false] at hl <;> omega
        have l3 : Nat.ble (o ++ [c] ++ [el m i]).length most = true ∨ dn = true := by
          cases dn with
          | true => exact .inr rfl
          | false => left; rw [Nat.ble_eq]; simp only [cond_false] at hl; simp only [List.length_append, List.length_singleton]; omega
        cases dn with
        | true =>
          cases b3 <;> simp only [l2, Bool.not_true, Bool.not_false, Bool.false_and, Bool.true_or, Bool.false_or, Bool.or_true, cond_true, cond_false]
        | false =>
          have l1 : Nat.ble (o ++ [c]).length most = true := by simpa using l1
          have l3 : Nat.ble (o ++ [c] ++ [el m i]).length most = true := by simpa using l3
          cases b1 <;> cases b2 <;> cases b3 <;> simp only [l1, l2, l3, Bool.not_true, Bool.not_false, Bool.false_and, Bool.true_and, Bool.true_or, Bool.false_or, Bool.or_true, Bool.or_false, Bool.and_self, cond_true, cond_false]
      · right; left
        have d : decide ((i : Int) < (m.length : Int)) = false := by simpa using hlt
        have e : m.take i = m := List.take_of_length_le (by omega)
        rw [e]
        exact ⟨_, by simp only [rPut0L0T, RT.val, d, cond_false], rfl, i, rfl⟩)
    (false, m, iN m.length, 0, c, [], ()) ⟨0, Nat.zero_le _, rfl⟩ (by simp only [iN]; omega)
  have hl := pst_len c m (false, [])
  have hp := pst_put c m [] hv.1
  simp only [List.nil_append] at hp
  obtain ⟨r1, r2⟩ := r
  simp only at h1 hR
  subst h1 hR
  generalize m.foldl (pst c) (false, []) = s at hl hp hr
  obtain ⟨dn, o⟩ := s
  have hb : (!(!dn && c.2 != 0) || Nat.ble (o ++ [c]).length most) = true := by
    cases dn with
    | true => rfl
    | false =>
      have : Nat.ble (o ++ [c]).length most = true := by rw [Nat.ble_eq]; simp only [cond_false, List.length_nil] at hl; simp only [List.length_append, List.length_singleton]; omega
      rw [this]; simp
  have hv : (rPut0T m c).val = some (putX m c) := by
    simp only [rPut0T, RT.val, hr, okB, getO, cond_true, hb, ← hp, pfin]
  exact ⟨by simp only [rPut0C, hv]; rfl, by simp only [rPut0, hv, getO]⟩
/-! ### Normalize, Put -/
theorem putX_len (c : Cell) : ∀ m : List Cell, (putX m c).length ≤ m.length + 1
  | [] => by simp only [putX]; split <;> simp
  | x :: m => by
    have := putX_len c m
    simp only [putX]
    repeat' split
    all_goals simp only [List.length_cons]; omega
theorem normX_snoc (l : List Cell) (c : Cell) : normX (l ++ [c]) = putX (normX l) c := by simp [normX, List.foldl_append]
theorem fold_len : ∀ (l m : List Cell), (l.foldl putX m).length ≤ m.length + l.length
  | [], m => by simp
  | x :: l, m => by
    have := fold_len l (putX m x)
    have := putX_len x m
    simp only [List.foldl_cons, List.length_cons]; omega
theorem normX_len (l : List Cell) : (normX l).length ≤ l.length := by
  have := fold_len l []
  simpa [normX] using this
theorem rnorm_run (l : List Cell) (hl : l.length + 1 ≤ most) : rNormC l = true ∧ rNorm l = normX l := by
  have hms := mst
  have h1 := rvalid_run l (by omega)
  have hc : rValidC l = true := by simp only [rValidC, h1]; rfl
  have hv0 : rValid l = vldB l := by simp only [rValid, h1, getO]
  have hv : (rNormT l).val = some (normX l) := by
    cases hb : vldB l with
    | true =>
      have e : Nat.ble l.length most = true := by rw [Nat.ble_eq]; omega
      simp only [rNormT, RT.val, hc, hv0, hb, List.nil_append, e, cond_true, Bool.not_true, Bool.false_or, normX_same (vldB_iff.1 hb)]
    | false =>
      obtain ⟨r, hr, h1, i, hR⟩ := runF_ind (fl := false) (t := rNormL0T) (fuel := fun a => 1000000000000)
        (fun a => ∃ i : Nat, i ≤ l.length ∧ a = (normX (l.take i), l, (l.length : Int), (i : Int), ()))
        (fun a => Int.toNat (a.2.2.1 - a.2.2.2.1)) (fun r => r.1 = false ∧ ∃ i : Nat, r.2 = (normX l, l, (l.length : Int), (i : Int), ()))
        (by
          rintro a ⟨i, hi, rfl⟩
          by_cases hlt : i < l.length
          · left
            have d : decide ((i : Int) < (l.length : Int)) = true := by simpa using hlt
            have r1 := rng_nat l i hlt
            have hlen := normX_len (l.take i)
            rw [List.length_take] at hlen
            have hp := rput0_run (normX (l.take i)) (el l i) (normX_vld _) (by omega)
            refine ⟨_, ?_, ⟨i + 1, hlt, rfl⟩, by simp only; omega⟩
            rw [take_el l i hlt, normX_snoc]
            simp only [rNormL0T, RT.val, d, r1, get_el, hp.1, hp.2, cond_true, Bool.or_true, wadd1 i (by omega)]
          · right; left
            have d : decide ((i : Int) < (l.length : Int)) = false := by simpa using hlt
            have e : l.take i = l := List.take_of_length_le (by omega)
            rw [e]
            exact ⟨_, by simp only [rNormL0T, RT.val, d, cond_false], rfl, i, rfl⟩)
        ([], l, iN l.length, 0, ()) ⟨0, Nat.zero_le _, rfl⟩ (by simp only [iN]; omega)
      obtain ⟨r1, r2⟩ := r
      simp only at h1 hR
      subst h1 hR
      simp only [rNormT, RT.val, hc, hv0, hb, hr, okB, getO, cond_true, cond_false, Bool.not_false, Bool.true_or]
  exact ⟨by simp only [rNormC, hv]; rfl, by simp only [rNorm, hv, getO]⟩
theorem rput_run (m : List Cell) (t v : Int) (hm : m.length + 1 ≤ most) : rPutMC m t v = true ∧ rPutM m t v = putX (normX m) (t, v) := by
  have h1 := rnorm_run m hm
  have h2 := rput0_run (normX m) (t, v) (normX_vld m) (by have := normX_len m; omega)
  have hv : (rPutMT m t v).val = some (putX (normX m) (t, v)) := by
    simp only [rPutMT, RT.val, h1.1, h1.2, h2.1, h2.2, cond_true, Bool.or_true]
  exact ⟨by simp only [rPutMC, hv]; rfl, by simp only [rPutM, hv, getO]⟩
end
end Go.Proofs.Ytfejikddclgkcaa
