/-
  Wait states and hold states change neither the cycles nor the CPU: the plain law. Conditions: none.
-/
import Derived.Test.YteboknglfjadoaaGreatCoreQ
open Go Go.S3 Go.Proofs
set_option linter.unusedVariables false
set_option linter.unusedSimpArgs false
set_option maxRecDepth 100000
namespace Go.Proofs.YteboknglfjadoaaGreat
noncomputable section
def okN (c : CpuT) (n : Int) : Prop := (1 ≤ n ∧ n ≤ 6) ∨ (n = 9 ∧ idlX c 0 false = 9)
theorem okN_ne {c : CpuT} {n : Int} (h : okN c n) : n ≠ 7 ∧ n ≠ 8 := by
  rcases h with h | h
  · omega
  · omega
theorem idl_ok (c : CpuT) : okN c (idlX c 0 false) := by
  unfold okN idlX
  cases c.2.2.2.2.1 <;> simp
/-- The two cores behind a clock state: b may be in a hold state, whence it comes back to what a does. -/
def After (a b : CoreT) (g : List Int) : Prop := ∃ c2 g2 x2 na nb hb, a = (c2, 0, g2, x2, na, false) ∧ b = (c2, 0, g2, x2, nb, hb) ∧ Calm c2 ∧ g2.length ≤ g.length + 1 ∧ okN c2 na ∧ (nb = na ∨ (nb = 8 ∧ idlX c2 0 false = na))
theorem end_both {c : CpuT} (hq : Calm c) (g g0 : List Int) (hg : g.length ≤ g0.length + 1) (hb h : Bool) : After (endX c 0 g false (lnR false)) (endX c 0 g hb (lnR h)) g0 := by
  cases hn : (nextX c 0 g).2 with
  | true =>
    refine ⟨c, g, (nextX c 0 g).1, idlX c 0 false, idlX c 0 hb, false, ?_, ?_, hq, hg, idl_ok c, ?_⟩
    · simp only [endX, hn, cond_true]
    · simp only [endX, hn, cond_true]
    · cases hb with
      | false => exact .inl rfl
      | true => exact .inr ⟨rfl, rfl⟩
  | false =>
    have hc := fin_calm hq 0 g (lnR false)
    refine ⟨finX c 0 g (lnR false), [], (nextX (finX c 0 g (lnR false)) 0 []).1, idlX (finX c 0 g (lnR false)) 0 false, idlX (finX c 0 g (lnR false)) 0 hb, false, ?_, ?_, hc, by simp, idl_ok _, ?_⟩
    · simp only [endX, hn, cond_false, pick_calm hc, acc0]
    · simp only [endX, hn, cond_false, fin_h c 0 g h, pick_h _ h, pick_calm hc, acc0]
    · cases hb with
      | false => exact .inl rfl
      | true => exact .inr ⟨rfl, rfl⟩
theorem both {c : CpuT} (hq : Calm c) (g : List Int) (x : Cyc) (n nb : Int) (hb h : Bool) (d : Int) (hn : okN c n) (hnb : nb = n ∨ (n = 2 ∧ nb = 7)) :
    After (clockX (c, 0, g, x, n, false) (lnR false) d) (clockX (c, 0, g, x, nb, hb) (lnR h) d) g := by
  have lh : ∀ k : Bool, (lnR k).2.2.1 = false ∧ (lnR k).1 = true ∧ (lnR k).2.1 = k := fun k => ⟨rfl, rfl, rfl⟩
  have hlr := fun k => latchR hq.q k
  have cases7 : n = 1 ∨ n = 2 ∨ n = 3 ∨ n = 4 ∨ n = 5 ∨ n = 6 ∨ n = 9 := by
    rcases hn with h | h <;> omega
  have mid : ∀ t : Int, t = 4 ∨ t = 5 ∨ t = 6 → ∀ (k k' : Bool), clockX (c, 0, g, x, t, k) (lnR k') d = bif decide (t < x.2.2.2) && !(t == 6) then (c, 0, g, x, t + 1, k) else endX c 0 g k (lnR k') := by
    intro t ht k k'
    rcases ht with rfl | rfl | rfl
    · simp only [clockX, hlr, (lh k').1, show stateX 4 = 4 from rfl, cond_false]; rfl
    · simp only [clockX, hlr, (lh k').1, show stateX 5 = 5 from rfl, cond_false]; rfl
    · simp only [clockX, hlr, (lh k').1, show stateX 6 = 6 from rfl, cond_false]; rfl
  have midA : ∀ t : Int, t = 4 ∨ t = 5 ∨ t = 6 → n = t → nb = t → After (clockX (c, 0, g, x, n, false) (lnR false) d) (clockX (c, 0, g, x, nb, hb) (lnR h) d) g := by
    intro t ht e1 e2
    rw [e1, e2, mid t ht, mid t ht]
    cases hm : decide (t < x.2.2.2) && !(t == 6) with
    | true =>
      simp only [Bool.and_eq_true, Bool.not_eq_true', beq_eq_false_iff_ne] at hm
      exact ⟨c, g, x, t + 1, t + 1, hb, rfl, rfl, hq, by omega, .inl (by omega), .inl rfl⟩
    | false => exact end_both hq g g (by omega) hb h
  rcases cases7 with rfl | rfl | rfl | rfl | rfl | rfl | rfl
  · have e : nb = 1 := by omega
    subst e
    refine ⟨c, g, x, 2, 2, hb, ?_, ?_, hq, by omega, .inl (by omega), .inl rfl⟩
    · simp only [clockX, hlr, show stateX 1 = 1 from rfl]; rfl
    · simp only [clockX, hlr, show stateX 1 = 1 from rfl]; rfl
  · refine ⟨c, g, x, 3, 3, h, ?_, ?_, hq, by omega, .inl (by omega), .inl rfl⟩
    · simp only [clockX, hlr, show stateX 2 = 2 from rfl]; rfl
    · rcases hnb with rfl | ⟨_, rfl⟩
      · simp only [clockX, hlr, show stateX 2 = 2 from rfl]; rfl
      · simp only [clockX, hlr, show stateX 7 = 7 from rfl]; rfl
  · have e : nb = 3 := by omega
    subst e
    have e3 : ∀ k k' : Bool, clockX (c, 0, g, x, 3, k) (lnR k') d = bif le3 (readX c x d).2.2.2 then endX c 0 (g ++ [(readX c x d).2.2.1]) k (lnR k') else (c, 0, g ++ [(readX c x d).2.2.1], readX c x d, 4, k) := fun k k' => by
      simp only [clockX, hlr, show stateX 3 = 3 from rfl]; rfl
    rw [e3, e3]
    cases le3 (readX c x d).2.2.2 with
    | true => exact end_both hq _ g (by simp) hb h
    | false => exact ⟨c, _, _, 4, 4, hb, rfl, rfl, hq, by simp, .inl (by omega), .inl rfl⟩
  · exact midA 4 (by omega) rfl (by omega)
  · exact midA 5 (by omega) rfl (by omega)
  · exact midA 6 (by omega) rfl (by omega)
  · have e : nb = 9 := by omega
    subst e
    have e9 : ∀ k k' : Bool, clockX (c, 0, g, x, 9, k) (lnR k') d = (c, 0, g, x, bif k' then 8 else 9, k) := fun k k' => by
      simp only [clockX, hlr, show stateX 9 = 9 from rfl, pick_h _ k', pick_calm hq]; rfl
    rw [e9, e9]
    have h9 : idlX c 0 false = 9 := by
      rcases hn with h | h
      · omega
      · exact h.2
    refine ⟨c, g, x, 9, bif h then 8 else 9, hb, rfl, rfl, hq, by omega, .inr ⟨rfl, h9⟩, ?_⟩
    cases h with
    | false => exact .inl rfl
    | true => exact .inr ⟨rfl, h9⟩
/-- A wait state. -/
theorem wait1 {c : CpuT} (hq : Calm c) (g : List Int) (x : Cyc) (n : Int) (hb : Bool) (hn : n = 2 ∨ n = 7) (ha : rAccepts x.1 = true) : clockX (c, 0, g, x, n, hb) lnW 0 = (c, 0, g, x, 7, hb) := by
  rcases hn with rfl | rfl
  · simp only [clockX, latchW hq.q, show stateX 2 = 2 from rfl, ha]; rfl
  · simp only [clockX, latchW hq.q, show stateX 7 = 7 from rfl, ha]; rfl
/-- A hold state. -/
theorem hold1 {c : CpuT} (hq : Calm c) (g : List Int) (x : Cyc) (hb h : Bool) : clockX (c, 0, g, x, 8, hb) (lnR h) 0 = (c, 0, g, x, bif h then 8 else idlX c 0 false, hb) := by
  simp only [clockX, latchR hq.q, show stateX 8 = 8 from rfl]
  cases h <;> rfl
end
end Go.Proofs.YteboknglfjadoaaGreat
