/-
  IsaCalls: Call and Ret, Push and Pop, and twice Xthl bring everything back. Conditions: none.
-/
import Derived.Test.YtghoimllhpjkjaaGreatCallB
open Go.IntKind (u8 u16 i64)
open Go Go.S3 Go.Proofs Go.Proofs.Cells
set_option linter.unusedVariables false
set_option linter.unusedSimpArgs false
set_option maxRecDepth 100000
namespace Go.Proofs.YtghoimllhpjkjaaGreat
noncomputable section
def pkOk (chip : Int) (F : FlgT) : Bool := Zis chip F && (decide (0 ≤ Zhs chip F) && (decide (Zhs chip F ≤ 255) && R.eqf rcF7 (Zd5 chip (Zhs chip F)) F true))
theorem pk2 : ∀ a b c d e f g : Bool, pkOk 2 (a, b, c, d, e, f, g) = true := by
 intro a b c d e f g
 cases a <;> cases b <;> cases c <;> cases d <;> cases e <;> cases f <;> cases g <;> kernel_rfl
theorem pk1 : ∀ a b d e g : Bool, pkOk 1 (a, b, false, d, e, false, g) = true := by
 intro a b d e g
 cases a <;> cases b <;> cases d <;> cases e <;> cases g <;> kernel_rfl
theorem ZHR (chip : Int) (F : FlgT) (hc : chip = 1 ∨ chip = 2) (hF : chip ≠ 2 → F.2.2.1 = false ∧ F.2.2.2.2.2.1 = false) : ∃ p : Nat, p < 256 ∧ (Zis chip F = true ∧ Zhs chip F = (p : Int)) ∧ Zd5 chip (p : Int) = F := by
 have h : pkOk chip F = true := by
  obtain ⟨a, b, c, d, e, f, g⟩ := F
  rcases hc with rfl | rfl
  ·obtain ⟨h1, h2⟩ := hF (by decide)
   simp only at h1 h2
   subst h1 h2
   exact pk1 a b d e g
  ·exact pk2 a b c d e f g
 unfold pkOk at h
 simp only [Bool.and_eq_true, decide_eq_true_eq] at h
 obtain ⟨h1, h2, h3, h4⟩ := h
 have h5 := ((R.eqf_iff rcF7 rfl _ _ _).1 h4).1
 refine ⟨(Zhs chip F).toNat, by omega, ⟨h1, by omega⟩, ?_⟩
 rw [show (((Zhs chip F).toNat : Nat) : Int) = Zhs chip F by omega]
 exact h5
theorem ZDd {s : List Int × Int} {k : Int} (h : NB s k) (hk : k ≤ 300000) (c : Int) (hc : c ≠ 2) : (Zei s c).1.2.2.2.2.2.2.2.1.2.2.1 = false ∧ (Zei s c).1.2.2.2.2.2.2.2.1.2.2.2.2.2.1 = false := by
 obtain ⟨c1, b1, r1⟩ := ZaQ h (by omega)
 obtain ⟨c2, b2, r2⟩ := ZaQ b1 (by omega)
 obtain ⟨c3, b3, r3⟩ := ZaQ b2 (by omega)
 obtain ⟨c4, b4, r4⟩ := ZaQ b3 (by omega)
 obtain ⟨c5, b5, r5⟩ := ZaQ b4 (by omega)
 obtain ⟨c6, b6, r6⟩ := ZaQ b5 (by omega)
 obtain ⟨c7, b7, r7⟩ := ZaQ b6 (by omega)
 obtain ⟨c8, b8⟩ := ZpS b7 (by omega) c
 obtain ⟨c9, b9, r9⟩ := ZhU b8 (by omega)
 obtain ⟨c10, b10, r10⟩ := ZhU b9 (by omega)
 have hv : (ZjD s c).val = some (((Zf s).1, (Zf (Zf s).2).1, (Zf (Zf (Zf s).2).2).1, (Zf (Zf (Zf (Zf s).2).2).2).1, (Zf (Zf (Zf (Zf (Zf s).2).2).2).2).1, (Zf (Zf (Zf (Zf (Zf (Zf s).2).2).2).2).2).1, (Zf (Zf (Zf (Zf (Zf (Zf (Zf s).2).2).2).2).2).2).1, (ZcG (Zf (Zf (Zf (Zf (Zf (Zf (Zf s).2).2).2).2).2).2).2 c).1, (ZdP (ZcG (Zf (Zf (Zf (Zf (Zf (Zf (Zf s).2).2).2).2).2).2).2 c).2).1, (ZdP (ZdP (ZcG (Zf (Zf (Zf (Zf (Zf (Zf (Zf s).2).2).2).2).2).2).2 c).2).2).1), (ZdP (ZdP (ZcG (Zf (Zf (Zf (Zf (Zf (Zf (Zf s).2).2).2).2).2).2).2 c).2).2).2) := by
  simp only [ZjD, RT.val, c1, c2, c3, c4, c5, c6, c7, c8, c9, c10, Bool.not_true, Bool.false_or, cond_true, Bool.or_true]
 have hz : ∀ s : List Int × Int, ZbK s 128 = true → (ZcG s c).1.2.2.1 = false ∧ (ZcG s c).1.2.2.2.2.2.1 = false := fun s h => by
  have e : (c == 2) = false := by simpa using hc
  simp only [ZcG, ZjG, RT.val, h, e, cond_true, getO, Bool.false_and]
  exact ⟨trivial, trivial⟩
 simp only [Zei, hv, getO]
 exact hz _ (Zay b7 (by omega) 128 (by decide) (by decide)).1
theorem ZGs {s : List Int × Int} {k : Int} (h : NB s k) (hk : k ≤ 200000) : ZIC (nCPU s).1.2.1 ∧ ((nCPU s).1.1 = 1 ∨ (nCPU s).1.1 = 2) ∧ ((nCPU s).1.1 ≠ 2 → (nCPU s).1.2.1.2.2.2.2.2.2.2.1.2.2.1 = false ∧ (nCPU s).1.2.1.2.2.2.2.2.2.2.1.2.2.2.2.2.1 = false) := by
 obtain ⟨c0, b0, hch⟩ := ZuQ h (by omega)
 obtain ⟨c1, b1, r1⟩ := ZuN b0 (by omega) (Z3 s).1
 obtain ⟨c2, b2⟩ := Zbl b1 (by omega)
 obtain ⟨c3, b3, _⟩ := Zay b2 (by omega) 5 (by decide) (by decide)
 obtain ⟨c4, b4, _⟩ := Zay b3 (by omega) 8 (by decide) (by decide)
 obtain ⟨c5, b5, _⟩ := Zay b4 (by omega) 5 (by decide) (by decide)
 obtain ⟨c6, b6⟩ := Zbl b5 (by omega)
 obtain ⟨c7, b7⟩ := Zbl b6 (by omega)
 obtain ⟨c8, b8⟩ := Zbl b7 (by omega)
 obtain ⟨c9, b9, _⟩ := Zay b8 (by omega) 4 (by decide) (by decide)
 obtain ⟨ca, ba⟩ := Zbl b9 (by omega)
 obtain ⟨cb, bb⟩ := Zbl ba (by omega)
 have hv : ∃ c s', (ZsK s).val = some (c, s') ∧ c.1 = (Z3 s).1 ∧ c.2.1 = (Zei (Z3 s).2 (Z3 s).1).1 := by
  simp only [ZsK, RT.val, c0, c1, c2, c3, c4, c5, c6, c7, c8, c9, ca, cb, cond_true, Bool.not_true, Bool.false_or, Bool.or_true]
  cases (Z3 s).1 == 2
  ·exact ⟨_, _, rfl, rfl, rfl⟩
  ·exact ⟨_, _, rfl, rfl, rfl⟩
 obtain ⟨c, s', hv, h1, h2⟩ := hv
 simp only [nCPU, hv, getO, h1, h2]
 exact ⟨r1, hch, fun hne => ZDd b0 (by omega) _ hne⟩
theorem ZlM {c c1 c2 : CpuT} {m m1 m2 : MacT} {g1 g2 : List Int} (h : c.2.2.2.2.1 = false) (h1 : Zcm c 0 noL m = (c1, m1, g1)) (hh : c1.2.2.2.2.1 = false) (h2 : Zcm c1 0 noL m1 = (c2, m2, g2)) : runX 2 c m 0 = (c2, m2, 2) := by
 rw [ZlN, h, h1]
 simp only [cond_false]
 rw [ZlN, hh, h2]
 rfl
theorem ZhE {c c2 : CpuT} {M M2 : List Cell} (h : runX 2 c (ramX, normX M, [], []) 0 = (c2, (ramX, M2, [], []), 2)) : runR c ramX M [] 2 = (c2, M2, [], 2) := by
 unfold runR Zfu
 rw [show (limK 2).toNat = 2 from rfl, h]
theorem ww {M : List Cell} {a b v u q : Int} (ha : 0 ≤ a) (ha2 : a ≤ 65535) (hb : 0 ≤ b) (hb2 : b ≤ 65535) : getX (ZB ramX (ZB ramX M a v) b u) q = if b = q then u else if a = q then v else getX M q := by
 rw [Zoy hb hb2, Zoy ha ha2]
variable (chip : Int) (ie dl : Bool) (q : QT) (t : Int)
theorem ZHt (A B C D E H L : Int) (F : FlgT) (lo hi : Int) (h0 : 0 ≤ t) (h1 : t ≤ 65535) (h2 : t < 32512 ∨ 33024 ≤ t) (h3 : t < 255 ∨ 272 ≤ t) (hj : ZaH hi lo = t) :
  ∃ M2, runR (cS chip (A, B, C, D, E, H, L, F, 32768, 256) ie dl q) ramX (memC t [205, lo, hi]) [] 2 = (cS chip (A, B, C, D, E, H, L, F, 32768, 259) ie false q, M2, [], 2) := by
 have g0 := Zf0 t [205, lo, hi] (by simp) h3 h0 h1 0 (by simp)
 have g1 := Zf0 t [205, lo, hi] (by simp) h3 h0 h1 1 (by simp)
 have g2 := Zf0 t [205, lo, hi] (by simp) h3 h0 h1 2 (by simp)
 have gt := ZIc t [205, lo, hi] (by simp) h3 h0 h1
 have hc := ZHo chip A B C D E H L F ie dl q (normX (memC t [205, lo, hi])) lo hi (by rw [ZU]; exact g0) (by rw [ZU]; exact g1) (by rw [ZU]; exact g2)
 rw [hj] at hc
 have hr := s_ret chip A B C D E H L F ie false q (ZB ramX (ZB ramX (normX (memC t [205, lo, hi])) 32767 1) 32766 3) t 3 1 h0 h1 (by
  rw [ww (by decide) (by decide) (by decide) (by decide), if_neg (by omega), if_neg (by omega), ZU]; exact gt) (by
  rw [ww (by decide) (by decide) (by decide) (by decide), if_pos rfl]) (by
  rw [ww (by decide) (by decide) (by decide) (by decide), if_neg (by decide), if_pos rfl])
 have e : ZaH 1 3 = 259 := by kernel_rfl
 rw [e] at hr
 exact ⟨_, ZhE (ZlM rfl hc rfl hr)⟩
theorem ZHs (A D E H L : Int) (b c : Nat) (hb : b < 256) (hc : c < 256) (F : FlgT) (h0 : 0 ≤ t) (h1 : t ≤ 65535) (h2 : t < 32512 ∨ 33024 ≤ t) (h3 : t < 255 ∨ 272 ≤ t) :
  ∃ M2, runR (cS chip (A, (b : Int), (c : Int), D, E, H, L, F, 32768, 256) ie dl q) ramX (memC t [197, 193]) [] 2 = (cS chip (A, (b : Int), (c : Int), D, E, H, L, F, 32768, 258) ie false q, M2, [], 2) ∧ getX M2 32768 = 0 ∧ M2.length ≤ 100 := by
 have g0 := Zf0 t [197, 193] (by simp) h3 h0 h1 0 (by simp)
 have g1 := Zf0 t [197, 193] (by simp) h3 h0 h1 1 (by simp)
 have gz := ZuT t [197, 193] (by simp) h0 h1 32768 (by decide) (by decide) (by omega)
 refine ⟨_, ZhE (ZlM rfl (ZHm chip A D E H L F ie dl q (normX (memC t [197, 193])) b c hb hc (by rw [ZU]; exact g0)) rfl (s_pop chip A (b : Int) (c : Int) D E H L F ie false q _ b c hb hc (by
  rw [ww (by decide) (by decide) (by decide) (by decide), if_neg (by decide), if_neg (by decide), ZU]; exact g1) (by
  rw [ww (by decide) (by decide) (by decide) (by decide), if_pos rfl]) (by
  rw [ww (by decide) (by decide) (by decide) (by decide), if_neg (by decide), if_pos rfl]))), ?_, ?_⟩
 ·rw [ww (by decide) (by decide) (by decide) (by decide), if_neg (by decide), if_neg (by decide), ZU]; exact gz
 ·have l1 := Zbu ramX (normX (memC t [197, 193])) 32767 (b : Int)
  have l2 := Zbu ramX (ZB ramX (normX (memC t [197, 193])) 32767 (b : Int)) 32766 (c : Int)
  have l3 := Zb4 (memC t [197, 193])
  have l4 := ZcY t [201]
  have l5 := ZcY 256 [197, 193]
  unfold memC at l1 l2 l3 ⊢
  simp only [List.length_append, List.length_cons, List.length_nil] at l3 l4 l5
  omega
theorem ZFp (B C D E H L : Int) (a p : Nat) (ha : a < 256) (hp : p < 256) (F : FlgT) (hP : Zis chip F = true ∧ Zhs chip F = (p : Int)) (hU : Zd5 chip (p : Int) = F) (h0 : 0 ≤ t) (h1 : t ≤ 65535) (h2 : t < 32512 ∨ 33024 ≤ t) (h3 : t < 255 ∨ 272 ≤ t) :
  ∃ M2, runR (cS chip ((a : Int), B, C, D, E, H, L, F, 32768, 256) ie dl q) ramX (memC t [245, 241]) [] 2 = (cS chip ((a : Int), B, C, D, E, H, L, F, 32768, 258) ie false q, M2, [], 2) ∧ getX M2 32768 = 0 ∧ M2.length ≤ 100 := by
 have g0 := Zf0 t [245, 241] (by simp) h3 h0 h1 0 (by simp)
 have g1 := Zf0 t [245, 241] (by simp) h3 h0 h1 1 (by simp)
 have gz := ZuT t [245, 241] (by simp) h0 h1 32768 (by decide) (by decide) (by omega)
 refine ⟨_, ZhE (ZlM rfl (ZFk chip B C D E H L F ie dl q (normX (memC t [245, 241])) a p ha hp hP (by rw [ZU]; exact g0)) rfl (ZHn chip (a : Int) B C D E H L F ie false q _ a p ha hp hU (by
  rw [ww (by decide) (by decide) (by decide) (by decide), if_neg (by decide), if_neg (by decide), ZU]; exact g1) (by
  rw [ww (by decide) (by decide) (by decide) (by decide), if_pos rfl]) (by
  rw [ww (by decide) (by decide) (by decide) (by decide), if_neg (by decide), if_pos rfl]) F)), ?_, ?_⟩
 ·rw [ww (by decide) (by decide) (by decide) (by decide), if_neg (by decide), if_neg (by decide), ZU]; exact gz
 ·have l1 := Zbu ramX (normX (memC t [245, 241])) 32767 (a : Int)
  have l2 := Zbu ramX (ZB ramX (normX (memC t [245, 241])) 32767 (a : Int)) 32766 (p : Int)
  have l3 := Zb4 (memC t [245, 241])
  have l4 := ZcY t [201]
  have l5 := ZcY 256 [245, 241]
  unfold memC at l1 l2 l3 ⊢
  simp only [List.length_append, List.length_cons, List.length_nil] at l3 l4 l5
  omega
theorem ZHr (A B C D E : Int) (h l : Nat) (hh : h < 256) (hl : l < 256) (F : FlgT) (h0 : 0 ≤ t) (h1 : t ≤ 65535) (h2 : t < 32512 ∨ 33024 ≤ t) (h3 : t < 255 ∨ 272 ≤ t) :
  ∃ M2, runR (cS chip (A, B, C, D, E, (h : Int), (l : Int), F, 32768, 256) ie dl q) ramX (memC t [227, 227]) [] 2 = (cS chip (A, B, C, D, E, (h : Int), (l : Int), F, 32768, 258) ie false q, M2, [], 2) ∧ getX M2 32768 = 0 ∧ M2.length ≤ 100 := by
 have g0 := Zf0 t [227, 227] (by simp) h3 h0 h1 0 (by simp)
 have g1 := Zf0 t [227, 227] (by simp) h3 h0 h1 1 (by simp)
 have gz := ZuT t [227, 227] (by simp) h0 h1 32768 (by decide) (by decide) (by omega)
 have gy := ZuT t [227, 227] (by simp) h0 h1 32769 (by decide) (by decide) (by omega)
 refine ⟨_, ZhE (ZlM rfl (ZD7 chip A B C D E F ie dl q (normX (memC t [227, 227])) 256 0 0 h l (by decide) (by decide) (.inl rfl) (by rw [ZU]; exact g0) (by rw [ZU]; exact gz) (by rw [ZU]; exact gy)) rfl
  (ZD7 chip A B C D E F ie false q _ 257 h l 0 0 hh hl (.inr rfl) (by
  rw [ww (by decide) (by decide) (by decide) (by decide), if_neg (by decide), if_neg (by decide), ZU]; exact g1) (by
  rw [ww (by decide) (by decide) (by decide) (by decide), if_pos rfl]) (by
  rw [ww (by decide) (by decide) (by decide) (by decide), if_neg (by decide), if_pos rfl]))), ?_, ?_⟩
 ·rw [ww (by decide) (by decide) (by decide) (by decide), if_pos rfl]; rfl
 ·have l1 := Zbu ramX (normX (memC t [227, 227])) 32769 (h : Int)
  have l2 := Zbu ramX (ZB ramX (normX (memC t [227, 227])) 32769 (h : Int)) 32768 (l : Int)
  have l6 := Zbu ramX (ZB ramX (ZB ramX (normX (memC t [227, 227])) 32769 (h : Int)) 32768 (l : Int)) 32769 ((0 : Nat) : Int)
  have l7 := Zbu ramX (ZB ramX (ZB ramX (ZB ramX (normX (memC t [227, 227])) 32769 (h : Int)) 32768 (l : Int)) 32769 ((0 : Nat) : Int)) 32768 ((0 : Nat) : Int)
  have l3 := Zb4 (memC t [227, 227])
  have l4 := ZcY t [201]
  have l5 := ZcY 256 [227, 227]
  unfold memC at l1 l2 l3 l6 l7 ⊢
  simp only [List.length_append, List.length_cons, List.length_nil] at l3 l4 l5
  omega
theorem calls_law (n : List Int) (w : Int) (t : Int) (ht : inR .u16 t) : ZsT n w t = true ∧ ZAN n w t = true := by
 have hms := mst
 obtain ⟨c1, _, hh⟩ := ZGr (ZBj n) (by omega)
 obtain ⟨hreg, hchip, hfl⟩ := ZGs (ZBj n) (by omega)
 obtain ⟨p1, p2, p3⟩ := ZyY w 4 (by decide) (by decide)
 rw [Zfj] at ht
 obtain ⟨v, rfl⟩ : ∃ v : Nat, t = (v : Int) := ⟨t.toNat, by omega⟩
 have hj : ZaH (IntKind.wrap .u8 (shrI .u16 (v : Int) 8)) (IntKind.wrap .u8 (v : Int)) = (v : Int) := by
  rw [ZIt v (by omega), ZIi v]; exact ZAS v (by omega)
 have hv : (ZjX n w (v : Int)).val = some true := by
  unfold ZjX
  cases hn : decide (iN (List.length n) > 60)
  ·cases hx : (bif decide ((v : Int) ≥ 32512) then decide ((v : Int) < 33024) || decide ((v : Int) ≥ 255) && decide ((v : Int) < 272) else decide ((v : Int) ≥ 255) && decide ((v : Int) < 272))
   ·have hx2 : ((v : Int) < 32512 ∨ 33024 ≤ (v : Int)) ∧ ((v : Int) < 255 ∨ 272 ≤ (v : Int)) := by
     cases h1 : decide ((v : Int) ≥ 32512) <;> cases h2 : decide ((v : Int) < 33024) <;> cases h3 : decide ((v : Int) ≥ 255) <;> cases h4 : decide ((v : Int) < 272) <;> rw [h1, h2, h3, h4] at hx <;>
      simp only [decide_eq_true_eq, decide_eq_false_iff_not] at h1 h2 h3 h4 <;> first | (simp at hx; done) | omega
    generalize (nCPU (n, 0)).1 = c at hh hreg hchip hfl ⊢
    obtain ⟨chip, ⟨A, B, C, D, E, H, L, F, sp, pc⟩, ie, dl, ha, q⟩ := c
    simp only at hh hreg hchip hfl
    subst hh
    obtain ⟨rA, rB, rC, rD, rE, rH, rL, _, _⟩ := hreg
    simp only at rA rB rC rD rE rH rL
    obtain ⟨a, rfl, ha2⟩ := bnat rA
    obtain ⟨b, rfl, hb2⟩ := bnat rB
    obtain ⟨c', rfl, hc2⟩ := bnat rC
    obtain ⟨h, rfl, hh2⟩ := bnat rH
    obtain ⟨l, rfl, hl2⟩ := bnat rL
    have hlen : ∀ b : List Int, b.length ≤ 16 → Nat.ble (ZbW (v : Int) [201] ++ ZbW 256 b).length most = true ∧ smB b = true ∧ (smG ramX && Zvy (ZbW (v : Int) [201] ++ ZbW 256 b)) = true := fun b hb => by
     have l4 := ZcY (v : Int) [201]
     have l5 := ZcY 256 b
     simp only [List.length_cons, List.length_nil] at l4
     refine ⟨ZBM (by rw [List.length_append]; omega), ZD5 (by omega), ?_⟩
     rw [ZFj, Bool.true_and]; exact Zou.2 (by rw [List.length_append]; omega)
    have h201 : smB [201] = true := ZD5 (by simp)
    have hin0 : Ze 0 4 = true := rfl
    have hin1 : Ze 1 4 = true := rfl
    have hin2 : Ze 2 4 = true := rfl
    have hin3 : Ze 3 4 = true := rfl
    have hi2 : (iN 2 == 3) = false := rfl
    have hi3 : (iN 3 == 3) = true := rfl
    have pc2 : IntKind.wrap .u16 (256 + IntKind.wrap .u16 (iN 2)) = 258 := by decide
    have pc3 : IntKind.wrap .u16 (256 + IntKind.wrap .u16 (iN 3)) = 259 := by decide
    have hcase : Zdj w 4 = 0 ∨ Zdj w 4 = 1 ∨ Zdj w 4 = 2 ∨ Zdj w 4 = 3 := by omega
    rcases hcase with hp | hp | hp | hp
    ·obtain ⟨M2, hr⟩ := ZHt chip ie dl q (v : Int) (a : Int) (b : Int) (c' : Int) D E (h : Int) (l : Int) F (IntKind.wrap .u8 (v : Int)) (IntKind.wrap .u8 (shrI .u16 (v : Int) 8)) (by omega) (by omega) hx2.1 hx2.2 hj
     unfold cS memC at hr
     have e3 : R.get (R.sl (R.int .u8)) [[205, IntKind.wrap .u8 (v : Int), IntKind.wrap .u8 (shrI .u16 (v : Int) 8)], [197, 193], [245, 241], [227, 227]] 0 = [205, IntKind.wrap .u8 (v : Int), IntKind.wrap .u8 (shrI .u16 (v : Int) 8)] := rfl
     have hl := hlen [205, IntKind.wrap .u8 (v : Int), IntKind.wrap .u8 (shrI .u16 (v : Int) 8)] (by simp)
     simp only [RT.val, hn, hx, c1, p1, hp, e3, hl.1, hl.2.1, hl.2.2, h201, ZhD, ZnM, hr, Ze2.1, Ze2.2, Znt, ZhT, R.eqf_refl, R.sel_eq, List.length_cons, List.length_nil, Nat.reduceAdd, hin0, hi2, hi3, pc2, pc3, Bool.true_and, Bool.not_true, Bool.not_false, Bool.false_or, Bool.true_or, Bool.or_true, Bool.or_false, Bool.and_self, Bool.and_true, beq_self_eq_true, cond_true, cond_false]
    ·obtain ⟨M2, hr, hz, hm⟩ := ZHs chip ie dl q (v : Int) (a : Int) D E (h : Int) (l : Int) b c' hb2 hc2 F (by omega) (by omega) hx2.1 hx2.2
     unfold cS memC at hr
     have e3 : R.get (R.sl (R.int .u8)) [[205, IntKind.wrap .u8 (v : Int), IntKind.wrap .u8 (shrI .u16 (v : Int) 8)], [197, 193], [245, 241], [227, 227]] 1 = [197, 193] := rfl
     have hl := hlen [197, 193] (by simp)
     have hs : smC M2 = true := ZxY (by omega)
     simp only [RT.val, hn, hx, c1, p1, hp, e3, hl.1, hl.2.1, hl.2.2, h201, ZhD, ZnM, hr, hz, hs, Ze2.1, Ze2.2, Znt, ZhT, R.eqf_refl, R.sel_eq, List.length_cons, List.length_nil, Nat.reduceAdd, hin1, hi2, hi3, pc2, pc3, Bool.true_and, Bool.not_true, Bool.not_false, Bool.false_or, Bool.true_or, Bool.or_true, Bool.or_false, Bool.and_self, Bool.and_true, beq_self_eq_true, cond_true, cond_false]
    ·obtain ⟨p, hp256, hP, hU⟩ := ZHR chip F hchip hfl
     obtain ⟨M2, hr, hz, hm⟩ := ZFp chip ie dl q (v : Int) (b : Int) (c' : Int) D E (h : Int) (l : Int) a p ha2 hp256 F hP hU (by omega) (by omega) hx2.1 hx2.2
     unfold cS memC at hr
     have e3 : R.get (R.sl (R.int .u8)) [[205, IntKind.wrap .u8 (v : Int), IntKind.wrap .u8 (shrI .u16 (v : Int) 8)], [197, 193], [245, 241], [227, 227]] 2 = [245, 241] := rfl
     have hl := hlen [245, 241] (by simp)
     have hs : smC M2 = true := ZxY (by omega)
     simp only [RT.val, hn, hx, c1, p1, hp, e3, hl.1, hl.2.1, hl.2.2, h201, ZhD, ZnM, hr, hz, hs, Ze2.1, Ze2.2, Znt, ZhT, R.eqf_refl, R.sel_eq, List.length_cons, List.length_nil, Nat.reduceAdd, hin2, hi2, hi3, pc2, pc3, Bool.true_and, Bool.not_true, Bool.not_false, Bool.false_or, Bool.true_or, Bool.or_true, Bool.or_false, Bool.and_self, Bool.and_true, beq_self_eq_true, cond_true, cond_false]
    ·obtain ⟨M2, hr, hz, hm⟩ := ZHr chip ie dl q (v : Int) (a : Int) (b : Int) (c' : Int) D E h l hh2 hl2 F (by omega) (by omega) hx2.1 hx2.2
     unfold cS memC at hr
     have e3 : R.get (R.sl (R.int .u8)) [[205, IntKind.wrap .u8 (v : Int), IntKind.wrap .u8 (shrI .u16 (v : Int) 8)], [197, 193], [245, 241], [227, 227]] 3 = [227, 227] := rfl
     have hl := hlen [227, 227] (by simp)
     have hs : smC M2 = true := ZxY (by omega)
     simp only [RT.val, hn, hx, c1, p1, hp, e3, hl.1, hl.2.1, hl.2.2, h201, ZhD, ZnM, hr, hz, hs, Ze2.1, Ze2.2, Znt, ZhT, R.eqf_refl, R.sel_eq, List.length_cons, List.length_nil, Nat.reduceAdd, hin3, hi2, hi3, pc2, pc3, Bool.true_and, Bool.not_true, Bool.not_false, Bool.false_or, Bool.true_or, Bool.or_true, Bool.or_false, Bool.and_self, Bool.and_true, beq_self_eq_true, cond_true, cond_false]
   ·have hin : Ze (Zdj w 4) 4 = true := Zbi.2 ⟨p2, p3⟩
    simp only [RT.val, hn, hx, c1, p1, hin, Ze2.1, List.length_cons, List.length_nil, Nat.reduceAdd, Bool.not_true, Bool.not_false, Bool.false_or, Bool.true_or, Bool.or_true, Bool.or_false, Bool.and_self, Bool.and_true, beq_self_eq_true, cond_true, cond_false]
  ·simp only [RT.val, hn, Ze2.1, Bool.not_true, Bool.false_or, cond_true]
 exact ⟨by simp only [ZsT, hv]; rfl, by simp only [ZAN, hv, getO]⟩
end
end Go.Proofs.YtghoimllhpjkjaaGreat
