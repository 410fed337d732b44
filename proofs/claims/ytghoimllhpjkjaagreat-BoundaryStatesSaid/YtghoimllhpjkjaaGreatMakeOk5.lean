/-
  What the makers of inputs make: in range, and never a panic. Conditions: none.
-/
import Derived.Test.YtghoimllhpjkjaaGreatFin0
import Derived.Test.YtghoimllhpjkjaaGreatFin4
import Derived.Test.YtghoimllhpjkjaaGreatNext2
import Derived.Test.YtghoimllhpjkjaaGreatPinsEq
import Derived.Test.YtghoimllhpjkjaaGreatS3D
import Derived.Test.YtghoimllhpjkjaaGreatProg
open Go Go.S3 Go.Proofs
set_option linter.unusedVariables false
set_option linter.unusedSimpArgs false
set_option maxRecDepth 100000
namespace Go.Proofs.YtghoimllhpjkjaaGreat
noncomputable section
theorem fr_1 (c) (s : Int) (g : List Int) (l) (hb : ∀ j : Nat, inR .u8 (g[j]?.getD 0)) (n : Int) (hk : (Za c.1 (g.getD 0 0)).1 = n) : (n = 1 → (Zu2 c s g l).val = some (finX c s g l)) ∧ (n = 6 → (ZuX c s g l).val = some (finX c s g l)) ∧ (n = 10 → (Zo9 c s g l).val = some (finX c s g l)) ∧ (n = 17 → (Zo2 c s g l).val = some (finX c s g l)) ∧ (n = 21 → (ZoY c s g l).val = some (finX c s g l)) ∧ (n = 28 → (ZoR c s g l).val = some (finX c s g l)) ∧ (n = 33 → (ZoM c s g l).val = some (finX c s g l)) ∧ (n = 37 → (ZoI c s g l).val = some (finX c s g l)) ∧ (n = 43 → (ZoC c s g l).val = some (finX c s g l)) := by
 refine ⟨?_, ?_, ?_, ?_, ?_, ?_, ?_, ?_, ?_⟩
 all_goals intro e; subst e
 all_goals simp only [Zu2, ZuX, Zo9, Zo2, ZoY, ZoR, ZoM, ZoI, ZoC, RT.val, rgx]
 all_goals simp only [qat0, mat0, qat1, mat1, rg0, hk, Zs, ZR, Z4, ZF, ZG, Zv, Zx, ZaD, ZaF, ZbO, ZbN, Zr, ZaR, finX, spOf]
 all_goals generalize Zb s = bi
 all_goals cases bi with
 | true => simp [wPC, wSP]
 | false =>
  generalize (s == 5) = bs
  simp only [finI, hk, finR, wPC, wSP, wA, wF, fCY, fVCY, Zcb, flOf, ZI, pcOf, ZaS]
  generalize Za c.1 (g.getD 0 0) = i at hk ⊢
  simp (config := { implicitDefEqProofs := false }) [Zbp, Za2, Zbd, hk, ZeK, ZeM, ZeL, Zia, Zib, Zds, Zdr, Zig, hb]
theorem fr_2 (c) (s : Int) (g : List Int) (l) (hb : ∀ j : Nat, inR .u8 (g[j]?.getD 0)) (n : Int) (hk : (Za c.1 (g.getD 0 0)).1 = n) : (n = 3 → (Zu0 c s g l).val = some (finX c s g l)) ∧ (n = 7 → (ZuW c s g l).val = some (finX c s g l)) ∧ (n = 11 → (Zo8 c s g l).val = some (finX c s g l)) ∧ (n = 18 → (Zo1 c s g l).val = some (finX c s g l)) ∧ (n = 22 → (ZoX c s g l).val = some (finX c s g l)) ∧ (n = 29 → (ZoQ c s g l).val = some (finX c s g l)) ∧ (n = 34 → (ZoL c s g l).val = some (finX c s g l)) ∧ (n = 40 → (ZoF c s g l).val = some (finX c s g l)) ∧ (n = 44 → (ZoB c s g l).val = some (finX c s g l)) := by
 refine ⟨?_, ?_, ?_, ?_, ?_, ?_, ?_, ?_, ?_⟩
 all_goals intro e; subst e
 all_goals simp only [Zu0, ZuW, Zo8, Zo1, ZoX, ZoQ, ZoL, ZoF, ZoB, RT.val, rgx]
 all_goals simp only [qat0, mat0, qat1, mat1, rg0, hk, Zs, ZR, Z4, ZF, ZG, Zv, Zx, ZaD, ZaF, ZbO, ZbN, Zr, ZaR, finX, spOf]
 all_goals generalize Zb s = bi
 all_goals cases bi with
 | true => simp [wPC, wSP]
 | false =>
  generalize (s == 5) = bs
  simp only [finI, hk, finR, wPC, wSP, wA, wF, fCY, fVCY, Zcb, flOf, ZI, pcOf, ZaS]
  generalize Za c.1 (g.getD 0 0) = i at hk ⊢
  simp (config := { implicitDefEqProofs := false }) [Zbp, Za2, Zbd, hk, ZeK, ZeM, ZeL, Zia, Zib, Zds, Zdr, Zig, hb]
theorem fr_3 (c) (s : Int) (g : List Int) (l) (hb : ∀ j : Nat, inR .u8 (g[j]?.getD 0)) (n : Int) (hk : (Za c.1 (g.getD 0 0)).1 = n) : (n = 4 → (ZuZ c s g l).val = some (finX c s g l)) ∧ (n = 8 → (ZuV c s g l).val = some (finX c s g l)) ∧ (n = 13 → (Zo6 c s g l).val = some (finX c s g l)) ∧ (n = 19 → (Zo0 c s g l).val = some (finX c s g l)) ∧ (n = 23 → (ZoW c s g l).val = some (finX c s g l)) ∧ (n = 30 → (ZoP c s g l).val = some (finX c s g l)) ∧ (n = 35 → (ZoK c s g l).val = some (finX c s g l)) ∧ (n = 41 → (ZoE c s g l).val = some (finX c s g l)) ∧ (n = 46 → (Zoz c s g l).val = some (finX c s g l)) := by
 refine ⟨?_, ?_, ?_, ?_, ?_, ?_, ?_, ?_, ?_⟩
 all_goals intro e; subst e
 all_goals simp only [ZuZ, ZuV, Zo6, Zo0, ZoW, ZoP, ZoK, ZoE, Zoz, RT.val, rgx]
 all_goals simp only [qat0, mat0, qat1, mat1, rg0, hk, Zs, ZR, Z4, ZF, ZG, Zv, Zx, ZaD, ZaF, ZbO, ZbN, Zr, ZaR, finX, spOf]
 all_goals generalize Zb s = bi
 all_goals cases bi with
 | true => simp [wPC, wSP]
 | false =>
  generalize (s == 5) = bs
  simp only [finI, hk, finR, wPC, wSP, wA, wF, fCY, fVCY, Zcb, flOf, ZI, pcOf, ZaS]
  generalize Za c.1 (g.getD 0 0) = i at hk ⊢
  simp (config := { implicitDefEqProofs := false }) [Zbp, Za2, Zbd, hk, ZeK, ZeM, ZeL, Zia, Zib, Zds, Zdr, Zig, hb]
theorem fr_4 (c) (s : Int) (g : List Int) (l) (hb : ∀ j : Nat, inR .u8 (g[j]?.getD 0)) (n : Int) (hk : (Za c.1 (g.getD 0 0)).1 = n) : (n = 5 → (ZuY c s g l).val = some (finX c s g l)) ∧ (n = 9 → (ZuU c s g l).val = some (finX c s g l)) ∧ (n = 16 → (Zo3 c s g l).val = some (finX c s g l)) ∧ (n = 20 → (ZoZ c s g l).val = some (finX c s g l)) ∧ (n = 27 → (ZoS c s g l).val = some (finX c s g l)) ∧ (n = 32 → (ZoN c s g l).val = some (finX c s g l)) ∧ (n = 36 → (ZoJ c s g l).val = some (finX c s g l)) ∧ (n = 42 → (ZoD c s g l).val = some (finX c s g l)) ∧ (n = 47 → (Zoy c s g l).val = some (finX c s g l)) := by
 refine ⟨?_, ?_, ?_, ?_, ?_, ?_, ?_, ?_, ?_⟩
 all_goals intro e; subst e
 all_goals simp only [ZuY, ZuU, Zo3, ZoZ, ZoS, ZoN, ZoJ, ZoD, Zoy, RT.val, rgx]
 all_goals simp only [qat0, mat0, qat1, mat1, rg0, hk, Zs, ZR, Z4, ZF, ZG, Zv, Zx, ZaD, ZaF, ZbO, ZbN, Zr, ZaR, finX, spOf]
 all_goals generalize Zb s = bi
 all_goals cases bi with
 | true => simp [wPC, wSP]
 | false =>
  generalize (s == 5) = bs
  simp only [finI, hk, finR, wPC, wSP, wA, wF, fCY, fVCY, Zcb, flOf, ZI, pcOf, ZaS]
  generalize Za c.1 (g.getD 0 0) = i at hk ⊢
  simp (config := { implicitDefEqProofs := false }) [Zbp, Za2, Zbd, hk, ZeK, ZeM, ZeL, Zia, Zib, Zds, Zdr, Zig, hb]
theorem fr_5 (c) (s : Int) (g : List Int) (l) (hb : ∀ j : Nat, inR .u8 (g[j]?.getD 0)) (n : Int) (hk : (Za c.1 (g.getD 0 0)).1 = n) : (n = 2 → (Zu1 c s g l).val = some (finX c s g l)) ∧ (n = 12 → (Zo7 c s g l).val = some (finX c s g l)) := by
 refine ⟨?_, ?_⟩
 all_goals intro e; subst e
 all_goals simp only [Zu1, Zo7, RT.val, rgx]
 all_goals simp only [qat0, mat0, qat1, mat1, rg0, hk, Zs, ZR, Z4, ZF, ZG, Zv, Zx, ZaD, ZaF, ZbO, ZbN, Zr, ZaR, finX, spOf]
 all_goals generalize Zb s = bi
 all_goals cases bi with
 | true => simp [wPC, wSP]
 | false =>
  generalize (s == 5) = bs
  simp only [finI, hk, finR, wPC, wSP, wA, wF, fCY, fVCY, Zcb, flOf, ZI, pcOf, ZaS]
  generalize Za c.1 (g.getD 0 0) = i at hk ⊢
  generalize (i.2.2.2.1 == 6) = b0
  cases b0 <;> simp (config := { implicitDefEqProofs := false }) [Zbp, Za2, Zbd, hk, ZeK, ZeM, ZeL, Zia, Zib, Zds, Zdr, Zig, hb]
theorem fr_6 (c) (s : Int) (g : List Int) (l) (hb : ∀ j : Nat, inR .u8 (g[j]?.getD 0)) (n : Int) (hk : (Za c.1 (g.getD 0 0)).1 = n) : (n = 14 → (Zo5 c s g l).val = some (finX c s g l)) ∧ (n = 15 → (Zo4 c s g l).val = some (finX c s g l)) := by
 refine ⟨?_, ?_⟩
 all_goals intro e; subst e
 all_goals simp only [Zo5, Zo4, RT.val, rgx]
 all_goals simp only [qat0, mat0, qat1, mat1, rg0, hk, Zs, ZR, Z4, ZF, ZG, Zv, Zx, ZaD, ZaF, ZbO, ZbN, Zr, ZaR, finX, spOf]
 all_goals generalize Zb s = bi
 all_goals cases bi with
 | true => simp [wPC, wSP]
 | false =>
  generalize (s == 5) = bs
  simp only [finI, hk, finR, wPC, wSP, wA, wF, fCY, fVCY, Zcb, flOf, ZI, pcOf, ZaS]
  generalize Za c.1 (g.getD 0 0) = i at hk ⊢
  generalize (i.2.2.1 == 6) = b0
  cases b0 <;> simp (config := { implicitDefEqProofs := false }) [Zbp, Za2, Zbd, hk, ZeK, ZeM, ZeL, Zia, Zib, Zds, Zdr, Zig, hb]
theorem fr_7 (c) (s : Int) (g : List Int) (l) (hb : ∀ j : Nat, inR .u8 (g[j]?.getD 0)) (n : Int) (hk : (Za c.1 (g.getD 0 0)).1 = n) : (n = 24 → (ZoV c s g l).val = some (finX c s g l)) ∧ (n = 25 → (ZoU c s g l).val = some (finX c s g l)) ∧ (n = 26 → (ZoT c s g l).val = some (finX c s g l)) ∧ (n = 45 → (ZoA c s g l).val = some (finX c s g l)) := by
 refine ⟨?_, ?_, ?_, ?_⟩
 all_goals intro e; subst e
 all_goals simp only [ZoV, ZoU, ZoT, ZoA, RT.val, rgx]
 all_goals simp only [qat0, mat0, qat1, mat1, rg0, hk, Zs, ZR, Z4, ZF, ZG, Zv, Zx, ZaD, ZaF, ZbO, ZbN, Zr, ZaR, finX, spOf]
 all_goals generalize Zb s = bi
 all_goals cases bi with
 | true => simp [wPC, wSP]
 | false =>
  generalize (s == 5) = bs
  simp only [finI, hk, finR, wPC, wSP, wA, wF, fCY, fVCY, Zcb, flOf, ZI, pcOf, ZaS]
  generalize Za c.1 (g.getD 0 0) = i at hk ⊢
  generalize Zdu _ _ = b0
  cases b0 <;> simp (config := { implicitDefEqProofs := false }) [Zbp, Za2, Zbd, hk, ZeK, ZeM, ZeL, Zia, Zib, Zds, Zdr, Zig, hb]
theorem fr_8 (c) (s : Int) (g : List Int) (l) (hb : ∀ j : Nat, inR .u8 (g[j]?.getD 0)) (n : Int) (hk : (Za c.1 (g.getD 0 0)).1 = n) : (n = 31 → (ZoO c s g l).val = some (finX c s g l)) := by
 skip
 all_goals intro e; subst e
 all_goals simp only [ZoO, RT.val, rgx]
 all_goals simp only [qat0, mat0, qat1, mat1, rg0, hk, Zs, ZR, Z4, ZF, ZG, Zv, Zx, ZaD, ZaF, ZbO, ZbN, Zr, ZaR, finX, spOf]
 all_goals generalize Zb s = bi
 all_goals cases bi with
 | true => simp [wPC, wSP]
 | false =>
  generalize (s == 5) = bs
  simp only [finI, hk, finR, wPC, wSP, wA, wF, fCY, fVCY, Zcb, flOf, ZI, pcOf, ZaS]
  generalize Za c.1 (g.getD 0 0) = i at hk ⊢
  generalize (i.2.2.2.2.1 == 3) = b0
  cases b0 <;> simp (config := { implicitDefEqProofs := false }) [Zbp, Za2, Zbd, hk, ZeK, ZeM, ZeL, Zia, Zib, Zds, Zdr, Zig, hb, ZeR, ZiN, RT.val]
theorem fr_9 (c) (s : Int) (g : List Int) (l) (hb : ∀ j : Nat, inR .u8 (g[j]?.getD 0)) (n : Int) (hk : (Za c.1 (g.getD 0 0)).1 = n) : (n = 38 → (ZoH c s g l).val = some (finX c s g l)) := by
 skip
 all_goals intro e; subst e
 all_goals simp only [ZoH, RT.val, rgx]
 all_goals simp only [qat0, mat0, qat1, mat1, rg0, hk, Zs, ZR, Z4, ZF, ZG, Zv, Zx, ZaD, ZaF, ZbO, ZbN, Zr, ZaR, finX, spOf]
 all_goals generalize Zb s = bi
 all_goals cases bi with
 | true => simp [wPC, wSP]
 | false =>
  generalize (s == 5) = bs
  simp only [finI, hk, finR, wPC, wSP, wA, wF, fCY, fVCY, Zcb, flOf, ZI, pcOf, ZaS]
  generalize Za c.1 (g.getD 0 0) = i at hk ⊢
  simp [Zbp, Za2, Zbd, hk, ZJA]
  rfl
theorem fr_10 (c) (s : Int) (g : List Int) (l) (hb : ∀ j : Nat, inR .u8 (g[j]?.getD 0)) (n : Int) (hk : (Za c.1 (g.getD 0 0)).1 = n) : (n = 39 → (ZoG c s g l).val = some (finX c s g l)) := by
 skip
 all_goals intro e; subst e
 all_goals simp only [ZoG, RT.val, rgx]
 all_goals simp only [qat0, mat0, qat1, mat1, rg0, hk, Zs, ZR, Z4, ZF, ZG, Zv, Zx, ZaD, ZaF, ZbO, ZbN, Zr, ZaR, finX, spOf]
 all_goals generalize Zb s = bi
 all_goals cases bi with
 | true => simp [wPC, wSP]
 | false =>
  generalize (s == 5) = bs
  simp only [finI, hk, finR, wPC, wSP, wA, wF, fCY, fVCY, Zcb, flOf, ZI, pcOf, ZaS]
  generalize Za c.1 (g.getD 0 0) = i at hk ⊢
  simp [Zbp, Za2, Zbd, hk, rSim, ZDh, RT.val]
theorem ZLt (a : HL Zm) (h : okHL Zm a) : ∃ l, Zc0 Tryz.prog l ∧ (Zg (envX Tryz.prog l [] 79250227772808467515411824639 8) Tryz.f98 Zm ZV a).val = some (finX a.1 a.2.1 a.2.2.1 a.2.2.2) := by
 have hk := ZqU a.1.1 _ (ZqX h.2.2.1)
 have hb : ∀ j : Nat, inR .u8 (a.2.2.1[j]?.getD 0) := fun j => by
  cases hj : a.2.2.1[j]? with
  | none => rw [ZfK]; simp
  | some x => exact h.2.2.1.2 x (List.mem_of_getElem? hj)
 refine ⟨Zau (Za a.1.1 (a.2.2.1.getD 0 0)).1, ZHS _, ?_⟩
 rcases ZqT hk.1 hk.2 with e | e | e | e | e | e | e | e | e | e | e | e | e | e | e | e | e | e | e | e | e | e | e | e | e | e | e | e | e | e | e | e | e | e | e | e | e | e | e | e | e | e | e | e | e | e | e
 ·rw [e, ZDW a, ((fr_1 a.1 a.2.1 a.2.2.1 a.2.2.2 hb _ e).1 rfl)]
 ·rw [e, ZDV a, ((fr_5 a.1 a.2.1 a.2.2.1 a.2.2.2 hb _ e).1 rfl)]
 ·rw [e, ZDU a, ((fr_2 a.1 a.2.1 a.2.2.1 a.2.2.2 hb _ e).1 rfl)]
 ·rw [e, ZDT a, ((fr_3 a.1 a.2.1 a.2.2.1 a.2.2.2 hb _ e).1 rfl)]
 ·rw [e, ZDS a, ((fr_4 a.1 a.2.1 a.2.2.1 a.2.2.2 hb _ e).1 rfl)]
 ·rw [e, ZDR a, ((fr_1 a.1 a.2.1 a.2.2.1 a.2.2.2 hb _ e).2.1 rfl)]
 ·rw [e, ZDQ a, ((fr_2 a.1 a.2.1 a.2.2.1 a.2.2.2 hb _ e).2.1 rfl)]
 ·rw [e, ZDP a, ((fr_3 a.1 a.2.1 a.2.2.1 a.2.2.2 hb _ e).2.1 rfl)]
 ·rw [e, ZDO a, ((fr_4 a.1 a.2.1 a.2.2.1 a.2.2.2 hb _ e).2.1 rfl)]
 ·rw [e, ZAA a, ((fr_1 a.1 a.2.1 a.2.2.1 a.2.2.2 hb _ e).2.2.1 rfl)]
 ·rw [e, ZAz a, ((fr_2 a.1 a.2.1 a.2.2.1 a.2.2.2 hb _ e).2.2.1 rfl)]
 ·rw [e, ZAy a, ((fr_5 a.1 a.2.1 a.2.2.1 a.2.2.2 hb _ e).2 rfl)]
 ·rw [e, ZAx a, ((fr_3 a.1 a.2.1 a.2.2.1 a.2.2.2 hb _ e).2.2.1 rfl)]
 ·rw [e, ZAw a, ((fr_6 a.1 a.2.1 a.2.2.1 a.2.2.2 hb _ e).1 rfl)]
 ·rw [e, ZAv a, ((fr_6 a.1 a.2.1 a.2.2.1 a.2.2.2 hb _ e).2 rfl)]
 ·rw [e, ZAu a, ((fr_4 a.1 a.2.1 a.2.2.1 a.2.2.2 hb _ e).2.2.1 rfl)]
 ·rw [e, ZAt a, ((fr_1 a.1 a.2.1 a.2.2.1 a.2.2.2 hb _ e).2.2.2.1 rfl)]
 ·rw [e, ZAs a, ((fr_2 a.1 a.2.1 a.2.2.1 a.2.2.2 hb _ e).2.2.2.1 rfl)]
 ·rw [e, ZAr a, ((fr_3 a.1 a.2.1 a.2.2.1 a.2.2.2 hb _ e).2.2.2.1 rfl)]
 ·rw [e, ZAq a, ((fr_4 a.1 a.2.1 a.2.2.1 a.2.2.2 hb _ e).2.2.2.1 rfl)]
 ·rw [e, ZAp a, ((fr_1 a.1 a.2.1 a.2.2.1 a.2.2.2 hb _ e).2.2.2.2.1 rfl)]
 ·rw [e, ZAo a, ((fr_2 a.1 a.2.1 a.2.2.1 a.2.2.2 hb _ e).2.2.2.2.1 rfl)]
 ·rw [e, ZAn a, ((fr_3 a.1 a.2.1 a.2.2.1 a.2.2.2 hb _ e).2.2.2.2.1 rfl)]
 ·rw [e, ZAm a, ((fr_7 a.1 a.2.1 a.2.2.1 a.2.2.2 hb _ e).1 rfl)]
 ·rw [e, ZAl a, ((fr_7 a.1 a.2.1 a.2.2.1 a.2.2.2 hb _ e).2.1 rfl)]
 ·rw [e, ZAk a, ((fr_7 a.1 a.2.1 a.2.2.1 a.2.2.2 hb _ e).2.2.1 rfl)]
 ·rw [e, ZAj a, ((fr_4 a.1 a.2.1 a.2.2.1 a.2.2.2 hb _ e).2.2.2.2.1 rfl)]
 ·rw [e, ZAi a, ((fr_1 a.1 a.2.1 a.2.2.1 a.2.2.2 hb _ e).2.2.2.2.2.1 rfl)]
 ·rw [e, ZAh a, ((fr_2 a.1 a.2.1 a.2.2.1 a.2.2.2 hb _ e).2.2.2.2.2.1 rfl)]
 ·rw [e, ZAg a, ((fr_3 a.1 a.2.1 a.2.2.1 a.2.2.2 hb _ e).2.2.2.2.2.1 rfl)]
 ·rw [e, ZAf a, ((fr_8 a.1 a.2.1 a.2.2.1 a.2.2.2 hb _ e) rfl)]
 ·rw [e, ZAe a, ((fr_4 a.1 a.2.1 a.2.2.1 a.2.2.2 hb _ e).2.2.2.2.2.1 rfl)]
 ·rw [e, ZAd a, ((fr_1 a.1 a.2.1 a.2.2.1 a.2.2.2 hb _ e).2.2.2.2.2.2.1 rfl)]
 ·rw [e, ZAc a, ((fr_2 a.1 a.2.1 a.2.2.1 a.2.2.2 hb _ e).2.2.2.2.2.2.1 rfl)]
 ·rw [e, ZAb a, ((fr_3 a.1 a.2.1 a.2.2.1 a.2.2.2 hb _ e).2.2.2.2.2.2.1 rfl)]
 ·rw [e, ZAa a, ((fr_4 a.1 a.2.1 a.2.2.1 a.2.2.2 hb _ e).2.2.2.2.2.2.1 rfl)]
 ·rw [e, Zz9 a, ((fr_1 a.1 a.2.1 a.2.2.1 a.2.2.2 hb _ e).2.2.2.2.2.2.2.1 rfl)]
 ·rw [e, Zz8 a, ((fr_9 a.1 a.2.1 a.2.2.1 a.2.2.2 hb _ e) rfl)]
 ·rw [e, Zz7 a, ((fr_10 a.1 a.2.1 a.2.2.1 a.2.2.2 hb _ e) rfl)]
 ·rw [e, Zz6 a, ((fr_2 a.1 a.2.1 a.2.2.1 a.2.2.2 hb _ e).2.2.2.2.2.2.2.1 rfl)]
 ·rw [e, Zz5 a, ((fr_3 a.1 a.2.1 a.2.2.1 a.2.2.2 hb _ e).2.2.2.2.2.2.2.1 rfl)]
 ·rw [e, Zz4 a, ((fr_4 a.1 a.2.1 a.2.2.1 a.2.2.2 hb _ e).2.2.2.2.2.2.2.1 rfl)]
 ·rw [e, Zz3 a, ((fr_1 a.1 a.2.1 a.2.2.1 a.2.2.2 hb _ e).2.2.2.2.2.2.2.2 rfl)]
 ·rw [e, Zz2 a, ((fr_2 a.1 a.2.1 a.2.2.1 a.2.2.2 hb _ e).2.2.2.2.2.2.2.2 rfl)]
 ·rw [e, Zz1 a, ((fr_7 a.1 a.2.1 a.2.2.1 a.2.2.2 hb _ e).2.2.2 rfl)]
 ·rw [e, Zz0 a, ((fr_3 a.1 a.2.1 a.2.2.1 a.2.2.2 hb _ e).2.2.2.2.2.2.2.2 rfl)]
 ·rw [e, ZzZ a, ((fr_4 a.1 a.2.1 a.2.2.1 a.2.2.2 hb _ e).2.2.2.2.2.2.2.2 rfl)]
def ZNt : Entry := Zk Zm ZV (fun _ => none) (fun a => finX a.1 a.2.1 a.2.2.1 a.2.2.2)
theorem ZLs : Zc Tryz.prog 98 ZNt := ZiS Tryz.func98 rfl (by kernel_rfl) Tryz.call98 fun a h _ => ZLt a h
theorem fp_1 (c) (s : Int) (g : List Int) (l) (n : Int) (hk : (Za c.1 (g.getD 0 0)).1 = n) : (n = 1 → (Zwl c s g l).val = some (finX c s g l)) ∧ (n = 6 → (Zwg c s g l).val = some (finX c s g l)) ∧ (n = 10 → (Zqs c s g l).val = some (finX c s g l)) ∧ (n = 17 → (Zql c s g l).val = some (finX c s g l)) ∧ (n = 21 → (Zqh c s g l).val = some (finX c s g l)) ∧ (n = 28 → (Zqa c s g l).val = some (finX c s g l)) ∧ (n = 33 → (Zp5 c s g l).val = some (finX c s g l)) ∧ (n = 37 → (Zp1 c s g l).val = some (finX c s g l)) ∧ (n = 43 → (ZpV c s g l).val = some (finX c s g l)) := by
 refine ⟨?_, ?_, ?_, ?_, ?_, ?_, ?_, ?_, ?_⟩
 all_goals intro e; subst e
 all_goals simp only [Zwl, Zwg, Zqs, Zql, Zqh, Zqa, Zp5, Zp1, ZpV, RT.val, rgx]
 all_goals simp only [qat0, mat0, qat1, mat1, rg0, hk, Zs, ZR, Z4, ZF, ZG, Zv, Zx, ZaD, ZaF, ZbO, ZbN, Zr, ZaR, finX, spOf]
 all_goals generalize Zb s = bi
 all_goals cases bi with
 | true => simp [wPC, wSP]
 | false =>
  generalize (s == 5) = bs
  simp only [finI, hk, finR, wPC, wSP, wA, wF, fCY, fVCY, Zcb, flOf, ZI, pcOf, ZaS]
  generalize Za c.1 (g.getD 0 0) = i at hk ⊢
  simp (config := { implicitDefEqProofs := false }) [Zbp, Za2, Zbd, hk]
theorem fp_2 (c) (s : Int) (g : List Int) (l) (n : Int) (hk : (Za c.1 (g.getD 0 0)).1 = n) : (n = 3 → (Zwj c s g l).val = some (finX c s g l)) ∧ (n = 7 → (Zwf c s g l).val = some (finX c s g l)) ∧ (n = 11 → (Zqr c s g l).val = some (finX c s g l)) ∧ (n = 18 → (Zqk c s g l).val = some (finX c s g l)) ∧ (n = 22 → (Zqg c s g l).val = some (finX c s g l)) ∧ (n = 29 → (Zp9 c s g l).val = some (finX c s g l)) ∧ (n = 34 → (Zp4 c s g l).val = some (finX c s g l)) ∧ (n = 40 → (ZpY c s g l).val = some (finX c s g l)) ∧ (n = 44 → (ZpU c s g l).val = some (finX c s g l)) := by
 refine ⟨?_, ?_, ?_, ?_, ?_, ?_, ?_, ?_, ?_⟩
 all_goals intro e; subst e
 all_goals simp only [Zwj, Zwf, Zqr, Zqk, Zqg, Zp9, Zp4, ZpY, ZpU, RT.val, rgx]
 all_goals simp only [qat0, mat0, qat1, mat1, rg0, hk, Zs, ZR, Z4, ZF, ZG, Zv, Zx, ZaD, ZaF, ZbO, ZbN, Zr, ZaR, finX, spOf]
 all_goals generalize Zb s = bi
 all_goals cases bi with
 | true => simp [wPC, wSP]
 | false =>
  generalize (s == 5) = bs
  simp only [finI, hk, finR, wPC, wSP, wA, wF, fCY, fVCY, Zcb, flOf, ZI, pcOf, ZaS]
  generalize Za c.1 (g.getD 0 0) = i at hk ⊢
  simp (config := { implicitDefEqProofs := false }) [Zbp, Za2, Zbd, hk]
theorem fp_3 (c) (s : Int) (g : List Int) (l) (n : Int) (hk : (Za c.1 (g.getD 0 0)).1 = n) : (n = 4 → (Zwi c s g l).val = some (finX c s g l)) ∧ (n = 8 → (Zwe c s g l).val = some (finX c s g l)) ∧ (n = 13 → (Zqp c s g l).val = some (finX c s g l)) ∧ (n = 19 → (Zqj c s g l).val = some (finX c s g l)) ∧ (n = 23 → (Zqf c s g l).val = some (finX c s g l)) ∧ (n = 30 → (Zp8 c s g l).val = some (finX c s g l)) ∧ (n = 35 → (Zp3 c s g l).val = some (finX c s g l)) ∧ (n = 41 → (ZpX c s g l).val = some (finX c s g l)) ∧ (n = 46 → (ZpS c s g l).val = some (finX c s g l)) := by
 refine ⟨?_, ?_, ?_, ?_, ?_, ?_, ?_, ?_, ?_⟩
 all_goals intro e; subst e
 all_goals simp only [Zwi, Zwe, Zqp, Zqj, Zqf, Zp8, Zp3, ZpX, ZpS, RT.val, rgx]
 all_goals simp only [qat0, mat0, qat1, mat1, rg0, hk, Zs, ZR, Z4, ZF, ZG, Zv, Zx, ZaD, ZaF, ZbO, ZbN, Zr, ZaR, finX, spOf]
 all_goals generalize Zb s = bi
 all_goals cases bi with
 | true => simp [wPC, wSP]
 | false =>
  generalize (s == 5) = bs
  simp only [finI, hk, finR, wPC, wSP, wA, wF, fCY, fVCY, Zcb, flOf, ZI, pcOf, ZaS]
  generalize Za c.1 (g.getD 0 0) = i at hk ⊢
  simp (config := { implicitDefEqProofs := false }) [Zbp, Za2, Zbd, hk]
theorem fp_4 (c) (s : Int) (g : List Int) (l) (n : Int) (hk : (Za c.1 (g.getD 0 0)).1 = n) : (n = 5 → (Zwh c s g l).val = some (finX c s g l)) ∧ (n = 9 → (Zwd c s g l).val = some (finX c s g l)) ∧ (n = 16 → (Zqm c s g l).val = some (finX c s g l)) ∧ (n = 20 → (Zqi c s g l).val = some (finX c s g l)) ∧ (n = 27 → (Zqb c s g l).val = some (finX c s g l)) ∧ (n = 32 → (Zp6 c s g l).val = some (finX c s g l)) ∧ (n = 36 → (Zp2 c s g l).val = some (finX c s g l)) ∧ (n = 42 → (ZpW c s g l).val = some (finX c s g l)) ∧ (n = 47 → (ZpR c s g l).val = some (finX c s g l)) := by
 refine ⟨?_, ?_, ?_, ?_, ?_, ?_, ?_, ?_, ?_⟩
 all_goals intro e; subst e
 all_goals simp only [Zwh, Zwd, Zqm, Zqi, Zqb, Zp6, Zp2, ZpW, ZpR, RT.val, rgx]
 all_goals simp only [qat0, mat0, qat1, mat1, rg0, hk, Zs, ZR, Z4, ZF, ZG, Zv, Zx, ZaD, ZaF, ZbO, ZbN, Zr, ZaR, finX, spOf]
 all_goals generalize Zb s = bi
 all_goals cases bi with
 | true => simp [wPC, wSP]
 | false =>
  generalize (s == 5) = bs
  simp only [finI, hk, finR, wPC, wSP, wA, wF, fCY, fVCY, Zcb, flOf, ZI, pcOf, ZaS]
  generalize Za c.1 (g.getD 0 0) = i at hk ⊢
  simp (config := { implicitDefEqProofs := false }) [Zbp, Za2, Zbd, hk]
theorem fp_5 (c) (s : Int) (g : List Int) (l) (n : Int) (hk : (Za c.1 (g.getD 0 0)).1 = n) : (n = 2 → (Zwk c s g l).val = some (finX c s g l)) ∧ (n = 12 → (Zqq c s g l).val = some (finX c s g l)) := by
 refine ⟨?_, ?_⟩
 all_goals intro e; subst e
 all_goals simp only [Zwk, Zqq, RT.val, rgx]
 all_goals simp only [qat0, mat0, qat1, mat1, rg0, hk, Zs, ZR, Z4, ZF, ZG, Zv, Zx, ZaD, ZaF, ZbO, ZbN, Zr, ZaR, finX, spOf]
 all_goals generalize Zb s = bi
 all_goals cases bi with
 | true => simp [wPC, wSP]
 | false =>
  generalize (s == 5) = bs
  simp only [finI, hk, finR, wPC, wSP, wA, wF, fCY, fVCY, Zcb, flOf, ZI, pcOf, ZaS]
  generalize Za c.1 (g.getD 0 0) = i at hk ⊢
  generalize (i.2.2.2.1 == 6) = b0
  cases b0 <;> simp (config := { implicitDefEqProofs := false }) [Zbp, Za2, Zbd, hk]
theorem fp_6 (c) (s : Int) (g : List Int) (l) (n : Int) (hk : (Za c.1 (g.getD 0 0)).1 = n) : (n = 14 → (Zqo c s g l).val = some (finX c s g l)) ∧ (n = 15 → (Zqn c s g l).val = some (finX c s g l)) := by
 refine ⟨?_, ?_⟩
 all_goals intro e; subst e
 all_goals simp only [Zqo, Zqn, RT.val, rgx]
 all_goals simp only [qat0, mat0, qat1, mat1, rg0, hk, Zs, ZR, Z4, ZF, ZG, Zv, Zx, ZaD, ZaF, ZbO, ZbN, Zr, ZaR, finX, spOf]
 all_goals generalize Zb s = bi
 all_goals cases bi with
 | true => simp [wPC, wSP]
 | false =>
  generalize (s == 5) = bs
  simp only [finI, hk, finR, wPC, wSP, wA, wF, fCY, fVCY, Zcb, flOf, ZI, pcOf, ZaS]
  generalize Za c.1 (g.getD 0 0) = i at hk ⊢
  generalize (i.2.2.1 == 6) = b0
  cases b0 <;> simp (config := { implicitDefEqProofs := false }) [Zbp, Za2, Zbd, hk]
theorem fp_7 (c) (s : Int) (g : List Int) (l) (n : Int) (hk : (Za c.1 (g.getD 0 0)).1 = n) : (n = 24 → (Zqe c s g l).val = some (finX c s g l)) ∧ (n = 25 → (Zqd c s g l).val = some (finX c s g l)) ∧ (n = 26 → (Zqc c s g l).val = some (finX c s g l)) ∧ (n = 45 → (ZpT c s g l).val = some (finX c s g l)) := by
 refine ⟨?_, ?_, ?_, ?_⟩
 all_goals intro e; subst e
 all_goals simp only [Zqe, Zqd, Zqc, ZpT, RT.val, rgx]
 all_goals simp only [qat0, mat0, qat1, mat1, rg0, hk, Zs, ZR, Z4, ZF, ZG, Zv, Zx, ZaD, ZaF, ZbO, ZbN, Zr, ZaR, finX, spOf]
 all_goals generalize Zb s = bi
 all_goals cases bi with
 | true => simp [wPC, wSP]
 | false =>
  generalize (s == 5) = bs
  simp only [finI, hk, finR, wPC, wSP, wA, wF, fCY, fVCY, Zcb, flOf, ZI, pcOf, ZaS]
  generalize Za c.1 (g.getD 0 0) = i at hk ⊢
  generalize Zdu _ _ = b0
  cases b0 <;> simp (config := { implicitDefEqProofs := false }) [Zbp, Za2, Zbd, hk]
theorem fp_8 (c) (s : Int) (g : List Int) (l) (n : Int) (hk : (Za c.1 (g.getD 0 0)).1 = n) : (n = 31 → (Zp7 c s g l).val = some (finX c s g l)) := by
 skip
 all_goals intro e; subst e
 all_goals simp only [Zp7, RT.val, rgx]
 all_goals simp only [qat0, mat0, qat1, mat1, rg0, hk, Zs, ZR, Z4, ZF, ZG, Zv, Zx, ZaD, ZaF, ZbO, ZbN, Zr, ZaR, finX, spOf]
 all_goals generalize Zb s = bi
 all_goals cases bi with
 | true => simp [wPC, wSP]
 | false =>
  generalize (s == 5) = bs
  simp only [finI, hk, finR, wPC, wSP, wA, wF, fCY, fVCY, Zcb, flOf, ZI, pcOf, ZaS]
  generalize Za c.1 (g.getD 0 0) = i at hk ⊢
  generalize (i.2.2.2.2.1 == 3) = b0
  cases b0 <;> simp (config := { implicitDefEqProofs := false }) [Zbp, Za2, Zbd, hk]
theorem fp_9 (c) (s : Int) (g : List Int) (l) (n : Int) (hk : (Za c.1 (g.getD 0 0)).1 = n) : (n = 38 → (Zp0 c s g l).val = some (finX c s g l)) := by
 skip
 all_goals intro e; subst e
 all_goals simp only [Zp0, RT.val, rgx]
 all_goals simp only [qat0, mat0, qat1, mat1, rg0, hk, Zs, ZR, Z4, ZF, ZG, Zv, Zx, ZaD, ZaF, ZbO, ZbN, Zr, ZaR, finX, spOf]
 all_goals generalize Zb s = bi
 all_goals cases bi with
 | true => simp [wPC, wSP]
 | false =>
  generalize (s == 5) = bs
  simp only [finI, hk, finR, wPC, wSP, wA, wF, fCY, fVCY, Zcb, flOf, ZI, pcOf, ZaS]
  generalize Za c.1 (g.getD 0 0) = i at hk ⊢
  simp [Zbp, Za2, Zbd, hk, ZJA]
theorem fp_10 (c) (s : Int) (g : List Int) (l) (n : Int) (hk : (Za c.1 (g.getD 0 0)).1 = n) : (n = 39 → (ZpZ c s g l).val = some (finX c s g l)) := by
 skip
 all_goals intro e; subst e
 all_goals simp only [ZpZ, RT.val, rgx]
 all_goals simp only [qat0, mat0, qat1, mat1, rg0, hk, Zs, ZR, Z4, ZF, ZG, Zv, Zx, ZaD, ZaF, ZbO, ZbN, Zr, ZaR, finX, spOf]
 all_goals generalize Zb s = bi
 all_goals cases bi with
 | true => simp [wPC, wSP]
 | false =>
  generalize (s == 5) = bs
  simp only [finI, hk, finR, wPC, wSP, wA, wF, fCY, fVCY, Zcb, flOf, ZI, pcOf, ZaS]
  generalize Za c.1 (g.getD 0 0) = i at hk ⊢
  simp [Zbp, Za2, Zbd, hk, rSim, ZDh, RT.val]
theorem ZMa (a : HL Zn) (h : okHL Zn a) : ∃ l, Zc0 Tryz.prog l ∧ (Zg (envX Tryz.prog l [] 1023 8) Tryz.f111 Zn ZX a).val = some (finX a.1 a.2.1 a.2.2.1 a.2.2.2) := by
 have hk := ZqU a.1.1 _ (ZqX h.2.2.1)
 refine ⟨Zav (Za a.1.1 (a.2.2.1.getD 0 0)).1, ZIr _, ?_⟩
 rcases ZqT hk.1 hk.2 with e | e | e | e | e | e | e | e | e | e | e | e | e | e | e | e | e | e | e | e | e | e | e | e | e | e | e | e | e | e | e | e | e | e | e | e | e | e | e | e | e | e | e | e | e | e | e
 ·rw [e, ZFu a, ((fp_1 a.1 a.2.1 a.2.2.1 a.2.2.2 _ e).1 rfl)]
 ·rw [e, ZFt a, ((fp_5 a.1 a.2.1 a.2.2.1 a.2.2.2 _ e).1 rfl)]
 ·rw [e, ZFs a, ((fp_2 a.1 a.2.1 a.2.2.1 a.2.2.2 _ e).1 rfl)]
 ·rw [e, ZFr a, ((fp_3 a.1 a.2.1 a.2.2.1 a.2.2.2 _ e).1 rfl)]
 ·rw [e, ZFq a, ((fp_4 a.1 a.2.1 a.2.2.1 a.2.2.2 _ e).1 rfl)]
 ·rw [e, ZFp a, ((fp_1 a.1 a.2.1 a.2.2.1 a.2.2.2 _ e).2.1 rfl)]
 ·rw [e, ZFo a, ((fp_2 a.1 a.2.1 a.2.2.1 a.2.2.2 _ e).2.1 rfl)]
 ·rw [e, ZFn a, ((fp_3 a.1 a.2.1 a.2.2.1 a.2.2.2 _ e).2.1 rfl)]
 ·rw [e, ZFm a, ((fp_4 a.1 a.2.1 a.2.2.1 a.2.2.2 _ e).2.1 rfl)]
 ·rw [e, ZBF a, ((fp_1 a.1 a.2.1 a.2.2.1 a.2.2.2 _ e).2.2.1 rfl)]
 ·rw [e, ZBE a, ((fp_2 a.1 a.2.1 a.2.2.1 a.2.2.2 _ e).2.2.1 rfl)]
 ·rw [e, ZBD a, ((fp_5 a.1 a.2.1 a.2.2.1 a.2.2.2 _ e).2 rfl)]
 ·rw [e, ZBC a, ((fp_3 a.1 a.2.1 a.2.2.1 a.2.2.2 _ e).2.2.1 rfl)]
 ·rw [e, ZBB a, ((fp_6 a.1 a.2.1 a.2.2.1 a.2.2.2 _ e).1 rfl)]
 ·rw [e, ZBA a, ((fp_6 a.1 a.2.1 a.2.2.1 a.2.2.2 _ e).2 rfl)]
 ·rw [e, ZBz a, ((fp_4 a.1 a.2.1 a.2.2.1 a.2.2.2 _ e).2.2.1 rfl)]
 ·rw [e, ZBy a, ((fp_1 a.1 a.2.1 a.2.2.1 a.2.2.2 _ e).2.2.2.1 rfl)]
 ·rw [e, ZBx a, ((fp_2 a.1 a.2.1 a.2.2.1 a.2.2.2 _ e).2.2.2.1 rfl)]
 ·rw [e, ZBw a, ((fp_3 a.1 a.2.1 a.2.2.1 a.2.2.2 _ e).2.2.2.1 rfl)]
 ·rw [e, ZBv a, ((fp_4 a.1 a.2.1 a.2.2.1 a.2.2.2 _ e).2.2.2.1 rfl)]
 ·rw [e, ZBu a, ((fp_1 a.1 a.2.1 a.2.2.1 a.2.2.2 _ e).2.2.2.2.1 rfl)]
 ·rw [e, ZBt a, ((fp_2 a.1 a.2.1 a.2.2.1 a.2.2.2 _ e).2.2.2.2.1 rfl)]
 ·rw [e, ZBs a, ((fp_3 a.1 a.2.1 a.2.2.1 a.2.2.2 _ e).2.2.2.2.1 rfl)]
 ·rw [e, ZBr a, ((fp_7 a.1 a.2.1 a.2.2.1 a.2.2.2 _ e).1 rfl)]
 ·rw [e, ZBq a, ((fp_7 a.1 a.2.1 a.2.2.1 a.2.2.2 _ e).2.1 rfl)]
 ·rw [e, ZBp a, ((fp_7 a.1 a.2.1 a.2.2.1 a.2.2.2 _ e).2.2.1 rfl)]
 ·rw [e, ZBo a, ((fp_4 a.1 a.2.1 a.2.2.1 a.2.2.2 _ e).2.2.2.2.1 rfl)]
 ·rw [e, ZBn a, ((fp_1 a.1 a.2.1 a.2.2.1 a.2.2.2 _ e).2.2.2.2.2.1 rfl)]
 ·rw [e, ZBm a, ((fp_2 a.1 a.2.1 a.2.2.1 a.2.2.2 _ e).2.2.2.2.2.1 rfl)]
 ·rw [e, ZBl a, ((fp_3 a.1 a.2.1 a.2.2.1 a.2.2.2 _ e).2.2.2.2.2.1 rfl)]
 ·rw [e, ZBk a, ((fp_8 a.1 a.2.1 a.2.2.1 a.2.2.2 _ e) rfl)]
 ·rw [e, ZBj a, ((fp_4 a.1 a.2.1 a.2.2.1 a.2.2.2 _ e).2.2.2.2.2.1 rfl)]
 ·rw [e, ZBi a, ((fp_1 a.1 a.2.1 a.2.2.1 a.2.2.2 _ e).2.2.2.2.2.2.1 rfl)]
 ·rw [e, ZBh a, ((fp_2 a.1 a.2.1 a.2.2.1 a.2.2.2 _ e).2.2.2.2.2.2.1 rfl)]
 ·rw [e, ZBg a, ((fp_3 a.1 a.2.1 a.2.2.1 a.2.2.2 _ e).2.2.2.2.2.2.1 rfl)]
 ·rw [e, ZBf a, ((fp_4 a.1 a.2.1 a.2.2.1 a.2.2.2 _ e).2.2.2.2.2.2.1 rfl)]
 ·rw [e, ZBe a, ((fp_1 a.1 a.2.1 a.2.2.1 a.2.2.2 _ e).2.2.2.2.2.2.2.1 rfl)]
 ·rw [e, ZBd a, ((fp_9 a.1 a.2.1 a.2.2.1 a.2.2.2 _ e) rfl)]
 ·rw [e, ZBc a, ((fp_10 a.1 a.2.1 a.2.2.1 a.2.2.2 _ e) rfl)]
 ·rw [e, ZBb a, ((fp_2 a.1 a.2.1 a.2.2.1 a.2.2.2 _ e).2.2.2.2.2.2.2.1 rfl)]
 ·rw [e, ZBa a, ((fp_3 a.1 a.2.1 a.2.2.1 a.2.2.2 _ e).2.2.2.2.2.2.2.1 rfl)]
 ·rw [e, ZA9 a, ((fp_4 a.1 a.2.1 a.2.2.1 a.2.2.2 _ e).2.2.2.2.2.2.2.1 rfl)]
 ·rw [e, ZA8 a, ((fp_1 a.1 a.2.1 a.2.2.1 a.2.2.2 _ e).2.2.2.2.2.2.2.2 rfl)]
 ·rw [e, ZA7 a, ((fp_2 a.1 a.2.1 a.2.2.1 a.2.2.2 _ e).2.2.2.2.2.2.2.2 rfl)]
 ·rw [e, ZA6 a, ((fp_7 a.1 a.2.1 a.2.2.1 a.2.2.2 _ e).2.2.2 rfl)]
 ·rw [e, ZA5 a, ((fp_3 a.1 a.2.1 a.2.2.1 a.2.2.2 _ e).2.2.2.2.2.2.2.2 rfl)]
 ·rw [e, ZA4 a, ((fp_4 a.1 a.2.1 a.2.2.1 a.2.2.2 _ e).2.2.2.2.2.2.2.2 rfl)]
def ZNM : Entry := Zk Zn ZX (fun _ => none) (fun a => finX a.1 a.2.1 a.2.2.1 a.2.2.2)
theorem ZL9 : Zc Tryz.prog 111 ZNM := ZiS Tryz.func111 rfl (by kernel_rfl) Tryz.call111 fun a h _ => ZMa a h
theorem ZmL (c op : Int) (h : c ≠ 2) : Za c op = Za 0 op := by unfold Za; rw [Zju c op h]
theorem Zva (c op : Int) (h : c ≠ 2) : Znb c op = Znb 0 op := by
 have h1 : (c == 2) = false := by simpa using h
 have h0 : ((0 : Int) == 2) = false := rfl
 simp only [Znb, Zwb, RT.val, ZmL c op h, h1, h0]
theorem ZtW (c op : Int) (h : c ≠ 2) : ZfH c op = ZfH 0 op := by
 have h1 : rOn c = false := by simpa [ZaR] using h
 have h0 : rOn 0 = false := rfl
 simp only [ZfH, ZuT, RT.val, ZmL c op h, h1, h0]
def firT (c op : Int) : Bool := Znb c op == ZfH c op
theorem ZI6 (c op : Int) (h : inR .u8 op) : Znb c op = ZfH c op := by
 by_cases hc : c = 2
 ·subst hc; exact eq_of_beq (Zep (firT 2) (by kernel_rfl) op h)
 ·rw [Zva c op hc, ZtW c op hc]; exact eq_of_beq (Zep (firT 0) (by kernel_rfl) op h)
def ZiY : Entry := Zk ZpP ZpQ (fun _ => none) (fun a => ZfH a.1 a.2)
theorem Zna : Zc Tryz.prog 115 ZiY := ZFj.tot (fun a h => by simp) (fun a h => ZI6 _ _ h.2)
def ZLb (c : TC × Int × List Int × TY × Int × Bool) : RT (Int) :=
 .br (decide (c.2.2.2.2.1 < 1) || decide (c.2.2.2.2.1 > 9))
 (.leaf (1))
 (.leaf c.2.2.2.2.1)
def ZNg (c : TC × Int × List Int × TY × Int × Bool) : Int := (ZLb c).val
end
end Go.Proofs.YtghoimllhpjkjaaGreat
open Go.IntKind (u8 u16 i64)
namespace Go.Proofs.YtghoimllhpjkjaaGreat
noncomputable section
abbrev Zy1 : List Sh := [Sh.one (R.int i64), Sh.one (R.int i64)]
abbrev ZqL : Rs := Rs.one (Sh.one (R.int i64))
def ZlA (x : Int) (n : Int) : RT (Option (Int)) :=
 .br (IntKind.u64.wrap n != 0) (.leaf (some (i64.wrap (Int.tmod (IntKind.u64.wrap x) (IntKind.u64.wrap n))))) (.leaf none)
def Zy2 (x : Int) (n : Int) : Int := getO ZqL.dflt (ZlA x n).val
def ZqM (x : Int) (n : Int) : Bool := okB (ZlA x n).val
def ZGg : Entry := Zk Zy1 ZqL (fun a => some (ZqM a.1 a.2)) (fun a => Zy2 a.1 a.2)
theorem ZGe : Zc Tryz.prog 24 ZGg :=
 pureP 31 [] [] Zy1 ZqL trivial Tryz.func24 Tryz.call24 trivial (t := fun a => ZlA a.1 a.2) (fun a => by kernel_rfl)
abbrev ZwD : R := R.pair (R.sl (R.int i64)) (R.int i64)
abbrev ZFU : List Sh := [Sh.one (R.int i64)]
abbrev ZwC : Rs := Rs.one (Sh.one (R.int i64))
def Zlq (s : List Int × Int) (n : Int) : RT (Option (QT15)) :=
 let x1 := Zf (i64.wrap (i64.wrap (s.2 + 1) - 1)) (List.length s.1)
 let x2 : Int := R.get (R.int i64) s.1 (i64.wrap (i64.wrap (s.2 + 1) - 1))
 .br (decide (s.2 ≥ iN (List.length s.1))) (.leaf (some ((0, s.1, i64.wrap (s.2 + 1))))) (.br (!x1 || ZqM x2 n) (.br (x1) (.leaf (some ((Zy2 x2 n, s.1, i64.wrap (s.2 + 1))))) (.leaf none)) (.leaf none))
def Ze (s : List Int × Int) (n : Int) : QT15 := getO (ZwC.dflt, ZwD.dflt) (Zlq s n).val
def ZB (s : List Int × Int) (n : Int) : Bool := okB (Zlq s n).val
def ZcH : Entry := boxE ZwD ZFU ZwC (fun a => some (ZB a.1 a.2)) (fun a => Ze a.1 a.2)
theorem ZbH : Zc Tryz.prog 46 ZcH :=
 Zcv (P := Tryz.prog) (n := 31) (k := 8) (l := [(24, ZGg)]) (ol := []) ⟨ZGe, trivial⟩ Tryz.func46 rfl (by kernel_rfl) Tryz.call46 trivial (rb := ZwD) (ts := ZFU) (rs := ZwC) (t := fun a => Zlq a.1 a.2) (fun a => by kernel_rfl)
abbrev ZwK : R := R.pair (R.sl (R.int i64)) (R.int i64)
abbrev ZF3 : List Sh := []
abbrev ZwJ : Rs := Rs.one (Sh.one (R.int u8))
def Zlr (s : List Int × Int) : RT (Option (QT15)) :=
 let x1 : List Int := [0, 1, 127, 128, 255, 15, 16, 153, 154, 9, 102, 254, 129, 85, 170, 64]
 .br (ZB s 512) (.br (!decide ((Ze s 512).1 ≥ 256) || Zf (Int.tmod (Ze s 512).1 16) (List.length x1)) (.br (decide ((Ze s 512).1 ≥ 256)) (.leaf (some ((R.get (R.int u8) x1 (Int.tmod (Ze s 512).1 16), (Ze s 512).2)))) (.leaf (some ((u8.wrap (Ze s 512).1, (Ze s 512).2))))) (.leaf none)) (.leaf none)
def Zl (s : List Int × Int) : QT15 := getO (ZwJ.dflt, ZwK.dflt) (Zlr s).val
def Zad (s : List Int × Int) : Bool := okB (Zlr s).val
def ZsJ : Entry := boxE ZwK ZF3 ZwJ (fun a => some (Zad a.1 )) (fun a => Zl a.1 )
theorem ZqE : Zc Tryz.prog 108 ZsJ :=
 Zcv (P := Tryz.prog) (n := 15) (k := 8) (l := [(46, ZcH)]) (ol := []) ⟨ZbH, trivial⟩ Tryz.func108 rfl (by kernel_rfl) Tryz.call108 trivial (rb := ZwK) (ts := ZF3) (rs := ZwJ) (t := fun a => Zlr a.1 ) (fun a => by kernel_rfl)
abbrev Zwx : R := R.pair (R.sl (R.int i64)) (R.int i64)
abbrev ZFS : List Sh := []
abbrev Zww : Rs := Rs.one (Sh.one (R.int u16))
def ZgQ (s : List Int × Int) : RT (Option (QT15)) :=
 let x1 : List Int := [0, 1, 65535, 65534, 32767, 32768, 255, 256]
 let x2 := !(Ze s 5).1 == 0 || (!ZB (Ze s 5).2 8 || Zf (Ze (Ze s 5).2 8).1 (List.length x1))
 let x3 := !x2
 let x4 := !(Ze s 5).1 == 0 || ZB (Ze s 5).2 8
 .br (ZB s 5) (.br (x3 || (!x4 || ((Ze s 5).1 == 0 || (!(Ze s 5).1 == 1 || ZB (Ze s 5).2 65536)))) (.br (x3 || x4) (.br (x2) (.br ((Ze s 5).1 == 0) (.leaf (some ((R.get (R.int u16) x1 (Ze (Ze s 5).2 8).1, (Ze (Ze s 5).2 8).2)))) (.br ((Ze s 5).1 == 1) (.leaf (some ((u16.wrap (Ze (Ze s 5).2 65536).1, (Ze (Ze s 5).2 65536).2)))) (.br (ZB (Ze s 5).2 64) (.leaf (some ((u16.wrap (Ze (Ze s 5).2 64).1, (Ze (Ze s 5).2 64).2)))) (.leaf none)))) (.leaf none)) (.leaf none)) (.leaf none)) (.leaf none)
def ZhD (s : List Int × Int) : QT15 := getO (Zww.dflt, Zwx.dflt) (ZgQ s).val
def Zlm (s : List Int × Int) : Bool := okB (ZgQ s).val
def ZKu : Entry := boxE Zwx ZFS Zww (fun a => some (Zlm a.1 )) (fun a => ZhD a.1 )
theorem ZIF : Zc Tryz.prog 137 ZKu :=
 Zcv (P := Tryz.prog) (n := 4135) (k := 8) (l := [(46, ZcH)]) (ol := []) ⟨ZbH, trivial⟩ Tryz.func137 rfl (by kernel_rfl) Tryz.call137 trivial (rb := Zwx) (ts := ZFS) (rs := Zww) (t := fun a => ZgQ a.1 ) (fun a => by kernel_rfl)
abbrev ZwH : R := R.pair (R.sl (R.int i64)) (R.int i64)
abbrev ZFZ : List Sh := []
abbrev ZwG : Rs := Rs.one (Sh.one (R.int i64))
def ZsI (s : List Int × Int) : RT (Option (QT15)) :=
 .br (ZB s 2) (.leaf (some ((i64.wrap (1 + (Ze s 2).1), (Ze s 2).2)))) (.leaf none)
def ZaB (s : List Int × Int) : QT15 := getO (ZwG.dflt, ZwH.dflt) (ZsI s).val
def ZyU (s : List Int × Int) : Bool := okB (ZsI s).val
def ZKx : Entry := boxE ZwH ZFZ ZwG (fun a => some (ZyU a.1 )) (fun a => ZaB a.1 )
theorem ZIJ : Zc Tryz.prog 72 ZKx :=
 Zcv (P := Tryz.prog) (n := 7) (k := 8) (l := [(46, ZcH)]) (ol := []) ⟨ZbH, trivial⟩ Tryz.func72 rfl (by kernel_rfl) Tryz.call72 trivial (rb := ZwH) (ts := ZFZ) (rs := ZwG) (t := fun a => ZsI a.1 ) (fun a => by kernel_rfl)
abbrev ZqC : R := R.pair (R.sl (R.int i64)) (R.int i64)
abbrev ZyS : List Sh := [Sh.one (R.int i64)]
abbrev ZqB : Rs := Rs.one (Sh.agg rcF7)
def ZqA (s : List Int × Int) (chip : Int) : RT (Option (TF × List Int × Int)) :=
 .br (ZB s 128) (.leaf (some (((andI i64 (Ze s 128).1 1 != 0, andI i64 (Ze s 128).1 2 != 0, chip == 2 && andI i64 (Ze s 128).1 32 != 0, andI i64 (Ze s 128).1 4 != 0, andI i64 (Ze s 128).1 8 != 0, chip == 2 && andI i64 (Ze s 128).1 64 != 0, andI i64 (Ze s 128).1 16 != 0), (Ze s 128).2)))) (.leaf none)
def Zii (s : List Int × Int) (chip : Int) : TF × List Int × Int := getO (ZqB.dflt, ZqC.dflt) (ZqA s chip).val
def ZqD (s : List Int × Int) (chip : Int) : Bool := okB (ZqA s chip).val
def ZFX : Entry := boxE ZqC ZyS ZqB (fun a => some (ZqD a.1 a.2)) (fun a => Zii a.1 a.2)
theorem ZFV : Zc Tryz.prog 136 ZFX :=
 Zcv (P := Tryz.prog) (n := 127) (k := 8) (l := [(46, ZcH)]) (ol := []) ⟨ZbH, trivial⟩ Tryz.func136 rfl (by kernel_rfl) Tryz.call136 trivial (rb := ZqC) (ts := ZyS) (rs := ZqB) (t := fun a => ZqA a.1 a.2) (fun a => by kernel_rfl)
abbrev Zwz : R := R.pair (R.sl (R.int i64)) (R.int i64)
abbrev ZFT : List Sh := [Sh.one (R.int i64)]
abbrev Zwy : Rs := Rs.one (Sh.agg ZdS)
def ZsF (s : List Int × Int) (chip : Int) : RT (Option (TR × List Int × Int)) :=
 let x1 := Zl (Zl (Zl (Zl (Zl (Zl (Zl s).2).2).2).2).2).2
 let x2 := x1.2
 let x3 := ZqD x2 chip
 let x4 := !x3
 let x5 := Zii x2 chip
 let x6 := x5.2
 let x7 := Zlm x6
 let x8 := ZhD x6
 let x9 := x8.2
 let x10 := ZhD x9
 .br (!Zad s || (!Zad (Zl s).2 || (!Zad (Zl (Zl s).2).2 || (!Zad (Zl (Zl (Zl s).2).2).2 || (!Zad (Zl (Zl (Zl (Zl s).2).2).2).2 || (!Zad (Zl (Zl (Zl (Zl (Zl s).2).2).2).2).2 || Zad (Zl (Zl (Zl (Zl (Zl (Zl s).2).2).2).2).2).2)))))) (.br (!Zad s || (!Zad (Zl s).2 || (!Zad (Zl (Zl s).2).2 || (!Zad (Zl (Zl (Zl s).2).2).2 || (!Zad (Zl (Zl (Zl (Zl s).2).2).2).2 || Zad (Zl (Zl (Zl (Zl (Zl s).2).2).2).2).2))))) (.br (!Zad s || (!Zad (Zl s).2 || (!Zad (Zl (Zl s).2).2 || (!Zad (Zl (Zl (Zl s).2).2).2 || Zad (Zl (Zl (Zl (Zl s).2).2).2).2)))) (.br (!Zad s || (!Zad (Zl s).2 || (!Zad (Zl (Zl s).2).2 || Zad (Zl (Zl (Zl s).2).2).2))) (.br (!Zad s || (!Zad (Zl s).2 || Zad (Zl (Zl s).2).2)) (.br (!Zad s || Zad (Zl s).2) (.br (Zad s) (.br (x4 || (!x7 || Zlm x9)) (.br (x4 || x7) (.br (x3) (.leaf (some ((((Zl s).1, (Zl (Zl s).2).1, (Zl (Zl (Zl s).2).2).1, (Zl (Zl (Zl (Zl s).2).2).2).1, (Zl (Zl (Zl (Zl (Zl s).2).2).2).2).1, (Zl (Zl (Zl (Zl (Zl (Zl s).2).2).2).2).2).1, x1.1, x5.1, x8.1, x10.1), x10.2)))) (.leaf none)) (.leaf none)) (.leaf none)) (.leaf none)) (.leaf none)) (.leaf none)) (.leaf none)) (.leaf none)) (.leaf none)) (.leaf none)
def ZhE (s : List Int × Int) (chip : Int) : TR × List Int × Int := getO (Zwy.dflt, Zwz.dflt) (ZsF s chip).val
def ZsG (s : List Int × Int) (chip : Int) : Bool := okB (ZsF s chip).val
def ZKv : Entry := boxE Zwz ZFT Zwy (fun a => some (ZsG a.1 a.2)) (fun a => ZhE a.1 a.2)
theorem ZIG : Zc Tryz.prog 73 ZKv :=
 Zcv (P := Tryz.prog) (n := 63) (k := 8) (l := [(108, ZsJ), (136, ZFX), (137, ZKu)]) (ol := []) ⟨ZqE, ZFV, ZIF, trivial⟩ Tryz.func73 rfl (by kernel_rfl) Tryz.call73 trivial (rb := Zwz) (ts := ZFT) (rs := Zwy) (t := fun a => ZsF a.1 a.2) (fun a => by kernel_rfl)
abbrev Zlp : R := R.pair (R.sl (R.int i64)) (R.int i64)
abbrev ZsH : List Sh := []
abbrev Zlo : Rs := Rs.one (Sh.one (R.int u8))
def Zee (s : List Int × Int) : RT (Option (QT15)) :=
 let x1 : List Int := [251, 243, 118, 205, 201, 197, 227, 211, 219, 54, 52, 32, 48, 194, 202, 255, 62, 49]
 .br (ZB s 3) (.br (!decide ((Ze s 3).1 > 0) || ZB (Ze s 3).2 256) (.br (decide ((Ze s 3).1 > 0)) (.leaf (some ((u8.wrap (Ze (Ze s 3).2 256).1, (Ze (Ze s 3).2 256).2)))) (.br (!ZB (Ze s 3).2 18 || Zf (Ze (Ze s 3).2 18).1 (List.length x1)) (.br (ZB (Ze s 3).2 18) (.leaf (some ((R.get (R.int u8) x1 (Ze (Ze s 3).2 18).1, (Ze (Ze s 3).2 18).2)))) (.leaf none)) (.leaf none))) (.leaf none)) (.leaf none)
def Za4 (s : List Int × Int) : QT15 := getO (Zlo.dflt, Zlp.dflt) (Zee s).val
def ZcR (s : List Int × Int) : Bool := okB (Zee s).val
def Zi1 : Entry := boxE Zlp ZsH Zlo (fun a => some (ZcR a.1 )) (fun a => Za4 a.1 )
theorem Zni : Zc Tryz.prog 109 Zi1 :=
 Zcv (P := Tryz.prog) (n := 7) (k := 8) (l := [(46, ZcH)]) (ol := []) ⟨ZbH, trivial⟩ Tryz.func109 rfl (by kernel_rfl) Tryz.call109 trivial (rb := Zlp) (ts := ZsH) (rs := Zlo) (t := fun a => Zee a.1 ) (fun a => by kernel_rfl)
def NB (s : List Int × Int) (k : Int) : Prop := 0 ≤ s.2 ∧ s.2 ≤ k
theorem ZGf (x n : Int) (h0 : 0 < n) (h1 : n ≤ 4611686018427387904) : ZqM x n = true ∧ Zy2 x n = (x % 18446744073709551616) % n := by
 have e : IntKind.wrap .u64 n = n := Zi9 ⟨by simp [IntKind.min, IntKind.signed]; omega, by simp [IntKind.max, IntKind.signed, IntKind.bits]; omega⟩
 have e2 : IntKind.wrap .u64 x = x % 18446744073709551616 := by simp [IntKind.wrap, IntKind.signed, IntKind.bits]
 have hn : (n != 0) = true := by simp; omega
 have h2 : 0 ≤ x % 18446744073709551616 := Int.emod_nonneg _ (by decide)
 have h3 := Int.emod_nonneg (x % 18446744073709551616) (b := n) (by omega)
 have h4 := Int.emod_lt_of_pos (x % 18446744073709551616) (b := n) h0
 have hv : (ZlA x n).val = some ((x % 18446744073709551616) % n) := by
  simp only [ZlA, RT.val, e, e2, hn, cond_true, Int.tmod_eq_emod_of_nonneg h2]
  rw [wrap_i64 _ (by omega) (by omega)]
 exact ⟨by simp only [ZqM, hv]; rfl, by simp only [Zy2, hv, getO]⟩
theorem Z2 {s : List Int × Int} {k : Int} (h : NB s k) (hk : k ≤ 1000000) (n : Int) (h0 : 0 < n) (h1 : n ≤ 4611686018427387904) :
  ZB s n = true ∧ NB (Ze s n).2 (k + 1) ∧ 0 ≤ (Ze s n).1 ∧ (Ze s n).1 < n := by
 obtain ⟨ha, hb⟩ := h
 have e1 : IntKind.wrap .i64 (s.2 + 1) = s.2 + 1 := wrap_i64 _ (by omega) (by omega)
 have e2 : IntKind.wrap .i64 s.2 = s.2 := wrap_i64 _ (by omega) (by omega)
 by_cases hl : (s.1.length : Int) ≤ s.2
 ·have hv : (Zlq s n).val = some (0, s.1, s.2 + 1) := by simp [Zlq, RT.val, iN, hl, e1]
  simp only [ZB, Ze, hv, okB, getO, NB]
  exact ⟨trivial, ⟨by omega, by omega⟩, by omega, h0⟩
 ·have hr : Zf s.2 s.1.length = true := Zae.2 ⟨ha, by omega⟩
  obtain ⟨p1, p2⟩ := ZGf (R.get (R.int i64) s.1 s.2) n h0 h1
  have h3 := Int.emod_nonneg (R.get (R.int i64) s.1 s.2 % 18446744073709551616) (b := n) (by omega)
  have h4 := Int.emod_lt_of_pos (R.get (R.int i64) s.1 s.2 % 18446744073709551616) (b := n) h0
  have hv : (Zlq s n).val = some ((R.get (R.int i64) s.1 s.2 % 18446744073709551616) % n, s.1, s.2 + 1) := by simp [Zlq, RT.val, iN, hl, e1, e2, hr, p1, p2]
  simp only [ZB, Ze, hv, okB, getO, NB]
  exact ⟨trivial, ⟨by omega, by omega⟩, h3, h4⟩
theorem ZcS {s : List Int × Int} {k : Int} (h : NB s k) (hk : k ≤ 1000000) : Zad s = true ∧ NB (Zl s).2 (k + 1) ∧ inR .u8 (Zl s).1 := by
 obtain ⟨c, b, d0, d1⟩ := Z2 h hk 512 (by decide) (by decide)
 have m0 : 0 ≤ (Ze s 512).1 % 16 := Int.emod_nonneg _ (by decide)
 have m1 : (Ze s 512).1 % 16 < 16 := Int.emod_lt_of_pos _ (by decide)
 have ht : Int.tmod (Ze s 512).1 16 = (Ze s 512).1 % 16 := Int.tmod_eq_emod_of_nonneg d0
 by_cases hn : 256 ≤ (Ze s 512).1
 ·have hv : (Zlr s).val = some (R.get (R.int u8) [0, 1, 127, 128, 255, 15, 16, 153, 154, 9, 102, 254, 129, 85, 170, 64] ((Ze s 512).1 % 16), (Ze s 512).2) := by
   simp [Zlr, RT.val, c, hn, ht, Zf, m0, m1]
  simp only [Zad, Zl, hv, okB, getO]
  refine ⟨trivial, b, ?_⟩
  have hall : ∀ i : Nat, i < 16 → inR .u8 (([0, 1, 127, 128, 255, 15, 16, 153, 154, 9, 102, 254, 129, 85, 170, 64] : List Int).getD i 0) := by
   intro i hi
   have : ∀ i : Fin 16, decide (0 ≤ ([0, 1, 127, 128, 255, 15, 16, 153, 154, 9, 102, 254, 129, 85, 170, 64] : List Int).getD i 0) && decide (([0, 1, 127, 128, 255, 15, 16, 153, 154, 9, 102, 254, 129, 85, 170, 64] : List Int).getD i 0 ≤ 255) := by decide
   have := this ⟨i, hi⟩
   rw [ZfK]; simpa using this
  exact hall ((Ze s 512).1 % 16).toNat (by omega)
 ·have hv : (Zlr s).val = some (IntKind.wrap .u8 (Ze s 512).1, (Ze s 512).2) := by simp [Zlr, RT.val, c, hn]
  simp only [Zad, Zl, hv, okB, getO]
  exact ⟨trivial, b, ZaT _ _⟩
theorem ZyR {s : List Int × Int} {k : Int} (h : NB s k) (hk : k ≤ 900000) : Zlm s = true ∧ NB (ZhD s).2 (k + 2) ∧ inR .u16 (ZhD s).1 := by
 obtain ⟨c, b, d0, d1⟩ := Z2 h (by omega) 5 (by decide) (by decide)
 obtain ⟨c8, b8, e0, e1⟩ := Z2 b (by omega) 8 (by decide) (by decide)
 obtain ⟨c6, b6, _⟩ := Z2 b (by omega) 65536 (by decide) (by decide)
 obtain ⟨c4, b4, _⟩ := Z2 b (by omega) 64 (by decide) (by decide)
 have w : ∀ {t : List Int × Int}, NB t (k + 1 + 1) → NB t (k + 2) := fun h => ⟨h.1, by have := h.2; omega⟩
 have hr : Zf (Ze (Ze s 5).2 8).1 8 = true := Zae.2 ⟨e0, by omega⟩
 by_cases h0 : (Ze s 5).1 = 0
 ·have hv : (ZgQ s).val = some (R.get (R.int u16) [0, 1, 65535, 65534, 32767, 32768, 255, 256] (Ze (Ze s 5).2 8).1, (Ze (Ze s 5).2 8).2) := by
   simp [ZgQ, RT.val, c, h0, c8, hr]
  simp only [Zlm, ZhD, hv, okB, getO]
  refine ⟨trivial, w b8, ?_⟩
  have hall : ∀ i : Nat, i < 8 → inR .u16 (([0, 1, 65535, 65534, 32767, 32768, 255, 256] : List Int).getD i 0) := by
   intro i hi
   have : ∀ i : Fin 8, decide (0 ≤ ([0, 1, 65535, 65534, 32767, 32768, 255, 256] : List Int).getD i 0) && decide (([0, 1, 65535, 65534, 32767, 32768, 255, 256] : List Int).getD i 0 ≤ 65535) := by decide
   have := this ⟨i, hi⟩
   simp only [Bool.and_eq_true, decide_eq_true_eq] at this
   exact ⟨by simpa [IntKind.min, IntKind.signed] using this.1, by simpa [IntKind.max, IntKind.signed, IntKind.bits] using this.2⟩
  exact hall (Ze (Ze s 5).2 8).1.toNat (by omega)
 ·by_cases h1 : (Ze s 5).1 = 1
  ·have hv : (ZgQ s).val = some (IntKind.wrap .u16 (Ze (Ze s 5).2 65536).1, (Ze (Ze s 5).2 65536).2) := by simp [ZgQ, RT.val, c, h1, c6]
   simp only [Zlm, ZhD, hv, okB, getO]
   exact ⟨trivial, w b6, ZaT _ _⟩
  ·have hv : (ZgQ s).val = some (IntKind.wrap .u16 (Ze (Ze s 5).2 64).1, (Ze (Ze s 5).2 64).2) := by
    have g0 : ((Ze s 5).1 == 0) = false := by simpa using h0
    have g1 : ((Ze s 5).1 == 1) = false := by simpa using h1
    simp [ZgQ, RT.val, c, g0, g1, c4]
   simp only [Zlm, ZhD, hv, okB, getO]
   exact ⟨trivial, w b4, ZaT _ _⟩
theorem ZIK {s : List Int × Int} {k : Int} (h : NB s k) (hk : k ≤ 1000000) : ZyU s = true ∧ NB (ZaB s).2 (k + 1) ∧ ((ZaB s).1 = 1 ∨ (ZaB s).1 = 2) := by
 obtain ⟨c, b, d0, d1⟩ := Z2 h hk 2 (by decide) (by decide)
 have hv : (ZsI s).val = some (1 + (Ze s 2).1, (Ze s 2).2) := by simp [ZsI, RT.val, c]; rw [wrap_i64 _ (by omega) (by omega)]
 simp only [ZyU, ZaB, hv, okB, getO]
 exact ⟨trivial, b, by omega⟩
theorem ZFW {s : List Int × Int} {k : Int} (h : NB s k) (hk : k ≤ 1000000) (c : Int) : ZqD s c = true ∧ NB (Zii s c).2 (k + 1) := by
 obtain ⟨c1, b, _⟩ := Z2 h hk 128 (by decide) (by decide)
 simp only [ZqD, Zii, ZqA, RT.val, c1, cond_true, okB, getO]
 exact ⟨trivial, b⟩
def RegOk (r : Int × Int × Int × Int × Int × Int × Int × (Bool × Bool × Bool × Bool × Bool × Bool × Bool) × Int × Int) : Prop :=
 inR .u8 r.1 ∧ inR .u8 r.2.1 ∧ inR .u8 r.2.2.1 ∧ inR .u8 r.2.2.2.1 ∧ inR .u8 r.2.2.2.2.1 ∧ inR .u8 r.2.2.2.2.2.1 ∧ inR .u8 r.2.2.2.2.2.2.1 ∧ inR .u16 r.2.2.2.2.2.2.2.2.1 ∧ inR .u16 r.2.2.2.2.2.2.2.2.2
theorem ZIH {s : List Int × Int} {k : Int} (h : NB s k) (hk : k ≤ 800000) (c : Int) : ZsG s c = true ∧ NB (ZhE s c).2 (k + 12) ∧ RegOk (ZhE s c).1 := by
 obtain ⟨c1, b1, r1⟩ := ZcS h (by omega)
 obtain ⟨c2, b2, r2⟩ := ZcS b1 (by omega)
 obtain ⟨c3, b3, r3⟩ := ZcS b2 (by omega)
 obtain ⟨c4, b4, r4⟩ := ZcS b3 (by omega)
 obtain ⟨c5, b5, r5⟩ := ZcS b4 (by omega)
 obtain ⟨c6, b6, r6⟩ := ZcS b5 (by omega)
 obtain ⟨c7, b7, r7⟩ := ZcS b6 (by omega)
 obtain ⟨c8, b8⟩ := ZFW b7 (by omega) c
 obtain ⟨c9, b9, r9⟩ := ZyR b8 (by omega)
 obtain ⟨c10, b10, r10⟩ := ZyR b9 (by omega)
 have hv : (ZsF s c).val = some (((Zl s).1, (Zl (Zl s).2).1, (Zl (Zl (Zl s).2).2).1, (Zl (Zl (Zl (Zl s).2).2).2).1, (Zl (Zl (Zl (Zl (Zl s).2).2).2).2).1, (Zl (Zl (Zl (Zl (Zl (Zl s).2).2).2).2).2).1, (Zl (Zl (Zl (Zl (Zl (Zl (Zl s).2).2).2).2).2).2).1, (Zii (Zl (Zl (Zl (Zl (Zl (Zl (Zl s).2).2).2).2).2).2).2 c).1, (ZhD (Zii (Zl (Zl (Zl (Zl (Zl (Zl (Zl s).2).2).2).2).2).2).2 c).2).1, (ZhD (ZhD (Zii (Zl (Zl (Zl (Zl (Zl (Zl (Zl s).2).2).2).2).2).2).2 c).2).2).1), (ZhD (ZhD (Zii (Zl (Zl (Zl (Zl (Zl (Zl (Zl s).2).2).2).2).2).2).2 c).2).2).2) := by
  simp only [ZsF, RT.val, c1, c2, c3, c4, c5, c6, c7, c8, c9, c10, Bool.not_true, Bool.false_or, cond_true, Bool.or_true]
 simp only [ZsG, ZhE, hv, okB, getO]
 exact ⟨trivial, ⟨b10.1, by have := b10.2; omega⟩, r1, r2, r3, r4, r5, r6, r7, r9, r10⟩
theorem ZBM {s : List Int × Int} {k : Int} (h : NB s k) (hk : k ≤ 900000) : ZcR s = true ∧ NB (Za4 s).2 (k + 2) ∧ inR .u8 (Za4 s).1 := by
 obtain ⟨c, b, d0, d1⟩ := Z2 h (by omega) 3 (by decide) (by decide)
 have w : ∀ {t : List Int × Int}, NB t (k + 1 + 1) → NB t (k + 2) := fun h => ⟨h.1, by have := h.2; omega⟩
 by_cases hn : 0 < (Ze s 3).1
 ·have hk' : k + 1 ≤ 1000001 := by omega
  obtain ⟨c2, b2, _⟩ := Z2 b (by omega) 256 (by decide) (by decide)
  have hv : (Zee s).val = some (IntKind.wrap .u8 (Ze (Ze s 3).2 256).1, (Ze (Ze s 3).2 256).2) := by simp [Zee, RT.val, c, hn, c2]
  simp only [ZcR, Za4, hv, okB, getO]
  exact ⟨trivial, w b2, ZaT _ _⟩
 ·obtain ⟨c2, b2, e0, e1⟩ := Z2 b (by omega) 18 (by decide) (by decide)
  have hr : Zf (Ze (Ze s 3).2 18).1 18 = true := Zae.2 ⟨e0, by omega⟩
  have hv : (Zee s).val = some (R.get (R.int u8) [251, 243, 118, 205, 201, 197, 227, 211, 219, 54, 52, 32, 48, 194, 202, 255, 62, 49] (Ze (Ze s 3).2 18).1, (Ze (Ze s 3).2 18).2) := by
   simp [Zee, RT.val, c, hn, c2, hr]
  simp only [ZcR, Za4, hv, okB, getO]
  refine ⟨trivial, w b2, ?_⟩
  have hall : ∀ i : Nat, i < 18 → inR .u8 (([251, 243, 118, 205, 201, 197, 227, 211, 219, 54, 52, 32, 48, 194, 202, 255, 62, 49] : List Int).getD i 0) := by
   intro i hi
   have : ∀ i : Fin 18, decide (0 ≤ ([251, 243, 118, 205, 201, 197, 227, 211, 219, 54, 52, 32, 48, 194, 202, 255, 62, 49] : List Int).getD i 0) && decide (([251, 243, 118, 205, 201, 197, 227, 211, 219, 54, 52, 32, 48, 194, 202, 255, 62, 49] : List Int).getD i 0 ≤ 255) := by decide
   have := this ⟨i, hi⟩
   rw [ZfK]; simpa using this
  exact hall (Ze (Ze s 3).2 18).1.toNat (by omega)
theorem ZML (l : List Int) : NB (l, 0) 0 := ⟨by simp, by simp⟩
end
end Go.Proofs.YtghoimllhpjkjaaGreat
