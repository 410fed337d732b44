/-
  Contracts of functions; each found by the symbolic executor and checked by the kernel. Conditions: none.
-/
import Derived.Test.YtghoimllhpjkjaaGreatFin0
import Derived.Test.YtghoimllhpjkjaaGreatFin4
import Derived.Test.YtghoimllhpjkjaaGreatNext2
import Derived.Test.YtghoimllhpjkjaaGreatPinsEq
import Derived.Test.YtghoimllhpjkjaaGreatS3D
import Derived.Test.YtghoimllhpjkjaaGreatProg
open Go Go.S3 Go.Proofs
set_option linter.unusedVariables false
set_option linter.unusedSimpArgs false
set_option maxRecDepth 100000
namespace Go.Proofs.YtghoimllhpjkjaaGreat
noncomputable section
theorem fr_1 (c) (s : Int) (g : List Int) (l) (hb : ∀ j : Nat, inR .u8 (g[j]?.getD 0)) (n : Int) (hk : (Za c.1 (g.getD 0 0)).1 = n) : (n = 1 → (Zy3 c s g l).val = some (finX c s g l)) ∧ (n = 6 → (ZyY c s g l).val = some (finX c s g l)) ∧ (n = 10 → (ZrA c s g l).val = some (finX c s g l)) ∧ (n = 17 → (Zrt c s g l).val = some (finX c s g l)) ∧ (n = 21 → (Zrp c s g l).val = some (finX c s g l)) ∧ (n = 28 → (Zri c s g l).val = some (finX c s g l)) ∧ (n = 33 → (Zrd c s g l).val = some (finX c s g l)) ∧ (n = 37 → (Zq9 c s g l).val = some (finX c s g l)) ∧ (n = 43 → (Zq3 c s g l).val = some (finX c s g l)) := by
 refine ⟨?_, ?_, ?_, ?_, ?_, ?_, ?_, ?_, ?_⟩
 all_goals intro e; subst e
 all_goals simp only [Zy3, ZyY, ZrA, Zrt, Zrp, Zri, Zrd, Zq9, Zq3, RT.val, rgx]
 all_goals simp only [qat0, mat0, qat1, mat1, rg0, hk, Zw, ZY, Z9, ZI, ZJ, Zy, Zz, ZaM, ZaO, Zb6, Zb5, Zv, Zaw, finX, spOf]
 all_goals generalize Zb s = bi
 all_goals cases bi with
 | true => simp [wPC, wSP]
 | false =>
  generalize (s == 5) = bs
  simp only [finI, hk, finR, wPC, wSP, wA, wF, fCY, fVCY, Zcx, flOf, ZK, pcOf, ZaY]
  generalize Za c.1 (g.getD 0 0) = i at hk ⊢
  simp (config := { implicitDefEqProofs := false }) [ZbG, Zbf, Zbs, hk, Zfr, Zft, Zfs, Zjp, Zjq, ZdZ, ZdY, Zju, hb]
theorem fr_2 (c) (s : Int) (g : List Int) (l) (hb : ∀ j : Nat, inR .u8 (g[j]?.getD 0)) (n : Int) (hk : (Za c.1 (g.getD 0 0)).1 = n) : (n = 3 → (Zy1 c s g l).val = some (finX c s g l)) ∧ (n = 7 → (ZyX c s g l).val = some (finX c s g l)) ∧ (n = 11 → (Zrz c s g l).val = some (finX c s g l)) ∧ (n = 18 → (Zrs c s g l).val = some (finX c s g l)) ∧ (n = 22 → (Zro c s g l).val = some (finX c s g l)) ∧ (n = 29 → (Zrh c s g l).val = some (finX c s g l)) ∧ (n = 34 → (Zrc c s g l).val = some (finX c s g l)) ∧ (n = 40 → (Zq6 c s g l).val = some (finX c s g l)) ∧ (n = 44 → (Zq2 c s g l).val = some (finX c s g l)) := by
 refine ⟨?_, ?_, ?_, ?_, ?_, ?_, ?_, ?_, ?_⟩
 all_goals intro e; subst e
 all_goals simp only [Zy1, ZyX, Zrz, Zrs, Zro, Zrh, Zrc, Zq6, Zq2, RT.val, rgx]
 all_goals simp only [qat0, mat0, qat1, mat1, rg0, hk, Zw, ZY, Z9, ZI, ZJ, Zy, Zz, ZaM, ZaO, Zb6, Zb5, Zv, Zaw, finX, spOf]
 all_goals generalize Zb s = bi
 all_goals cases bi with
 | true => simp [wPC, wSP]
 | false =>
  generalize (s == 5) = bs
  simp only [finI, hk, finR, wPC, wSP, wA, wF, fCY, fVCY, Zcx, flOf, ZK, pcOf, ZaY]
  generalize Za c.1 (g.getD 0 0) = i at hk ⊢
  simp (config := { implicitDefEqProofs := false }) [ZbG, Zbf, Zbs, hk, Zfr, Zft, Zfs, Zjp, Zjq, ZdZ, ZdY, Zju, hb]
theorem fr_3 (c) (s : Int) (g : List Int) (l) (hb : ∀ j : Nat, inR .u8 (g[j]?.getD 0)) (n : Int) (hk : (Za c.1 (g.getD 0 0)).1 = n) : (n = 4 → (Zy0 c s g l).val = some (finX c s g l)) ∧ (n = 8 → (ZyW c s g l).val = some (finX c s g l)) ∧ (n = 13 → (Zrx c s g l).val = some (finX c s g l)) ∧ (n = 19 → (Zrr c s g l).val = some (finX c s g l)) ∧ (n = 23 → (Zrn c s g l).val = some (finX c s g l)) ∧ (n = 30 → (Zrg c s g l).val = some (finX c s g l)) ∧ (n = 35 → (Zrb c s g l).val = some (finX c s g l)) ∧ (n = 41 → (Zq5 c s g l).val = some (finX c s g l)) ∧ (n = 46 → (Zq0 c s g l).val = some (finX c s g l)) := by
 refine ⟨?_, ?_, ?_, ?_, ?_, ?_, ?_, ?_, ?_⟩
 all_goals intro e; subst e
 all_goals simp only [Zy0, ZyW, Zrx, Zrr, Zrn, Zrg, Zrb, Zq5, Zq0, RT.val, rgx]
 all_goals simp only [qat0, mat0, qat1, mat1, rg0, hk, Zw, ZY, Z9, ZI, ZJ, Zy, Zz, ZaM, ZaO, Zb6, Zb5, Zv, Zaw, finX, spOf]
 all_goals generalize Zb s = bi
 all_goals cases bi with
 | true => simp [wPC, wSP]
 | false =>
  generalize (s == 5) = bs
  simp only [finI, hk, finR, wPC, wSP, wA, wF, fCY, fVCY, Zcx, flOf, ZK, pcOf, ZaY]
  generalize Za c.1 (g.getD 0 0) = i at hk ⊢
  simp (config := { implicitDefEqProofs := false }) [ZbG, Zbf, Zbs, hk, Zfr, Zft, Zfs, Zjp, Zjq, ZdZ, ZdY, Zju, hb]
theorem fr_4 (c) (s : Int) (g : List Int) (l) (hb : ∀ j : Nat, inR .u8 (g[j]?.getD 0)) (n : Int) (hk : (Za c.1 (g.getD 0 0)).1 = n) : (n = 5 → (ZyZ c s g l).val = some (finX c s g l)) ∧ (n = 9 → (ZyV c s g l).val = some (finX c s g l)) ∧ (n = 16 → (Zru c s g l).val = some (finX c s g l)) ∧ (n = 20 → (Zrq c s g l).val = some (finX c s g l)) ∧ (n = 27 → (Zrj c s g l).val = some (finX c s g l)) ∧ (n = 32 → (Zre c s g l).val = some (finX c s g l)) ∧ (n = 36 → (Zra c s g l).val = some (finX c s g l)) ∧ (n = 42 → (Zq4 c s g l).val = some (finX c s g l)) ∧ (n = 47 → (ZqZ c s g l).val = some (finX c s g l)) := by
 refine ⟨?_, ?_, ?_, ?_, ?_, ?_, ?_, ?_, ?_⟩
 all_goals intro e; subst e
 all_goals simp only [ZyZ, ZyV, Zru, Zrq, Zrj, Zre, Zra, Zq4, ZqZ, RT.val, rgx]
 all_goals simp only [qat0, mat0, qat1, mat1, rg0, hk, Zw, ZY, Z9, ZI, ZJ, Zy, Zz, ZaM, ZaO, Zb6, Zb5, Zv, Zaw, finX, spOf]
 all_goals generalize Zb s = bi
 all_goals cases bi with
 | true => simp [wPC, wSP]
 | false =>
  generalize (s == 5) = bs
  simp only [finI, hk, finR, wPC, wSP, wA, wF, fCY, fVCY, Zcx, flOf, ZK, pcOf, ZaY]
  generalize Za c.1 (g.getD 0 0) = i at hk ⊢
  simp (config := { implicitDefEqProofs := false }) [ZbG, Zbf, Zbs, hk, Zfr, Zft, Zfs, Zjp, Zjq, ZdZ, ZdY, Zju, hb]
theorem fr_5 (c) (s : Int) (g : List Int) (l) (hb : ∀ j : Nat, inR .u8 (g[j]?.getD 0)) (n : Int) (hk : (Za c.1 (g.getD 0 0)).1 = n) : (n = 2 → (Zy2 c s g l).val = some (finX c s g l)) ∧ (n = 12 → (Zry c s g l).val = some (finX c s g l)) := by
 refine ⟨?_, ?_⟩
 all_goals intro e; subst e
 all_goals simp only [Zy2, Zry, RT.val, rgx]
 all_goals simp only [qat0, mat0, qat1, mat1, rg0, hk, Zw, ZY, Z9, ZI, ZJ, Zy, Zz, ZaM, ZaO, Zb6, Zb5, Zv, Zaw, finX, spOf]
 all_goals generalize Zb s = bi
 all_goals cases bi with
 | true => simp [wPC, wSP]
 | false =>
  generalize (s == 5) = bs
  simp only [finI, hk, finR, wPC, wSP, wA, wF, fCY, fVCY, Zcx, flOf, ZK, pcOf, ZaY]
  generalize Za c.1 (g.getD 0 0) = i at hk ⊢
  generalize (i.2.2.2.1 == 6) = b0
  cases b0 <;> simp (config := { implicitDefEqProofs := false }) [ZbG, Zbf, Zbs, hk, Zfr, Zft, Zfs, Zjp, Zjq, ZdZ, ZdY, Zju, hb]
theorem fr_6 (c) (s : Int) (g : List Int) (l) (hb : ∀ j : Nat, inR .u8 (g[j]?.getD 0)) (n : Int) (hk : (Za c.1 (g.getD 0 0)).1 = n) : (n = 14 → (Zrw c s g l).val = some (finX c s g l)) ∧ (n = 15 → (Zrv c s g l).val = some (finX c s g l)) := by
 refine ⟨?_, ?_⟩
 all_goals intro e; subst e
 all_goals simp only [Zrw, Zrv, RT.val, rgx]
 all_goals simp only [qat0, mat0, qat1, mat1, rg0, hk, Zw, ZY, Z9, ZI, ZJ, Zy, Zz, ZaM, ZaO, Zb6, Zb5, Zv, Zaw, finX, spOf]
 all_goals generalize Zb s = bi
 all_goals cases bi with
 | true => simp [wPC, wSP]
 | false =>
  generalize (s == 5) = bs
  simp only [finI, hk, finR, wPC, wSP, wA, wF, fCY, fVCY, Zcx, flOf, ZK, pcOf, ZaY]
  generalize Za c.1 (g.getD 0 0) = i at hk ⊢
  generalize (i.2.2.1 == 6) = b0
  cases b0 <;> simp (config := { implicitDefEqProofs := false }) [ZbG, Zbf, Zbs, hk, Zfr, Zft, Zfs, Zjp, Zjq, ZdZ, ZdY, Zju, hb]
theorem fr_7 (c) (s : Int) (g : List Int) (l) (hb : ∀ j : Nat, inR .u8 (g[j]?.getD 0)) (n : Int) (hk : (Za c.1 (g.getD 0 0)).1 = n) : (n = 24 → (Zrm c s g l).val = some (finX c s g l)) ∧ (n = 25 → (Zrl c s g l).val = some (finX c s g l)) ∧ (n = 26 → (Zrk c s g l).val = some (finX c s g l)) ∧ (n = 45 → (Zq1 c s g l).val = some (finX c s g l)) := by
 refine ⟨?_, ?_, ?_, ?_⟩
 all_goals intro e; subst e
 all_goals simp only [Zrm, Zrl, Zrk, Zq1, RT.val, rgx]
 all_goals simp only [qat0, mat0, qat1, mat1, rg0, hk, Zw, ZY, Z9, ZI, ZJ, Zy, Zz, ZaM, ZaO, Zb6, Zb5, Zv, Zaw, finX, spOf]
 all_goals generalize Zb s = bi
 all_goals cases bi with
 | true => simp [wPC, wSP]
 | false =>
  generalize (s == 5) = bs
  simp only [finI, hk, finR, wPC, wSP, wA, wF, fCY, fVCY, Zcx, flOf, ZK, pcOf, ZaY]
  generalize Za c.1 (g.getD 0 0) = i at hk ⊢
  generalize Zd1 _ _ = b0
  cases b0 <;> simp (config := { implicitDefEqProofs := false }) [ZbG, Zbf, Zbs, hk, Zfr, Zft, Zfs, Zjp, Zjq, ZdZ, ZdY, Zju, hb]
theorem fr_8 (c) (s : Int) (g : List Int) (l) (hb : ∀ j : Nat, inR .u8 (g[j]?.getD 0)) (n : Int) (hk : (Za c.1 (g.getD 0 0)).1 = n) : (n = 31 → (Zrf c s g l).val = some (finX c s g l)) := by
 skip
 all_goals intro e; subst e
 all_goals simp only [Zrf, RT.val, rgx]
 all_goals simp only [qat0, mat0, qat1, mat1, rg0, hk, Zw, ZY, Z9, ZI, ZJ, Zy, Zz, ZaM, ZaO, Zb6, Zb5, Zv, Zaw, finX, spOf]
 all_goals generalize Zb s = bi
 all_goals cases bi with
 | true => simp [wPC, wSP]
 | false =>
  generalize (s == 5) = bs
  simp only [finI, hk, finR, wPC, wSP, wA, wF, fCY, fVCY, Zcx, flOf, ZK, pcOf, ZaY]
  generalize Za c.1 (g.getD 0 0) = i at hk ⊢
  generalize (i.2.2.2.2.1 == 3) = b0
  cases b0 <;> simp (config := { implicitDefEqProofs := false }) [ZbG, Zbf, Zbs, hk, Zfr, Zft, Zfs, Zjp, Zjq, ZdZ, ZdY, Zju, hb, Zfx, Zj5, RT.val]
theorem fr_9 (c) (s : Int) (g : List Int) (l) (hb : ∀ j : Nat, inR .u8 (g[j]?.getD 0)) (n : Int) (hk : (Za c.1 (g.getD 0 0)).1 = n) : (n = 38 → (Zq8 c s g l).val = some (finX c s g l)) := by
 skip
 all_goals intro e; subst e
 all_goals simp only [Zq8, RT.val, rgx]
 all_goals simp only [qat0, mat0, qat1, mat1, rg0, hk, Zw, ZY, Z9, ZI, ZJ, Zy, Zz, ZaM, ZaO, Zb6, Zb5, Zv, Zaw, finX, spOf]
 all_goals generalize Zb s = bi
 all_goals cases bi with
 | true => simp [wPC, wSP]
 | false =>
  generalize (s == 5) = bs
  simp only [finI, hk, finR, wPC, wSP, wA, wF, fCY, fVCY, Zcx, flOf, ZK, pcOf, ZaY]
  generalize Za c.1 (g.getD 0 0) = i at hk ⊢
  simp [ZbG, Zbf, Zbs, hk, ZQ6]
  rfl
theorem fr_10 (c) (s : Int) (g : List Int) (l) (hb : ∀ j : Nat, inR .u8 (g[j]?.getD 0)) (n : Int) (hk : (Za c.1 (g.getD 0 0)).1 = n) : (n = 39 → (Zq7 c s g l).val = some (finX c s g l)) := by
 skip
 all_goals intro e; subst e
 all_goals simp only [Zq7, RT.val, rgx]
 all_goals simp only [qat0, mat0, qat1, mat1, rg0, hk, Zw, ZY, Z9, ZI, ZJ, Zy, Zz, ZaM, ZaO, Zb6, Zb5, Zv, Zaw, finX, spOf]
 all_goals generalize Zb s = bi
 all_goals cases bi with
 | true => simp [wPC, wSP]
 | false =>
  generalize (s == 5) = bs
  simp only [finI, hk, finR, wPC, wSP, wA, wF, fCY, fVCY, Zcx, flOf, ZK, pcOf, ZaY]
  generalize Za c.1 (g.getD 0 0) = i at hk ⊢
  simp [ZbG, Zbf, Zbs, hk, rSim, ZJp, RT.val]
theorem ZS6 (a : HL Zo) (h : okHL Zo a) : ∃ l, ZdU Tryz.prog l ∧ (Zh (envX Tryz.prog l [] 79250227772808467515411824639 8) Tryz.f98 Zo Z0 a).val = some (finX a.1 a.2.1 a.2.2.1 a.2.2.2) := by
 have hk := ZtF a.1.1 _ (ZtI h.2.2.1)
 have hb : ∀ j : Nat, inR .u8 (a.2.2.1[j]?.getD 0) := fun j => by
  cases hj : a.2.2.1[j]? with
  | none => rw [ZfY]; simp
  | some x => exact h.2.2.1.2 x (List.mem_of_getElem? hj)
 refine ⟨ZaF (Za a.1.1 (a.2.2.1.getD 0 0)).1, ZPm _, ?_⟩
 rcases ZtE hk.1 hk.2 with e | e | e | e | e | e | e | e | e | e | e | e | e | e | e | e | e | e | e | e | e | e | e | e | e | e | e | e | e | e | e | e | e | e | e | e | e | e | e | e | e | e | e | e | e | e | e
 ·rw [e, ZKs a, ((fr_1 a.1 a.2.1 a.2.2.1 a.2.2.2 hb _ e).1 rfl)]
 ·rw [e, ZKr a, ((fr_5 a.1 a.2.1 a.2.2.1 a.2.2.2 hb _ e).1 rfl)]
 ·rw [e, ZKq a, ((fr_2 a.1 a.2.1 a.2.2.1 a.2.2.2 hb _ e).1 rfl)]
 ·rw [e, ZKp a, ((fr_3 a.1 a.2.1 a.2.2.1 a.2.2.2 hb _ e).1 rfl)]
 ·rw [e, ZKo a, ((fr_4 a.1 a.2.1 a.2.2.1 a.2.2.2 hb _ e).1 rfl)]
 ·rw [e, ZKn a, ((fr_1 a.1 a.2.1 a.2.2.1 a.2.2.2 hb _ e).2.1 rfl)]
 ·rw [e, ZKm a, ((fr_2 a.1 a.2.1 a.2.2.1 a.2.2.2 hb _ e).2.1 rfl)]
 ·rw [e, ZKl a, ((fr_3 a.1 a.2.1 a.2.2.1 a.2.2.2 hb _ e).2.1 rfl)]
 ·rw [e, ZKk a, ((fr_4 a.1 a.2.1 a.2.2.1 a.2.2.2 hb _ e).2.1 rfl)]
 ·rw [e, ZF3 a, ((fr_1 a.1 a.2.1 a.2.2.1 a.2.2.2 hb _ e).2.2.1 rfl)]
 ·rw [e, ZF2 a, ((fr_2 a.1 a.2.1 a.2.2.1 a.2.2.2 hb _ e).2.2.1 rfl)]
 ·rw [e, ZF1 a, ((fr_5 a.1 a.2.1 a.2.2.1 a.2.2.2 hb _ e).2 rfl)]
 ·rw [e, ZF0 a, ((fr_3 a.1 a.2.1 a.2.2.1 a.2.2.2 hb _ e).2.2.1 rfl)]
 ·rw [e, ZFZ a, ((fr_6 a.1 a.2.1 a.2.2.1 a.2.2.2 hb _ e).1 rfl)]
 ·rw [e, ZFY a, ((fr_6 a.1 a.2.1 a.2.2.1 a.2.2.2 hb _ e).2 rfl)]
 ·rw [e, ZFX a, ((fr_4 a.1 a.2.1 a.2.2.1 a.2.2.2 hb _ e).2.2.1 rfl)]
 ·rw [e, ZFW a, ((fr_1 a.1 a.2.1 a.2.2.1 a.2.2.2 hb _ e).2.2.2.1 rfl)]
 ·rw [e, ZFV a, ((fr_2 a.1 a.2.1 a.2.2.1 a.2.2.2 hb _ e).2.2.2.1 rfl)]
 ·rw [e, ZFU a, ((fr_3 a.1 a.2.1 a.2.2.1 a.2.2.2 hb _ e).2.2.2.1 rfl)]
 ·rw [e, ZFT a, ((fr_4 a.1 a.2.1 a.2.2.1 a.2.2.2 hb _ e).2.2.2.1 rfl)]
 ·rw [e, ZFS a, ((fr_1 a.1 a.2.1 a.2.2.1 a.2.2.2 hb _ e).2.2.2.2.1 rfl)]
 ·rw [e, ZFR a, ((fr_2 a.1 a.2.1 a.2.2.1 a.2.2.2 hb _ e).2.2.2.2.1 rfl)]
 ·rw [e, ZFQ a, ((fr_3 a.1 a.2.1 a.2.2.1 a.2.2.2 hb _ e).2.2.2.2.1 rfl)]
 ·rw [e, ZFP a, ((fr_7 a.1 a.2.1 a.2.2.1 a.2.2.2 hb _ e).1 rfl)]
 ·rw [e, ZFO a, ((fr_7 a.1 a.2.1 a.2.2.1 a.2.2.2 hb _ e).2.1 rfl)]
 ·rw [e, ZFN a, ((fr_7 a.1 a.2.1 a.2.2.1 a.2.2.2 hb _ e).2.2.1 rfl)]
 ·rw [e, ZFM a, ((fr_4 a.1 a.2.1 a.2.2.1 a.2.2.2 hb _ e).2.2.2.2.1 rfl)]
 ·rw [e, ZFL a, ((fr_1 a.1 a.2.1 a.2.2.1 a.2.2.2 hb _ e).2.2.2.2.2.1 rfl)]
 ·rw [e, ZFK a, ((fr_2 a.1 a.2.1 a.2.2.1 a.2.2.2 hb _ e).2.2.2.2.2.1 rfl)]
 ·rw [e, ZFJ a, ((fr_3 a.1 a.2.1 a.2.2.1 a.2.2.2 hb _ e).2.2.2.2.2.1 rfl)]
 ·rw [e, ZFI a, ((fr_8 a.1 a.2.1 a.2.2.1 a.2.2.2 hb _ e) rfl)]
 ·rw [e, ZFH a, ((fr_4 a.1 a.2.1 a.2.2.1 a.2.2.2 hb _ e).2.2.2.2.2.1 rfl)]
 ·rw [e, ZFG a, ((fr_1 a.1 a.2.1 a.2.2.1 a.2.2.2 hb _ e).2.2.2.2.2.2.1 rfl)]
 ·rw [e, ZFF a, ((fr_2 a.1 a.2.1 a.2.2.1 a.2.2.2 hb _ e).2.2.2.2.2.2.1 rfl)]
 ·rw [e, ZFE a, ((fr_3 a.1 a.2.1 a.2.2.1 a.2.2.2 hb _ e).2.2.2.2.2.2.1 rfl)]
 ·rw [e, ZFD a, ((fr_4 a.1 a.2.1 a.2.2.1 a.2.2.2 hb _ e).2.2.2.2.2.2.1 rfl)]
 ·rw [e, ZFC a, ((fr_1 a.1 a.2.1 a.2.2.1 a.2.2.2 hb _ e).2.2.2.2.2.2.2.1 rfl)]
 ·rw [e, ZFB a, ((fr_9 a.1 a.2.1 a.2.2.1 a.2.2.2 hb _ e) rfl)]
 ·rw [e, ZFA a, ((fr_10 a.1 a.2.1 a.2.2.1 a.2.2.2 hb _ e) rfl)]
 ·rw [e, ZFz a, ((fr_2 a.1 a.2.1 a.2.2.1 a.2.2.2 hb _ e).2.2.2.2.2.2.2.1 rfl)]
 ·rw [e, ZFy a, ((fr_3 a.1 a.2.1 a.2.2.1 a.2.2.2 hb _ e).2.2.2.2.2.2.2.1 rfl)]
 ·rw [e, ZFx a, ((fr_4 a.1 a.2.1 a.2.2.1 a.2.2.2 hb _ e).2.2.2.2.2.2.2.1 rfl)]
 ·rw [e, ZFw a, ((fr_1 a.1 a.2.1 a.2.2.1 a.2.2.2 hb _ e).2.2.2.2.2.2.2.2 rfl)]
 ·rw [e, ZFv a, ((fr_2 a.1 a.2.1 a.2.2.1 a.2.2.2 hb _ e).2.2.2.2.2.2.2.2 rfl)]
 ·rw [e, ZFu a, ((fr_7 a.1 a.2.1 a.2.2.1 a.2.2.2 hb _ e).2.2.2 rfl)]
 ·rw [e, ZFt a, ((fr_3 a.1 a.2.1 a.2.2.1 a.2.2.2 hb _ e).2.2.2.2.2.2.2.2 rfl)]
 ·rw [e, ZFs a, ((fr_4 a.1 a.2.1 a.2.2.1 a.2.2.2 hb _ e).2.2.2.2.2.2.2.2 rfl)]
def ZS7 : Entry := Zf Zo Z0 (fun _ => none) (fun a => finX a.1 a.2.1 a.2.2.1 a.2.2.2)
theorem ZKj : Zc Tryz.prog 98 ZS7 := Zke Tryz.func98 rfl (by kernel_rfl) Tryz.call98 fun a h _ => ZS6 a h
theorem fp_1 (c) (s : Int) (g : List Int) (l) (n : Int) (hk : (Za c.1 (g.getD 0 0)).1 = n) : (n = 1 → (ZAw c s g l).val = some (finX c s g l)) ∧ (n = 6 → (ZAr c s g l).val = some (finX c s g l)) ∧ (n = 10 → (Zs5 c s g l).val = some (finX c s g l)) ∧ (n = 17 → (ZsY c s g l).val = some (finX c s g l)) ∧ (n = 21 → (ZsU c s g l).val = some (finX c s g l)) ∧ (n = 28 → (ZsN c s g l).val = some (finX c s g l)) ∧ (n = 33 → (ZsI c s g l).val = some (finX c s g l)) ∧ (n = 37 → (ZsE c s g l).val = some (finX c s g l)) ∧ (n = 43 → (Zsy c s g l).val = some (finX c s g l)) := by
 refine ⟨?_, ?_, ?_, ?_, ?_, ?_, ?_, ?_, ?_⟩
 all_goals intro e; subst e
 all_goals simp only [ZAw, ZAr, Zs5, ZsY, ZsU, ZsN, ZsI, ZsE, Zsy, RT.val, rgx]
 all_goals simp only [qat0, mat0, qat1, mat1, rg0, hk, Zw, ZY, Z9, ZI, ZJ, Zy, Zz, ZaM, ZaO, Zb6, Zb5, Zv, Zaw, finX, spOf]
 all_goals generalize Zb s = bi
 all_goals cases bi with
 | true => simp [wPC, wSP]
 | false =>
  generalize (s == 5) = bs
  simp only [finI, hk, finR, wPC, wSP, wA, wF, fCY, fVCY, Zcx, flOf, ZK, pcOf, ZaY]
  generalize Za c.1 (g.getD 0 0) = i at hk ⊢
  simp (config := { implicitDefEqProofs := false }) [ZbG, Zbf, Zbs, hk]
theorem fp_2 (c) (s : Int) (g : List Int) (l) (n : Int) (hk : (Za c.1 (g.getD 0 0)).1 = n) : (n = 3 → (ZAu c s g l).val = some (finX c s g l)) ∧ (n = 7 → (ZAq c s g l).val = some (finX c s g l)) ∧ (n = 11 → (Zs4 c s g l).val = some (finX c s g l)) ∧ (n = 18 → (ZsX c s g l).val = some (finX c s g l)) ∧ (n = 22 → (ZsT c s g l).val = some (finX c s g l)) ∧ (n = 29 → (ZsM c s g l).val = some (finX c s g l)) ∧ (n = 34 → (ZsH c s g l).val = some (finX c s g l)) ∧ (n = 40 → (ZsB c s g l).val = some (finX c s g l)) ∧ (n = 44 → (Zsx c s g l).val = some (finX c s g l)) := by
 refine ⟨?_, ?_, ?_, ?_, ?_, ?_, ?_, ?_, ?_⟩
 all_goals intro e; subst e
 all_goals simp only [ZAu, ZAq, Zs4, ZsX, ZsT, ZsM, ZsH, ZsB, Zsx, RT.val, rgx]
 all_goals simp only [qat0, mat0, qat1, mat1, rg0, hk, Zw, ZY, Z9, ZI, ZJ, Zy, Zz, ZaM, ZaO, Zb6, Zb5, Zv, Zaw, finX, spOf]
 all_goals generalize Zb s = bi
 all_goals cases bi with
 | true => simp [wPC, wSP]
 | false =>
  generalize (s == 5) = bs
  simp only [finI, hk, finR, wPC, wSP, wA, wF, fCY, fVCY, Zcx, flOf, ZK, pcOf, ZaY]
  generalize Za c.1 (g.getD 0 0) = i at hk ⊢
  simp (config := { implicitDefEqProofs := false }) [ZbG, Zbf, Zbs, hk]
theorem fp_3 (c) (s : Int) (g : List Int) (l) (n : Int) (hk : (Za c.1 (g.getD 0 0)).1 = n) : (n = 4 → (ZAt c s g l).val = some (finX c s g l)) ∧ (n = 8 → (ZAp c s g l).val = some (finX c s g l)) ∧ (n = 13 → (Zs2 c s g l).val = some (finX c s g l)) ∧ (n = 19 → (ZsW c s g l).val = some (finX c s g l)) ∧ (n = 23 → (ZsS c s g l).val = some (finX c s g l)) ∧ (n = 30 → (ZsL c s g l).val = some (finX c s g l)) ∧ (n = 35 → (ZsG c s g l).val = some (finX c s g l)) ∧ (n = 41 → (ZsA c s g l).val = some (finX c s g l)) ∧ (n = 46 → (Zsv c s g l).val = some (finX c s g l)) := by
 refine ⟨?_, ?_, ?_, ?_, ?_, ?_, ?_, ?_, ?_⟩
 all_goals intro e; subst e
 all_goals simp only [ZAt, ZAp, Zs2, ZsW, ZsS, ZsL, ZsG, ZsA, Zsv, RT.val, rgx]
 all_goals simp only [qat0, mat0, qat1, mat1, rg0, hk, Zw, ZY, Z9, ZI, ZJ, Zy, Zz, ZaM, ZaO, Zb6, Zb5, Zv, Zaw, finX, spOf]
 all_goals generalize Zb s = bi
 all_goals cases bi with
 | true => simp [wPC, wSP]
 | false =>
  generalize (s == 5) = bs
  simp only [finI, hk, finR, wPC, wSP, wA, wF, fCY, fVCY, Zcx, flOf, ZK, pcOf, ZaY]
  generalize Za c.1 (g.getD 0 0) = i at hk ⊢
  simp (config := { implicitDefEqProofs := false }) [ZbG, Zbf, Zbs, hk]
theorem fp_4 (c) (s : Int) (g : List Int) (l) (n : Int) (hk : (Za c.1 (g.getD 0 0)).1 = n) : (n = 5 → (ZAs c s g l).val = some (finX c s g l)) ∧ (n = 9 → (ZAo c s g l).val = some (finX c s g l)) ∧ (n = 16 → (ZsZ c s g l).val = some (finX c s g l)) ∧ (n = 20 → (ZsV c s g l).val = some (finX c s g l)) ∧ (n = 27 → (ZsO c s g l).val = some (finX c s g l)) ∧ (n = 32 → (ZsJ c s g l).val = some (finX c s g l)) ∧ (n = 36 → (ZsF c s g l).val = some (finX c s g l)) ∧ (n = 42 → (Zsz c s g l).val = some (finX c s g l)) ∧ (n = 47 → (Zsu c s g l).val = some (finX c s g l)) := by
 refine ⟨?_, ?_, ?_, ?_, ?_, ?_, ?_, ?_, ?_⟩
 all_goals intro e; subst e
 all_goals simp only [ZAs, ZAo, ZsZ, ZsV, ZsO, ZsJ, ZsF, Zsz, Zsu, RT.val, rgx]
 all_goals simp only [qat0, mat0, qat1, mat1, rg0, hk, Zw, ZY, Z9, ZI, ZJ, Zy, Zz, ZaM, ZaO, Zb6, Zb5, Zv, Zaw, finX, spOf]
 all_goals generalize Zb s = bi
 all_goals cases bi with
 | true => simp [wPC, wSP]
 | false =>
  generalize (s == 5) = bs
  simp only [finI, hk, finR, wPC, wSP, wA, wF, fCY, fVCY, Zcx, flOf, ZK, pcOf, ZaY]
  generalize Za c.1 (g.getD 0 0) = i at hk ⊢
  simp (config := { implicitDefEqProofs := false }) [ZbG, Zbf, Zbs, hk]
theorem fp_5 (c) (s : Int) (g : List Int) (l) (n : Int) (hk : (Za c.1 (g.getD 0 0)).1 = n) : (n = 2 → (ZAv c s g l).val = some (finX c s g l)) ∧ (n = 12 → (Zs3 c s g l).val = some (finX c s g l)) := by
 refine ⟨?_, ?_⟩
 all_goals intro e; subst e
 all_goals simp only [ZAv, Zs3, RT.val, rgx]
 all_goals simp only [qat0, mat0, qat1, mat1, rg0, hk, Zw, ZY, Z9, ZI, ZJ, Zy, Zz, ZaM, ZaO, Zb6, Zb5, Zv, Zaw, finX, spOf]
 all_goals generalize Zb s = bi
 all_goals cases bi with
 | true => simp [wPC, wSP]
 | false =>
  generalize (s == 5) = bs
  simp only [finI, hk, finR, wPC, wSP, wA, wF, fCY, fVCY, Zcx, flOf, ZK, pcOf, ZaY]
  generalize Za c.1 (g.getD 0 0) = i at hk ⊢
  generalize (i.2.2.2.1 == 6) = b0
  cases b0 <;> simp (config := { implicitDefEqProofs := false }) [ZbG, Zbf, Zbs, hk]
theorem fp_6 (c) (s : Int) (g : List Int) (l) (n : Int) (hk : (Za c.1 (g.getD 0 0)).1 = n) : (n = 14 → (Zs1 c s g l).val = some (finX c s g l)) ∧ (n = 15 → (Zs0 c s g l).val = some (finX c s g l)) := by
 refine ⟨?_, ?_⟩
 all_goals intro e; subst e
 all_goals simp only [Zs1, Zs0, RT.val, rgx]
 all_goals simp only [qat0, mat0, qat1, mat1, rg0, hk, Zw, ZY, Z9, ZI, ZJ, Zy, Zz, ZaM, ZaO, Zb6, Zb5, Zv, Zaw, finX, spOf]
 all_goals generalize Zb s = bi
 all_goals cases bi with
 | true => simp [wPC, wSP]
 | false =>
  generalize (s == 5) = bs
  simp only [finI, hk, finR, wPC, wSP, wA, wF, fCY, fVCY, Zcx, flOf, ZK, pcOf, ZaY]
  generalize Za c.1 (g.getD 0 0) = i at hk ⊢
  generalize (i.2.2.1 == 6) = b0
  cases b0 <;> simp (config := { implicitDefEqProofs := false }) [ZbG, Zbf, Zbs, hk]
theorem fp_7 (c) (s : Int) (g : List Int) (l) (n : Int) (hk : (Za c.1 (g.getD 0 0)).1 = n) : (n = 24 → (ZsR c s g l).val = some (finX c s g l)) ∧ (n = 25 → (ZsQ c s g l).val = some (finX c s g l)) ∧ (n = 26 → (ZsP c s g l).val = some (finX c s g l)) ∧ (n = 45 → (Zsw c s g l).val = some (finX c s g l)) := by
 refine ⟨?_, ?_, ?_, ?_⟩
 all_goals intro e; subst e
 all_goals simp only [ZsR, ZsQ, ZsP, Zsw, RT.val, rgx]
 all_goals simp only [qat0, mat0, qat1, mat1, rg0, hk, Zw, ZY, Z9, ZI, ZJ, Zy, Zz, ZaM, ZaO, Zb6, Zb5, Zv, Zaw, finX, spOf]
 all_goals generalize Zb s = bi
 all_goals cases bi with
 | true => simp [wPC, wSP]
 | false =>
  generalize (s == 5) = bs
  simp only [finI, hk, finR, wPC, wSP, wA, wF, fCY, fVCY, Zcx, flOf, ZK, pcOf, ZaY]
  generalize Za c.1 (g.getD 0 0) = i at hk ⊢
  generalize Zd1 _ _ = b0
  cases b0 <;> simp (config := { implicitDefEqProofs := false }) [ZbG, Zbf, Zbs, hk]
theorem fp_8 (c) (s : Int) (g : List Int) (l) (n : Int) (hk : (Za c.1 (g.getD 0 0)).1 = n) : (n = 31 → (ZsK c s g l).val = some (finX c s g l)) := by
 skip
 all_goals intro e; subst e
 all_goals simp only [ZsK, RT.val, rgx]
 all_goals simp only [qat0, mat0, qat1, mat1, rg0, hk, Zw, ZY, Z9, ZI, ZJ, Zy, Zz, ZaM, ZaO, Zb6, Zb5, Zv, Zaw, finX, spOf]
 all_goals generalize Zb s = bi
 all_goals cases bi with
 | true => simp [wPC, wSP]
 | false =>
  generalize (s == 5) = bs
  simp only [finI, hk, finR, wPC, wSP, wA, wF, fCY, fVCY, Zcx, flOf, ZK, pcOf, ZaY]
  generalize Za c.1 (g.getD 0 0) = i at hk ⊢
  generalize (i.2.2.2.2.1 == 3) = b0
  cases b0 <;> simp (config := { implicitDefEqProofs := false }) [ZbG, Zbf, Zbs, hk]
theorem fp_9 (c) (s : Int) (g : List Int) (l) (n : Int) (hk : (Za c.1 (g.getD 0 0)).1 = n) : (n = 38 → (ZsD c s g l).val = some (finX c s g l)) := by
 skip
 all_goals intro e; subst e
 all_goals simp only [ZsD, RT.val, rgx]
 all_goals simp only [qat0, mat0, qat1, mat1, rg0, hk, Zw, ZY, Z9, ZI, ZJ, Zy, Zz, ZaM, ZaO, Zb6, Zb5, Zv, Zaw, finX, spOf]
 all_goals generalize Zb s = bi
 all_goals cases bi with
 | true => simp [wPC, wSP]
 | false =>
  generalize (s == 5) = bs
  simp only [finI, hk, finR, wPC, wSP, wA, wF, fCY, fVCY, Zcx, flOf, ZK, pcOf, ZaY]
  generalize Za c.1 (g.getD 0 0) = i at hk ⊢
  simp [ZbG, Zbf, Zbs, hk, ZQ6]
theorem fp_10 (c) (s : Int) (g : List Int) (l) (n : Int) (hk : (Za c.1 (g.getD 0 0)).1 = n) : (n = 39 → (ZsC c s g l).val = some (finX c s g l)) := by
 skip
 all_goals intro e; subst e
 all_goals simp only [ZsC, RT.val, rgx]
 all_goals simp only [qat0, mat0, qat1, mat1, rg0, hk, Zw, ZY, Z9, ZI, ZJ, Zy, Zz, ZaM, ZaO, Zb6, Zb5, Zv, Zaw, finX, spOf]
 all_goals generalize Zb s = bi
 all_goals cases bi with
 | true => simp [wPC, wSP]
 | false =>
  generalize (s == 5) = bs
  simp only [finI, hk, finR, wPC, wSP, wA, wF, fCY, fVCY, Zcx, flOf, ZK, pcOf, ZaY]
  generalize Za c.1 (g.getD 0 0) = i at hk ⊢
  simp [ZbG, Zbf, Zbs, hk, rSim, ZJp, RT.val]
theorem ZTX (a : HL Zp) (h : okHL Zp a) : ∃ l, ZdU Tryz.prog l ∧ (Zh (envX Tryz.prog l [] 1023 8) Tryz.f111 Zp Z2 a).val = some (finX a.1 a.2.1 a.2.2.1 a.2.2.2) := by
 have hk := ZtF a.1.1 _ (ZtI h.2.2.1)
 refine ⟨ZaG (Za a.1.1 (a.2.2.1.getD 0 0)).1, ZPZ _, ?_⟩
 rcases ZtE hk.1 hk.2 with e | e | e | e | e | e | e | e | e | e | e | e | e | e | e | e | e | e | e | e | e | e | e | e | e | e | e | e | e | e | e | e | e | e | e | e | e | e | e | e | e | e | e | e | e | e | e
 ·rw [e, ZMj a, ((fp_1 a.1 a.2.1 a.2.2.1 a.2.2.2 _ e).1 rfl)]
 ·rw [e, ZMi a, ((fp_5 a.1 a.2.1 a.2.2.1 a.2.2.2 _ e).1 rfl)]
 ·rw [e, ZMh a, ((fp_2 a.1 a.2.1 a.2.2.1 a.2.2.2 _ e).1 rfl)]
 ·rw [e, ZMg a, ((fp_3 a.1 a.2.1 a.2.2.1 a.2.2.2 _ e).1 rfl)]
 ·rw [e, ZMf a, ((fp_4 a.1 a.2.1 a.2.2.1 a.2.2.2 _ e).1 rfl)]
 ·rw [e, ZMe a, ((fp_1 a.1 a.2.1 a.2.2.1 a.2.2.2 _ e).2.1 rfl)]
 ·rw [e, ZMd a, ((fp_2 a.1 a.2.1 a.2.2.1 a.2.2.2 _ e).2.1 rfl)]
 ·rw [e, ZMc a, ((fp_3 a.1 a.2.1 a.2.2.1 a.2.2.2 _ e).2.1 rfl)]
 ·rw [e, ZMb a, ((fp_4 a.1 a.2.1 a.2.2.1 a.2.2.2 _ e).2.1 rfl)]
 ·rw [e, ZG8 a, ((fp_1 a.1 a.2.1 a.2.2.1 a.2.2.2 _ e).2.2.1 rfl)]
 ·rw [e, ZG7 a, ((fp_2 a.1 a.2.1 a.2.2.1 a.2.2.2 _ e).2.2.1 rfl)]
 ·rw [e, ZG6 a, ((fp_5 a.1 a.2.1 a.2.2.1 a.2.2.2 _ e).2 rfl)]
 ·rw [e, ZG5 a, ((fp_3 a.1 a.2.1 a.2.2.1 a.2.2.2 _ e).2.2.1 rfl)]
 ·rw [e, ZG4 a, ((fp_6 a.1 a.2.1 a.2.2.1 a.2.2.2 _ e).1 rfl)]
 ·rw [e, ZG3 a, ((fp_6 a.1 a.2.1 a.2.2.1 a.2.2.2 _ e).2 rfl)]
 ·rw [e, ZG2 a, ((fp_4 a.1 a.2.1 a.2.2.1 a.2.2.2 _ e).2.2.1 rfl)]
 ·rw [e, ZG1 a, ((fp_1 a.1 a.2.1 a.2.2.1 a.2.2.2 _ e).2.2.2.1 rfl)]
 ·rw [e, ZG0 a, ((fp_2 a.1 a.2.1 a.2.2.1 a.2.2.2 _ e).2.2.2.1 rfl)]
 ·rw [e, ZGZ a, ((fp_3 a.1 a.2.1 a.2.2.1 a.2.2.2 _ e).2.2.2.1 rfl)]
 ·rw [e, ZGY a, ((fp_4 a.1 a.2.1 a.2.2.1 a.2.2.2 _ e).2.2.2.1 rfl)]
 ·rw [e, ZGX a, ((fp_1 a.1 a.2.1 a.2.2.1 a.2.2.2 _ e).2.2.2.2.1 rfl)]
 ·rw [e, ZGW a, ((fp_2 a.1 a.2.1 a.2.2.1 a.2.2.2 _ e).2.2.2.2.1 rfl)]
 ·rw [e, ZGV a, ((fp_3 a.1 a.2.1 a.2.2.1 a.2.2.2 _ e).2.2.2.2.1 rfl)]
 ·rw [e, ZGU a, ((fp_7 a.1 a.2.1 a.2.2.1 a.2.2.2 _ e).1 rfl)]
 ·rw [e, ZGT a, ((fp_7 a.1 a.2.1 a.2.2.1 a.2.2.2 _ e).2.1 rfl)]
 ·rw [e, ZGS a, ((fp_7 a.1 a.2.1 a.2.2.1 a.2.2.2 _ e).2.2.1 rfl)]
 ·rw [e, ZGR a, ((fp_4 a.1 a.2.1 a.2.2.1 a.2.2.2 _ e).2.2.2.2.1 rfl)]
 ·rw [e, ZGQ a, ((fp_1 a.1 a.2.1 a.2.2.1 a.2.2.2 _ e).2.2.2.2.2.1 rfl)]
 ·rw [e, ZGP a, ((fp_2 a.1 a.2.1 a.2.2.1 a.2.2.2 _ e).2.2.2.2.2.1 rfl)]
 ·rw [e, ZGO a, ((fp_3 a.1 a.2.1 a.2.2.1 a.2.2.2 _ e).2.2.2.2.2.1 rfl)]
 ·rw [e, ZGN a, ((fp_8 a.1 a.2.1 a.2.2.1 a.2.2.2 _ e) rfl)]
 ·rw [e, ZGM a, ((fp_4 a.1 a.2.1 a.2.2.1 a.2.2.2 _ e).2.2.2.2.2.1 rfl)]
 ·rw [e, ZGL a, ((fp_1 a.1 a.2.1 a.2.2.1 a.2.2.2 _ e).2.2.2.2.2.2.1 rfl)]
 ·rw [e, ZGK a, ((fp_2 a.1 a.2.1 a.2.2.1 a.2.2.2 _ e).2.2.2.2.2.2.1 rfl)]
 ·rw [e, ZGJ a, ((fp_3 a.1 a.2.1 a.2.2.1 a.2.2.2 _ e).2.2.2.2.2.2.1 rfl)]
 ·rw [e, ZGI a, ((fp_4 a.1 a.2.1 a.2.2.1 a.2.2.2 _ e).2.2.2.2.2.2.1 rfl)]
 ·rw [e, ZGH a, ((fp_1 a.1 a.2.1 a.2.2.1 a.2.2.2 _ e).2.2.2.2.2.2.2.1 rfl)]
 ·rw [e, ZGG a, ((fp_9 a.1 a.2.1 a.2.2.1 a.2.2.2 _ e) rfl)]
 ·rw [e, ZGF a, ((fp_10 a.1 a.2.1 a.2.2.1 a.2.2.2 _ e) rfl)]
 ·rw [e, ZGE a, ((fp_2 a.1 a.2.1 a.2.2.1 a.2.2.2 _ e).2.2.2.2.2.2.2.1 rfl)]
 ·rw [e, ZGD a, ((fp_3 a.1 a.2.1 a.2.2.1 a.2.2.2 _ e).2.2.2.2.2.2.2.1 rfl)]
 ·rw [e, ZGC a, ((fp_4 a.1 a.2.1 a.2.2.1 a.2.2.2 _ e).2.2.2.2.2.2.2.1 rfl)]
 ·rw [e, ZGB a, ((fp_1 a.1 a.2.1 a.2.2.1 a.2.2.2 _ e).2.2.2.2.2.2.2.2 rfl)]
 ·rw [e, ZGA a, ((fp_2 a.1 a.2.1 a.2.2.1 a.2.2.2 _ e).2.2.2.2.2.2.2.2 rfl)]
 ·rw [e, ZGz a, ((fp_7 a.1 a.2.1 a.2.2.1 a.2.2.2 _ e).2.2.2 rfl)]
 ·rw [e, ZGy a, ((fp_3 a.1 a.2.1 a.2.2.1 a.2.2.2 _ e).2.2.2.2.2.2.2.2 rfl)]
 ·rw [e, ZGx a, ((fp_4 a.1 a.2.1 a.2.2.1 a.2.2.2 _ e).2.2.2.2.2.2.2.2 rfl)]
def ZTY : Entry := Zf Zp Z2 (fun _ => none) (fun a => finX a.1 a.2.1 a.2.2.1 a.2.2.2)
theorem ZTW : Zc Tryz.prog 111 ZTY := Zke Tryz.func111 rfl (by kernel_rfl) Tryz.call111 fun a h _ => ZTX a h
theorem ZoK (c op : Int) (h : c ≠ 2) : Za c op = Za 0 op := by unfold Za; rw [ZkT c op h]
theorem Zzd (c op : Int) (h : c ≠ 2) : Zpn c op = Zpn 0 op := by
 have h1 : (c == 2) = false := by simpa using h
 have h0 : ((0 : Int) == 2) = false := rfl
 simp only [Zpn, ZAn, RT.val, ZoK c op h, h1, h0]
theorem ZxF (c op : Int) (h : c ≠ 2) : ZfD c op = ZfD 0 op := by
 have h1 : rOn c = false := by simpa [Zaw] using h
 have h0 : rOn 0 = false := rfl
 simp only [ZfD, ZyS, RT.val, ZoK c op h, h1, h0]
def firT (c op : Int) : Bool := Zpn c op == ZfD c op
theorem ZQx (c op : Int) (h : inR .u8 op) : Zpn c op = ZfD c op := by
 by_cases hc : c = 2
 ·subst hc; exact eq_of_beq (Ze7 (firT 2) (by kernel_rfl) op h)
 ·rw [Zzd c op hc, ZxF c op hc]; exact eq_of_beq (Ze7 (firT 0) (by kernel_rfl) op h)
def ZDN : Entry := Zf Zss Zst (fun _ => none) (fun a => ZfD a.1 a.2)
theorem ZGw : Zc Tryz.prog 115 ZDN := ZMa.tot (fun a h => by simp) (fun a h => ZQx _ _ h.2)
end
end Go.Proofs.YtghoimllhpjkjaaGreat
open Go.IntKind (u8 u16 i64)
namespace Go.Proofs.YtghoimllhpjkjaaGreat
noncomputable section
abbrev ZDp : List Sh := [Sh.agg (R.pair Zx (R.pair (R.int i64) (R.pair (R.sl (R.int u8)) (R.pair (RY) (R.pair (R.int i64) R.bool)))))]
abbrev ZDq : Rs := Rs.one (Sh.one (R.int i64))
def ZLa (c : QT2) : RT (Int) :=
 .br (decide (c.2.2.2.2.1 < 1) || decide (c.2.2.2.2.1 > 9)) (.leaf (1)) (.leaf c.2.2.2.2.1)
def Zbz (c : QT2) : Int := (ZLa c).val
def Zzm : Entry := Zf ZDp ZDq (fun _ => none) (fun a => Zbz a)
theorem ZvG : Zc Tryz.prog 75 Zzm :=
 pureQ 7 [] [] ZDp ZDq trivial Tryz.func75 Tryz.call75 trivial (t := fun a => ZLa a) (fun a => by kernel_rfl)
abbrev ZL2 : List Sh := [Sh.agg (R.pair Zx (R.pair (R.int i64) (R.pair (R.sl (R.int u8)) (R.pair (RY) (R.pair (R.int i64) R.bool))))), Sh.one R.bool]
abbrev ZL4 : Rs := Rs.one (Sh.one (R.int i64))
def ZL3 (c : QT2) (h : Bool) : RT (Int) :=
 .br (h) (.leaf (8)) (.br (c.1.2.2.2.2.1 && c.2.1 == 0) (.leaf (9)) (.leaf (1)))
def ZvU (c : QT2) (h : Bool) : Int := (ZL3 c h).val
def ZDL : Entry := Zf ZL2 ZL4 (fun _ => none) (fun a => ZvU a.1 a.2)
theorem ZDK : Zc Tryz.prog 142 ZDL :=
 pureQ 191 [] [] ZL2 ZL4 trivial Tryz.func142 Tryz.call142 trivial (t := fun a => ZL3 a.1 a.2) (fun a => by kernel_rfl)
abbrev Zph : List Sh := [Sh.one (R.int i64), Sh.one R.bool]
abbrev Zpi : Rs := Rs.one (Sh.one (R.int i64))
def Zl5 (s : Int) (h : Bool) : RT (Int) :=
 .br (h) (.leaf (8)) (.br (s == 0) (.leaf (9)) (.leaf (1)))
def Zkf (s : Int) (h : Bool) : Int := (Zl5 s h).val
def ZvC : Entry := Zf Zph Zpi (fun _ => none) (fun a => Zkf a.1 a.2)
theorem Zzg : Zc Tryz.prog 145 ZvC :=
 pureQ 191 [] [] Zph Zpi trivial Tryz.func145 Tryz.call145 trivial (t := fun a => Zl5 a.1 a.2) (fun a => by kernel_rfl)
abbrev ZDs : List Sh := [Sh.agg (R.pair Zx (R.pair (R.int i64) (R.pair (R.sl (R.int u8)) (R.pair (RY) (R.pair (R.int i64) R.bool))))), Sh.one (R.int i64)]
abbrev ZDt : Rs := Rs.one (Sh.agg (R.pair Zx (R.pair (R.int i64) (R.pair (R.sl (R.int u8)) (R.pair (RY) (R.pair (R.int i64) R.bool))))))
def ZLi (c : QT2) (s : Int) : RT (QT2) :=
 .leaf ((ZbQ c.1 s, s, [], (Zl (ZbQ c.1 s) s []).1, c.2.2.2.2))
def ZvL (c : QT2) (s : Int) : QT2 := (ZLi c s).val
def ZrZ : Entry := Zf ZDs ZDt (fun _ => none) (fun a => ZvL a.1 a.2)
theorem ZvK : Zc Tryz.prog 144 ZrZ :=
 pureQ 31 [(110, Zv1), (113, ZvS)] [] ZDs ZDt ⟨ZAF, Zsa, trivial⟩ Tryz.func144 Tryz.call144 trivial (t := fun a => ZLi a.1 a.2) (fun a => by kernel_rfl)
abbrev ZDV : List Sh := [Sh.agg Zx, Sh.one (R.int i64)]
abbrev ZDW : Rs := Rs.one (Sh.agg (R.pair Zx (R.pair (R.int i64) (R.pair (R.sl (R.int u8)) (R.pair (RY) (R.pair (R.int i64) R.bool))))))
def ZME (c : TC) (s : Int) : RT (QT2) :=
 .leaf ((c, s, [], (Zl c s []).1, 1, false))
def Zey (c : TC) (s : Int) : QT2 := (ZME c s).val
def ZAA : Entry := Zf ZDV ZDW (fun _ => none) (fun a => Zey a.1 a.2)
theorem ZvZ : Zc Tryz.prog 76 ZAA :=
 pureQ 127 [(113, ZvS)] [] ZDV ZDW ⟨Zsa, trivial⟩ Tryz.func76 Tryz.call76 trivial (t := fun a => ZME a.1 a.2) (fun a => by kernel_rfl)
abbrev ZCn : List Sh := [Sh.agg (R.pair Zx (R.pair (R.int i64) (R.pair (R.sl (R.int u8)) (R.pair (RY) (R.pair (R.int i64) R.bool)))))]
abbrev ZCo : Rs := Rs.one (Sh.one (R.int i64))
def ZJo (c : QT2) : RT (Int) :=
 .br (decide (c.2.2.2.2.1 < 1) || decide (c.2.2.2.2.1 > 9)) (.leaf (1)) (.leaf c.2.2.2.2.1)
def Zay (c : QT2) : Int := (ZJo c).val
def Zee : Entry := Zf ZCn ZCo (fun _ => none) (fun a => Zay a)
theorem ZdC : Zc Tryz.prog 79 Zee :=
 pureQ 7 [] [] ZCn ZCo trivial Tryz.func79 Tryz.call79 trivial (t := fun a => ZJo a) (fun a => by kernel_rfl)
abbrev ZC9 : List Sh := [Sh.agg Zx, Sh.one (R.int i64)]
abbrev ZDa : Rs := Rs.one (Sh.agg (RY))
def ZKK (c : TC) (s : Int) : RT TY :=
 .leaf (Zl c s []).1
def ZRI (c : TC) (s : Int) : QT11 := (ZKK c s).val
def ZrF : Entry := Zf ZC9 ZDa (fun _ => none) (fun a => ZRI a.1 a.2)
theorem ZlW : Zc Tryz.prog 82 ZrF :=
 pureQ 127 [(42, ZCP)] [] ZC9 ZDa ⟨ZqL, trivial⟩ Tryz.func82 Tryz.call82 trivial (t := fun a => ZKK a.1 a.2) (fun a => by kernel_rfl)
abbrev ZCp : List Sh := [Sh.agg (R.pair Zx (R.pair (R.int i64) (R.pair (R.sl (R.int u8)) (R.pair (RY) (R.pair (R.int i64) R.bool))))), Sh.one (R.int i64)]
abbrev ZCq : Rs := Rs.one (Sh.agg (R.pair Zx (R.pair (R.int i64) (R.pair (R.sl (R.int u8)) (R.pair (RY) (R.pair (R.int i64) R.bool))))))
def ZJq (c : QT2) (s : Int) : RT (QT2) :=
 .leaf ((ZbQ c.1 s, s, [], ZRI (ZbQ c.1 s) s, c.2.2.2.2))
def ZCr (c : QT2) (s : Int) : QT2 := (ZJq c s).val
def ZxR : Entry := Zf ZCp ZCq (fun _ => none) (fun a => ZCr a.1 a.2)
theorem Zu3 : Zc Tryz.prog 88 ZxR :=
 pureQ 31 [(82, ZrF), (97, ZDb)] [] ZCp ZCq ⟨ZlW, ZF5, trivial⟩ Tryz.func88 Tryz.call88 trivial (t := fun a => ZJq a.1 a.2) (fun a => by kernel_rfl)
abbrev ZJA : List Sh := [Sh.agg (R.pair Zx (R.pair (R.int i64) (R.pair (R.sl (R.int u8)) (R.pair (RY) (R.pair (R.int i64) R.bool))))), Sh.one (R.int i64), Sh.one (R.int u8)]
abbrev ZxU : Rs := Rs.tup [Sh.agg (RY), Sh.one (R.sl (R.int u8))]
def ZhE (c : QT2) (t : Int) (d : Int) : RT (Option (TY × List Int)) :=
 let x1 : Int := bif Zb4 c.2.2.2.1.1 then d else c.2.2.2.1.2.2.1
 let x2 : List Int := [] ++ c.2.2.1 ++ [x1]
 .br (t != 3) (.leaf (some ((c.2.2.2.1, c.2.2.1)))) (.br (!Nat.ble (List.length ([] ++ c.2.2.1)) most || Nat.ble (List.length x2) most) (.br (Nat.ble (List.length ([] ++ c.2.2.1)) most) (.leaf (some (((c.2.2.2.1.1, c.2.2.2.1.2.1, x1, bif c.2.2.2.1.1 == 1 || c.2.2.2.1.1 == 8 then ZfD c.1.1 x1 else c.2.2.2.1.2.2.2), x2)))) (.leaf none)) (.leaf none))
def ZgZ (c : QT2) (t : Int) (d : Int) : TY × List Int := getO ZxU.dflt (ZhE c t d).val
def Zew (c : QT2) (t : Int) (d : Int) : Bool := okB (ZhE c t d).val
def ZJD : Entry := Zf ZJA ZxU (fun a => some (Zew a.1 a.2.1 a.2.2)) (fun a => ZgZ a.1 a.2.1 a.2.2)
theorem ZCy : Zc Tryz.prog 89 ZJD :=
 pureP 1023 [(103, Zk5), (116, ZyT)] [] ZJA ZxU ⟨ZhD, Zvl, trivial⟩ Tryz.func89 Tryz.call89 trivial (t := fun a => ZhE a.1 a.2.1 a.2.2) (fun a => by kernel_rfl)
abbrev ZKt : List Sh := [Sh.one (R.int i64), Sh.agg (RY)]
abbrev ZKu : Rs := Rs.one (Sh.one R.bool)
def Zo7 (t : Int) (x : QT11) : RT (Bool) :=
 .br (t == 3) (.leaf (decide (x.2.2.2 ≤ 3))) (.br (bif t == 4 then t == 4 else t == 5) (.leaf (decide (x.2.2.2 ≤ t))) (.leaf (t == 6)))
def ZrB (t : Int) (x : QT11) : Bool := (Zo7 t x).val
def ZKv : Entry := Zf ZKt ZKu (fun _ => none) (fun a => ZrB a.1 a.2)
theorem ZC4 : Zc Tryz.prog 90 ZKv :=
 pureQ 2143 [] [] ZKt ZKu trivial Tryz.func90 Tryz.call90 trivial (t := fun a => Zo7 a.1 a.2) (fun a => by kernel_rfl)
abbrev ZoU : List Sh := [Sh.agg (R.pair Zx (R.pair (R.int i64) (R.pair (R.sl (R.int u8)) (R.pair (RY) (R.pair (R.int i64) R.bool)))))]
abbrev ZoV : Rs := Rs.one (Sh.one R.bool)
def ZhB (c : QT2) : RT (Bool) :=
 .leaf (c.1.2.2.2.2.1 && c.2.1 == 0)
def ZhC (c : QT2) : Bool := (ZhB c).val
def Zk4 : Entry := Zf ZoU ZoV (fun _ => none) (fun a => ZhC a)
theorem Zk3 : Zc Tryz.prog 86 Zk4 :=
 pureQ 7 [] [] ZoU ZoV trivial Tryz.func86 Tryz.call86 trivial (t := fun a => ZhB a) (fun a => by kernel_rfl)
abbrev ZRv : List Sh := [Sh.agg (R.pair Zx (R.pair (R.int i64) (R.pair (R.sl (R.int u8)) (R.pair (RY) (R.pair (R.int i64) R.bool))))), Sh.agg (R.pair R.bool (R.pair R.bool rcF7))]
abbrev ZRw : Rs := Rs.one (Sh.agg (R.pair Zx (R.pair (R.int i64) (R.pair (R.sl (R.int u8)) (R.pair (RY) (R.pair (R.int i64) R.bool))))))
def ZS9 (c : QT2) (l : QT0) : RT (QT2) :=
 let x1 := ZCr (finX c.1 c.2.1 c.2.2.1 l, c.2) (ZdE (finX c.1 c.2.1 c.2.2.1 l) l)
 let x2 := x1.1
 let x3 := x2.2
 let x4 := x3.1
 let x5 := x4.2
 let x6 := x5.2
 let x7 := x6.2
 let x8 := x7.2
 let x9 := x8.2
 let x10 := x9.2
 let x11 := x10.2
 let x12 := x11.1
 let x13 := x12.2
 let x14 := c.1.2.1.2.2.2.2.2.2.2.1.2.2
 let x15 := x13.2
 let x16 := x14.2
 let x17 := x15.2
 let x18 := x16.2
 let x19 := x17.2
 let x20 := x18.2
 let x21 := x19.2
 let x22 := x11.2
 let x23 := x3.2
 let x24 := x23.2
 let x25 := x24.2
 let x26 := x25.2
 let x27 := x26.2
 let x28 := x27.2
 let x29 := x28.2
 let x30 := x29.2
 let x31 := x30.2
 let x32 := x31.2
 let x33 : TC := (bif (Zl c.1 c.2.1 c.2.2.1).2 then c.1.1 else x2.1, (bif (Zl c.1 c.2.1 c.2.2.1).2 then c.1.2.1.1 else x4.1, bif (Zl c.1 c.2.1 c.2.2.1).2 then c.1.2.1.2.1 else x5.1, bif (Zl c.1 c.2.1 c.2.2.1).2 then c.1.2.1.2.2.1 else x6.1, bif (Zl c.1 c.2.1 c.2.2.1).2 then c.1.2.1.2.2.2.1 else x7.1, bif (Zl c.1 c.2.1 c.2.2.1).2 then c.1.2.1.2.2.2.2.1 else x8.1, bif (Zl c.1 c.2.1 c.2.2.1).2 then c.1.2.1.2.2.2.2.2.1 else x9.1, bif (Zl c.1 c.2.1 c.2.2.1).2 then c.1.2.1.2.2.2.2.2.2.1 else x10.1, (bif (Zl c.1 c.2.1 c.2.2.1).2 then c.1.2.1.2.2.2.2.2.2.2.1.1 else x12.1, bif (Zl c.1 c.2.1 c.2.2.1).2 then c.1.2.1.2.2.2.2.2.2.2.1.2.1 else x13.1, bif (Zl c.1 c.2.1 c.2.2.1).2 then x14.1 else x15.1, bif (Zl c.1 c.2.1 c.2.2.1).2 then x16.1 else x17.1, bif (Zl c.1 c.2.1 c.2.2.1).2 then x18.1 else x19.1, bif (Zl c.1 c.2.1 c.2.2.1).2 then x20.1 else x21.1, bif (Zl c.1 c.2.1 c.2.2.1).2 then x20.2 else x21.2), bif (Zl c.1 c.2.1 c.2.2.1).2 then c.1.2.1.2.2.2.2.2.2.2.2.1 else x22.1, bif (Zl c.1 c.2.1 c.2.2.1).2 then c.1.2.1.2.2.2.2.2.2.2.2.2 else x22.2), bif (Zl c.1 c.2.1 c.2.2.1).2 then c.1.2.2.1 else x23.1, bif (Zl c.1 c.2.1 c.2.2.1).2 then c.1.2.2.2.1 else x24.1, bif (Zl c.1 c.2.1 c.2.2.1).2 then c.1.2.2.2.2.1 else x25.1, bif (Zl c.1 c.2.1 c.2.2.1).2 then c.1.2.2.2.2.2.1 else x26.1, bif (Zl c.1 c.2.1 c.2.2.1).2 then c.1.2.2.2.2.2.2.1 else x27.1, bif (Zl c.1 c.2.1 c.2.2.1).2 then c.1.2.2.2.2.2.2.2.1 else x28.1, bif (Zl c.1 c.2.1 c.2.2.1).2 then c.1.2.2.2.2.2.2.2.2.1 else x29.1, bif (Zl c.1 c.2.1 c.2.2.1).2 then c.1.2.2.2.2.2.2.2.2.2.1 else x30.1, bif (Zl c.1 c.2.1 c.2.2.1).2 then c.1.2.2.2.2.2.2.2.2.2.2.1 else x31.1, bif (Zl c.1 c.2.1 c.2.2.1).2 then c.1.2.2.2.2.2.2.2.2.2.2.2.1 else x32.1, bif (Zl c.1 c.2.1 c.2.2.1).2 then c.1.2.2.2.2.2.2.2.2.2.2.2.2 else x32.2)
 let x34 := x1.2
 let x35 : Int := bif (Zl c.1 c.2.1 c.2.2.1).2 then c.2.1 else x34.1
 let x36 := x34.2
 let x37 : List Int := bif (Zl c.1 c.2.1 c.2.2.1).2 then c.2.2.1 else x36.1
 let x38 := x36.2
 let x39 := x38.1
 let x40 := x39.2
 let x41 := x40.2
 let x42 : QT11 := (bif (Zl c.1 c.2.1 c.2.2.1).2 then (Zl c.1 c.2.1 c.2.2.1).1.1 else x39.1, bif (Zl c.1 c.2.1 c.2.2.1).2 then (Zl c.1 c.2.1 c.2.2.1).1.2.1 else x40.1, bif (Zl c.1 c.2.1 c.2.2.1).2 then (Zl c.1 c.2.1 c.2.2.1).1.2.2.1 else x41.1, bif (Zl c.1 c.2.1 c.2.2.1).2 then (Zl c.1 c.2.1 c.2.2.1).1.2.2.2 else x41.2)
 let x43 := x38.2
 let x44 := bif (Zl c.1 c.2.1 c.2.2.1).2 then c.2.2.2.2.2 else x43.2
 .leaf ((x33, x35, x37, x42, bif x44 then 8 else bif ZhC (x33, x35, x37, x42, bif (Zl c.1 c.2.1 c.2.2.1).2 then c.2.2.2.2.1 else x43.1, x44) then 9 else 1, false))
def rEnd (c : QT2) (l : QT0) : QT2 := (ZS9 c l).val
def ZVd : Entry := Zf ZRv ZRw (fun _ => none) (fun a => rEnd a.1 a.2)
theorem ZS8 : Zc Tryz.prog 91 ZVd :=
 pureQ 1168231104639 [(42, ZCP), (86, Zk4), (87, ZJO), (88, ZxR), (98, ZS7)] [] ZRv ZRw ⟨ZqL, Zk3, ZCI, Zu3, ZKj, trivial⟩ Tryz.func91 Tryz.call91 trivial (t := fun a => ZS9 a.1 a.2) (fun a => by kernel_rfl)
abbrev ZLN : List Sh := [Sh.one (R.int i64)]
abbrev ZLO : Rs := Rs.one (Sh.agg (R.pair Zx (R.pair (R.int i64) (R.pair (R.sl (R.int u8)) (R.pair (RY) (R.pair (R.int i64) R.bool))))))
def ZTN (chip : Int) : RT (QT2) :=
 let x1 : TR := (0, 0, 0, 0, 0, 0, 0, (false, false, false, false, false, false, false), 0, 0)
 let x2 : TC := (Zey (ZM (chip, x1, false, false, false, 0, false, false, false, false, false, false, false)) 0).1
 .leaf (((x2.1, x1, false, false, false, x2.2.2.2.2.2.1, false, false, false, false, false, false, false), 0, [], (1, 0, 0, 4), 1, false))
def pNew (chip : Int) : QT2 := (ZTN chip).val
def pNewE : Entry := Zf ZLN ZLO (fun _ => none) (fun a => pNew a)
theorem ZTM : Zc Tryz.prog 69 pNewE :=
 pureQ 7 [(76, ZAA), (77, Zr3)] [] ZLN ZLO ⟨ZvZ, Zpl, trivial⟩ Tryz.func69 Tryz.call69 trivial (t := fun a => ZTN a) (fun a => by kernel_rfl)
abbrev ZJ5 : List Sh := [Sh.one (R.int i64)]
abbrev ZJ6 : Rs := Rs.one (Sh.agg (R.pair Zx (R.pair (R.int i64) (R.pair (R.sl (R.int u8)) (R.pair (RY) (R.pair (R.int i64) R.bool))))))
def ZS0 (chip : Int) : RT (QT2) :=
 let x1 : TR := (0, 0, 0, 0, 0, 0, 0, (false, false, false, false, false, false, false), 0, 0)
 let x2 := ZM (chip, x1, false, false, false, 0, false, false, false, false, false, false, false)
 .leaf (((x2.1, x1, false, false, false, x2.2.2.2.2.2.1, false, false, false, false, false, false, false), 0, [], (1, 0, 0, 4), 1, false))
def rNew (chip : Int) : QT2 := (ZS0 chip).val
def ZU9 : Entry := Zf ZJ5 ZJ6 (fun _ => none) (fun a => rNew a)
theorem ZJ4 : Zc Tryz.prog 80 ZU9 :=
 pureQ 15 [(81, ZxS), (82, ZrF)] [] ZJ5 ZJ6 ⟨Zu4, ZlW, trivial⟩ Tryz.func80 Tryz.call80 trivial (t := fun a => ZS0 a) (fun a => by kernel_rfl)
def ZjJ : Entry := .tree (ZP (envX Tryz.prog [(111, ZTY), (113, ZvS), (142, ZDL), (143, Zr6), (144, ZrZ)] [] 1023 8) Tryz.f141)
theorem Zog : Zc Tryz.prog 141 ZjJ := Zab (P := Tryz.prog) (n := 1023) (k := 8) (l := [(111, ZTY), (113, ZvS), (142, ZDL), (143, Zr6), (144, ZrZ)]) (ol := []) ⟨ZTW, Zsa, ZDK, ZvO, ZvK, trivial⟩ Tryz.func141 rfl (by kernel_rfl) Tryz.call141 trivial
abbrev ZR8 : List Sh := [Sh.agg (R.pair Zx (R.pair (R.int i64) (R.pair (R.sl (R.int u8)) (R.pair (RY) (R.pair (R.int i64) R.bool))))), Sh.agg (R.pair R.bool (R.pair R.bool rcF7)), Sh.one (R.int u8)]
abbrev ZMH : Rs := Rs.tup [Sh.agg (R.pair Zx (R.pair (R.int i64) (R.pair (R.sl (R.int u8)) (R.pair (RY) (R.pair (R.int i64) R.bool))))), Sh.agg (R.pair R.bool (R.pair Zx (R.pair (R.sl (R.int u8)) (R.pair (RY) Zx))))]
def ZMG (c : QT2) (l : QT0) (d : Int) : RT (Option ((QT2) × Bool × TC × List Int × TY × TC)) :=
 let x1 : Int := bif Zb4 c.2.2.2.1.1 then d else c.2.2.2.1.2.2.1
 let x2 : List Int := c.2.2.1 ++ [x1]
 let x3 : TC := (0, (0, 0, 0, 0, 0, 0, 0, (false, false, false, false, false, false, false), 0, 0), false, false, false, 0, false, false, false, false, false, false, false)
 let x4 : Bool × TC × List Int × TY × TC := (false, x3, [], c.2.2.2.1, Zn c.1 l)
 let x5 : Int := bif c.2.2.2.1.1 == 1 || c.2.2.2.1.1 == 8 then ZfD (Zn c.1 l).1 x1 else c.2.2.2.1.2.2.2
 let x6 : QT11 := (c.2.2.2.1.1, c.2.2.2.1.2.1, x1, x5)
 let x7 : TY × TC := (x6, Zn c.1 l)
 let x8 : Bool × TC × List Int × TY × TC := (false, x3, [], x7)
 let x9 := Zl (Zn c.1 l) c.2.1 x2
 let x10 := x9.1
 let x11 := finX (Zn c.1 l) c.2.1 x2 l
 let x12 := ZvL (x11, c.2.1, x2, x6, c.2.2.2.2) (ZdE x11 l)
 let x13 := x12.2
 let x14 := x13.2.2
 let x15 := ZvL (finX (Zn c.1 l) c.2.1 c.2.2.1 l, c.2) (ZdE (finX (Zn c.1 l) c.2.1 c.2.2.1 l) l)
 let x16 := x15.2
 let x17 := x16.2.2
 let x18 := ZvL (Zn c.1 l, c.2) (ZdE (Zn c.1 l) l)
 let x19 := x18.2
 let x20 := x19.2.2
 .br (Nat.ble (List.length c.2.2.1) most) (.br (Zbz c == 1 || ((bif Zbz c == 2 then Zbz c == 2 else Zbz c == 7) || (!Zbz c == 3 || Nat.ble (List.length x2) most))) (.br (Zbz c == 1) (.leaf (some (((Zn c.1 l, c.2.1, c.2.2.1, c.2.2.2.1, 2, c.2.2.2.2.2), x4)))) (.br (bif Zbz c == 2 then Zbz c == 2 else Zbz c == 7) (.leaf (some (((Zn c.1 l, c.2.1, c.2.2.1, c.2.2.2.1, bif Zbr c.2.2.2.1.1 && !l.1 then 7 else 3, bif Zbr c.2.2.2.1.1 && !l.1 then c.2.2.2.2.2 else l.2.1), x4)))) (.br (Zbz c == 3) (.br (decide (x5 > 3)) (.leaf (some (((Zn c.1 l, c.2.1, x2, x6, 4, c.2.2.2.2.2), x8)))) (.br x9.2 (.leaf (some (((Zn c.1 l, c.2.1, x2, x10, ZvU (Zn c.1 l, c.2.1, x2, x10, c.2.2.2.2) c.2.2.2.2.2, false), x8)))) (.leaf (some (((x12.1, x13.1, [], x14.1, ZvU x12 x14.2.2, false), true, x11, x2, x7)))))) (.br (bif Zbz c == 4 then Zbz c == 4 else bif Zbz c == 5 then Zbz c == 5 else Zbz c == 6) (.br (decide (c.2.2.2.1.2.2.2 > Zbz c) && Zbz c != 6) (.leaf (some (((Zn c.1 l, c.2.1, c.2.2.1, c.2.2.2.1, i64.wrap (Zbz c + 1), c.2.2.2.2.2), x4)))) (.br (Zl (Zn c.1 l) c.2.1 c.2.2.1).2 (.leaf (some (((Zn c.1 l, c.2.1, c.2.2.1, (Zl (Zn c.1 l) c.2.1 c.2.2.1).1, ZvU (Zn c.1 l, c.2.1, c.2.2.1, (Zl (Zn c.1 l) c.2.1 c.2.2.1).1, c.2.2.2.2) c.2.2.2.2.2, false), x4)))) (.leaf (some (((x15.1, x16.1, [], x17.1, ZvU x15 x17.2.2, false), true, finX (Zn c.1 l) c.2.1 c.2.2.1 l, c.2.2.1, c.2.2.2.1, Zn c.1 l)))))) (.br (Zbz c == 8) (.leaf (some (((Zn c.1 l, c.2.1, c.2.2.1, c.2.2.2.1, ZvU (Zn c.1 l, c.2) l.2.1, c.2.2.2.2.2), x4)))) (.br (Zbz c == 9) (.br (ZdE (Zn c.1 l) l != 0) (.leaf (some (((x18.1, x19.1, [], x20.1, Zkf (ZdE (Zn c.1 l) l) l.2.1, x20.2.2), x4)))) (.leaf (some (((Zn c.1 l, c.2.1, c.2.2.1, c.2.2.2.1, Zkf (ZdE (Zn c.1 l) l) l.2.1, c.2.2.2.2.2), x4))))) (.leaf (some (((Zn c.1 l, c.2), x4)))))))))) (.leaf none)) (.leaf none)
def pAdv (c : QT2) (l : QT0) (d : Int) : (QT2) × Bool × TC × List Int × TY × TC := getO ZMH.dflt (ZMG c l d).val
def ZQa (c : QT2) (l : QT0) (d : Int) : Bool := okB (ZMG c l d).val
def ZVB : Entry := Zf ZR8 ZMH (fun a => some (ZQa a.1 a.2.1 a.2.2)) (fun a => pAdv a.1 a.2.1 a.2.2)
theorem ZUd : Zc Tryz.prog 78 ZVB :=
 pureP 2679225218618052313454186380042176511 [(75, Zzm), (114, ZeV), (115, ZDN), (138, ZNZ), (139, ZDF), (140, Zpq), (141, ZjJ), (142, ZDL), (143, Zr6), (144, ZrZ), (145, ZvC)] [] ZR8 ZMH ⟨ZvG, Zgm, ZGw, ZNY, ZGu, Zv0, Zog, ZDK, ZvO, ZvK, Zzg, trivial⟩ Tryz.func78 Tryz.call78 trivial (t := fun a => ZMG a.1 a.2.1 a.2.2) (fun a => by kernel_rfl)
abbrev Zs8 : List Sh := [Sh.agg (R.pair Zx (R.pair (R.int i64) (R.pair (R.sl (R.int u8)) (R.pair (RY) (R.pair (R.int i64) R.bool))))), Sh.agg (R.pair R.bool (R.pair R.bool rcF7)), Sh.one (R.int u8)]
abbrev Zkl : Rs := Rs.tup [Sh.agg (R.pair Zx (R.pair (R.int i64) (R.pair (R.sl (R.int u8)) (R.pair (RY) (R.pair (R.int i64) R.bool))))), Sh.agg (R.pair (R.int i64) (R.pair (R.int u16) (R.pair (R.int u8) (R.pair R.bool (R.pair R.bool (R.pair R.bool (R.pair R.bool (R.pair R.bool (R.pair R.bool (R.pair R.bool rcF7))))))))))]
def ZiM (c : QT2) (l : QT0) (d : Int) : RT (Option ((QT2) × Int × Int × Int × Bool × Bool × Bool × Bool × Bool × Bool × Bool × Bool × Bool × Bool × Bool × Bool × Bool × Bool)) :=
 let x1 : Int × TF × Int × Int := (Zey (ZM c.1) 0).1.2.1.2.2.2.2.2.2
 let x2 := x1.2
 let x3 : TY × Int × Int × Bool × Bool := (c.2.2.2.1, d, c.1.2.1.2.2.2.2.2.2.2.2.2, c.1.2.2.1, c.1.2.2.2.2.2.2.2.2.2.2.2.2)
 .br l.2.2.1 (.leaf (some (((((Zey (ZM c.1) 0).1.1, ((Zey (ZM c.1) 0).1.2.1.1, (Zey (ZM c.1) 0).1.2.1.2.1, (Zey (ZM c.1) 0).1.2.1.2.2.1, (Zey (ZM c.1) 0).1.2.1.2.2.2.1, (Zey (ZM c.1) 0).1.2.1.2.2.2.2.1, (Zey (ZM c.1) 0).1.2.1.2.2.2.2.2.1, x1.1, x2.1, x2.2.1, 0), false, false, false, (Zey (ZM c.1) 0).1.2.2.2.2.2.1, false, false, false, false, false, false, false), 0, [], (1, 0, 0, 4), 1, false), ZLx c.1.1 (10, x3))))) (.br (ZQa c l d) (.leaf (some (((pAdv c l d).1, ZLx c.1.1 (Zbz c, x3))))) (.leaf none))
def ZR4 (c : QT2) (l : QT0) (d : Int) : (QT2) × Int × Int × Int × Bool × Bool × Bool × Bool × Bool × Bool × Bool × Bool × Bool × Bool × Bool × Bool × Bool × Bool := getO Zkl.dflt (ZiM c l d).val
def ZMz (c : QT2) (l : QT0) (d : Int) : Bool := okB (ZiM c l d).val
def ZUb : Entry := Zf Zs8 Zkl (fun a => some (ZMz a.1 a.2.1 a.2.2)) (fun a => ZR4 a.1 a.2.1 a.2.2)
theorem ZMy : Zc Tryz.prog 26 ZUb :=
 pureP 2047 [(66, ZRS), (75, Zzm), (76, ZAA), (77, Zr3), (78, ZVB)] [] Zs8 Zkl ⟨ZPL, ZvG, ZvZ, Zpl, ZUd, trivial⟩ Tryz.func26 Tryz.call26 trivial (t := fun a => ZiM a.1 a.2.1 a.2.2) (fun a => by kernel_rfl)
abbrev ZrD : List Sh := [Sh.agg (R.pair Zx (R.pair (R.int i64) (R.pair (R.sl (R.int u8)) (R.pair (RY) (R.pair (R.int i64) R.bool))))), Sh.agg (R.pair R.bool (R.pair R.bool rcF7)), Sh.one (R.int u8)]
abbrev Zkc : Rs := Rs.tup [Sh.agg (R.pair Zx (R.pair (R.int i64) (R.pair (R.sl (R.int u8)) (R.pair (RY) (R.pair (R.int i64) R.bool))))), Sh.agg (R.pair (R.int i64) (R.pair (R.int u16) (R.pair (R.int u8) (R.pair R.bool (R.pair R.bool (R.pair R.bool (R.pair R.bool (R.pair R.bool (R.pair R.bool (R.pair R.bool rcF7))))))))))]
def ZiE (c : QT2) (l : QT0) (d : Int) : RT (Option ((QT2) × Int × Int × Int × Bool × Bool × Bool × Bool × Bool × Bool × Bool × Bool × Bool × Bool × Bool × Bool × Bool × Bool)) :=
 let x1 : QT11 := (bif Zay c == 9 then 0 else c.2.2.2.1.1, bif Zay c == 9 then c.1.2.1.2.2.2.2.2.2.2.2.2 else c.2.2.2.1.2.1, bif Zay c == 9 then 0 else c.2.2.2.1.2.2.1, bif Zay c == 9 then 0 else c.2.2.2.1.2.2.2)
 let x2 := c.1.2.2.2.2.2.2.2.2.2.2.2.2
 let x3 : QT20 := (ZhG c.1.1 10 x1 0 c.1.2.2.1 x2).2.2.2.2.2.2
 let x4 := x3.2.2.2.2.2.2.2
 let x5 := ZhG c.1.1 (Zay c) x1 d c.1.2.2.1 x2
 let x6 : QT2 := (Zn c.1 l, c.2.1, [] ++ c.2.2.1, c.2.2.2)
 let x7 := ZCr x6 (ZdE (Zn c.1 l) l)
 let x8 := x7.2
 let x9 := x8.2.2
 let x10 : Int := bif l.2.1 then 8 else bif ZdE (Zn c.1 l) l != 0 then 1 else 9
 let x11 := ZgZ x6 (Zay c) d
 let x12 := x11.1
 let x13 := ZrB (Zay c) x12
 let x14 := x11.2
 let x15 := rEnd (Zn c.1 l, c.2.1, x14, x12, c.2.2.2.2) l
 let x16 := x15.1
 let x17 := x16.2
 let x18 := x17.1
 let x19 := x18.2
 let x20 := x19.2
 let x21 := x20.2
 let x22 := x21.2
 let x23 := x22.2
 let x24 := x23.2
 let x25 := x24.2
 let x26 := x25.1
 let x27 : TF := (Zn c.1 l).2.1.2.2.2.2.2.2.2.1
 let x28 := x26.2
 let x29 := x27.2
 let x30 := x28.2
 let x31 := x29.2
 let x32 := x30.2
 let x33 := x31.2
 let x34 := x32.2
 let x35 := x33.2
 let x36 := x34.2
 let x37 := x35.2
 let x38 := x25.2
 let x39 : Int × Int := (Zn c.1 l).2.1.2.2.2.2.2.2.2.2
 let x40 := x17.2
 let x41 := x40.2
 let x42 := x41.2
 let x43 := x42.2
 let x44 := x43.2
 let x45 := x44.2
 let x46 := x45.2
 let x47 := x46.2
 let x48 := x47.2
 let x49 : QT28 := (Zn c.1 l).2.2.2.2.2.2.2.2.2.2
 let x50 := x48.2
 let x51 := x49.2
 let x52 := x15.2
 let x53 := x52.2
 let x54 := x53.2
 let x55 := x54.1
 let x56 := x55.2
 let x57 := x12.2
 let x58 := x56.2
 let x59 := x57.2
 let x60 := x54.2
 .br l.2.2.1 (.leaf (some (((((ZM c.1).1, ((ZM c.1).2.1.1, (ZM c.1).2.1.2.1, (ZM c.1).2.1.2.2.1, (ZM c.1).2.1.2.2.2.1, (ZM c.1).2.1.2.2.2.2.1, (ZM c.1).2.1.2.2.2.2.2.1, (ZM c.1).2.1.2.2.2.2.2.2.1, (ZM c.1).2.1.2.2.2.2.2.2.2.1, (ZM c.1).2.1.2.2.2.2.2.2.2.2.1, 0), false, false, false, (ZM c.1).2.2.2.2.2.1, false, false, false, false, false, false, false), 0, [], (1, 0, 0, 4), 1, false), 10, 0, 0, false, false, false, x3.1, false, false, false, false, false, false, x4.1, false, false, x4.2.2.2)))) (.br (Nat.ble (List.length ([] ++ c.2.2.1)) most) (.br (Zay c == 1) (.leaf (some (((Zn c.1 l, c.2.1, [] ++ c.2.2.1, c.2.2.2.1, 2, c.2.2.2.2.2), x5)))) (.br (bif Zay c == 2 then Zay c == 2 else Zay c == 7) (.leaf (some (((Zn c.1 l, c.2.1, [] ++ c.2.2.1, c.2.2.2.1, bif l.1 || !Zbr c.2.2.2.1.1 then 3 else 7, bif l.1 || !Zbr c.2.2.2.1.1 then l.2.1 else c.2.2.2.2.2), x5)))) (.br (Zay c == 8) (.leaf (some (((Zn c.1 l, c.2.1, bif l.2.1 then [] ++ c.2.2.1 else [] ++ c.2.2.1, c.2.2.2.1, bif l.2.1 then 8 else bif ZhC x6 then 9 else 1, c.2.2.2.2.2), x5)))) (.br (Zay c == 9) (.br (ZdE (Zn c.1 l) l != 0) (.leaf (some (((x7.1, x8.1, [], x9.1, x10, x9.2.2), x5)))) (.leaf (some (((Zn c.1 l, c.2.1, [] ++ c.2.2.1, c.2.2.2.1, x10, c.2.2.2.2.2), x5))))) (.br (Zew x6 (Zay c) d) (.leaf (some ((((bif x13 then x16.1 else (Zn c.1 l).1, (bif x13 then x18.1 else (Zn c.1 l).2.1.1, bif x13 then x19.1 else (Zn c.1 l).2.1.2.1, bif x13 then x20.1 else (Zn c.1 l).2.1.2.2.1, bif x13 then x21.1 else (Zn c.1 l).2.1.2.2.2.1, bif x13 then x22.1 else (Zn c.1 l).2.1.2.2.2.2.1, bif x13 then x23.1 else (Zn c.1 l).2.1.2.2.2.2.2.1, bif x13 then x24.1 else (Zn c.1 l).2.1.2.2.2.2.2.2.1, (bif x13 then x26.1 else x27.1, bif x13 then x28.1 else x29.1, bif x13 then x30.1 else x31.1, bif x13 then x32.1 else x33.1, bif x13 then x34.1 else x35.1, bif x13 then x36.1 else x37.1, bif x13 then x36.2 else x37.2), bif x13 then x38.1 else x39.1, bif x13 then x38.2 else x39.2), bif x13 then x40.1 else (Zn c.1 l).2.2.1, bif x13 then x41.1 else (Zn c.1 l).2.2.2.1, bif x13 then x42.1 else (Zn c.1 l).2.2.2.2.1, bif x13 then x43.1 else (Zn c.1 l).2.2.2.2.2.1, bif x13 then x44.1 else (Zn c.1 l).2.2.2.2.2.2.1, bif x13 then x45.1 else (Zn c.1 l).2.2.2.2.2.2.2.1, bif x13 then x46.1 else (Zn c.1 l).2.2.2.2.2.2.2.2.1, bif x13 then x47.1 else (Zn c.1 l).2.2.2.2.2.2.2.2.2.1, bif x13 then x48.1 else x49.1, bif x13 then x50.1 else x51.1, bif x13 then x50.2 else x51.2), bif x13 then x52.1 else c.2.1, bif x13 then x53.1 else x14, (bif x13 then x55.1 else x12.1, bif x13 then x56.1 else x57.1, bif x13 then x58.1 else x59.1, bif x13 then x58.2 else x59.2), bif x13 then x60.1 else i64.wrap (Zay c + 1), bif x13 then x60.2 else c.2.2.2.2.2), x5)))) (.leaf none)))))) (.leaf none))
def ZRF (c : QT2) (l : QT0) (d : Int) : (QT2) × Int × Int × Int × Bool × Bool × Bool × Bool × Bool × Bool × Bool × Bool × Bool × Bool × Bool × Bool × Bool × Bool := getO Zkc.dflt (ZiE c l d).val
def ZKE (c : QT2) (l : QT0) (d : Int) : Bool := okB (ZiE c l d).val
def ZTl : Entry := Zf ZrD Zkc (fun a => some (ZKE a.1 a.2.1 a.2.2)) (fun a => ZRF a.1 a.2.1 a.2.2)
theorem ZKD : Zc Tryz.prog 27 ZTl :=
 pureP 740465775588642560936085758595903342518271 [(79, Zee), (80, ZU9), (81, ZxS), (82, ZrF), (83, ZRf), (84, ZlQ), (85, Zvo), (86, Zk4), (87, ZJO), (88, ZxR), (89, ZJD), (90, ZKv), (91, ZVd)] [] ZrD Zkc ⟨ZdC, ZJ4, Zu4, ZlW, ZO8, ZlP, Zy6, Zk3, ZCI, Zu3, ZCy, ZC4, ZS8, trivial⟩ Tryz.func27 Tryz.call27 trivial (t := fun a => ZiE a.1 a.2.1 a.2.2) (fun a => by kernel_rfl)
abbrev LnT := QT0
abbrev ZdT := CpuT × Int × List Int × Cyc × Int × Bool
def Zaf (n : Int) : Int := bif decide (n < 1) || decide (n > 9) then 1 else n
def Zw4 (c : CpuT) (s : Int) : ZdT := (c, s, [], (Zl c s []).1, 1, false)
def idlX (c : CpuT) (s : Int) (h : Bool) : Int := bif h then 8 else bif c.2.2.2.2.1 && s == 0 then 9 else 1
def endX (c : CpuT) (s : Int) (g : List Int) (h : Bool) (l : LnT) : ZdT :=
 bif (Zl c s g).2 then (c, s, g, (Zl c s g).1, idlX c s h, false) else
 let q := finX c s g l
 let k := ZdE q l
 let d := ZbQ q k
 (d, k, [], (Zl d k []).1, idlX d k h, false)
def Zfe (c : CpuT) (x : Cyc) (d : Int) : Cyc :=
 let v := bif Zb4 x.1 then d else x.2.2.1
 (x.1, x.2.1, v, bif x.1 == 1 || x.1 == 8 then ZfD c.1 v else x.2.2.2)
def le3 (x : Int) : Bool := decide (x ≤ 3)
def Zbt (c : ZdT) (l : LnT) (d : Int) : ZdT :=
 let t := Zaf c.2.2.2.2.1
 let p := Zn c.1 l
 let s := c.2.1
 let g := c.2.2.1
 let x := c.2.2.2.1
 let h := c.2.2.2.2.2
 bif l.2.2.1 then Zw4 (ZM c.1) 0 else
 bif t == 1 then (p, s, g, x, 2, h) else
 bif t == 2 || t == 7 then (bif l.1 || !Zbr x.1 then (p, s, g, x, 3, l.2.1) else (p, s, g, x, 7, h)) else
 bif t == 8 then (p, s, g, x, idlX p s l.2.1, h) else
 bif t == 9 then
  (let k := ZdE p l
   bif k == 0 then (p, s, g, x, bif l.2.1 then 8 else 9, h) else
   (ZbQ p k, k, [], (Zl (ZbQ p k) k []).1, bif l.2.1 then 8 else 1, h)) else
 bif t == 3 then
  (let y := Zfe p x d
   bif le3 y.2.2.2 then endX p s (g ++ [y.2.2.1]) h l else (p, s, g ++ [y.2.2.1], y, 4, h)) else
 bif decide (t < x.2.2.2) && !(t == 6) then (p, s, g, x, t + 1, h) else endX p s g h l
abbrev PinT := QT8
def ZNy (c : ZdT) (t : Int) : Cyc := bif t == 9 then (0, c.1.2.1.2.2.2.2.2.2.2.2.2, 0, 0) else c.2.2.2.1
def Zg2 (c : ZdT) (l : LnT) (d : Int) : PinT :=
 let t := Zaf c.2.2.2.2.1
 ZhG c.1.1 (bif l.2.2.1 then 10 else t) (ZNy c t) (bif l.2.2.1 then 0 else d) c.1.2.2.1 c.1.2.2.2.2.2.2.2.2.2.2.2.2
theorem ZkI (n : Int) : 1 ≤ Zaf n ∧ Zaf n ≤ 9 := by
 unfold Zaf
 by_cases h : n < 1 ∨ n > 9
 ·have : (decide (n < 1) || decide (n > 9)) = true := by simpa using h
  rw [this]; simp
 ·have : (decide (n < 1) || decide (n > 9)) = false := by simpa using h
  rw [this]; simp only [cond_false]; omega
theorem ZuE (c) : Zay c = Zaf c.2.2.2.2.1 := rfl
theorem Zvx (c) : Zbz c = Zaf c.2.2.2.2.1 := rfl
theorem ZuF (c : ZdT) (s) : ZCr c s = (ZbQ c.1 s, s, [], (Zl (ZbQ c.1 s) s []).1, c.2.2.2.2) := rfl
theorem ZKW (c : ZdT) (s) : ZvL c s = (ZbQ c.1 s, s, [], (Zl (ZbQ c.1 s) s []).1, c.2.2.2.2) := rfl
theorem ZPu (c : ZdT) (h : Bool) : ZvU c h = idlX c.1 c.2.1 h := by
 simp only [ZvU, ZL3, idlX, RT.val]
theorem ZSO (c : ZdT) (l : LnT) : rEnd c l = endX c.1 c.2.1 c.2.2.1 c.2.2.2.2.2 l := by
 cases h : (Zl c.1 c.2.1 c.2.2.1).2 <;> simp only [rEnd, ZS9, RT.val, h, cond_true, cond_false, ZuF, endX, ZhC, ZhB, idlX]
theorem ZVl (chip : Int) (x y : Cyc) (d : Int) (i o : Bool) : ZhG chip 10 x d i o = ZhG chip 10 y 0 i o := by
 simp only [ZhG, Zu9, RT.val, Zaw]
 generalize (chip == 2) = b
 cases b <;> simp
theorem ZK1 (chip : Int) (x : Cyc) (i o : Bool) : ZhG chip 10 x 0 i o = (10, 0, 0, false, false, false, (ZhG chip 10 x 0 i o).2.2.2.2.2.2.1, false, false, false, false, false, false, (ZhG chip 10 x 0 i o).2.2.2.2.2.2.2.2.2.2.2.2.2.1, false, false, (ZhG chip 10 x 0 i o).2.2.2.2.2.2.2.2.2.2.2.2.2.2.2.2) := by
 simp only [ZhG, Zu9, RT.val, Zaw]
 generalize (chip == 2) = b
 cases b <;> simp
theorem ZkR (c : CpuT) : ZM c = ((ZM c).1, ((ZM c).2.1.1, (ZM c).2.1.2.1, (ZM c).2.1.2.2.1, (ZM c).2.1.2.2.2.1, (ZM c).2.1.2.2.2.2.1, (ZM c).2.1.2.2.2.2.2.1, (ZM c).2.1.2.2.2.2.2.2.1, (ZM c).2.1.2.2.2.2.2.2.2.1, (ZM c).2.1.2.2.2.2.2.2.2.2.1, 0), false, false, false, (ZM c).2.2.2.2.2.1, false, false, false, false, false, false, false) := by
 simp only [ZM, Zfy, RT.val, Zaw]
theorem Zw5 (c : CpuT) : Zw4 (ZM c) 0 = (ZM c, 0, [], (1, 0, 0, 4), 1, false) := by
 simp only [Zw4]
 have : (Zl (ZM c) 0 []).1 = (1, 0, 0, 4) := by
  have hp : pcOf (ZM c) = 0 := by rw [ZkR]; rfl
  simp [Zl, ZiI, Zb, ZiD, RT.val, hp]; rfl
 rw [this]
theorem len1 {α : Type} (l : List α) (x : α) (h : l.length + 1 ≤ most) : Nat.ble l.length most = true ∧ Nat.ble (l ++ [x]).length most = true := by
 rw [Nat.ble_eq, Nat.ble_eq]; simp only [List.length_append, List.length_cons, List.length_nil]; omega
theorem ZOM (c : ZdT) (d : Int) (hg : c.2.2.1.length + 1 ≤ most) : (ZhE c 3 d).val = some (Zfe c.1 c.2.2.2.1 d, c.2.2.1 ++ [(Zfe c.1 c.2.2.2.1 d).2.2.1]) := by
 have h := len1 c.2.2.1 (bif Zb4 c.2.2.2.1.1 then d else c.2.2.2.1.2.2.1) hg
 simp only [ZhE, RT.val, List.nil_append, h.1, h.2, Bool.not_true, Bool.false_or, cond_true, Zfe, bne_self_eq_false, cond_false]
theorem ZkL (c : ZdT) (t d : Int) (ht : t ≠ 3) : (ZhE c t d).val = some (c.2.2.2.1, c.2.2.1) := by
 have : (t != 3) = true := by simpa using ht
 simp only [ZhE, RT.val, this, cond_true]
abbrev ChgT := Bool × CpuT × List Int × Cyc × CpuT
abbrev cpu0 : CpuT := (0, (0, 0, 0, 0, 0, 0, 0, (false, false, false, false, false, false, false), 0, 0), false, false, false, 0, false, false, false, false, false, false, false)
def ZN2 (c : ZdT) (l : LnT) (d : Int) : ChgT :=
 let t := Zaf c.2.2.2.2.1
 let p := Zn c.1 l
 let s := c.2.1
 let g := c.2.2.1
 let x := c.2.2.2.1
 bif t == 3 then
  (let y := Zfe p x d
   bif le3 y.2.2.2 && !(Zl p s (g ++ [y.2.2.1])).2 then (true, finX p s (g ++ [y.2.2.1]) l, g ++ [y.2.2.1], y, p) else (false, cpu0, [], y, p)) else
 bif (t == 4 || (t == 5 || t == 6)) && (!(decide (t < x.2.2.2) && !(t == 6)) && !(Zl p s g).2) then (true, finX p s g l, g, x, p) else (false, cpu0, [], x, p)
theorem gt3 (x : Int) : decide (x > 3) = !le3 x := by unfold le3; by_cases h : x ≤ 3 <;> simp [h] <;> omega
theorem ZUe (c : ZdT) (l : LnT) (d : Int) (hg : c.2.2.1.length + 1 ≤ most) (hr : l.2.2.1 = false) : (ZMG c l d).val = some (Zbt c l d, ZN2 c l d) := by
 have h1 := fun x => len1 c.2.2.1 x hg
 obtain ⟨t1, t2⟩ := ZkI c.2.2.2.2.1
 unfold ZMG Zbt ZN2
 simp only [Zvx, hr, cond_false, RT.val, (h1 0).1, (h1 _).2, cond_true, Bool.or_true, ZKW, ZPu, endX, Zfe, idlX, Zkf, Zl5, gt3]
 have : Zaf c.2.2.2.2.1 = 1 ∨ Zaf c.2.2.2.2.1 = 2 ∨ Zaf c.2.2.2.2.1 = 7 ∨ Zaf c.2.2.2.2.1 = 3 ∨ Zaf c.2.2.2.2.1 = 4 ∨ Zaf c.2.2.2.2.1 = 5 ∨ Zaf c.2.2.2.2.1 = 6 ∨ Zaf c.2.2.2.2.1 = 8 ∨ Zaf c.2.2.2.2.1 = 9 := by omega
 rcases this with h | h | h | h | h | h | h | h | h <;> simp only [h, Int.reduceBEq, Int.reduceBNe, cond_true, cond_false, Bool.false_or, Bool.or_false, Bool.and_false, Bool.false_and, Bool.and_true, Bool.true_and, Bool.not_true, Bool.not_false, gt_iff_lt, show IntKind.wrap .i64 (4 + 1) = 4 + 1 from rfl, show IntKind.wrap .i64 (5 + 1) = 5 + 1 from rfl]
 ·cases Zbr c.2.2.2.1.1 <;> cases l.1 <;> rfl
 ·cases Zbr c.2.2.2.1.1 <;> cases l.1 <;> rfl
 ·cases hA : le3 (Zfe (Zn c.1 l) c.2.2.2.1 d).2.2.2 <;> cases hB : (Zl (Zn c.1 l) c.2.1 (c.2.2.1 ++ [(Zfe (Zn c.1 l) c.2.2.2.1 d).2.2.1])).2 <;> simp only [Zfe] at hA hB <;> simp only [hA, hB, cond_true, cond_false, Bool.not_true, Bool.not_false, Bool.and_true, Bool.and_false, Bool.false_and] <;> with_reducible rfl
 ·cases decide (4 < c.2.2.2.1.2.2.2) <;> cases (Zl (Zn c.1 l) c.2.1 c.2.2.1).2 <;> rfl
 ·cases decide (5 < c.2.2.2.1.2.2.2) <;> cases (Zl (Zn c.1 l) c.2.1 c.2.2.1).2 <;> rfl
 ·cases (Zl (Zn c.1 l) c.2.1 c.2.2.1).2 <;> rfl
 ·have hb : (ZdE (Zn c.1 l) l != 0) = !(ZdE (Zn c.1 l) l == 0) := rfl
  rw [hb]
  cases hk : (ZdE (Zn c.1 l) l == 0) <;> rfl
theorem ZVI (t x : Int) : decide (t < x) = !decide (x ≤ t) := by by_cases h : x ≤ t <;> simp [h] <;> omega
theorem Zvz (c : ZdT) (l : LnT) (d : Int) (hg : c.2.2.1.length + 1 ≤ most) : (ZiM c l d).val = some (Zbt c l d, Zg2 c l d) := by
 obtain ⟨t1, t2⟩ := ZkI c.2.2.2.2.1
 cases hr : l.2.2.1 with
 | true =>
  have hb : Zey (ZM c.1) 0 = (ZM c.1, 0, [], (Zl (ZM c.1) 0 []).1, 1, false) := rfl
  simp only [ZiM, RT.val, hr, cond_true, Zbt, Zg2, Zw5, hb]
  rw [← ZkR, ZK0 c.1.1 10 (by decide) (by decide) c.2.2.2.1 d 0 _ _ _ (fun h => absurd rfl h), ZVl c.1.1 _ (ZNy c (Zaf c.2.2.2.2.1)) 0]
 | false =>
  have h := ZUe c l d hg hr
  have h1 : ZQa c l d = true := by simp only [ZQa, h, okB]
  have h2 : (pAdv c l d).1 = Zbt c l d := by simp only [pAdv, h, getO]
  simp only [ZiM, RT.val, hr, cond_false, h1, cond_true, h2, Zg2, Zvx]
  rw [ZK0 c.1.1 (Zaf c.2.2.2.2.1) t1 (by omega) c.2.2.2.1 d d _ _ _ (fun _ => rfl)]
  simp only [ZNy]
theorem ZuK (c : ZdT) (l : LnT) (d : Int) (hg : c.2.2.1.length + 1 ≤ most) : (ZiE c l d).val = some (Zbt c l d, Zg2 c l d) := by
 obtain ⟨t1, t2⟩ := ZkI c.2.2.2.2.1
 have hx : ZNy c (Zaf c.2.2.2.2.1) = (bif Zaf c.2.2.2.2.1 == 9 then 0 else c.2.2.2.1.1, bif Zaf c.2.2.2.2.1 == 9 then c.1.2.1.2.2.2.2.2.2.2.2.2 else c.2.2.2.1.2.1, bif Zaf c.2.2.2.2.1 == 9 then 0 else c.2.2.2.1.2.2.1, bif Zaf c.2.2.2.2.1 == 9 then 0 else c.2.2.2.1.2.2.2) := by
  unfold ZNy; cases Zaf c.2.2.2.2.1 == 9 <;> simp only [cond_true, cond_false, Bool.not_true, Bool.not_false, Bool.and_true, Bool.and_false, Bool.false_and, Bool.true_and, Bool.or_true, Bool.or_false, Bool.true_or, Bool.false_or]
 have hl : Nat.ble c.2.2.1.length most = true := (len1 c.2.2.1 0 hg).1
 cases hr : l.2.2.1 with
 | true =>
  simp only [ZiE, RT.val, hr, cond_true, Zbt, Zg2, Zw5, ZuE, ← hx]
  rw [← ZK1, ← ZkR]
 | false =>
  simp only [ZiE, RT.val, hr, cond_false, List.nil_append, hl, cond_true, ZuE, ZuF, ZSO, ← hx, Zg2]
  have : Zaf c.2.2.2.2.1 = 1 ∨ Zaf c.2.2.2.2.1 = 2 ∨ Zaf c.2.2.2.2.1 = 7 ∨ Zaf c.2.2.2.2.1 = 3 ∨ Zaf c.2.2.2.2.1 = 4 ∨ Zaf c.2.2.2.2.1 = 5 ∨ Zaf c.2.2.2.2.1 = 6 ∨ Zaf c.2.2.2.2.1 = 8 ∨ Zaf c.2.2.2.2.1 = 9 := by omega
  have q3 := ZOM (Zn c.1 l, c.2.1, c.2.2.1, c.2.2.2) d hg
  rcases this with h | h | h | h | h | h | h | h | h
  ·simp only [Zbt, hr, h, Int.reduceBEq, cond_true, cond_false]
  ·simp only [Zbt, hr, h, Int.reduceBEq, cond_true, cond_false, Bool.true_or]
   cases l.1 || !Zbr c.2.2.2.1.1 <;> simp only [cond_true, cond_false, Bool.not_true, Bool.not_false, Bool.and_true, Bool.and_false, Bool.false_and, Bool.true_and, Bool.or_true, Bool.or_false, Bool.true_or, Bool.false_or]
  ·simp only [Zbt, hr, h, Int.reduceBEq, cond_true, cond_false, Bool.or_true]
   cases l.1 || !Zbr c.2.2.2.1.1 <;> simp only [cond_true, cond_false, Bool.not_true, Bool.not_false, Bool.and_true, Bool.and_false, Bool.false_and, Bool.true_and, Bool.or_true, Bool.or_false, Bool.true_or, Bool.false_or]
  ·have e1 : Zew (Zn c.1 l, c.2.1, c.2.2.1, c.2.2.2) 3 d = true := by simp only [Zew, q3, okB]
   have e2 : ZgZ (Zn c.1 l, c.2.1, c.2.2.1, c.2.2.2) 3 d = (Zfe (Zn c.1 l) c.2.2.2.1 d, c.2.2.1 ++ [(Zfe (Zn c.1 l) c.2.2.2.1 d).2.2.1]) := by simp only [ZgZ, q3, getO]
   simp only [Zbt, hr, h, Int.reduceBEq, cond_true, cond_false, Bool.or_self, e1, e2, ZrB, Zo7, RT.val]
   rw [show decide ((Zfe (Zn c.1 l) c.2.2.2.1 d).2.2.2 ≤ 3) = le3 (Zfe (Zn c.1 l) c.2.2.2.1 d).2.2.2 from rfl]
   cases le3 (Zfe (Zn c.1 l) c.2.2.2.1 d).2.2.2 <;> rfl
  ·have q := ZkL (Zn c.1 l, c.2.1, c.2.2.1, c.2.2.2) 4 d (by decide)
   have e1 : Zew (Zn c.1 l, c.2.1, c.2.2.1, c.2.2.2) 4 d = true := by simp only [Zew, q, okB]
   have e2 : ZgZ (Zn c.1 l, c.2.1, c.2.2.1, c.2.2.2) 4 d = (c.2.2.2.1, c.2.2.1) := by simp only [ZgZ, q, getO]
   simp only [Zbt, hr, h, Int.reduceBEq, cond_true, cond_false, Bool.or_self, Bool.not_false, Bool.and_true, e1, e2, ZrB, Zo7, RT.val, show IntKind.wrap .i64 (4 + 1) = 4 + 1 from rfl, ZVI]
   cases decide (c.2.2.2.1.2.2.2 ≤ 4) <;> rfl
  ·have q := ZkL (Zn c.1 l, c.2.1, c.2.2.1, c.2.2.2) 5 d (by decide)
   have e1 : Zew (Zn c.1 l, c.2.1, c.2.2.1, c.2.2.2) 5 d = true := by simp only [Zew, q, okB]
   have e2 : ZgZ (Zn c.1 l, c.2.1, c.2.2.1, c.2.2.2) 5 d = (c.2.2.2.1, c.2.2.1) := by simp only [ZgZ, q, getO]
   simp only [Zbt, hr, h, Int.reduceBEq, cond_true, cond_false, Bool.or_self, Bool.not_false, Bool.and_true, e1, e2, ZrB, Zo7, RT.val, show IntKind.wrap .i64 (5 + 1) = 5 + 1 from rfl, ZVI]
   cases decide (c.2.2.2.1.2.2.2 ≤ 5) <;> rfl
  ·have q := ZkL (Zn c.1 l, c.2.1, c.2.2.1, c.2.2.2) 6 d (by decide)
   have e1 : Zew (Zn c.1 l, c.2.1, c.2.2.1, c.2.2.2) 6 d = true := by simp only [Zew, q, okB]
   have e2 : ZgZ (Zn c.1 l, c.2.1, c.2.2.1, c.2.2.2) 6 d = (c.2.2.2.1, c.2.2.1) := by simp only [ZgZ, q, getO]
   simp only [Zbt, hr, h, Int.reduceBEq, cond_true, cond_false, Bool.or_self, Bool.not_true, Bool.and_false, e1, e2, ZrB, Zo7, RT.val]
  ·simp only [Zbt, hr, h, Int.reduceBEq, cond_true, cond_false, Bool.or_self, ZhC, ZhB, RT.val, idlX]
   cases l.2.1 <;> rfl
  ·have hb : (ZdE (Zn c.1 l) l != 0) = !(ZdE (Zn c.1 l) l == 0) := rfl
   simp only [Zbt, hr, h, Int.reduceBEq, cond_true, cond_false, Bool.or_self, hb]
   cases hk : (ZdE (Zn c.1 l) l == 0) <;> rfl
def ZcV (c : ZdT) : Bool := Nat.ble (c.2.2.1.length + 1) most
theorem Zeu {c : ZdT} : ZcV c = true ↔ c.2.2.1.length + 1 ≤ most := by simp [ZcV]
def clkX (c : ZdT) (l : LnT) (d : Int) : ZdT × PinT := (Zbt c l d, Zg2 c l d)
def ZcT : Entry := Zf Zs8 Zkl (fun a => some (ZcV a.1)) (fun a => clkX a.1 a.2.1 a.2.2)
theorem Zds : Zc Tryz.prog 26 ZcT := ZMy.pure_congr
 (fun a h hp => by have h1 := Zvz a.1 a.2.1 a.2.2 (Zeu.1 (by simpa using hp)); simp [ZMz, h1, okB])
 (fun a h hp => by have h1 := Zvz a.1 a.2.1 a.2.2 (Zeu.1 (by simpa using hp)); simp only [ZR4, h1, getO, clkX])
def ZeT : Entry := Zf ZrD Zkc (fun a => some (ZcV a.1)) (fun a => clkX a.1 a.2.1 a.2.2)
theorem Zgk : Zc Tryz.prog 27 ZeT := ZKD.pure_congr
 (fun a h hp => by have h1 := ZuK a.1 a.2.1 a.2.2 (Zeu.1 (by simpa using hp)); simp [ZKE, h1, okB])
 (fun a h hp => by have h1 := ZuK a.1 a.2.1 a.2.2 (Zeu.1 (by simpa using hp)); simp only [ZRF, h1, getO, clkX])
def newX (chip : Int) : ZdT := Zw4 (ZM (chip, (0, 0, 0, 0, 0, 0, 0, (false, false, false, false, false, false, false), 0, 0), false, false, false, 0, false, false, false, false, false, false, false)) 0
theorem ZSL (chip : Int) : rNew chip = newX chip := by
 unfold newX
 rw [Zw5]
 simp only [rNew, ZS0, RT.val, ZM, Zfy, Zaw]
theorem ZTo (chip : Int) : pNew chip = newX chip := by
 have hb : ∀ c, Zey c 0 = Zw4 c 0 := fun _ => rfl
 unfold newX
 simp only [pNew, ZTN, RT.val, hb]
 rw [Zw5]
 simp only [ZM, Zfy, RT.val, Zaw]
def ZRX : Entry := Zf ZLN ZLO (fun _ => none) (fun a => newX a)
theorem ZPU : Zc Tryz.prog 69 ZRX := ZTM.tot (fun a h => by simp) (fun a h => ZTo _)
def ZRm : Entry := Zf ZJ5 ZJ6 (fun _ => none) (fun a => newX a)
theorem ZPh : Zc Tryz.prog 80 ZRm := ZJ4.tot (fun a h => by simp) (fun a h => ZSL _)
abbrev ZEc : List Sh := [Sh.one (R.int i64), Sh.one (R.int i64)]
abbrev Ztz : Rs := Rs.one (Sh.one (R.int i64))
def Znt (x : Int) (n : Int) : RT (Option (Int)) :=
 .br (IntKind.u64.wrap n != 0) (.leaf (some (i64.wrap (Int.tmod (IntKind.u64.wrap x) (IntKind.u64.wrap n))))) (.leaf none)
def Znv (x : Int) (n : Int) : Int := getO Ztz.dflt (Znt x n).val
def Znu (x : Int) (n : Int) : Bool := okB (Znt x n).val
def Zg9 : Entry := Zf ZEc Ztz (fun a => some (Znu a.1 a.2)) (fun a => Znv a.1 a.2)
theorem Zia : Zc Tryz.prog 24 Zg9 :=
 pureP 31 [] [] ZEc Ztz trivial Tryz.func24 Tryz.call24 trivial (t := fun a => Znt a.1 a.2) (fun a => by kernel_rfl)
abbrev ZAU : R := R.pair (R.sl (R.int i64)) (R.int i64)
abbrev ZMT : List Sh := [Sh.one (R.int i64)]
abbrev ZAT : Rs := Rs.one (Sh.one (R.int i64))
def Znf (s : List Int × Int) (n : Int) : RT (Option (QT18)) :=
 let x1 := Zg (i64.wrap (i64.wrap (s.2 + 1) - 1)) (List.length s.1)
 let x2 : Int := R.get (R.int i64) s.1 (i64.wrap (i64.wrap (s.2 + 1) - 1))
 .br (decide (s.2 ≥ iN (List.length s.1))) (.leaf (some ((0, s.1, i64.wrap (s.2 + 1))))) (.br (!x1 || Znu x2 n) (.br (x1) (.leaf (some ((Znv x2 n, s.1, i64.wrap (s.2 + 1))))) (.leaf none)) (.leaf none))
def Zd (s : List Int × Int) (n : Int) : QT18 := getO (ZAT.dflt, ZAU.dflt) (Znf s n).val
def Zq (s : List Int × Int) (n : Int) : Bool := okB (Znf s n).val
def Zbl : Entry := boxE ZAU ZMT ZAT (fun a => some (Zq a.1 a.2)) (fun a => Zd a.1 a.2)
theorem ZaH : Zc Tryz.prog 46 Zbl :=
 Za8 (P := Tryz.prog) (n := 31) (k := 8) (l := [(24, Zg9)]) (ol := []) ⟨Zia, trivial⟩ Tryz.func46 rfl (by kernel_rfl) Tryz.call46 trivial (rb := ZAU) (ts := ZMT) (rs := ZAT) (t := fun a => Znf a.1 a.2) (fun a => by kernel_rfl)
abbrev ZA3 : R := R.pair (R.sl (R.int i64)) (R.int i64)
abbrev ZNb : List Sh := []
abbrev ZA2 : Rs := Rs.one (Sh.one (R.int u8))
def Znl (s : List Int × Int) : RT (Option (QT18)) :=
 let x1 : List Int := [0, 1, 127, 128, 255, 15, 16, 153, 154, 9, 102, 254, 129, 85, 170, 64]
 .br (Zq s 512) (.br (!decide ((Zd s 512).1 ≥ 256) || Zg (Int.tmod (Zd s 512).1 16) (List.length x1)) (.br (decide ((Zd s 512).1 ≥ 256)) (.leaf (some ((R.get (R.int u8) x1 (Int.tmod (Zd s 512).1 16), (Zd s 512).2)))) (.leaf (some ((u8.wrap (Zd s 512).1, (Zd s 512).2))))) (.leaf none)) (.leaf none)
def Zm (s : List Int × Int) : QT18 := getO (ZA2.dflt, ZA3.dflt) (Znl s).val
def Zaj (s : List Int × Int) : Bool := okB (Znl s).val
def Zjz : Entry := boxE ZA3 ZNb ZA2 (fun a => some (Zaj a.1 )) (fun a => Zm a.1 )
theorem Zh9 : Zc Tryz.prog 108 Zjz :=
 Za8 (P := Tryz.prog) (n := 15) (k := 8) (l := [(46, Zbl)]) (ol := []) ⟨ZaH, trivial⟩ Tryz.func108 rfl (by kernel_rfl) Tryz.call108 trivial (rb := ZA3) (ts := ZNb) (rs := ZA2) (t := fun a => Znl a.1 ) (fun a => by kernel_rfl)
abbrev ZAL : R := R.pair (R.sl (R.int i64)) (R.int i64)
abbrev ZMR : List Sh := []
abbrev ZAK : Rs := Rs.one (Sh.one (R.int u16))
def Zh4 (s : List Int × Int) : RT (Option (QT18)) :=
 let x1 : List Int := [0, 1, 65535, 65534, 32767, 32768, 255, 256]
 let x2 := !(Zd s 5).1 == 0 || (!Zq (Zd s 5).2 8 || Zg (Zd (Zd s 5).2 8).1 (List.length x1))
 let x3 := !x2
 let x4 := !(Zd s 5).1 == 0 || Zq (Zd s 5).2 8
 .br (Zq s 5) (.br (x3 || (!x4 || ((Zd s 5).1 == 0 || (!(Zd s 5).1 == 1 || Zq (Zd s 5).2 65536)))) (.br (x3 || x4) (.br (x2) (.br ((Zd s 5).1 == 0) (.leaf (some ((R.get (R.int u16) x1 (Zd (Zd s 5).2 8).1, (Zd (Zd s 5).2 8).2)))) (.br ((Zd s 5).1 == 1) (.leaf (some ((u16.wrap (Zd (Zd s 5).2 65536).1, (Zd (Zd s 5).2 65536).2)))) (.br (Zq (Zd s 5).2 64) (.leaf (some ((u16.wrap (Zd (Zd s 5).2 64).1, (Zd (Zd s 5).2 64).2)))) (.leaf none)))) (.leaf none)) (.leaf none)) (.leaf none)) (.leaf none)
def Za2 (s : List Int × Int) : QT18 := getO (ZAK.dflt, ZAL.dflt) (Zh4 s).val
def Zd4 (s : List Int × Int) : Bool := okB (Zh4 s).val
def Zv9 : Entry := boxE ZAL ZMR ZAK (fun a => some (Zd4 a.1 )) (fun a => Za2 a.1 )
theorem Ztf : Zc Tryz.prog 137 Zv9 :=
 Za8 (P := Tryz.prog) (n := 4135) (k := 8) (l := [(46, Zbl)]) (ol := []) ⟨ZaH, trivial⟩ Tryz.func137 rfl (by kernel_rfl) Tryz.call137 trivial (rb := ZAL) (ts := ZMR) (rs := ZAK) (t := fun a => Zh4 a.1 ) (fun a => by kernel_rfl)
abbrev ZA0 : R := R.pair (R.sl (R.int i64)) (R.int i64)
abbrev ZM6 : List Sh := []
abbrev ZAZ : Rs := Rs.one (Sh.one (R.int i64))
def Zwk (s : List Int × Int) : RT (Option (QT18)) :=
 .br (Zq s 2) (.leaf (some ((i64.wrap (1 + (Zd s 2).1), (Zd s 2).2)))) (.leaf none)
def ZN (s : List Int × Int) : QT18 := getO (ZAZ.dflt, ZA0.dflt) (Zwk s).val
def Zjy (s : List Int × Int) : Bool := okB (Zwk s).val
def Zwl : Entry := boxE ZA0 ZM6 ZAZ (fun a => some (Zjy a.1 )) (fun a => ZN a.1 )
theorem Zts : Zc Tryz.prog 72 Zwl :=
 Za8 (P := Tryz.prog) (n := 7) (k := 8) (l := [(46, Zbl)]) (ol := []) ⟨ZaH, trivial⟩ Tryz.func72 rfl (by kernel_rfl) Tryz.call72 trivial (rb := ZA0) (ts := ZM6) (rs := ZAZ) (t := fun a => Zwk a.1 ) (fun a => by kernel_rfl)
abbrev Ztq : R := R.pair (R.sl (R.int i64)) (R.int i64)
abbrev ZD1 : List Sh := [Sh.one (R.int i64)]
abbrev Ztp : Rs := Rs.one (Sh.agg rcF7)
def Zto (s : List Int × Int) (chip : Int) : RT (Option (TF × List Int × Int)) :=
 .br (Zq s 128) (.leaf (some (((andI i64 (Zd s 128).1 1 != 0, andI i64 (Zd s 128).1 2 != 0, chip == 2 && andI i64 (Zd s 128).1 32 != 0, andI i64 (Zd s 128).1 4 != 0, andI i64 (Zd s 128).1 8 != 0, chip == 2 && andI i64 (Zd s 128).1 64 != 0, andI i64 (Zd s 128).1 16 != 0), (Zd s 128).2)))) (.leaf none)
def Zjx (s : List Int × Int) (chip : Int) : TF × List Int × Int := getO (Ztp.dflt, Ztq.dflt) (Zto s chip).val
def Ztr (s : List Int × Int) (chip : Int) : Bool := okB (Zto s chip).val
def ZM2 : Entry := boxE Ztq ZD1 Ztp (fun a => some (Ztr a.1 a.2)) (fun a => Zjx a.1 a.2)
theorem ZM0 : Zc Tryz.prog 136 ZM2 :=
 Za8 (P := Tryz.prog) (n := 127) (k := 8) (l := [(46, Zbl)]) (ol := []) ⟨ZaH, trivial⟩ Tryz.func136 rfl (by kernel_rfl) Tryz.call136 trivial (rb := Ztq) (ts := ZD1) (rs := Ztp) (t := fun a => Zto a.1 a.2) (fun a => by kernel_rfl)
abbrev ZAN : R := R.pair (R.sl (R.int i64)) (R.int i64)
abbrev ZMS : List Sh := [Sh.one (R.int i64)]
abbrev ZAM : Rs := Rs.one (Sh.agg Zed)
def Zwa (s : List Int × Int) (chip : Int) : RT (Option (TR × List Int × Int)) :=
 let x1 := Zm (Zm (Zm (Zm (Zm (Zm (Zm s).2).2).2).2).2).2
 let x2 := x1.2
 let x3 := Ztr x2 chip
 let x4 := !x3
 let x5 := Zjx x2 chip
 let x6 := x5.2
 let x7 := Zd4 x6
 let x8 := Za2 x6
 let x9 := x8.2
 let x10 := Za2 x9
 .br (!Zaj s || (!Zaj (Zm s).2 || (!Zaj (Zm (Zm s).2).2 || (!Zaj (Zm (Zm (Zm s).2).2).2 || (!Zaj (Zm (Zm (Zm (Zm s).2).2).2).2 || (!Zaj (Zm (Zm (Zm (Zm (Zm s).2).2).2).2).2 || Zaj (Zm (Zm (Zm (Zm (Zm (Zm s).2).2).2).2).2).2)))))) (.br (!Zaj s || (!Zaj (Zm s).2 || (!Zaj (Zm (Zm s).2).2 || (!Zaj (Zm (Zm (Zm s).2).2).2 || (!Zaj (Zm (Zm (Zm (Zm s).2).2).2).2 || Zaj (Zm (Zm (Zm (Zm (Zm s).2).2).2).2).2))))) (.br (!Zaj s || (!Zaj (Zm s).2 || (!Zaj (Zm (Zm s).2).2 || (!Zaj (Zm (Zm (Zm s).2).2).2 || Zaj (Zm (Zm (Zm (Zm s).2).2).2).2)))) (.br (!Zaj s || (!Zaj (Zm s).2 || (!Zaj (Zm (Zm s).2).2 || Zaj (Zm (Zm (Zm s).2).2).2))) (.br (!Zaj s || (!Zaj (Zm s).2 || Zaj (Zm (Zm s).2).2)) (.br (!Zaj s || Zaj (Zm s).2) (.br (Zaj s) (.br (x4 || (!x7 || Zd4 x9)) (.br (x4 || x7) (.br (x3) (.leaf (some ((((Zm s).1, (Zm (Zm s).2).1, (Zm (Zm (Zm s).2).2).1, (Zm (Zm (Zm (Zm s).2).2).2).1, (Zm (Zm (Zm (Zm (Zm s).2).2).2).2).1, (Zm (Zm (Zm (Zm (Zm (Zm s).2).2).2).2).2).1, x1.1, x5.1, x8.1, x10.1), x10.2)))) (.leaf none)) (.leaf none)) (.leaf none)) (.leaf none)) (.leaf none)) (.leaf none)) (.leaf none)) (.leaf none)) (.leaf none)) (.leaf none)
def ZiS (s : List Int × Int) (chip : Int) : TR × List Int × Int := getO (ZAM.dflt, ZAN.dflt) (Zwa s chip).val
def Zwb (s : List Int × Int) (chip : Int) : Bool := okB (Zwa s chip).val
def ZSb : Entry := boxE ZAN ZMS ZAM (fun a => some (Zwb a.1 a.2)) (fun a => ZiS a.1 a.2)
theorem ZQg : Zc Tryz.prog 73 ZSb :=
 Za8 (P := Tryz.prog) (n := 63) (k := 8) (l := [(108, Zjz), (136, ZM2), (137, Zv9)]) (ol := []) ⟨Zh9, ZM0, Ztf, trivial⟩ Tryz.func73 rfl (by kernel_rfl) Tryz.call73 trivial (rb := ZAN) (ts := ZMS) (rs := ZAM) (t := fun a => Zwa a.1 a.2) (fun a => by kernel_rfl)
abbrev Ztl : R := R.pair (R.sl (R.int i64)) (R.int i64)
abbrev ZDY : List Sh := []
abbrev Ztk : Rs := Rs.one (Sh.agg (R.pair R.bool (R.pair R.bool rcF7)))
def Ztj (s : List Int × Int) : RT (Option ((QT0) × List Int × Int)) :=
 .br (Zq s 512) (.leaf (some (((Int.tmod (Zd s 512).1 4 != 0, Int.tmod (shrI i64 (Zd s 512).1 2) 8 == 0, false, andI i64 (Zd s 512).1 4 != 0, Int.tmod (shrI i64 (Zd s 512).1 3) 8 == 1, andI i64 (Zd s 512).1 64 != 0, andI i64 (Zd s 512).1 128 != 0, andI i64 (Zd s 512).1 256 != 0, Int.tmod (Zd s 512).1 3 == 0), (Zd s 512).2)))) (.leaf none)
def Zch (s : List Int × Int) : (QT0) × List Int × Int := getO (Ztk.dflt, Ztl.dflt) (Ztj s).val
def Zng (s : List Int × Int) : Bool := okB (Ztj s).val
def ZeY : Entry := boxE Ztl ZDY Ztk (fun a => some (Zng a.1 )) (fun a => Zch a.1 )
theorem ZfR : Zc Tryz.prog 25 ZeY :=
 Za8 (P := Tryz.prog) (n := 15) (k := 8) (l := [(46, Zbl)]) (ol := []) ⟨ZaH, trivial⟩ Tryz.func25 rfl (by kernel_rfl) Tryz.call25 trivial (rb := Ztl) (ts := ZDY) (rs := Ztk) (t := fun a => Ztj a.1 ) (fun a => by kernel_rfl)
abbrev Zne : R := R.pair (R.sl (R.int i64)) (R.int i64)
abbrev Zwe : List Sh := []
abbrev Znd : Rs := Rs.one (Sh.one (R.int u8))
def ZeX (s : List Int × Int) : RT (Option (QT18)) :=
 let x1 : List Int := [251, 243, 118, 205, 201, 197, 227, 211, 219, 54, 52, 32, 48, 194, 202, 255, 62, 49]
 .br (Zq s 3) (.br (!decide ((Zd s 3).1 > 0) || Zq (Zd s 3).2 256) (.br (decide ((Zd s 3).1 > 0)) (.leaf (some ((u8.wrap (Zd (Zd s 3).2 256).1, (Zd (Zd s 3).2 256).2)))) (.br (!Zq (Zd s 3).2 18 || Zg (Zd (Zd s 3).2 18).1 (List.length x1)) (.br (Zq (Zd s 3).2 18) (.leaf (some ((R.get (R.int u8) x1 (Zd (Zd s 3).2 18).1, (Zd (Zd s 3).2 18).2)))) (.leaf none)) (.leaf none))) (.leaf none)) (.leaf none)
def Zal (s : List Int × Int) : QT18 := getO (Znd.dflt, Zne.dflt) (ZeX s).val
def ZbL (s : List Int × Int) : Bool := okB (ZeX s).val
def Zd5 : Entry := boxE Zne Zwe Znd (fun a => some (ZbL a.1 )) (fun a => Zal a.1 )
theorem ZeC : Zc Tryz.prog 109 Zd5 :=
 Za8 (P := Tryz.prog) (n := 7) (k := 8) (l := [(46, Zbl)]) (ol := []) ⟨ZaH, trivial⟩ Tryz.func109 rfl (by kernel_rfl) Tryz.call109 trivial (rb := Zne) (ts := Zwe) (rs := Znd) (t := fun a => ZeX a.1 ) (fun a => by kernel_rfl)
end
end Go.Proofs.YtghoimllhpjkjaaGreat
