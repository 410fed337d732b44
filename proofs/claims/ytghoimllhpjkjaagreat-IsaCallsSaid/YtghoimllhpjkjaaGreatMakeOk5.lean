/-
  What the makers of inputs make: in range, and never a panic. Conditions: none.
-/
import Derived.Test.YtghoimllhpjkjaaGreatS3D
import Derived.Test.YtghoimllhpjkjaaGreatProg
import Derived.Test.YtghoimllhpjkjaaGreatFin3
import Derived.Test.YtghoimllhpjkjaaGreatNext3
import Derived.Test.YtghoimllhpjkjaaGreatPinsEq
import Derived.Test.YtghoimllhpjkjaaGreatKinds
open Go.IntKind (u8 u16 i64)
set_option linter.unusedSimpArgs false
open Go Go.S3 Go.Proofs
set_option linter.unusedVariables false
set_option maxRecDepth 100000
namespace Go.Proofs.YtghoimllhpjkjaaGreat
noncomputable section
def Zsk (c : TC) (s : Int) (g : List Int) (ln : QT1) : RT (Option TC) :=
 let x1 : QT0 := (c, s == 5, g, (0, 0, 0, 0, 0, 0, 0, 0), [])
 let x2 := qAtC x1 0
 let x3 := Zb c.1 (qAt x1 0)
 let x4 := !x2 || x3.1 == 4
 let x5 := x3.2
 let x6 : QT0 := (c, s == 5, g, (4, x5), [])
 .br (Zd s) (.leaf (some ((c.1, (rgx c.2.1 c.2.1.2.2.2.2.2.2.2.1 (u16.wrap ((spOf c) - 2)) (Zq s)), c.2.2)))) (.br (!x4 || x2) (.br (x4) (.br (ZbI x6 1) (.leaf (some ((c.1, ZL (rgx c.2.1 c.2.1.2.2.2.2.2.2.2.1 (spOf c) (Zr x6)) x5.2.2.2.1 (Zea x6 1), c.2.2.1, false, false, c.2.2.2.2.2)))) (.leaf none)) (.leaf none)) (.leaf none))
theorem ZzY (a : HL Zh) : Zo (envX Tryz.prog (Zaf 4) [] 1023 8) Tryz.f111 Zh ZN a = Zsk a.1 a.2.1 a.2.2.1 a.2.2.2 := by kernel_rfl
def Zsg (c : TC) (s : Int) (g : List Int) (ln : QT1) : RT (Option TC) :=
 let x1 : QT0 := (c, s == 5, g, (0, 0, 0, 0, 0, 0, 0, 0), [])
 let x2 := qAtC x1 0
 let x3 := Zb c.1 (qAt x1 0)
 let x4 := !x2 || x3.1 == 8
 .br (Zd s) (.leaf (some ((c.1, (rgx c.2.1 c.2.1.2.2.2.2.2.2.2.1 (u16.wrap ((spOf c) - 2)) (Zq s)), c.2.2)))) (.br (!x4 || x2) (.br (x4) (.leaf (some ((c.1, (rgx c.2.1 c.2.1.2.2.2.2.2.2.2.1 (spOf c) (Zr (c, s == 5, g, (8, x3.2), []))), c.2.2.1, false, false, c.2.2.2.2.2)))) (.leaf none)) (.leaf none))
theorem ZzU (a : HL Zh) : Zo (envX Tryz.prog (Zaf 8) [] 1023 8) Tryz.f111 Zh ZN a = Zsg a.1 a.2.1 a.2.2.1 a.2.2.2 := by kernel_rfl
def Znn (c : TC) (s : Int) (g : List Int) (ln : QT1) : RT (Option TC) :=
 let x1 : QT0 := (c, s == 5, g, (0, 0, 0, 0, 0, 0, 0, 0), [])
 let x2 := qAtC x1 0
 let x3 := Zb c.1 (qAt x1 0)
 let x4 := !x2 || x3.1 == 12
 let x5 := x3.2
 let x6 : QT0 := (c, s == 5, g, (12, x5), [])
 let x7 := rDo c.1 x5.2.2.2.2.1 c.2.1.1 (ZfI x6) c.2.1.2.2.2.2.2.2.2.1
 .br (Zd s) (.leaf (some ((c.1, (rgx c.2.1 c.2.1.2.2.2.2.2.2.2.1 (u16.wrap ((spOf c) - 2)) (Zq s)), c.2.2)))) (.br (!x4 || x2) (.br (x4) (.br (Zd9 x6) (.leaf (some ((c.1, (x7.1, c.2.1.2.1, c.2.1.2.2.1, c.2.1.2.2.2.1, c.2.1.2.2.2.2.1, c.2.1.2.2.2.2.2.1, c.2.1.2.2.2.2.2.2.1, x7.2, spOf c, Zr x6), c.2.2.1, false, false, c.2.2.2.2.2)))) (.leaf none)) (.leaf none)) (.leaf none))
theorem ZwN (a : HL Zh) : Zo (envX Tryz.prog (Zaf 12) [] 1023 8) Tryz.f111 Zh ZN a = Znn a.1 a.2.1 a.2.2.1 a.2.2.2 := by kernel_rfl
def Znj (c : TC) (s : Int) (g : List Int) (ln : QT1) : RT (Option TC) :=
 let x1 : QT0 := (c, s == 5, g, (0, 0, 0, 0, 0, 0, 0, 0), [])
 let x2 := qAtC x1 0
 let x3 := Zb c.1 (qAt x1 0)
 let x4 := !x2 || x3.1 == 16
 let x5 := x3.2
 let x6 : QT0 := (c, s == 5, g, (16, x5), [])
 let x7 := x5.2.2.2.1
 let x8 := rInx c.1 (ZcE x6 x7) c.2.1.2.2.2.2.2.2.2.1
 .br (Zd s) (.leaf (some ((c.1, (rgx c.2.1 c.2.1.2.2.2.2.2.2.2.1 (u16.wrap ((spOf c) - 2)) (Zq s)), c.2.2)))) (.br (!x4 || x2) (.br (x4) (.leaf (some ((c.1, ZL (rgx c.2.1 x8.2 (spOf c) (Zr x6)) x7 x8.1, c.2.2.1, false, false, c.2.2.2.2.2)))) (.leaf none)) (.leaf none))
theorem ZwJ (a : HL Zh) : Zo (envX Tryz.prog (Zaf 16) [] 1023 8) Tryz.f111 Zh ZN a = Znj a.1 a.2.1 a.2.2.1 a.2.2.2 := by kernel_rfl
def Znf (c : TC) (s : Int) (g : List Int) (ln : QT1) : RT (Option TC) :=
 let x1 : QT0 := (c, s == 5, g, (0, 0, 0, 0, 0, 0, 0, 0), [])
 let x2 := qAtC x1 0
 let x3 := Zb c.1 (qAt x1 0)
 let x4 := !x2 || x3.1 == 20
 .br (Zd s) (.leaf (some ((c.1, (rgx c.2.1 c.2.1.2.2.2.2.2.2.2.1 (u16.wrap ((spOf c) - 2)) (Zq s)), c.2.2)))) (.br (!x4 || x2) (.br (x4) (.leaf (some ((c.1, (notI u8 c.2.1.1, c.2.1.2.1, c.2.1.2.2.1, c.2.1.2.2.2.1, c.2.1.2.2.2.2.1, c.2.1.2.2.2.2.2.1, c.2.1.2.2.2.2.2.2.1, c.2.1.2.2.2.2.2.2.2.1, spOf c, Zr (c, s == 5, g, (20, x3.2), [])), c.2.2.1, false, false, c.2.2.2.2.2)))) (.leaf none)) (.leaf none))
theorem ZwF (a : HL Zh) : Zo (envX Tryz.prog (Zaf 20) [] 1023 8) Tryz.f111 Zh ZN a = Znf a.1 a.2.1 a.2.2.1 a.2.2.2 := by kernel_rfl
def Znb (c : TC) (s : Int) (g : List Int) (ln : QT1) : RT (Option TC) :=
 let x1 : QT0 := (c, s == 5, g, (0, 0, 0, 0, 0, 0, 0, 0), [])
 let x2 := qAtC x1 0
 let x3 := Zb c.1 (qAt x1 0)
 let x4 := !x2 || x3.1 == 24
 let x5 : QT0 := (c, s == 5, g, (24, x3.2), [])
 let x6 := ZeY x5
 .br (Zd s) (.leaf (some ((c.1, (rgx c.2.1 c.2.1.2.2.2.2.2.2.2.1 (u16.wrap ((spOf c) - 2)) (Zq s)), c.2.2)))) (.br (!x4 || x2) (.br (x4) (.br (!x6 || ZbI x5 1) (.leaf (some ((c.1, (rgx c.2.1 c.2.1.2.2.2.2.2.2.2.1 (spOf c) (bif x6 then Zea x5 1 else Zr x5)), c.2.2.1, false, false, c.2.2.2.2.2)))) (.leaf none)) (.leaf none)) (.leaf none))
theorem ZwB (a : HL Zh) : Zo (envX Tryz.prog (Zaf 24) [] 1023 8) Tryz.f111 Zh ZN a = Znb a.1 a.2.1 a.2.2.1 a.2.2.2 := by kernel_rfl
def Zm7 (c : TC) (s : Int) (g : List Int) (ln : QT1) : RT (Option TC) :=
 let x1 : QT0 := (c, s == 5, g, (0, 0, 0, 0, 0, 0, 0, 0), [])
 let x2 := qAtC x1 0
 let x3 := Zb c.1 (qAt x1 0)
 let x4 := !x2 || x3.1 == 28
 .br (Zd s) (.leaf (some ((c.1, (rgx c.2.1 c.2.1.2.2.2.2.2.2.2.1 (u16.wrap ((spOf c) - 2)) (Zq s)), c.2.2)))) (.br (!x4 || x2) (.br (x4) (.leaf (some ((c.1, (rgx c.2.1 c.2.1.2.2.2.2.2.2.2.1 (spOf c) (ZcE (c, s == 5, g, (28, x3.2), []) 2)), c.2.2.1, false, false, c.2.2.2.2.2)))) (.leaf none)) (.leaf none))
theorem Zwx (a : HL Zh) : Zo (envX Tryz.prog (Zaf 28) [] 1023 8) Tryz.f111 Zh ZN a = Zm7 a.1 a.2.1 a.2.2.1 a.2.2.2 := by kernel_rfl
def Zm3 (c : TC) (s : Int) (g : List Int) (ln : QT1) : RT (Option TC) :=
 let x1 : QT0 := (c, s == 5, g, (0, 0, 0, 0, 0, 0, 0, 0), [])
 let x2 := qAtC x1 0
 let x3 := Zb c.1 (qAt x1 0)
 let x4 := !x2 || x3.1 == 32
 let x5 : QT0 := (c, s == 5, g, (32, x3.2), [])
 .br (Zd s) (.leaf (some ((c.1, (rgx c.2.1 c.2.1.2.2.2.2.2.2.2.1 (u16.wrap ((spOf c) - 2)) (Zq s)), c.2.2)))) (.br (!x4 || x2) (.br (x4) (.br (ZbI x5 1) (.leaf (some ((c.1, ZL (rgx c.2.1 c.2.1.2.2.2.2.2.2.2.1 (spOf c) (Zr x5)) 2 (Zea x5 1), c.2.2.1, false, false, c.2.2.2.2.2)))) (.leaf none)) (.leaf none)) (.leaf none))
theorem Zwt (a : HL Zh) : Zo (envX Tryz.prog (Zaf 32) [] 1023 8) Tryz.f111 Zh ZN a = Zm3 a.1 a.2.1 a.2.2.1 a.2.2.2 := by kernel_rfl
def ZmZ (c : TC) (s : Int) (g : List Int) (ln : QT1) : RT (Option TC) :=
 let x1 : QT0 := (c, s == 5, g, (0, 0, 0, 0, 0, 0, 0, 0), [])
 let x2 := qAtC x1 0
 let x3 := Zb c.1 (qAt x1 0)
 let x4 := !x2 || x3.1 == 36
 .br (Zd s) (.leaf (some ((c.1, (rgx c.2.1 c.2.1.2.2.2.2.2.2.2.1 (u16.wrap ((spOf c) - 2)) (Zq s)), c.2.2)))) (.br (!x4 || x2) (.br (x4) (.leaf (some ((c.1, (rgx c.2.1 c.2.1.2.2.2.2.2.2.2.1 (spOf c) (Zr (c, s == 5, g, (36, x3.2), []))), false, false, false, c.2.2.2.2.2)))) (.leaf none)) (.leaf none))
theorem Zwp (a : HL Zh) : Zo (envX Tryz.prog (Zaf 36) [] 1023 8) Tryz.f111 Zh ZN a = ZmZ a.1 a.2.1 a.2.2.1 a.2.2.2 := by kernel_rfl
def ZmV (c : TC) (s : Int) (g : List Int) (ln : QT1) : RT (Option TC) :=
 let x1 : QT0 := (c, s == 5, g, (0, 0, 0, 0, 0, 0, 0, 0), [])
 let x2 := qAtC x1 0
 let x3 := Zb c.1 (qAt x1 0)
 let x4 := !x2 || x3.1 == 40
 let x5 : QT0 := (c, s == 5, g, (40, x3.2), [])
 let x6 := ZyC (ZcE x5 2) (ZcE x5 0)
 .br (Zd s) (.leaf (some ((c.1, (rgx c.2.1 c.2.1.2.2.2.2.2.2.2.1 (u16.wrap ((spOf c) - 2)) (Zq s)), c.2.2)))) (.br (!x4 || x2) (.br (x4) (.leaf (some ((c.1, ZL (rgx c.2.1 x6.2 (spOf c) (Zr x5)) 2 x6.1, c.2.2.1, false, false, c.2.2.2.2.2)))) (.leaf none)) (.leaf none))
theorem Zwl (a : HL Zh) : Zo (envX Tryz.prog (Zaf 40) [] 1023 8) Tryz.f111 Zh ZN a = ZmV a.1 a.2.1 a.2.2.1 a.2.2.2 := by kernel_rfl
def ZmR (c : TC) (s : Int) (g : List Int) (ln : QT1) : RT (Option TC) :=
 let x1 : QT0 := (c, s == 5, g, (0, 0, 0, 0, 0, 0, 0, 0), [])
 let x2 := qAtC x1 0
 let x3 := Zb c.1 (qAt x1 0)
 let x4 := !x2 || x3.1 == 44
 let x5 : QT0 := (c, s == 5, g, (44, x3.2), [])
 .br (Zd s) (.leaf (some ((c.1, (rgx c.2.1 c.2.1.2.2.2.2.2.2.2.1 (u16.wrap ((spOf c) - 2)) (Zq s)), c.2.2)))) (.br (!x4 || x2) (.br (x4) (.br (qAtC x5 1) (.leaf (some ((c.1, ZL (rgx c.2.1 c.2.1.2.2.2.2.2.2.2.1 (spOf c) (Zr x5)) 1 (u16.wrap ((spOf c) + u16.wrap (qAt x5 1))), c.2.2.1, false, false, c.2.2.2.2.2)))) (.leaf none)) (.leaf none)) (.leaf none))
theorem Zwh (a : HL Zh) : Zo (envX Tryz.prog (Zaf 44) [] 1023 8) Tryz.f111 Zh ZN a = ZmR a.1 a.2.1 a.2.2.1 a.2.2.2 := by kernel_rfl
theorem fp_1 (c) (s : Int) (g : List Int) (l) (n : Int) (hk : (Zb c.1 (g.getD 0 0)).1 = n) : (n = 1 → (Zsn c s g l).val = some (finX c s g l)) ∧ (n = 6 → (Zsi c s g l).val = some (finX c s g l)) ∧ (n = 10 → (Znp c s g l).val = some (finX c s g l)) ∧ (n = 17 → (Zni c s g l).val = some (finX c s g l)) ∧ (n = 21 → (Zne c s g l).val = some (finX c s g l)) ∧ (n = 28 → (Zm7 c s g l).val = some (finX c s g l)) ∧ (n = 33 → (Zm2 c s g l).val = some (finX c s g l)) ∧ (n = 37 → (ZmY c s g l).val = some (finX c s g l)) ∧ (n = 43 → (ZmS c s g l).val = some (finX c s g l)) := by
 refine ⟨?_, ?_, ?_, ?_, ?_, ?_, ?_, ?_, ?_⟩
 all_goals intro e; subst e
 all_goals simp only [Zsn, Zsi, Znp, Zni, Zne, Zm7, Zm2, ZmY, ZmS, RT.val, rgx]
 all_goals simp only [qat0, mat0, qat1, mat1, rg0, hk, Zy, Z1, Zas, ZR, ZS, ZI, ZJ, Zbf, Zbh, Ze0, ZeZ, Zx, Zbg, finX, spOf]
 all_goals generalize Za s = bi
 all_goals cases bi with
 | true => simp [wPC, wSP]
 | false =>
  generalize (s == 5) = bs
  simp only [finI, hk, finR, wPC, wSP, wA, wF, fCY, fVCY, Zd1, flOf, ZK, pcOf, Za8]
  generalize Zb c.1 (g.getD 0 0) = i at hk ⊢
  simp (config := { implicitDefEqProofs := false }) [Zcl, Zcf, ZcV, hk]
theorem fp_2 (c) (s : Int) (g : List Int) (l) (n : Int) (hk : (Zb c.1 (g.getD 0 0)).1 = n) : (n = 3 → (Zsl c s g l).val = some (finX c s g l)) ∧ (n = 7 → (Zsh c s g l).val = some (finX c s g l)) ∧ (n = 11 → (Zno c s g l).val = some (finX c s g l)) ∧ (n = 18 → (Znh c s g l).val = some (finX c s g l)) ∧ (n = 22 → (Znd c s g l).val = some (finX c s g l)) ∧ (n = 29 → (Zm6 c s g l).val = some (finX c s g l)) ∧ (n = 34 → (Zm1 c s g l).val = some (finX c s g l)) ∧ (n = 40 → (ZmV c s g l).val = some (finX c s g l)) ∧ (n = 44 → (ZmR c s g l).val = some (finX c s g l)) := by
 refine ⟨?_, ?_, ?_, ?_, ?_, ?_, ?_, ?_, ?_⟩
 all_goals intro e; subst e
 all_goals simp only [Zsl, Zsh, Zno, Znh, Znd, Zm6, Zm1, ZmV, ZmR, RT.val, rgx]
 all_goals simp only [qat0, mat0, qat1, mat1, rg0, hk, Zy, Z1, Zas, ZR, ZS, ZI, ZJ, Zbf, Zbh, Ze0, ZeZ, Zx, Zbg, finX, spOf]
 all_goals generalize Za s = bi
 all_goals cases bi with
 | true => simp [wPC, wSP]
 | false =>
  generalize (s == 5) = bs
  simp only [finI, hk, finR, wPC, wSP, wA, wF, fCY, fVCY, Zd1, flOf, ZK, pcOf, Za8]
  generalize Zb c.1 (g.getD 0 0) = i at hk ⊢
  simp (config := { implicitDefEqProofs := false }) [Zcl, Zcf, ZcV, hk]
theorem fp_3 (c) (s : Int) (g : List Int) (l) (n : Int) (hk : (Zb c.1 (g.getD 0 0)).1 = n) : (n = 4 → (Zsk c s g l).val = some (finX c s g l)) ∧ (n = 8 → (Zsg c s g l).val = some (finX c s g l)) ∧ (n = 13 → (Znm c s g l).val = some (finX c s g l)) ∧ (n = 19 → (Zng c s g l).val = some (finX c s g l)) ∧ (n = 23 → (Znc c s g l).val = some (finX c s g l)) ∧ (n = 30 → (Zm5 c s g l).val = some (finX c s g l)) ∧ (n = 35 → (Zm0 c s g l).val = some (finX c s g l)) ∧ (n = 41 → (ZmU c s g l).val = some (finX c s g l)) ∧ (n = 46 → (ZmP c s g l).val = some (finX c s g l)) := by
 refine ⟨?_, ?_, ?_, ?_, ?_, ?_, ?_, ?_, ?_⟩
 all_goals intro e; subst e
 all_goals simp only [Zsk, Zsg, Znm, Zng, Znc, Zm5, Zm0, ZmU, ZmP, RT.val, rgx]
 all_goals simp only [qat0, mat0, qat1, mat1, rg0, hk, Zy, Z1, Zas, ZR, ZS, ZI, ZJ, Zbf, Zbh, Ze0, ZeZ, Zx, Zbg, finX, spOf]
 all_goals generalize Za s = bi
 all_goals cases bi with
 | true => simp [wPC, wSP]
 | false =>
  generalize (s == 5) = bs
  simp only [finI, hk, finR, wPC, wSP, wA, wF, fCY, fVCY, Zd1, flOf, ZK, pcOf, Za8]
  generalize Zb c.1 (g.getD 0 0) = i at hk ⊢
  simp (config := { implicitDefEqProofs := false }) [Zcl, Zcf, ZcV, hk]
theorem fp_4 (c) (s : Int) (g : List Int) (l) (n : Int) (hk : (Zb c.1 (g.getD 0 0)).1 = n) : (n = 5 → (Zsj c s g l).val = some (finX c s g l)) ∧ (n = 9 → (Zsf c s g l).val = some (finX c s g l)) ∧ (n = 16 → (Znj c s g l).val = some (finX c s g l)) ∧ (n = 20 → (Znf c s g l).val = some (finX c s g l)) ∧ (n = 27 → (Zm8 c s g l).val = some (finX c s g l)) ∧ (n = 32 → (Zm3 c s g l).val = some (finX c s g l)) ∧ (n = 36 → (ZmZ c s g l).val = some (finX c s g l)) ∧ (n = 42 → (ZmT c s g l).val = some (finX c s g l)) ∧ (n = 47 → (ZmO c s g l).val = some (finX c s g l)) := by
 refine ⟨?_, ?_, ?_, ?_, ?_, ?_, ?_, ?_, ?_⟩
 all_goals intro e; subst e
 all_goals simp only [Zsj, Zsf, Znj, Znf, Zm8, Zm3, ZmZ, ZmT, ZmO, RT.val, rgx]
 all_goals simp only [qat0, mat0, qat1, mat1, rg0, hk, Zy, Z1, Zas, ZR, ZS, ZI, ZJ, Zbf, Zbh, Ze0, ZeZ, Zx, Zbg, finX, spOf]
 all_goals generalize Za s = bi
 all_goals cases bi with
 | true => simp [wPC, wSP]
 | false =>
  generalize (s == 5) = bs
  simp only [finI, hk, finR, wPC, wSP, wA, wF, fCY, fVCY, Zd1, flOf, ZK, pcOf, Za8]
  generalize Zb c.1 (g.getD 0 0) = i at hk ⊢
  simp (config := { implicitDefEqProofs := false }) [Zcl, Zcf, ZcV, hk]
theorem fp_5 (c) (s : Int) (g : List Int) (l) (n : Int) (hk : (Zb c.1 (g.getD 0 0)).1 = n) : (n = 2 → (Zsm c s g l).val = some (finX c s g l)) ∧ (n = 12 → (Znn c s g l).val = some (finX c s g l)) := by
 refine ⟨?_, ?_⟩
 all_goals intro e; subst e
 all_goals simp only [Zsm, Znn, RT.val, rgx]
 all_goals simp only [qat0, mat0, qat1, mat1, rg0, hk, Zy, Z1, Zas, ZR, ZS, ZI, ZJ, Zbf, Zbh, Ze0, ZeZ, Zx, Zbg, finX, spOf]
 all_goals generalize Za s = bi
 all_goals cases bi with
 | true => simp [wPC, wSP]
 | false =>
  generalize (s == 5) = bs
  simp only [finI, hk, finR, wPC, wSP, wA, wF, fCY, fVCY, Zd1, flOf, ZK, pcOf, Za8]
  generalize Zb c.1 (g.getD 0 0) = i at hk ⊢
  generalize (i.2.2.2.1 == 6) = b0
  cases b0 <;> simp (config := { implicitDefEqProofs := false }) [Zcl, Zcf, ZcV, hk]
theorem fp_6 (c) (s : Int) (g : List Int) (l) (n : Int) (hk : (Zb c.1 (g.getD 0 0)).1 = n) : (n = 14 → (Znl c s g l).val = some (finX c s g l)) ∧ (n = 15 → (Znk c s g l).val = some (finX c s g l)) := by
 refine ⟨?_, ?_⟩
 all_goals intro e; subst e
 all_goals simp only [Znl, Znk, RT.val, rgx]
 all_goals simp only [qat0, mat0, qat1, mat1, rg0, hk, Zy, Z1, Zas, ZR, ZS, ZI, ZJ, Zbf, Zbh, Ze0, ZeZ, Zx, Zbg, finX, spOf]
 all_goals generalize Za s = bi
 all_goals cases bi with
 | true => simp [wPC, wSP]
 | false =>
  generalize (s == 5) = bs
  simp only [finI, hk, finR, wPC, wSP, wA, wF, fCY, fVCY, Zd1, flOf, ZK, pcOf, Za8]
  generalize Zb c.1 (g.getD 0 0) = i at hk ⊢
  generalize (i.2.2.1 == 6) = b0
  cases b0 <;> simp (config := { implicitDefEqProofs := false }) [Zcl, Zcf, ZcV, hk]
theorem fp_7 (c) (s : Int) (g : List Int) (l) (n : Int) (hk : (Zb c.1 (g.getD 0 0)).1 = n) : (n = 24 → (Znb c s g l).val = some (finX c s g l)) ∧ (n = 25 → (Zna c s g l).val = some (finX c s g l)) ∧ (n = 26 → (Zm9 c s g l).val = some (finX c s g l)) ∧ (n = 45 → (ZmQ c s g l).val = some (finX c s g l)) := by
 refine ⟨?_, ?_, ?_, ?_⟩
 all_goals intro e; subst e
 all_goals simp only [Znb, Zna, Zm9, ZmQ, RT.val, rgx]
 all_goals simp only [qat0, mat0, qat1, mat1, rg0, hk, Zy, Z1, Zas, ZR, ZS, ZI, ZJ, Zbf, Zbh, Ze0, ZeZ, Zx, Zbg, finX, spOf]
 all_goals generalize Za s = bi
 all_goals cases bi with
 | true => simp [wPC, wSP]
 | false =>
  generalize (s == 5) = bs
  simp only [finI, hk, finR, wPC, wSP, wA, wF, fCY, fVCY, Zd1, flOf, ZK, pcOf, Za8]
  generalize Zb c.1 (g.getD 0 0) = i at hk ⊢
  generalize Zde _ _ = b0
  cases b0 <;> simp (config := { implicitDefEqProofs := false }) [Zcl, Zcf, ZcV, hk]
theorem fp_8 (c) (s : Int) (g : List Int) (l) (n : Int) (hk : (Zb c.1 (g.getD 0 0)).1 = n) : (n = 31 → (Zm4 c s g l).val = some (finX c s g l)) := by
 skip
 all_goals intro e; subst e
 all_goals simp only [Zm4, RT.val, rgx]
 all_goals simp only [qat0, mat0, qat1, mat1, rg0, hk, Zy, Z1, Zas, ZR, ZS, ZI, ZJ, Zbf, Zbh, Ze0, ZeZ, Zx, Zbg, finX, spOf]
 all_goals generalize Za s = bi
 all_goals cases bi with
 | true => simp [wPC, wSP]
 | false =>
  generalize (s == 5) = bs
  simp only [finI, hk, finR, wPC, wSP, wA, wF, fCY, fVCY, Zd1, flOf, ZK, pcOf, Za8]
  generalize Zb c.1 (g.getD 0 0) = i at hk ⊢
  generalize (i.2.2.2.2.1 == 3) = b0
  cases b0 <;> simp (config := { implicitDefEqProofs := false }) [Zcl, Zcf, ZcV, hk]
theorem fp_9 (c) (s : Int) (g : List Int) (l) (n : Int) (hk : (Zb c.1 (g.getD 0 0)).1 = n) : (n = 38 → (ZmX c s g l).val = some (finX c s g l)) := by
 skip
 all_goals intro e; subst e
 all_goals simp only [ZmX, RT.val, rgx]
 all_goals simp only [qat0, mat0, qat1, mat1, rg0, hk, Zy, Z1, Zas, ZR, ZS, ZI, ZJ, Zbf, Zbh, Ze0, ZeZ, Zx, Zbg, finX, spOf]
 all_goals generalize Za s = bi
 all_goals cases bi with
 | true => simp [wPC, wSP]
 | false =>
  generalize (s == 5) = bs
  simp only [finI, hk, finR, wPC, wSP, wA, wF, fCY, fVCY, Zd1, flOf, ZK, pcOf, Za8]
  generalize Zb c.1 (g.getD 0 0) = i at hk ⊢
  simp [Zcl, Zcf, ZcV, hk, ZHp]
theorem fp_10 (c) (s : Int) (g : List Int) (l) (n : Int) (hk : (Zb c.1 (g.getD 0 0)).1 = n) : (n = 39 → (ZmW c s g l).val = some (finX c s g l)) := by
 skip
 all_goals intro e; subst e
 all_goals simp only [ZmW, RT.val, rgx]
 all_goals simp only [qat0, mat0, qat1, mat1, rg0, hk, Zy, Z1, Zas, ZR, ZS, ZI, ZJ, Zbf, Zbh, Ze0, ZeZ, Zx, Zbg, finX, spOf]
 all_goals generalize Za s = bi
 all_goals cases bi with
 | true => simp [wPC, wSP]
 | false =>
  generalize (s == 5) = bs
  simp only [finI, hk, finR, wPC, wSP, wA, wF, fCY, fVCY, Zd1, flOf, ZK, pcOf, Za8]
  generalize Zb c.1 (g.getD 0 0) = i at hk ⊢
  simp [Zcl, Zcf, ZcV, hk, rSim, ZFr, RT.val]
theorem ZF7 (a : HL Zh) (h : okHL Zh a) : ∃ l, Zc8 Tryz.prog l ∧ (Zo (envX Tryz.prog l [] 1023 8) Tryz.f111 Zh ZN a).val = some (finX a.1 a.2.1 a.2.2.1 a.2.2.2) := by
 have hk := ZAP a.1.1 _ (ZBc h.2.2.1)
 refine ⟨Zaf (Zb a.1.1 (a.2.2.1.getD 0 0)).1, ZCX _, ?_⟩
 rcases ZAO hk.1 hk.2 with e | e | e | e | e | e | e | e | e | e | e | e | e | e | e | e | e | e | e | e | e | e | e | e | e | e | e | e | e | e | e | e | e | e | e | e | e | e | e | e | e | e | e | e | e | e | e
 ·rw [e, Zz1 a, ((fp_1 a.1 a.2.1 a.2.2.1 a.2.2.2 _ e).1 rfl)]
 ·rw [e, Zz0 a, ((fp_5 a.1 a.2.1 a.2.2.1 a.2.2.2 _ e).1 rfl)]
 ·rw [e, ZzZ a, ((fp_2 a.1 a.2.1 a.2.2.1 a.2.2.2 _ e).1 rfl)]
 ·rw [e, ZzY a, ((fp_3 a.1 a.2.1 a.2.2.1 a.2.2.2 _ e).1 rfl)]
 ·rw [e, ZzX a, ((fp_4 a.1 a.2.1 a.2.2.1 a.2.2.2 _ e).1 rfl)]
 ·rw [e, ZzW a, ((fp_1 a.1 a.2.1 a.2.2.1 a.2.2.2 _ e).2.1 rfl)]
 ·rw [e, ZzV a, ((fp_2 a.1 a.2.1 a.2.2.1 a.2.2.2 _ e).2.1 rfl)]
 ·rw [e, ZzU a, ((fp_3 a.1 a.2.1 a.2.2.1 a.2.2.2 _ e).2.1 rfl)]
 ·rw [e, ZzT a, ((fp_4 a.1 a.2.1 a.2.2.1 a.2.2.2 _ e).2.1 rfl)]
 ·rw [e, ZwP a, ((fp_1 a.1 a.2.1 a.2.2.1 a.2.2.2 _ e).2.2.1 rfl)]
 ·rw [e, ZwO a, ((fp_2 a.1 a.2.1 a.2.2.1 a.2.2.2 _ e).2.2.1 rfl)]
 ·rw [e, ZwN a, ((fp_5 a.1 a.2.1 a.2.2.1 a.2.2.2 _ e).2 rfl)]
 ·rw [e, ZwM a, ((fp_3 a.1 a.2.1 a.2.2.1 a.2.2.2 _ e).2.2.1 rfl)]
 ·rw [e, ZwL a, ((fp_6 a.1 a.2.1 a.2.2.1 a.2.2.2 _ e).1 rfl)]
 ·rw [e, ZwK a, ((fp_6 a.1 a.2.1 a.2.2.1 a.2.2.2 _ e).2 rfl)]
 ·rw [e, ZwJ a, ((fp_4 a.1 a.2.1 a.2.2.1 a.2.2.2 _ e).2.2.1 rfl)]
 ·rw [e, ZwI a, ((fp_1 a.1 a.2.1 a.2.2.1 a.2.2.2 _ e).2.2.2.1 rfl)]
 ·rw [e, ZwH a, ((fp_2 a.1 a.2.1 a.2.2.1 a.2.2.2 _ e).2.2.2.1 rfl)]
 ·rw [e, ZwG a, ((fp_3 a.1 a.2.1 a.2.2.1 a.2.2.2 _ e).2.2.2.1 rfl)]
 ·rw [e, ZwF a, ((fp_4 a.1 a.2.1 a.2.2.1 a.2.2.2 _ e).2.2.2.1 rfl)]
 ·rw [e, ZwE a, ((fp_1 a.1 a.2.1 a.2.2.1 a.2.2.2 _ e).2.2.2.2.1 rfl)]
 ·rw [e, ZwD a, ((fp_2 a.1 a.2.1 a.2.2.1 a.2.2.2 _ e).2.2.2.2.1 rfl)]
 ·rw [e, ZwC a, ((fp_3 a.1 a.2.1 a.2.2.1 a.2.2.2 _ e).2.2.2.2.1 rfl)]
 ·rw [e, ZwB a, ((fp_7 a.1 a.2.1 a.2.2.1 a.2.2.2 _ e).1 rfl)]
 ·rw [e, ZwA a, ((fp_7 a.1 a.2.1 a.2.2.1 a.2.2.2 _ e).2.1 rfl)]
 ·rw [e, Zwz a, ((fp_7 a.1 a.2.1 a.2.2.1 a.2.2.2 _ e).2.2.1 rfl)]
 ·rw [e, Zwy a, ((fp_4 a.1 a.2.1 a.2.2.1 a.2.2.2 _ e).2.2.2.2.1 rfl)]
 ·rw [e, Zwx a, ((fp_1 a.1 a.2.1 a.2.2.1 a.2.2.2 _ e).2.2.2.2.2.1 rfl)]
 ·rw [e, Zww a, ((fp_2 a.1 a.2.1 a.2.2.1 a.2.2.2 _ e).2.2.2.2.2.1 rfl)]
 ·rw [e, Zwv a, ((fp_3 a.1 a.2.1 a.2.2.1 a.2.2.2 _ e).2.2.2.2.2.1 rfl)]
 ·rw [e, Zwu a, ((fp_8 a.1 a.2.1 a.2.2.1 a.2.2.2 _ e) rfl)]
 ·rw [e, Zwt a, ((fp_4 a.1 a.2.1 a.2.2.1 a.2.2.2 _ e).2.2.2.2.2.1 rfl)]
 ·rw [e, Zws a, ((fp_1 a.1 a.2.1 a.2.2.1 a.2.2.2 _ e).2.2.2.2.2.2.1 rfl)]
 ·rw [e, Zwr a, ((fp_2 a.1 a.2.1 a.2.2.1 a.2.2.2 _ e).2.2.2.2.2.2.1 rfl)]
 ·rw [e, Zwq a, ((fp_3 a.1 a.2.1 a.2.2.1 a.2.2.2 _ e).2.2.2.2.2.2.1 rfl)]
 ·rw [e, Zwp a, ((fp_4 a.1 a.2.1 a.2.2.1 a.2.2.2 _ e).2.2.2.2.2.2.1 rfl)]
 ·rw [e, Zwo a, ((fp_1 a.1 a.2.1 a.2.2.1 a.2.2.2 _ e).2.2.2.2.2.2.2.1 rfl)]
 ·rw [e, Zwn a, ((fp_9 a.1 a.2.1 a.2.2.1 a.2.2.2 _ e) rfl)]
 ·rw [e, Zwm a, ((fp_10 a.1 a.2.1 a.2.2.1 a.2.2.2 _ e) rfl)]
 ·rw [e, Zwl a, ((fp_2 a.1 a.2.1 a.2.2.1 a.2.2.2 _ e).2.2.2.2.2.2.2.1 rfl)]
 ·rw [e, Zwk a, ((fp_3 a.1 a.2.1 a.2.2.1 a.2.2.2 _ e).2.2.2.2.2.2.2.1 rfl)]
 ·rw [e, Zwj a, ((fp_4 a.1 a.2.1 a.2.2.1 a.2.2.2 _ e).2.2.2.2.2.2.2.1 rfl)]
 ·rw [e, Zwi a, ((fp_1 a.1 a.2.1 a.2.2.1 a.2.2.2 _ e).2.2.2.2.2.2.2.2 rfl)]
 ·rw [e, Zwh a, ((fp_2 a.1 a.2.1 a.2.2.1 a.2.2.2 _ e).2.2.2.2.2.2.2.2 rfl)]
 ·rw [e, Zwg a, ((fp_7 a.1 a.2.1 a.2.2.1 a.2.2.2 _ e).2.2.2 rfl)]
 ·rw [e, Zwf a, ((fp_3 a.1 a.2.1 a.2.2.1 a.2.2.2 _ e).2.2.2.2.2.2.2.2 rfl)]
 ·rw [e, Zwe a, ((fp_4 a.1 a.2.1 a.2.2.1 a.2.2.2 _ e).2.2.2.2.2.2.2.2 rfl)]
def Zz2 : Entry := Zm Zh ZN (fun _ => none) (fun a => finX a.1 a.2.1 a.2.2.1 a.2.2.2)
theorem ZzS : Zc Tryz.prog 111 Zz2 := Zuc Tryz.func111 rfl (by kernel_rfl) Tryz.call111 fun a h _ => ZF7 a h
theorem ZvD (c op : Int) (h : c ≠ 2) : Zb c op = Zb 0 op := by unfold Zb; rw [Zin c op h]
abbrev LnT := QT1
abbrev ZuV : List Sh := [Sh.one (R.int i64), Sh.one (R.int i64)]
abbrev ZnG : Rs := Rs.one (Sh.one (R.int i64))
def ZjO (x : Int) (n : Int) : RT (Option (Int)) :=
 .br (IntKind.u64.wrap n != 0) (.leaf (some (i64.wrap (Int.tmod (IntKind.u64.wrap x) (IntKind.u64.wrap n))))) (.leaf none)
def Zdj (x : Int) (n : Int) : Int := getO ZnG.dflt (ZjO x n).val
def Zfh (x : Int) (n : Int) : Bool := okB (ZjO x n).val
def ZsP : Entry := Zm ZuV ZnG (fun a => some (Zfh a.1 a.2)) (fun a => Zdj a.1 a.2)
theorem Zp3 : Zc Tryz.prog 24 ZsP :=
 pureP 31 [] [] ZuV ZnG trivial Tryz.func24 Tryz.call24 trivial (t := fun a => ZjO a.1 a.2) (fun a => by kernel_rfl)
abbrev ZsF : R := R.pair (R.sl (R.int i64)) (R.int i64)
abbrev ZAq : List Sh := [Sh.one (R.int i64)]
abbrev ZsE : Rs := Rs.one (Sh.one (R.int i64))
def ZjE (s : List Int × Int) (n : Int) : RT (Option (QT19)) :=
 let x1 := Ze (i64.wrap (i64.wrap (s.2 + 1) - 1)) (List.length s.1)
 let x2 : Int := R.get (R.int i64) s.1 (i64.wrap (i64.wrap (s.2 + 1) - 1))
 .br (decide (s.2 ≥ iN (List.length s.1))) (.leaf (some ((0, s.1, i64.wrap (s.2 + 1))))) (.br (!x1 || Zfh x2 n) (.br (x1) (.leaf (some ((Zdj x2 n, s.1, i64.wrap (s.2 + 1))))) (.leaf none)) (.leaf none))
def Zw (s : List Int × Int) (n : Int) : QT19 := getO (ZsE.dflt, ZsF.dflt) (ZjE s n).val
def ZbK (s : List Int × Int) (n : Int) : Bool := okB (ZjE s n).val
def ZjF : Entry := boxE ZsF ZAq ZsE (fun a => some (ZbK a.1 a.2)) (fun a => Zw a.1 a.2)
theorem ZeH : Zc Tryz.prog 46 ZjF :=
 Zc2 (P := Tryz.prog) (n := 31) (k := 8) (l := [(24, ZsP)]) (ol := []) ⟨Zp3, trivial⟩ Tryz.func46 rfl (by kernel_rfl) Tryz.call46 trivial (rb := ZsF) (ts := ZAq) (rs := ZsE) (t := fun a => ZjE a.1 a.2) (fun a => by kernel_rfl)
abbrev ZsM : R := R.pair (R.sl (R.int i64)) (R.int i64)
abbrev ZAx : List Sh := []
abbrev ZsL : Rs := Rs.one (Sh.one (R.int u8))
def ZjH (s : List Int × Int) : RT (Option (QT19)) :=
 let x1 : List Int := [0, 1, 127, 128, 255, 15, 16, 153, 154, 9, 102, 254, 129, 85, 170, 64]
 .br (ZbK s 512) (.br (!decide ((Zw s 512).1 ≥ 256) || Ze (Int.tmod (Zw s 512).1 16) (List.length x1)) (.br (decide ((Zw s 512).1 ≥ 256)) (.leaf (some ((R.get (R.int u8) x1 (Int.tmod (Zw s 512).1 16), (Zw s 512).2)))) (.leaf (some ((u8.wrap (Zw s 512).1, (Zw s 512).2))))) (.leaf none)) (.leaf none)
def Zf (s : List Int × Int) : QT19 := getO (ZsL.dflt, ZsM.dflt) (ZjH s).val
def Zak (s : List Int × Int) : Bool := okB (ZjH s).val
def ZEH : Entry := boxE ZsM ZAx ZsL (fun a => some (Zak a.1 )) (fun a => Zf a.1 )
theorem ZDh : Zc Tryz.prog 108 ZEH :=
 Zc2 (P := Tryz.prog) (n := 15) (k := 8) (l := [(46, ZjF)]) (ol := []) ⟨ZeH, trivial⟩ Tryz.func108 rfl (by kernel_rfl) Tryz.call108 trivial (rb := ZsM) (ts := ZAx) (rs := ZsL) (t := fun a => ZjH a.1 ) (fun a => by kernel_rfl)
abbrev ZsB : R := R.pair (R.sl (R.int i64)) (R.int i64)
abbrev ZAo : List Sh := []
abbrev ZsA : Rs := Rs.one (Sh.one (R.int u16))
def ZfX (s : List Int × Int) : RT (Option (QT19)) :=
 let x1 : List Int := [0, 1, 65535, 65534, 32767, 32768, 255, 256]
 let x2 := !(Zw s 5).1 == 0 || (!ZbK (Zw s 5).2 8 || Ze (Zw (Zw s 5).2 8).1 (List.length x1))
 let x3 := !x2
 let x4 := !(Zw s 5).1 == 0 || ZbK (Zw s 5).2 8
 .br (ZbK s 5) (.br (x3 || (!x4 || ((Zw s 5).1 == 0 || (!(Zw s 5).1 == 1 || ZbK (Zw s 5).2 65536)))) (.br (x3 || x4) (.br (x2) (.br ((Zw s 5).1 == 0) (.leaf (some ((R.get (R.int u16) x1 (Zw (Zw s 5).2 8).1, (Zw (Zw s 5).2 8).2)))) (.br ((Zw s 5).1 == 1) (.leaf (some ((u16.wrap (Zw (Zw s 5).2 65536).1, (Zw (Zw s 5).2 65536).2)))) (.br (ZbK (Zw s 5).2 64) (.leaf (some ((u16.wrap (Zw (Zw s 5).2 64).1, (Zw (Zw s 5).2 64).2)))) (.leaf none)))) (.leaf none)) (.leaf none)) (.leaf none)) (.leaf none)
def ZdP (s : List Int × Int) : QT19 := getO (ZsA.dflt, ZsB.dflt) (ZfX s).val
def ZjC (s : List Int × Int) : Bool := okB (ZfX s).val
def ZEC : Entry := boxE ZsB ZAo ZsA (fun a => some (ZjC a.1 )) (fun a => ZdP a.1 )
theorem ZDb : Zc Tryz.prog 137 ZEC :=
 Zc2 (P := Tryz.prog) (n := 4135) (k := 8) (l := [(46, ZjF)]) (ol := []) ⟨ZeH, trivial⟩ Tryz.func137 rfl (by kernel_rfl) Tryz.call137 trivial (rb := ZsB) (ts := ZAo) (rs := ZsA) (t := fun a => ZfX a.1 ) (fun a => by kernel_rfl)
abbrev ZsJ : R := R.pair (R.sl (R.int i64)) (R.int i64)
abbrev ZAu : List Sh := []
abbrev ZsI : Rs := Rs.one (Sh.one (R.int i64))
def ZpT (s : List Int × Int) : RT (Option (QT19)) :=
 .br (ZbK s 2) (.leaf (some ((i64.wrap (1 + (Zw s 2).1), (Zw s 2).2)))) (.leaf none)
def Z3 (s : List Int × Int) : QT19 := getO (ZsI.dflt, ZsJ.dflt) (ZpT s).val
def ZuR (s : List Int × Int) : Bool := okB (ZpT s).val
def ZEF : Entry := boxE ZsJ ZAu ZsI (fun a => some (ZuR a.1 )) (fun a => Z3 a.1 )
theorem ZDf : Zc Tryz.prog 72 ZEF :=
 Zc2 (P := Tryz.prog) (n := 7) (k := 8) (l := [(46, ZjF)]) (ol := []) ⟨ZeH, trivial⟩ Tryz.func72 rfl (by kernel_rfl) Tryz.call72 trivial (rb := ZsJ) (ts := ZAu) (rs := ZsI) (t := fun a => ZpT a.1 ) (fun a => by kernel_rfl)
abbrev Znz : R := R.pair (R.sl (R.int i64)) (R.int i64)
abbrev ZuO : List Sh := [Sh.one (R.int i64)]
abbrev Zny : Rs := Rs.one (Sh.agg rcF7)
def ZjG (s : List Int × Int) (chip : Int) : RT (Option (TF × List Int × Int)) :=
 .br (ZbK s 128) (.leaf (some (((andI i64 (Zw s 128).1 1 != 0, andI i64 (Zw s 128).1 2 != 0, chip == 2 && andI i64 (Zw s 128).1 32 != 0, andI i64 (Zw s 128).1 4 != 0, andI i64 (Zw s 128).1 8 != 0, chip == 2 && andI i64 (Zw s 128).1 64 != 0, andI i64 (Zw s 128).1 16 != 0), (Zw s 128).2)))) (.leaf none)
def ZcG (s : List Int × Int) (chip : Int) : TF × List Int × Int := getO (Zny.dflt, Znz.dflt) (ZjG s chip).val
def ZnA (s : List Int × Int) (chip : Int) : Bool := okB (ZjG s chip).val
def ZAs : Entry := boxE Znz ZuO Zny (fun a => some (ZnA a.1 a.2)) (fun a => ZcG a.1 a.2)
theorem ZAr : Zc Tryz.prog 136 ZAs :=
 Zc2 (P := Tryz.prog) (n := 127) (k := 8) (l := [(46, ZjF)]) (ol := []) ⟨ZeH, trivial⟩ Tryz.func136 rfl (by kernel_rfl) Tryz.call136 trivial (rb := Znz) (ts := ZuO) (rs := Zny) (t := fun a => ZjG a.1 a.2) (fun a => by kernel_rfl)
abbrev ZsD : R := R.pair (R.sl (R.int i64)) (R.int i64)
abbrev ZAp : List Sh := [Sh.one (R.int i64)]
abbrev ZsC : Rs := Rs.one (Sh.agg Zio)
def ZjD (s : List Int × Int) (chip : Int) : RT (Option (TR × List Int × Int)) :=
 let x1 := Zf (Zf (Zf (Zf (Zf (Zf (Zf s).2).2).2).2).2).2
 let x2 := x1.2
 let x3 := ZnA x2 chip
 let x4 := !x3
 let x5 := ZcG x2 chip
 let x6 := x5.2
 let x7 := ZjC x6
 let x8 := ZdP x6
 let x9 := x8.2
 let x10 := ZdP x9
 .br (!Zak s || (!Zak (Zf s).2 || (!Zak (Zf (Zf s).2).2 || (!Zak (Zf (Zf (Zf s).2).2).2 || (!Zak (Zf (Zf (Zf (Zf s).2).2).2).2 || (!Zak (Zf (Zf (Zf (Zf (Zf s).2).2).2).2).2 || Zak (Zf (Zf (Zf (Zf (Zf (Zf s).2).2).2).2).2).2)))))) (.br (!Zak s || (!Zak (Zf s).2 || (!Zak (Zf (Zf s).2).2 || (!Zak (Zf (Zf (Zf s).2).2).2 || (!Zak (Zf (Zf (Zf (Zf s).2).2).2).2 || Zak (Zf (Zf (Zf (Zf (Zf s).2).2).2).2).2))))) (.br (!Zak s || (!Zak (Zf s).2 || (!Zak (Zf (Zf s).2).2 || (!Zak (Zf (Zf (Zf s).2).2).2 || Zak (Zf (Zf (Zf (Zf s).2).2).2).2)))) (.br (!Zak s || (!Zak (Zf s).2 || (!Zak (Zf (Zf s).2).2 || Zak (Zf (Zf (Zf s).2).2).2))) (.br (!Zak s || (!Zak (Zf s).2 || Zak (Zf (Zf s).2).2)) (.br (!Zak s || Zak (Zf s).2) (.br (Zak s) (.br (x4 || (!x7 || ZjC x9)) (.br (x4 || x7) (.br (x3) (.leaf (some ((((Zf s).1, (Zf (Zf s).2).1, (Zf (Zf (Zf s).2).2).1, (Zf (Zf (Zf (Zf s).2).2).2).1, (Zf (Zf (Zf (Zf (Zf s).2).2).2).2).1, (Zf (Zf (Zf (Zf (Zf (Zf s).2).2).2).2).2).1, x1.1, x5.1, x8.1, x10.1), x10.2)))) (.leaf none)) (.leaf none)) (.leaf none)) (.leaf none)) (.leaf none)) (.leaf none)) (.leaf none)) (.leaf none)) (.leaf none)) (.leaf none)
def Zei (s : List Int × Int) (chip : Int) : TR × List Int × Int := getO (ZsC.dflt, ZsD.dflt) (ZjD s chip).val
def ZpR (s : List Int × Int) (chip : Int) : Bool := okB (ZjD s chip).val
def ZED : Entry := boxE ZsD ZAp ZsC (fun a => some (ZpR a.1 a.2)) (fun a => Zei a.1 a.2)
theorem ZDc : Zc Tryz.prog 73 ZED :=
 Zc2 (P := Tryz.prog) (n := 63) (k := 8) (l := [(108, ZEH), (136, ZAs), (137, ZEC)]) (ol := []) ⟨ZDh, ZAr, ZDb, trivial⟩ Tryz.func73 rfl (by kernel_rfl) Tryz.call73 trivial (rb := ZsD) (ts := ZAp) (rs := ZsC) (t := fun a => ZjD a.1 a.2) (fun a => by kernel_rfl)
def NB (s : List Int × Int) (k : Int) : Prop := 0 ≤ s.2 ∧ s.2 ≤ k
theorem Zp4 (x n : Int) (h0 : 0 < n) (h1 : n ≤ 4611686018427387904) : Zfh x n = true ∧ Zdj x n = (x % 18446744073709551616) % n := by
 have e : IntKind.wrap .u64 n = n := Zh2 ⟨by simp [IntKind.min, IntKind.signed]; omega, by simp [IntKind.max, IntKind.signed, IntKind.bits]; omega⟩
 have e2 : IntKind.wrap .u64 x = x % 18446744073709551616 := by simp [IntKind.wrap, IntKind.signed, IntKind.bits]
 have hn : (n != 0) = true := by simp; omega
 have h2 : 0 ≤ x % 18446744073709551616 := Int.emod_nonneg _ (by decide)
 have h3 := Int.emod_nonneg (x % 18446744073709551616) (b := n) (by omega)
 have h4 := Int.emod_lt_of_pos (x % 18446744073709551616) (b := n) h0
 have hv : (ZjO x n).val = some ((x % 18446744073709551616) % n) := by
  simp only [ZjO, RT.val, e, e2, hn, cond_true, Int.tmod_eq_emod_of_nonneg h2]
  rw [wrap_i64 _ (by omega) (by omega)]
 exact ⟨by simp only [Zfh, hv]; rfl, by simp only [Zdj, hv, getO]⟩
theorem Zay {s : List Int × Int} {k : Int} (h : NB s k) (hk : k ≤ 1000000) (n : Int) (h0 : 0 < n) (h1 : n ≤ 4611686018427387904) :
  ZbK s n = true ∧ NB (Zw s n).2 (k + 1) ∧ 0 ≤ (Zw s n).1 ∧ (Zw s n).1 < n := by
 obtain ⟨ha, hb⟩ := h
 have e1 : IntKind.wrap .i64 (s.2 + 1) = s.2 + 1 := wrap_i64 _ (by omega) (by omega)
 have e2 : IntKind.wrap .i64 s.2 = s.2 := wrap_i64 _ (by omega) (by omega)
 by_cases hl : (s.1.length : Int) ≤ s.2
 ·have hv : (ZjE s n).val = some (0, s.1, s.2 + 1) := by simp [ZjE, RT.val, iN, hl, e1]
  simp only [ZbK, Zw, hv, okB, getO, NB]
  exact ⟨trivial, ⟨by omega, by omega⟩, by omega, h0⟩
 ·have hr : Ze s.2 s.1.length = true := Zbi.2 ⟨ha, by omega⟩
  obtain ⟨p1, p2⟩ := Zp4 (R.get (R.int i64) s.1 s.2) n h0 h1
  have h3 := Int.emod_nonneg (R.get (R.int i64) s.1 s.2 % 18446744073709551616) (b := n) (by omega)
  have h4 := Int.emod_lt_of_pos (R.get (R.int i64) s.1 s.2 % 18446744073709551616) (b := n) h0
  have hv : (ZjE s n).val = some ((R.get (R.int i64) s.1 s.2 % 18446744073709551616) % n, s.1, s.2 + 1) := by simp [ZjE, RT.val, iN, hl, e1, e2, hr, p1, p2]
  simp only [ZbK, Zw, hv, okB, getO, NB]
  exact ⟨trivial, ⟨by omega, by omega⟩, h3, h4⟩
theorem ZaQ {s : List Int × Int} {k : Int} (h : NB s k) (hk : k ≤ 1000000) : Zak s = true ∧ NB (Zf s).2 (k + 1) ∧ inR .u8 (Zf s).1 := by
 obtain ⟨c, b, d0, d1⟩ := Zay h hk 512 (by decide) (by decide)
 have m0 : 0 ≤ (Zw s 512).1 % 16 := Int.emod_nonneg _ (by decide)
 have m1 : (Zw s 512).1 % 16 < 16 := Int.emod_lt_of_pos _ (by decide)
 have ht : Int.tmod (Zw s 512).1 16 = (Zw s 512).1 % 16 := Int.tmod_eq_emod_of_nonneg d0
 by_cases hn : 256 ≤ (Zw s 512).1
 ·have hv : (ZjH s).val = some (R.get (R.int u8) [0, 1, 127, 128, 255, 15, 16, 153, 154, 9, 102, 254, 129, 85, 170, 64] ((Zw s 512).1 % 16), (Zw s 512).2) := by
   simp [ZjH, RT.val, c, hn, ht, Ze, m0, m1]
  simp only [Zak, Zf, hv, okB, getO]
  refine ⟨trivial, b, ?_⟩
  have hall : ∀ i : Nat, i < 16 → inR .u8 (([0, 1, 127, 128, 255, 15, 16, 153, 154, 9, 102, 254, 129, 85, 170, 64] : List Int).getD i 0) := by
   intro i hi
   have : ∀ i : Fin 16, decide (0 ≤ ([0, 1, 127, 128, 255, 15, 16, 153, 154, 9, 102, 254, 129, 85, 170, 64] : List Int).getD i 0) && decide (([0, 1, 127, 128, 255, 15, 16, 153, 154, 9, 102, 254, 129, 85, 170, 64] : List Int).getD i 0 ≤ 255) := by decide
   have := this ⟨i, hi⟩
   rw [Zj5]; simpa using this
  exact hall ((Zw s 512).1 % 16).toNat (by omega)
 ·have hv : (ZjH s).val = some (IntKind.wrap .u8 (Zw s 512).1, (Zw s 512).2) := by simp [ZjH, RT.val, c, hn]
  simp only [Zak, Zf, hv, okB, getO]
  exact ⟨trivial, b, ZaB _ _⟩
theorem ZhU {s : List Int × Int} {k : Int} (h : NB s k) (hk : k ≤ 900000) : ZjC s = true ∧ NB (ZdP s).2 (k + 2) ∧ inR .u16 (ZdP s).1 := by
 obtain ⟨c, b, d0, d1⟩ := Zay h (by omega) 5 (by decide) (by decide)
 obtain ⟨c8, b8, e0, e1⟩ := Zay b (by omega) 8 (by decide) (by decide)
 obtain ⟨c6, b6, _⟩ := Zay b (by omega) 65536 (by decide) (by decide)
 obtain ⟨c4, b4, _⟩ := Zay b (by omega) 64 (by decide) (by decide)
 have w : ∀ {t : List Int × Int}, NB t (k + 1 + 1) → NB t (k + 2) := fun h => ⟨h.1, by have := h.2; omega⟩
 have hr : Ze (Zw (Zw s 5).2 8).1 8 = true := Zbi.2 ⟨e0, by omega⟩
 by_cases h0 : (Zw s 5).1 = 0
 ·have hv : (ZfX s).val = some (R.get (R.int u16) [0, 1, 65535, 65534, 32767, 32768, 255, 256] (Zw (Zw s 5).2 8).1, (Zw (Zw s 5).2 8).2) := by
   simp [ZfX, RT.val, c, h0, c8, hr]
  simp only [ZjC, ZdP, hv, okB, getO]
  refine ⟨trivial, w b8, ?_⟩
  have hall : ∀ i : Nat, i < 8 → inR .u16 (([0, 1, 65535, 65534, 32767, 32768, 255, 256] : List Int).getD i 0) := by
   intro i hi
   have : ∀ i : Fin 8, decide (0 ≤ ([0, 1, 65535, 65534, 32767, 32768, 255, 256] : List Int).getD i 0) && decide (([0, 1, 65535, 65534, 32767, 32768, 255, 256] : List Int).getD i 0 ≤ 65535) := by decide
   have := this ⟨i, hi⟩
   simp only [Bool.and_eq_true, decide_eq_true_eq] at this
   exact ⟨by simpa [IntKind.min, IntKind.signed] using this.1, by simpa [IntKind.max, IntKind.signed, IntKind.bits] using this.2⟩
  exact hall (Zw (Zw s 5).2 8).1.toNat (by omega)
 ·by_cases h1 : (Zw s 5).1 = 1
  ·have hv : (ZfX s).val = some (IntKind.wrap .u16 (Zw (Zw s 5).2 65536).1, (Zw (Zw s 5).2 65536).2) := by simp [ZfX, RT.val, c, h1, c6]
   simp only [ZjC, ZdP, hv, okB, getO]
   exact ⟨trivial, w b6, ZaB _ _⟩
  ·have hv : (ZfX s).val = some (IntKind.wrap .u16 (Zw (Zw s 5).2 64).1, (Zw (Zw s 5).2 64).2) := by
    have g0 : ((Zw s 5).1 == 0) = false := by simpa using h0
    have g1 : ((Zw s 5).1 == 1) = false := by simpa using h1
    simp [ZfX, RT.val, c, g0, g1, c4]
   simp only [ZjC, ZdP, hv, okB, getO]
   exact ⟨trivial, w b4, ZaB _ _⟩
theorem ZuQ {s : List Int × Int} {k : Int} (h : NB s k) (hk : k ≤ 1000000) : ZuR s = true ∧ NB (Z3 s).2 (k + 1) ∧ ((Z3 s).1 = 1 ∨ (Z3 s).1 = 2) := by
 obtain ⟨c, b, d0, d1⟩ := Zay h hk 2 (by decide) (by decide)
 have hv : (ZpT s).val = some (1 + (Zw s 2).1, (Zw s 2).2) := by simp [ZpT, RT.val, c]; rw [wrap_i64 _ (by omega) (by omega)]
 simp only [ZuR, Z3, hv, okB, getO]
 exact ⟨trivial, b, by omega⟩
theorem ZpS {s : List Int × Int} {k : Int} (h : NB s k) (hk : k ≤ 1000000) (c : Int) : ZnA s c = true ∧ NB (ZcG s c).2 (k + 1) := by
 obtain ⟨c1, b, _⟩ := Zay h hk 128 (by decide) (by decide)
 simp only [ZnA, ZcG, ZjG, RT.val, c1, cond_true, okB, getO]
 exact ⟨trivial, b⟩
def ZIC (r : Int × Int × Int × Int × Int × Int × Int × (Bool × Bool × Bool × Bool × Bool × Bool × Bool) × Int × Int) : Prop :=
 inR .u8 r.1 ∧ inR .u8 r.2.1 ∧ inR .u8 r.2.2.1 ∧ inR .u8 r.2.2.2.1 ∧ inR .u8 r.2.2.2.2.1 ∧ inR .u8 r.2.2.2.2.2.1 ∧ inR .u8 r.2.2.2.2.2.2.1 ∧ inR .u16 r.2.2.2.2.2.2.2.2.1 ∧ inR .u16 r.2.2.2.2.2.2.2.2.2
theorem ZuN {s : List Int × Int} {k : Int} (h : NB s k) (hk : k ≤ 800000) (c : Int) : ZpR s c = true ∧ NB (Zei s c).2 (k + 12) ∧ ZIC (Zei s c).1 := by
 obtain ⟨c1, b1, r1⟩ := ZaQ h (by omega)
 obtain ⟨c2, b2, r2⟩ := ZaQ b1 (by omega)
 obtain ⟨c3, b3, r3⟩ := ZaQ b2 (by omega)
 obtain ⟨c4, b4, r4⟩ := ZaQ b3 (by omega)
 obtain ⟨c5, b5, r5⟩ := ZaQ b4 (by omega)
 obtain ⟨c6, b6, r6⟩ := ZaQ b5 (by omega)
 obtain ⟨c7, b7, r7⟩ := ZaQ b6 (by omega)
 obtain ⟨c8, b8⟩ := ZpS b7 (by omega) c
 obtain ⟨c9, b9, r9⟩ := ZhU b8 (by omega)
 obtain ⟨c10, b10, r10⟩ := ZhU b9 (by omega)
 have hv : (ZjD s c).val = some (((Zf s).1, (Zf (Zf s).2).1, (Zf (Zf (Zf s).2).2).1, (Zf (Zf (Zf (Zf s).2).2).2).1, (Zf (Zf (Zf (Zf (Zf s).2).2).2).2).1, (Zf (Zf (Zf (Zf (Zf (Zf s).2).2).2).2).2).1, (Zf (Zf (Zf (Zf (Zf (Zf (Zf s).2).2).2).2).2).2).1, (ZcG (Zf (Zf (Zf (Zf (Zf (Zf (Zf s).2).2).2).2).2).2).2 c).1, (ZdP (ZcG (Zf (Zf (Zf (Zf (Zf (Zf (Zf s).2).2).2).2).2).2).2 c).2).1, (ZdP (ZdP (ZcG (Zf (Zf (Zf (Zf (Zf (Zf (Zf s).2).2).2).2).2).2).2 c).2).2).1), (ZdP (ZdP (ZcG (Zf (Zf (Zf (Zf (Zf (Zf (Zf s).2).2).2).2).2).2).2 c).2).2).2) := by
  simp only [ZjD, RT.val, c1, c2, c3, c4, c5, c6, c7, c8, c9, c10, Bool.not_true, Bool.false_or, cond_true, Bool.or_true]
 simp only [ZpR, Zei, hv, okB, getO]
 exact ⟨trivial, ⟨b10.1, by have := b10.2; omega⟩, r1, r2, r3, r4, r5, r6, r7, r9, r10⟩
theorem ZBj (l : List Int) : NB (l, 0) 0 := ⟨by simp, by simp⟩
end
end Go.Proofs.YtghoimllhpjkjaaGreat
