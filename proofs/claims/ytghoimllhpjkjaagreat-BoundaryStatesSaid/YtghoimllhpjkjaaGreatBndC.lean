/-
  BoundaryStates: the state and the cycles of any event in any state. Conditions: none.
-/
import Derived.Test.YtghoimllhpjkjaaGreatS3D
import Derived.Test.YtghoimllhpjkjaaGreatProg
import Derived.Test.YtghoimllhpjkjaaGreatRunL
import Derived.Test.YtghoimllhpjkjaaGreatS3New
import Derived.Test.YtghoimllhpjkjaaGreatS3Stg
import Derived.Test.YtghoimllhpjkjaaGreatMakeOk5
set_option linter.unusedSimpArgs false
open Go Go.S3 Go.Proofs
set_option linter.unusedVariables false
set_option maxRecDepth 100000
namespace Go.Proofs.YtghoimllhpjkjaaGreat
noncomputable section
end
end Go.Proofs.YtghoimllhpjkjaaGreat
open Go Go.S3 Go.Proofs Go.Proofs.Cells
namespace Go.Proofs.YtghoimllhpjkjaaGreat
noncomputable section
end
end Go.Proofs.YtghoimllhpjkjaaGreat
open Go.IntKind (u8 u16 i64)
namespace Go.Proofs.YtghoimllhpjkjaaGreat
noncomputable section
abbrev ZwF : R := R.pair (R.sl (R.int i64)) (R.int i64)
abbrev ZFY : List Sh := []
abbrev ZwE : Rs := Rs.one (Sh.one R.bool)
def ZyT (s : List Int × Int) : RT (Option (Bool × List Int × Int)) :=
 .br (ZB s 2) (.leaf (some (((Ze s 2).1 == 1, (Ze s 2).2)))) (.leaf none)
def Zf4 (s : List Int × Int) : Bool × List Int × Int := getO (ZwE.dflt, ZwF.dflt) (ZyT s).val
def ZgR (s : List Int × Int) : Bool := okB (ZyT s).val
def ZKw : Entry := boxE ZwF ZFY ZwE (fun a => some (ZgR a.1 )) (fun a => Zf4 a.1 )
theorem ZII : Zc Tryz.prog 74 ZKw :=
 Zcv (P := Tryz.prog) (n := 7) (k := 8) (l := [(46, ZcH)]) (ol := []) ⟨ZbH, trivial⟩ Tryz.func74 rfl (by kernel_rfl) Tryz.call74 trivial (rb := ZwF) (ts := ZFY) (rs := ZwE) (t := fun a => ZyT a.1 ) (fun a => by kernel_rfl)
abbrev ZF2 : R := R.pair (R.sl (R.int i64)) (R.int i64)
abbrev ZKy : List Sh := []
abbrev ZF1 : Rs := Rs.one (Sh.agg Z3)
def ZF0 (s : List Int × Int) : RT (Option (TC × List Int × Int)) :=
 let x1 := Ze (Ze (Zf4 (ZhE (ZaB s).2 (ZaB s).1).2).2 5).2 8
 let x2 := x1.2
 let x3 := ZB x2 5
 let x4 := !x3
 let x5 := Ze x2 5
 let x6 := x5.2
 let x7 := ZgR x6
 let x8 := !x7
 let x9 := Zf4 x6
 let x10 := x9.2
 let x11 := ZgR x10
 let x12 := Zf4 x10
 let x13 := x12.2
 let x14 := Zf4 x13
 let x15 := x14.2
 let x16 := ZB x15 4
 let x17 := !x16
 let x18 := Ze x15 4
 let x19 := x18.2
 let x20 := ZgR x19
 let x21 := Zf4 x19
 let x22 := x21.2
 let x23 := Zf4 x22
 let x24 := x23.2
 .br (ZyU s) (.br (!ZsG (ZaB s).2 (ZaB s).1 || ZgR (ZhE (ZaB s).2 (ZaB s).1).2) (.br (ZsG (ZaB s).2 (ZaB s).1) (.br (ZB (Zf4 (ZhE (ZaB s).2 (ZaB s).1).2).2 5) (.br (!(ZaB s).1 == 2 || ZB (Ze (Zf4 (ZhE (ZaB s).2 (ZaB s).1).2).2 5).2 8) (.br (!(ZaB s).1 == 2 || (x4 || (x8 || (!x11 || ZgR x13)))) (.br (!(ZaB s).1 == 2 || (x4 || (x8 || x11))) (.br (!(ZaB s).1 == 2 || (x4 || x7)) (.br (!(ZaB s).1 == 2 || x3) (.br (!(ZaB s).1 == 2 || (x17 || (!x20 || ZgR x22))) (.br (!(ZaB s).1 == 2 || (x17 || x20)) (.br (!(ZaB s).1 == 2 || x16) (.leaf (some ((((ZaB s).1, (ZhE (ZaB s).2 (ZaB s).1).1, (Zf4 (ZhE (ZaB s).2 (ZaB s).1).2).1, (Ze (Zf4 (ZhE (ZaB s).2 (ZaB s).1).2).2 5).1 == 0, false, bif (ZaB s).1 == 2 then u8.wrap x1.1 else 0, (ZaB s).1 == 2 && x5.1 == 0, (ZaB s).1 == 2 && x9.1, (ZaB s).1 == 2 && x12.1, (ZaB s).1 == 2 && x14.1, (ZaB s).1 == 2 && x18.1 == 0, (ZaB s).1 == 2 && x21.1, (ZaB s).1 == 2 && x23.1), bif (ZaB s).1 == 2 then x24.1 else (Ze (Zf4 (ZhE (ZaB s).2 (ZaB s).1).2).2 5).2.1, bif (ZaB s).1 == 2 then x24.2 else (Ze (Zf4 (ZhE (ZaB s).2 (ZaB s).1).2).2 5).2.2)))) (.leaf none)) (.leaf none)) (.leaf none)) (.leaf none)) (.leaf none)) (.leaf none)) (.leaf none)) (.leaf none)) (.leaf none)) (.leaf none)) (.leaf none)) (.leaf none)
def nCPU (s : List Int × Int) : TC × List Int × Int := getO (ZF1.dflt, ZF2.dflt) (ZF0 s).val
def ZIL (s : List Int × Int) : Bool := okB (ZF0 s).val
def ZBN : Entry := boxE ZF2 ZKy ZF1 (fun a => some (ZIL a.1 )) (fun a => nCPU a.1 )
theorem ZwI : Zc Tryz.prog 23 ZBN :=
 Zcv (P := Tryz.prog) (n := 31) (k := 8) (l := [(46, ZcH), (72, ZKx), (73, ZKv), (74, ZKw)]) (ol := []) ⟨ZbH, ZIJ, ZIG, ZII, trivial⟩ Tryz.func23 rfl (by kernel_rfl) Tryz.call23 trivial (rb := ZF2) (ts := ZKy) (rs := ZF1) (t := fun a => ZF0 a.1 ) (fun a => by kernel_rfl)
abbrev ZhG : R := R.pair (R.sl (R.int i64)) (R.int i64)
abbrev Znh : List Sh := [Sh.one (R.int i64)]
abbrev ZhF : Rs := Rs.one (Sh.one (R.sl (R.int u8)))
def ZwB : LS := { n := 75, slots := [(0, .fix (A.loc 0 0)), (5, .tip 0), (6, .code (Sh.one (R.int i64)))], boxes := [[.many (R.pair (R.sl (R.int i64)) (R.int i64))]], stgs := [⟨(R.int u8), 5, true⟩] }
def Zcg (a : QT17) : RT (Option (Go1 (QT17))) :=
 let x1 := Zf (Ze (Ze a.2.1 8).2 4).1 (List.length [33, 49, 1, 17])
 let x2 := !x1
 let x3 := ZB (Ze (Ze (Ze a.2.1 8).2 4).2 256).2 4
 let x4 := !x3
 let x5 := Ze (Ze (Ze (Ze a.2.1 8).2 4).2 256).2 4
 let x6 := x5.1
 let x7 := Zf x6 (List.length [0, 0, 1, 255])
 let x8 : List Int := a.2.2.1 ++ [R.get (R.int u8) [33, 49, 1, 17] (Ze (Ze a.2.1 8).2 4).1, u8.wrap (Ze (Ze (Ze a.2.1 8).2 4).2 256).1, R.get (R.int u8) [0, 0, 1, 255] x6]
 let x9 := !(Ze a.2.1 8).1 == 0 || (!ZB (Ze a.2.1 8).2 4 || (x2 || (!ZB (Ze (Ze a.2.1 8).2 4).2 256 || (x4 || (!x7 || Nat.ble (List.length x8) most)))))
 let x10 := !x9
 let x11 := !(Ze a.2.1 8).1 == 0 || (!ZB (Ze a.2.1 8).2 4 || (x2 || (!ZB (Ze (Ze a.2.1 8).2 4).2 256 || (x4 || x7))))
 let x12 := !x11
 let x13 := !(Ze a.2.1 8).1 == 0 || (!ZB (Ze a.2.1 8).2 4 || (x2 || (!ZB (Ze (Ze a.2.1 8).2 4).2 256 || x3)))
 let x14 := !x13
 let x15 := !(Ze a.2.1 8).1 == 0 || (!ZB (Ze a.2.1 8).2 4 || (x2 || ZB (Ze (Ze a.2.1 8).2 4).2 256))
 let x16 := !x15
 let x17 := !(Ze a.2.1 8).1 == 0 || (!ZB (Ze a.2.1 8).2 4 || x1)
 let x18 := !x17
 let x19 := !(Ze a.2.1 8).1 == 0 || ZB (Ze a.2.1 8).2 4
 let x20 := !x19
 let x21 : List Int := a.2.2.1 ++ [62, (Zl (Ze a.2.1 8).2).1, 211, u8.wrap (Ze (Zl (Ze a.2.1 8).2).2 8).1]
 let x22 := (Ze a.2.1 8).1 == 0 || (!(Ze a.2.1 8).1 == 1 || (!Zad (Ze a.2.1 8).2 || (!ZB (Zl (Ze a.2.1 8).2).2 8 || Nat.ble (List.length x21) most)))
 let x23 := !x22
 let x24 := (Ze a.2.1 8).1 == 0 || (!(Ze a.2.1 8).1 == 1 || (!Zad (Ze a.2.1 8).2 || ZB (Zl (Ze a.2.1 8).2).2 8))
 let x25 := !x24
 let x26 := (Ze a.2.1 8).1 == 0 || (!(Ze a.2.1 8).1 == 1 || Zad (Ze a.2.1 8).2)
 let x27 := !x26
 let x28 := (Ze a.2.1 8).1 == 0 || ((Ze a.2.1 8).1 == 1 || (!(Ze a.2.1 8).1 == 2 || Nat.ble (List.length (a.2.2.1 ++ [251])) most))
 let x29 := !x28
 let x30 : List Int := a.2.2.1 ++ [62, u8.wrap (i64.wrap (16 + (Ze (Ze a.2.1 8).2 16).1)), 211, 0, 62, (Zl (Ze (Ze a.2.1 8).2 16).2).1, 211, 1, 62, 0, 211, 1]
 let x31 := (Ze a.2.1 8).1 == 0 || ((Ze a.2.1 8).1 == 1 || ((Ze a.2.1 8).1 == 2 || (!(Ze a.2.1 8).1 == 3 || (!ZB (Ze a.2.1 8).2 16 || (!Zad (Ze (Ze a.2.1 8).2 16).2 || Nat.ble (List.length x30) most)))))
 let x32 := !x31
 let x33 := (Ze a.2.1 8).1 == 0 || ((Ze a.2.1 8).1 == 1 || ((Ze a.2.1 8).1 == 2 || (!(Ze a.2.1 8).1 == 3 || (!ZB (Ze a.2.1 8).2 16 || Zad (Ze (Ze a.2.1 8).2 16).2))))
 let x34 := !x33
 let x35 := (Ze a.2.1 8).1 == 0 || ((Ze a.2.1 8).1 == 1 || ((Ze a.2.1 8).1 == 2 || (!(Ze a.2.1 8).1 == 3 || ZB (Ze a.2.1 8).2 16)))
 let x36 := !x35
 let x37 := !ZB (Ze (Za4 (Ze a.2.1 8).2).2 64).2 4
 let x38 : Int := (Ze (Ze (Za4 (Ze a.2.1 8).2).2 64).2 4).1
 let x39 := Zf x38 (List.length [0, 0, 1, 255])
 let x40 : List Int := a.2.2.1 ++ [(Za4 (Ze a.2.1 8).2).1, u8.wrap (Ze (Za4 (Ze a.2.1 8).2).2 64).1, R.get (R.int u8) [0, 0, 1, 255] x38]
 let x41 := (Ze a.2.1 8).1 == 0 || ((Ze a.2.1 8).1 == 1 || ((Ze a.2.1 8).1 == 2 || ((Ze a.2.1 8).1 == 3 || (!ZcR (Ze a.2.1 8).2 || (!ZB (Za4 (Ze a.2.1 8).2).2 64 || (x37 || (!x39 || Nat.ble (List.length x40) most)))))))
 let x42 := !x41
 let x43 := (Ze a.2.1 8).1 == 0 || ((Ze a.2.1 8).1 == 1 || ((Ze a.2.1 8).1 == 2 || ((Ze a.2.1 8).1 == 3 || (!ZcR (Ze a.2.1 8).2 || (!ZB (Za4 (Ze a.2.1 8).2).2 64 || (x37 || x39))))))
 let x44 := !x43
 let x45 := (Ze a.2.1 8).1 == 0 || ((Ze a.2.1 8).1 == 1 || ((Ze a.2.1 8).1 == 2 || ((Ze a.2.1 8).1 == 3 || (!ZcR (Ze a.2.1 8).2 || (!ZB (Za4 (Ze a.2.1 8).2).2 64 || ZB (Ze (Za4 (Ze a.2.1 8).2).2 64).2 4)))))
 let x46 := !x45
 let x47 := (Ze a.2.1 8).1 == 0 || ((Ze a.2.1 8).1 == 1 || ((Ze a.2.1 8).1 == 2 || ((Ze a.2.1 8).1 == 3 || (!ZcR (Ze a.2.1 8).2 || ZB (Za4 (Ze a.2.1 8).2).2 64))))
 let x48 := x10 || (x12 || (x14 || (x16 || (x18 || (x20 || (x23 || (x25 || (x27 || (x29 || (x32 || (x34 || (x36 || (x42 || (x44 || (x46 || (!x47 || ((Ze a.2.1 8).1 == 0 || ((Ze a.2.1 8).1 == 1 || ((Ze a.2.1 8).1 == 2 || ((Ze a.2.1 8).1 == 3 || ZcR (Ze a.2.1 8).2))))))))))))))))))))
 let x49 := !x48
 let x50 := x10 || (x12 || (x14 || (x16 || (x18 || (x20 || (x23 || (x25 || (x27 || (x29 || (x32 || (x34 || (x36 || (x42 || (x44 || (x46 || x47)))))))))))))))
 let x51 := !x50
 let x52 := x10 || (x12 || (x14 || (x16 || (x18 || (x20 || (x23 || (x25 || (x27 || (x29 || (x32 || (x34 || (x36 || (x42 || (x44 || x45))))))))))))))
 let x53 := !x52
 let x54 := x10 || (x12 || (x14 || (x16 || (x18 || (x20 || (x23 || (x25 || (x27 || (x29 || (x32 || (x34 || (x36 || (x42 || x43)))))))))))))
 let x55 := !x54
 let x56 := x10 || (x12 || (x14 || (x16 || (x18 || (x20 || (x23 || (x25 || (x27 || (x29 || (x32 || (x34 || (x36 || x41))))))))))))
 let x57 := !x56
 let x58 := x10 || (x12 || (x14 || (x16 || (x18 || (x20 || (x23 || (x25 || (x27 || (x29 || (x32 || (x34 || x35)))))))))))
 let x59 := !x58
 let x60 := x10 || (x12 || (x14 || (x16 || (x18 || (x20 || (x23 || (x25 || (x27 || (x29 || (x32 || x33))))))))))
 let x61 := !x60
 let x62 := x10 || (x12 || (x14 || (x16 || (x18 || (x20 || (x23 || (x25 || (x27 || (x29 || x31)))))))))
 let x63 := !x62
 let x64 := x10 || (x12 || (x14 || (x16 || (x18 || (x20 || (x23 || (x25 || (x27 || x28))))))))
 let x65 := !x64
 let x66 := x10 || (x12 || (x14 || (x16 || (x18 || (x20 || (x23 || (x25 || x26)))))))
 let x67 := !x66
 let x68 := x10 || (x12 || (x14 || (x16 || (x18 || (x20 || (x23 || x24))))))
 let x69 := !x68
 let x70 := x10 || (x12 || (x14 || (x16 || (x18 || (x20 || x22)))))
 let x71 := !x70
 let x72 := x10 || (x12 || (x14 || (x16 || (x18 || x19))))
 let x73 := !x72
 let x74 := x10 || (x12 || (x14 || (x16 || x17)))
 let x75 := !x74
 let x76 := x10 || (x12 || (x14 || x15))
 let x77 := !x76
 let x78 := x10 || (x12 || x13)
 let x79 := !x78
 let x80 := x10 || x11
 let x81 : List Int × Int := (Ze (Ze (Za4 (Ze a.2.1 8).2).2 64).2 4).2
 .br (decide (a.1 > 0)) (.br (!ZB a.2.1 8 || (x49 || (x51 || (x53 || (x55 || (x57 || (x59 || (x61 || (x63 || (x65 || (x67 || (x69 || (x71 || (x73 || (x75 || (x77 || (x79 || (!x80 || x9)))))))))))))))))) (.br (!ZB a.2.1 8 || (x49 || (x51 || (x53 || (x55 || (x57 || (x59 || (x61 || (x63 || (x65 || (x67 || (x69 || (x71 || (x73 || (x75 || (x77 || (x79 || x80))))))))))))))))) (.br (!ZB a.2.1 8 || (x49 || (x51 || (x53 || (x55 || (x57 || (x59 || (x61 || (x63 || (x65 || (x67 || (x69 || (x71 || (x73 || (x75 || (x77 || x78)))))))))))))))) (.br (!ZB a.2.1 8 || (x49 || (x51 || (x53 || (x55 || (x57 || (x59 || (x61 || (x63 || (x65 || (x67 || (x69 || (x71 || (x73 || (x75 || x76))))))))))))))) (.br (!ZB a.2.1 8 || (x49 || (x51 || (x53 || (x55 || (x57 || (x59 || (x61 || (x63 || (x65 || (x67 || (x69 || (x71 || (x73 || x74)))))))))))))) (.br (!ZB a.2.1 8 || (x49 || (x51 || (x53 || (x55 || (x57 || (x59 || (x61 || (x63 || (x65 || (x67 || (x69 || (x71 || x72))))))))))))) (.br (!ZB a.2.1 8 || (x49 || (x51 || (x53 || (x55 || (x57 || (x59 || (x61 || (x63 || (x65 || (x67 || (x69 || x70)))))))))))) (.br (!ZB a.2.1 8 || (x49 || (x51 || (x53 || (x55 || (x57 || (x59 || (x61 || (x63 || (x65 || (x67 || x68))))))))))) (.br (!ZB a.2.1 8 || (x49 || (x51 || (x53 || (x55 || (x57 || (x59 || (x61 || (x63 || (x65 || x66)))))))))) (.br (!ZB a.2.1 8 || (x49 || (x51 || (x53 || (x55 || (x57 || (x59 || (x61 || (x63 || x64))))))))) (.br (!ZB a.2.1 8 || (x49 || (x51 || (x53 || (x55 || (x57 || (x59 || (x61 || x62)))))))) (.br (!ZB a.2.1 8 || (x49 || (x51 || (x53 || (x55 || (x57 || (x59 || x60))))))) (.br (!ZB a.2.1 8 || (x49 || (x51 || (x53 || (x55 || (x57 || x58)))))) (.br (!ZB a.2.1 8 || (x49 || (x51 || (x53 || (x55 || x56))))) (.br (!ZB a.2.1 8 || (x49 || (x51 || (x53 || x54)))) (.br (!ZB a.2.1 8 || (x49 || (x51 || x52))) (.br (!ZB a.2.1 8 || (x49 || x50)) (.br (!ZB a.2.1 8 || x48) (.br (ZB a.2.1 8) (.br ((Ze a.2.1 8).1 == 0) (.leaf (some (Go1.cont (i64.wrap (a.1 - 1), x5.2, x8, PUnit.unit)))) (.br ((Ze a.2.1 8).1 == 1) (.leaf (some (Go1.cont (i64.wrap (a.1 - 1), (Ze (Zl (Ze a.2.1 8).2).2 8).2, x21, PUnit.unit)))) (.br ((Ze a.2.1 8).1 == 2) (.leaf (some (Go1.cont (i64.wrap (a.1 - 1), (Ze a.2.1 8).2, a.2.2.1 ++ [251], PUnit.unit)))) (.leaf (some (Go1.cont (i64.wrap (a.1 - 1), (bif (Ze a.2.1 8).1 == 3 then (Zl (Ze (Ze a.2.1 8).2 16).2).2.1 else x81.1, bif (Ze a.2.1 8).1 == 3 then (Zl (Ze (Ze a.2.1 8).2 16).2).2.2 else x81.2), bif (Ze a.2.1 8).1 == 3 then x30 else x40, PUnit.unit))))))) (.leaf none)) (.leaf none)) (.leaf none)) (.leaf none)) (.leaf none)) (.leaf none)) (.leaf none)) (.leaf none)) (.leaf none)) (.leaf none)) (.leaf none)) (.leaf none)) (.leaf none)) (.leaf none)) (.leaf none)) (.leaf none)) (.leaf none)) (.leaf none)) (.leaf none)) (.leaf (some (Go1.brk (a.1, a.2.1, a.2.2.1, PUnit.unit))))
def Zln : Ora := Zcj false ZwB Zcg (fun a => 400)
theorem Zqz : ZbF (envX Tryz.prog [(46, ZcH), (108, ZsJ), (109, Zi1)] [] 9511883889056940159 8) (.block 0 (.loop (ZaA Tryz.f47.body 0))) Zln :=
 ZP (ZT (l := [(46, ZcH), (108, ZsJ), (109, Zi1)]) ⟨ZbH, ZqE, Zni, trivial⟩ [] 9511883889056940159 8) (Zz (by kernel_rfl)) (fun a => by kernel_rfl)
def Ze3 (s : List Int × Int) (n : Int) : RT (Option (List Int × List Int × Int)) :=
 let x1 : QT17 := ((Ze s (i64.wrap (n + 1))).1, (Ze s (i64.wrap (n + 1))).2, [], ())
 let x2 := runF false Zcg (fun a => 400) x1
 let x3 : (List Int × Int) × List Int × PUnit := (getO (false, x1) x2).2.2
 .br (ZB s (i64.wrap (n + 1))) (.br (okB x2) (.leaf (some ((x3.2.1, x3.1)))) (.leaf none)) (.leaf none)
def ZbW (s : List Int × Int) (n : Int) : List Int × List Int × Int := getO (ZhF.dflt, ZhG.dflt) (Ze3 s n).val
def Ze4 (s : List Int × Int) (n : Int) : Bool := okB (Ze3 s n).val
def ZdV : Entry := boxE ZhG Znh ZhF (fun a => some (Ze4 a.1 a.2)) (fun a => ZbW a.1 a.2)
theorem Zf3 : Zc Tryz.prog 47 ZdV :=
 Zcv (P := Tryz.prog) (n := 9511883889056940159) (k := 8) (l := [(46, ZcH), (108, ZsJ), (109, Zi1)]) (ol := [(0, Zln)]) ⟨ZbH, ZqE, Zni, trivial⟩ Tryz.func47 rfl (by kernel_rfl) Tryz.call47 ⟨Zqz, trivial⟩ (rb := ZhG) (ts := Znh) (rs := ZhF) (t := fun a => Ze3 a.1 a.2) (fun a => by kernel_rfl)
theorem NB.up {s : List Int × Int} {k j : Int} (h : NB s k) (hj : k ≤ j) : NB s j := ⟨h.1, by have := h.2; omega⟩
theorem Zfr {s : List Int × Int} {k : Int} (h : NB s k) (hk : k ≤ 1000000) : ZgR s = true ∧ NB (Zf4 s).2 (k + 1) := by
 obtain ⟨c1, b, _⟩ := Z2 h hk 2 (by decide) (by decide)
 simp only [ZgR, Zf4, ZyT, RT.val, c1, cond_true, okB, getO]
 exact ⟨trivial, b⟩
theorem Znx {a b : Nat} (h : a ≤ b) : Nat.ble a b = true := by rw [Nat.ble_eq]; exact h
theorem ZwA {s : List Int × Int} {k : Int} (h : NB s k) (hk : k ≤ 300000) (n : Nat) (hn : n ≤ 20) :
  Ze4 s (n : Int) = true ∧ NB (ZbW s (n : Int)).2 (k + 1 + 10 * n) ∧ (ZbW s (n : Int)).1.length ≤ 12 * n := by
 have hms := mst
 have w0 : IntKind.wrap .i64 ((n : Int) + 1) = (n : Int) + 1 := wrap_i64 _ (by omega) (by omega)
 obtain ⟨c1, b1, d0, d1⟩ := Z2 h (by omega) ((n : Int) + 1) (by omega) (by omega)
 obtain ⟨s1, hs1⟩ : ∃ s1, s1 = (Ze s ((n : Int) + 1)).2 := ⟨_, rfl⟩
 obtain ⟨q, hq⟩ : ∃ q : Nat, (Ze s ((n : Int) + 1)).1 = (q : Int) := ⟨_, (Int.toNat_of_nonneg d0).symm⟩
 rw [← hs1] at b1
 obtain ⟨r, hr, h1, s', o, hs', ho, hR⟩ := Zag (fl := false) (t := Zcg) (fuel := fun a => 400)
  (fun a => ∃ (i : Nat) (s' : List Int × Int) (o : List Int), i ≤ q ∧ NB s' (k + 1 + 10 * ((q - i : Nat) : Int)) ∧ o.length ≤ 12 * (q - i) ∧ a = ((i : Int), s', o, ()))
  (fun a => Int.toNat a.1) (fun r => r.1 = false ∧ ∃ (s' : List Int × Int) (o : List Int), NB s' (k + 1 + 10 * (q : Int)) ∧ o.length ≤ 12 * q ∧ r.2 = ((0 : Int), s', o, ()))
  (by
   rintro a ⟨i, s', o, hi, hs', ho, rfl⟩
   cases i with
   | zero =>
    right; left
    exact ⟨_, by simp only [Zcg, RT.val]; rfl, rfl, s', o, by simpa using hs', by omega, rfl⟩
   | succ i =>
    left
    have d : decide (((i + 1 : Nat) : Int) > 0) = true := decide_eq_true (by omega)
    have w : IntKind.wrap .i64 (((i + 1 : Nat) : Int) - 1) = (i : Int) := by rw [wrap_i64 _ (by omega) (by omega)]; omega
    obtain ⟨k0, b0, _⟩ := Z2 hs' (by omega) 8 (by decide) (by decide)
    obtain ⟨k1, b1, e0, e1⟩ := Z2 b0 (by omega) 4 (by decide) (by decide)
    obtain ⟨k2, b2, _⟩ := Z2 b1 (by omega) 256 (by decide) (by decide)
    obtain ⟨k3, b3, f0, f1⟩ := Z2 b2 (by omega) 4 (by decide) (by decide)
    obtain ⟨k4, b4, _⟩ := ZcS b0 (by omega)
    obtain ⟨k5, b5, _⟩ := Z2 b4 (by omega) 8 (by decide) (by decide)
    obtain ⟨k6, b6, _⟩ := Z2 b0 (by omega) 16 (by decide) (by decide)
    obtain ⟨k7, b7, _⟩ := ZcS b6 (by omega)
    obtain ⟨k8, b8, _⟩ := ZBM b0 (by omega)
    obtain ⟨k9, b9, _⟩ := Z2 b8 (by omega) 64 (by decide) (by decide)
    obtain ⟨ka, ba, g0, g1⟩ := Z2 b9 (by omega) 4 (by decide) (by decide)
    have r1 : Zf (Ze (Ze s' 8).2 4).1 4 = true := Zae.2 ⟨e0, e1⟩
    have r2 : Zf (Ze (Ze (Ze (Ze s' 8).2 4).2 256).2 4).1 4 = true := Zae.2 ⟨f0, f1⟩
    have r3 : Zf (Ze (Ze (Za4 (Ze s' 8).2).2 64).2 4).1 4 = true := Zae.2 ⟨g0, g1⟩
    have hb : ∀ x : List Int, x.length ≤ 12 → Nat.ble (o ++ x).length most = true := fun x hx => Znx (by rw [List.length_append]; omega)
    have q1 : ∀ a b c : Int, Nat.ble (o ++ [a, b, c]).length most = true := fun a b c => hb _ (by simp)
    have q2 : ∀ a b c d : Int, Nat.ble (o ++ [a, b, c, d]).length most = true := fun a b c d => hb _ (by simp)
    have q3 : ∀ a : Int, Nat.ble (o ++ [a]).length most = true := fun a => hb _ (by simp)
    have q4 : ∀ a b c d e f g h i j k l : Int, Nat.ble (o ++ [a, b, c, d, e, f, g, h, i, j, k, l]).length most = true := fun a b c d e f g h i j k l => hb _ (by simp)
    have hv : ∃ s2 x, x.length ≤ 12 ∧ NB s2 (k + 1 + 10 * ((q - i : Nat) : Int)) ∧ (Zcg (((i + 1 : Nat) : Int), s', o, ())).val = some (Go1.cont ((i : Int), s2, o ++ x, ())) := by
     simp only [Zcg, RT.val, List.length_cons, List.length_nil, Nat.reduceAdd, d, w, k0, k1, k2, k3, k4, k5, k6, k7, k8, k9, ka, r1, r2, r3, q1, q2, q3, q4, cond_true, Bool.not_true, Bool.false_or, Bool.or_true, Bool.or_false]
     cases (Ze s' 8).1 == 0
     ·cases (Ze s' 8).1 == 1
      ·cases (Ze s' 8).1 == 2
       ·cases (Ze s' 8).1 == 3
        ·exact ⟨_, [(Za4 (Ze s' 8).2).1, IntKind.wrap .u8 (Ze (Za4 (Ze s' 8).2).2 64).1, R.get (R.int .u8) [0, 0, 1, 255] (Ze (Ze (Za4 (Ze s' 8).2).2 64).2 4).1], by simp, ba.up (by omega), rfl⟩
        ·exact ⟨_, [62, IntKind.wrap .u8 (IntKind.wrap .i64 (16 + (Ze (Ze s' 8).2 16).1)), 211, 0, 62, (Zl (Ze (Ze s' 8).2 16).2).1, 211, 1, 62, 0, 211, 1], by simp, b7.up (by omega), rfl⟩
       ·exact ⟨_, [251], by simp, b0.up (by omega), rfl⟩
      ·exact ⟨_, [62, (Zl (Ze s' 8).2).1, 211, IntKind.wrap .u8 (Ze (Zl (Ze s' 8).2).2 8).1], by simp, b5.up (by omega), rfl⟩
     ·exact ⟨_, [R.get (R.int .u8) [33, 49, 1, 17] (Ze (Ze s' 8).2 4).1, IntKind.wrap .u8 (Ze (Ze (Ze s' 8).2 4).2 256).1, R.get (R.int .u8) [0, 0, 1, 255] (Ze (Ze (Ze (Ze s' 8).2 4).2 256).2 4).1], by simp, b3.up (by omega), rfl⟩
    obtain ⟨s2, x, hx, hs2, hv⟩ := hv
    exact ⟨_, hv, ⟨i, s2, o ++ x, by omega, hs2, by rw [List.length_append]; omega, rfl⟩, by simp only; omega⟩)
  ((q : Int), s1, [], ()) ⟨q, s1, [], Nat.le_refl _, by simpa using b1, by simp, rfl⟩ (by simp only; omega)
 obtain ⟨r1, r2⟩ := r
 simp only at h1 hR
 subst h1 hR
 have hv : (Ze3 s (n : Int)).val = some (o, s') := by
  simp only [Ze3, RT.val, w0, c1, hq, ← hs1, hr, okB, getO, cond_true]
 simp only [Ze4, ZbW, hv, okB, getO]
 exact ⟨trivial, hs'.up (by omega), by omega⟩
theorem ZMt {s : List Int × Int} {k : Int} (h : NB s k) (hk : k ≤ 300000) : ZIL s = true ∧ NB (nCPU s).2 (k + 40) ∧ (nCPU s).1.2.2.2.2.1 = false := by
 obtain ⟨c0, b0, _⟩ := ZIK h (by omega)
 obtain ⟨c1, b1, _⟩ := ZIH b0 (by omega) (ZaB s).1
 obtain ⟨c2, b2⟩ := Zfr b1 (by omega)
 obtain ⟨c3, b3, _⟩ := Z2 b2 (by omega) 5 (by decide) (by decide)
 obtain ⟨c4, b4, _⟩ := Z2 b3 (by omega) 8 (by decide) (by decide)
 obtain ⟨c5, b5, _⟩ := Z2 b4 (by omega) 5 (by decide) (by decide)
 obtain ⟨c6, b6⟩ := Zfr b5 (by omega)
 obtain ⟨c7, b7⟩ := Zfr b6 (by omega)
 obtain ⟨c8, b8⟩ := Zfr b7 (by omega)
 obtain ⟨c9, b9, _⟩ := Z2 b8 (by omega) 4 (by decide) (by decide)
 obtain ⟨ca, ba⟩ := Zfr b9 (by omega)
 obtain ⟨cb, bb⟩ := Zfr ba (by omega)
 have hv : ∃ c s', (ZF0 s).val = some (c, s') ∧ NB s' (k + 40) ∧ c.2.2.2.2.1 = false := by
  simp only [ZF0, RT.val, c0, c1, c2, c3, c4, c5, c6, c7, c8, c9, ca, cb, cond_true, Bool.not_true, Bool.false_or, Bool.or_true]
  cases (ZaB s).1 == 2
  ·exact ⟨_, _, rfl, b3.up (by omega), rfl⟩
  ·exact ⟨_, _, rfl, bb.up (by omega), rfl⟩
 obtain ⟨c, s', hv, h1, h2⟩ := hv
 simp only [ZIL, nCPU, hv, okB, getO]
 exact ⟨trivial, h1, h2⟩
abbrev MacT := List ZbB × List Cell × List Int × List (Int × Int)
def pre (o : List (Int × Int)) (m : MacT) : MacT := (m.1, m.2.1, m.2.2.1, o ++ m.2.2.2)
abbrev STT := SYST × List PINT × List ITMT × List EVTT × List TC
structure RunOk (b : BRDT) (st : STT) (n : Nat) : Prop where
 g : smG b.2.1 = true
 m : st.1.2.1.length ≤ 100000 + 2 * n
 o : st.1.2.2.2.2.2.length ≤ n
 k : st.1.1.2.2.1.length ≤ n
 t : st.2.1.length ≤ n
 it : st.2.2.1.length ≤ n
 ev : st.2.2.2.1.length ≤ 2 * n
 cp : st.2.2.2.2.length ≤ 2 * n
 ne : st.2.2.1 = [] → ZNg st.1.1 = 1
abbrev Zrg : List Sh := [Sh.agg Z3, Sh.agg Zcc]
abbrev Zrh : Rs := Rs.one (Sh.agg Z3)
def Zxc (c : TC) (e : EVTT) : RT TC :=
 .br (bif e.1 == 1 then e.1 == 1 else bif e.1 == 2 then e.1 == 2 else e.1 == 3) (.leaf (finX ((ZH c e.2.1).1, (ZH c e.2.1).2.1, (ZH c e.2.1).2.2.1, (ZH c e.2.1).2.2.2.1, (ZH c e.2.1).2.2.2.2.1, (ZH c e.2.1).2.2.2.2.2.1, e.2.2.2.2.2.1, e.2.2.2.2.1, e.2.2.2.2.2.2.2.1, e.2.2.2.2.2.2.1, (ZH c e.2.1).2.2.2.2.2.2.2.2.2.2) e.2.1 e.2.2.1 e.2.2.2.1)) (.br (e.1 == 4) (.leaf (((ZaX c).1, ((ZaX c).2.1.1, (ZaX c).2.1.2.1, (ZaX c).2.1.2.2.1, (ZaX c).2.1.2.2.2.1, (ZaX c).2.1.2.2.2.2.1, (ZaX c).2.1.2.2.2.2.2.1, (ZaX c).2.1.2.2.2.2.2.2.1, (ZaX c).2.1.2.2.2.2.2.2.2.1, (ZaX c).2.1.2.2.2.2.2.2.2.2.1, 0), false, false, false, (ZaX c).2.2.2.2.2.1, false, false, false, false, false, false, false))) (.leaf (c)))
def Zzv (c : TC) (e : EVTT) : TC := (Zxc c e).val
def Zri : Entry := Zk Zrg Zrh (fun _ => none) (fun a => Zzv a.1 a.2)
theorem Zmh : Zc Tryz.prog 48 Zri :=
 pureQ 34359738527 [(77, Zyo), (110, Ze0), (111, ZNM)] [] Zrg Zrh ⟨ZAO, Zf0, ZL9, trivial⟩ Tryz.func48 Tryz.call48 trivial (t := fun a => Zxc a.1 a.2) (fun a => by kernel_rfl)
def Z1 : Entry := .tree (ZS (envX Tryz.prog [] [] 7 8) Tryz.f112)
theorem Zax : Zc Tryz.prog 112 Z1 := Zak (P := Tryz.prog) (n := 7) (k := 8) (l := []) (ol := []) trivial Tryz.func112 rfl (by kernel_rfl) Tryz.call112 trivial
abbrev ZnI : List Sh := [Sh.agg Z3, Sh.agg Zcc]
abbrev ZnJ : Rs := Rs.one (Sh.agg Z3)
def ZtC (c : TC) (e : EVTT) : RT TC :=
 .br (e.1 == 4) (.leaf (((ZaX c).1, ((ZaX c).2.1.1, (ZaX c).2.1.2.1, (ZaX c).2.1.2.2.1, (ZaX c).2.1.2.2.2.1, (ZaX c).2.1.2.2.2.2.1, (ZaX c).2.1.2.2.2.2.2.1, (ZaX c).2.1.2.2.2.2.2.2.1, (ZaX c).2.1.2.2.2.2.2.2.2.1, (ZaX c).2.1.2.2.2.2.2.2.2.2.1, 0), false, false, false, (ZaX c).2.2.2.2.2.1, false, false, false, false, false, false, false))) (.br (!(e.1 == 1 || (e.1 == 2 || e.1 == 3))) (.leaf (c)) (.leaf (finX ((ZH c e.2.1).1, (ZH c e.2.1).2.1, (ZH c e.2.1).2.2.1, (ZH c e.2.1).2.2.2.1, (ZH c e.2.1).2.2.2.2.1, (ZH c e.2.1).2.2.2.2.2.1, e.2.2.2.2.2.1, e.2.2.2.2.1, e.2.2.2.2.2.2.2.1, e.2.2.2.2.2.2.1, (ZH c e.2.1).2.2.2.2.2.2.2.2.2.2) e.2.1 e.2.2.1 e.2.2.2.1)))
def ZCk (c : TC) (e : EVTT) : TC := (ZtC c e).val
def ZKM : Entry := Zk ZnI ZnJ (fun _ => none) (fun a => ZCk a.1 a.2)
theorem ZCj : Zc Tryz.prog 49 ZKM :=
 pureQ 2111 [(81, ZDr), (97, Zgy), (98, ZNt), (112, Z1)] [] ZnI ZnJ ⟨ZDq, Zhu, ZLs, Zax, trivial⟩ Tryz.func49 Tryz.call49 trivial (t := fun a => ZtC a.1 a.2) (fun a => by kernel_rfl)
abbrev Zmg : List Sh := [Sh.agg Z3, Sh.agg Zcc]
abbrev Zhd : Rs := Rs.one (Sh.one (R.sl (RY)))
def ZCf : LS := { n := 67, slots := [(2, .fix (A.loc 0 0)), (3, .fix (A.loc 1 0)), (5, .tip 0), (23, .code (Sh.one (R.sl (R.int u8)))), (24, .code (Sh.one (R.int i64))), (25, .code (Sh.one (R.int i64)))], boxes := [[.many Z3], [.many Zcc]], stgs := [⟨(RY), 41, true⟩] }
def Zc3 (a : List Int × Int × Int × TC × EVTT × List TY × PUnit) : RT (Option (Go1 (List Int × Int × Int × TC × EVTT × List TY × PUnit))) :=
 let x1 := decide (0 ≤ 0) && decide (0 ≤ a.2.2.1) && (decide (a.2.2.1 = 0) || decide (a.2.2.1 ≤ iN (List.length a.2.2.2.2.1.2.2.1)))
 let x2 := Zt a.2.2.2.1 a.2.2.2.2.1.2.1 (subL a.2.2.2.2.1.2.2.1 0 a.2.2.1)
 let x3 := !x2.2
 let x4 := x2.1
 let x5 := x4.1
 let x6 := x4.2
 let x7 := x6.2
 let x8 : List TY := a.2.2.2.2.2.1 ++ [(x5, x6.1, bif Zjx x5 then R.get (R.int u8) a.1 a.2.2.1 else x7.1, bif x5 == 1 || x5 == 8 then ZfH a.2.2.2.1.1 (R.get (R.int u8) a.1 a.2.2.1) else x7.2)]
 .br (decide (a.2.2.1 < a.2.1)) (.br (!Zf a.2.2.1 (List.length a.1) || (!x1 || (x3 || Nat.ble (List.length x8) most))) (.br (!Zf a.2.2.1 (List.length a.1) || x1) (.br (Zf a.2.2.1 (List.length a.1)) (.br (x3) (.leaf (some (Go1.brk (a.1, a.2.1, a.2.2.1, a.2.2.2.1, a.2.2.2.2.1, a.2.2.2.2.2.1, PUnit.unit)))) (.leaf (some (Go1.cont (a.1, a.2.1, i64.wrap (a.2.2.1 + 1), a.2.2.2.1, a.2.2.2.2.1, x8, PUnit.unit))))) (.leaf none)) (.leaf none)) (.leaf none)) (.leaf (some (Go1.brk (a.1, a.2.1, a.2.2.1, a.2.2.2.1, a.2.2.2.2.1, a.2.2.2.2.2.1, PUnit.unit))))
def ZnC : Ora := Zcj true ZCf Zc3 (fun a => 1000000000000)
theorem Ztv : ZbF (envX Tryz.prog [(110, Ze0), (113, Zyu), (114, ZiV), (115, ZiY)] [] 5119 8) (.block 1 (.loop (ZaA Tryz.f51.body 1))) ZnC :=
 ZP (ZT (l := [(110, Ze0), (113, Zyu), (114, ZiV), (115, ZiY)]) ⟨Zf0, Zyt, Zm8, Zna, trivial⟩ [] 5119 8) (Zz (by kernel_rfl)) (fun a => by kernel_rfl)
def Zhc (c : TC) (e : EVTT) : RT (Option (List TY)) :=
 let x1 : List Int × Int × Int × TC × EVTT × List TY × PUnit := (e.2.2.1, iN (List.length e.2.2.1), 0, ZH c e.2.1, e, [], ())
 let x2 := runF true Zc3 (fun a => 1000000000000) x1
 let x3 := getO (false, x1) x2
 .br (bif e.1 == 1 then e.1 == 1 else bif e.1 == 2 then e.1 == 2 else bif e.1 == 3 then e.1 == 3 else bif e.1 == 6 then e.1 == 6 else e.1 == 7) (.br (okB x2) (.br x3.1 (.leaf none) (.leaf (some x3.2.2.2.2.2.2.1))) (.leaf none)) (.leaf (some ([])))
def Zxb (c : TC) (e : EVTT) : List TY := getO Zhd.dflt (Zhc c e).val
def Zrf (c : TC) (e : EVTT) : Bool := okB (Zhc c e).val
def ZJn : Entry := Zk Zmg Zhd (fun a => some (Zrf a.1 a.2)) (fun a => Zxb a.1 a.2)
theorem ZCe : Zc Tryz.prog 51 ZJn :=
 pureP 5119 [(110, Ze0), (113, Zyu), (114, ZiV), (115, ZiY)] [(1, ZnC)] Zmg Zhd ⟨Zf0, Zyt, Zm8, Zna, trivial⟩ Tryz.func51 Tryz.call51 ⟨Ztv, trivial⟩ (t := fun a => Zhc a.1 a.2) (fun a => by kernel_rfl)
abbrev Zjb : List Sh := [Sh.agg Z3, Sh.agg Zcc]
abbrev Zgi : Rs := Rs.one (Sh.one (R.sl (RY)))
def ZzA : LS := { n := 73, slots := [(2, .fix (A.loc 0 0)), (3, .fix (A.loc 1 0)), (4, .code (Sh.one (R.sl (RY)))), (5, .tip 0), (28, .code (Sh.one (R.sl (R.int u8)))), (29, .code (Sh.one (R.int i64))), (30, .code (Sh.one (R.int i64)))], boxes := [[.many Z3], [.many Zcc], [.code (.int i64), .code (.int i64), .code (.sl (R.int u8)), .code .bool, .code .bool, .code .bool, .code .bool, .code .bool, .code .bool, .code .bool, .code .bool, .code .bool, .code .bool, .code .bool, .code .bool, .code .bool, .code (.int u16), .code (.int u8)]], stgs := [⟨(RY), 41, true⟩] }
def Zb9 (a : List TY × List Int × Int × Int × TC × EVTT × Int × Int × List Int × Bool × Bool × Bool × Bool × Bool × Bool × Bool × Bool × Bool × Bool × Bool × Bool × Bool × Int × Int × List TY × PUnit) : RT (Option (Go1 (List TY × List Int × Int × Int × TC × EVTT × Int × Int × List Int × Bool × Bool × Bool × Bool × Bool × Bool × Bool × Bool × Bool × Bool × Bool × Bool × Bool × Int × Int × List TY × PUnit))) :=
 let x1 := decide (0 ≤ 0) && decide (0 ≤ a.2.2.2.1) && (decide (a.2.2.2.1 = 0) || decide (a.2.2.2.1 ≤ iN (List.length a.2.2.2.2.2.1.2.2.1)))
 let x2 := Zt a.2.2.2.2.1 a.2.2.2.2.2.1.2.1 (subL a.2.2.2.2.2.1.2.2.1 0 a.2.2.2.1)
 let x3 := !x2.2
 let x4 := a.2.2.2.2.2.2.2.2.2.2.2.2.2
 let x5 := x4.2
 let x6 := x5.2
 let x7 := x6.2
 let x8 := x7.2
 let x9 := x8.2
 let x10 := x9.2
 let x11 := x10.2
 let x12 := x11.2
 let x13 := x12.2
 let x14 := x13.2
 let x15 := x14.2.1
 let x16 := x2.1
 let x17 := x16.1
 let x18 := x16.2
 let x19 := x18.2
 let x20 : List TY := x15 ++ [(x17, x18.1, bif Zjx x17 then R.get (R.int u8) a.2.1 a.2.2.2.1 else x19.1, bif x17 == 1 || x17 == 8 then ZfH a.2.2.2.2.1.1 (R.get (R.int u8) a.2.1 a.2.2.2.1) else x19.2)]
 let x21 := a.2.2.2.2.2.2.2.2.2.2.2.2.1
 let x22 := x4.1
 let x23 := x5.1
 let x24 := x6.1
 let x25 := x7.1
 let x26 := x8.1
 let x27 := x9.1
 let x28 := x10.1
 let x29 := x11.1
 let x30 := x12.1
 let x31 := x13.1
 let x32 := x14.1
 let x33 : List Int × Int × Int × TC × EVTT × Int × Int × List Int × Bool × Bool × Bool × Bool × Bool × Bool × Bool × Bool × Bool × Bool × Bool × Bool × Bool × Int × Int × List TY × PUnit := (a.2.1, a.2.2.1, a.2.2.2.1, a.2.2.2.2.1, a.2.2.2.2.2.1, a.2.2.2.2.2.2.1, a.2.2.2.2.2.2.2.1, a.2.2.2.2.2.2.2.2.1, a.2.2.2.2.2.2.2.2.2.1, a.2.2.2.2.2.2.2.2.2.2.1, a.2.2.2.2.2.2.2.2.2.2.2.1, x21, x22, x23, x24, x25, x26, x27, x28, x29, x30, x31, x32, x15, PUnit.unit)
 .br (decide (a.2.2.2.1 < a.2.2.1)) (.br (!Zf a.2.2.2.1 (List.length a.2.1) || (!x1 || (x3 || Nat.ble (List.length x20) most))) (.br (!Zf a.2.2.2.1 (List.length a.2.1) || x1) (.br (Zf a.2.2.2.1 (List.length a.2.1)) (.br (x3) (.leaf (some (Go1.ret (x15, x33)))) (.leaf (some (Go1.cont (a.1, a.2.1, a.2.2.1, i64.wrap (a.2.2.2.1 + 1), a.2.2.2.2.1, a.2.2.2.2.2.1, a.2.2.2.2.2.2.1, a.2.2.2.2.2.2.2.1, a.2.2.2.2.2.2.2.2.1, a.2.2.2.2.2.2.2.2.2.1, a.2.2.2.2.2.2.2.2.2.2.1, a.2.2.2.2.2.2.2.2.2.2.2.1, x21, x22, x23, x24, x25, x26, x27, x28, x29, x30, x31, x32, x20, PUnit.unit))))) (.leaf none)) (.leaf none)) (.leaf none)) (.leaf (some (Go1.brk (a.1, x33))))
def Zmv : Ora := Zcj true ZzA Zb9 (fun a => 1000000000000)
theorem Zrp : ZbF (envX Tryz.prog [(42, ZxX), (97, Zgy), (103, Zoi), (112, Z1), (116, Zox)] [] 1023 8) (.block 0 (.loop (ZaA Tryz.f52.body 0))) Zmv :=
 ZP (ZT (l := [(42, ZxX), (97, Zgy), (103, Zoi), (112, Z1), (116, Zox)]) ⟨ZxW, Zhu, ZrZ, Zax, Zr6, trivial⟩ [] 1023 8) (Zz (by kernel_rfl)) (fun a => by kernel_rfl)
def Zgh (c : TC) (e : EVTT) : RT (Option (List TY)) :=
 let x1 : List TY × List Int × Int × Int × TC × EVTT × Int × Int × List Int × Bool × Bool × Bool × Bool × Bool × Bool × Bool × Bool × Bool × Bool × Bool × Bool × Bool × Int × Int × List TY × PUnit := ([], e.2.2.1, iN (List.length e.2.2.1), 0, ZH c e.2.1, e, e.1, e.2.1, e.2.2.1, e.2.2.2.1.1, e.2.2.2.1.2.1, e.2.2.2.1.2.2.1, e.2.2.2.1.2.2.2.1, e.2.2.2.1.2.2.2.2.1, e.2.2.2.1.2.2.2.2.2.1, e.2.2.2.1.2.2.2.2.2.2.1, e.2.2.2.1.2.2.2.2.2.2.2.1, e.2.2.2.1.2.2.2.2.2.2.2.2, e.2.2.2.2.1, e.2.2.2.2.2.1, e.2.2.2.2.2.2.1, e.2.2.2.2.2.2.2.1, e.2.2.2.2.2.2.2.2.1, e.2.2.2.2.2.2.2.2.2, [], ())
 let x2 := runF true Zb9 (fun a => 1000000000000) x1
 let x3 := getO (false, x1) x2
 let x4 := x3.2
 .br (!(e.1 == 1 || (e.1 == 2 || e.1 == 3)) && (e.1 != 6 && e.1 != 7)) (.leaf (some ([]))) (.br (okB x2) (.br x3.1 (.leaf (some x4.1)) (.leaf (some x4.2.2.2.2.2.2.2.2.2.2.2.2.2.2.2.2.2.2.2.2.2.2.2.2.1))) (.leaf none))
def ZtB (c : TC) (e : EVTT) : List TY := getO Zgi.dflt (Zgh c e).val
def ZnH (c : TC) (e : EVTT) : Bool := okB (Zgh c e).val
def ZHi : Entry := Zk Zjb Zgi (fun a => some (ZnH a.1 a.2)) (fun a => ZtB a.1 a.2)
theorem Zzz : Zc Tryz.prog 52 ZHi :=
 pureP 1023 [(42, ZxX), (97, Zgy), (103, Zoi), (112, Z1), (116, Zox)] [(0, Zmv)] Zjb Zgi ⟨ZxW, Zhu, ZrZ, Zax, Zr6, trivial⟩ Tryz.func52 Tryz.call52 ⟨Zrp, trivial⟩ (t := fun a => Zgh a.1 a.2) (fun a => by kernel_rfl)
abbrev Zme : List Sh := [Sh.agg Z3, Sh.one (R.sl Zcc)]
abbrev Zhb : Rs := Rs.one (Sh.one (R.sl Z3))
def ZCb : LS := { n := 23, slots := [(2, .fix (A.loc 0 0)), (5, .tip 0), (8, .code (Sh.one (R.sl Zcc))), (9, .code (Sh.one (R.int i64))), (10, .code (Sh.one (R.int i64)))], boxes := [[.many Z3]], stgs := [⟨Z3, 38, true⟩] }
def ZfC (a : List EVTT × Int × Int × TC × List TC × PUnit) : RT (Option (Go1 (List EVTT × Int × Int × TC × List TC × PUnit))) :=
 let x1 := Zzv a.2.2.2.1 (R.get Zcc a.1 a.2.2.1)
 let x2 : List TC := a.2.2.2.2.1 ++ [x1]
 .br (decide (a.2.2.1 < a.2.1)) (.br (!Zf a.2.2.1 (List.length a.1) || Nat.ble (List.length x2) most) (.br (Zf a.2.2.1 (List.length a.1)) (.leaf (some (Go1.cont (a.1, a.2.1, i64.wrap (a.2.2.1 + 1), x1, x2, PUnit.unit)))) (.leaf none)) (.leaf none)) (.leaf (some (Go1.brk (a.1, a.2.1, a.2.2.1, a.2.2.2.1, a.2.2.2.2.1, PUnit.unit))))
def Znz : Ora := Zcj false ZCb ZfC (fun a => 1000000000000)
theorem Ztr : ZbF (envX Tryz.prog [(48, Zri)] [] 255 8) (.block 0 (.loop (ZaA Tryz.f56.body 0))) Znz :=
 ZP (ZT (l := [(48, Zri)]) ⟨Zmh, trivial⟩ [] 255 8) (Zz (by kernel_rfl)) (fun a => by kernel_rfl)
def Zha (c : TC) (l : List EVTT) : RT (Option (List TC)) :=
 let x1 := runF false ZfC (fun a => 1000000000000) (l, iN (List.length l), 0, c, [], ())
 .br (okB x1) (.leaf (some (getO (false, l, iN (List.length l), 0, c, [], ()) x1).2.2.2.2.2.1)) (.leaf none)
def Zxa (c : TC) (l : List EVTT) : List TC := getO Zhb.dflt (Zha c l).val
def Zrd (c : TC) (l : List EVTT) : Bool := okB (Zha c l).val
def ZJm : Entry := Zk Zme Zhb (fun a => some (Zrd a.1 a.2)) (fun a => Zxa a.1 a.2)
theorem ZCa : Zc Tryz.prog 56 ZJm :=
 pureP 255 [(48, Zri)] [(0, Znz)] Zme Zhb ⟨Zmh, trivial⟩ Tryz.func56 Tryz.call56 ⟨Ztr, trivial⟩ (t := fun a => Zha a.1 a.2) (fun a => by kernel_rfl)
abbrev Zja : List Sh := [Sh.one (R.sl (RY)), Sh.one (R.sl (RY))]
abbrev Zgg : Rs := Rs.one (Sh.one R.bool)
def Zzy : LS := { n := 26, slots := [(0, .code (Sh.one (R.sl (RY)))), (1, .code (Sh.one (R.sl (RY)))), (4, .code (Sh.one R.bool)), (12, .code (Sh.one (R.int i64))), (13, .code (Sh.one (R.int i64)))], boxes := [], stgs := [] }
def ZdJ (a : List TY × List TY × Bool × Int × Int × PUnit) : RT (Option (Go1 (List TY × List TY × Bool × Int × Int × PUnit))) :=
 let x1 := !Zf a.2.2.2.2.1 (List.length a.1) || Zf a.2.2.2.2.1 (List.length a.2.1)
 let x2 : QT18 := R.get (RY) a.1 a.2.2.2.2.1
 let x3 : QT18 := R.get (RY) a.2.1 a.2.2.2.2.1
 let x8 : Int × Int × PUnit := (a.2.2.2.1, a.2.2.2.2.1, PUnit.unit)
 .br (decide (a.2.2.2.2.1 < a.2.2.2.1)) (.br (!x1 || Zf a.2.2.2.2.1 (List.length a.1)) (.br (x1) (.br (!(R.eqf (R.pair (R.int i64) rcDMA) x2 x3 true)) (.leaf (some (Go1.ret (a.1, a.2.1, false, x8)))) (.leaf (some (Go1.cont (a.1, a.2.1, a.2.2.1, a.2.2.2.1, i64.wrap (a.2.2.2.2.1 + 1), PUnit.unit))))) (.leaf none)) (.leaf none)) (.leaf (some (Go1.brk (a.1, a.2.1, a.2.2.1, x8))))
def Zmu : Ora := Zcj true Zzy ZdJ (fun a => 1000000000000)
theorem Zro : ZbF (envX Tryz.prog [] [] 63 8) (.block 0 (.loop (ZaA Tryz.f50.body 0))) Zmu :=
 ZP (ZT (l := []) trivial [] 63 8) (Zz (by kernel_rfl)) (fun a => by kernel_rfl)
def Zgf (a : List TY) (b : List TY) : RT (Option (Bool)) :=
 let x1 := runF true ZdJ (fun a_1 => 1000000000000) (a, b, false, iN (List.length a), 0, ())
 let x2 := getO (false, a, b, false, iN (List.length a), 0, ()) x1
 .br (iN (List.length a) != iN (List.length b)) (.leaf (some (false))) (.br (okB x1) (.br x2.1 (.leaf (some x2.2.2.2.1)) (.leaf (some (true)))) (.leaf none))
def ZtA (a : List TY) (b : List TY) : Bool := getO Zgg.dflt (Zgf a b).val
def ZnG (a : List TY) (b : List TY) : Bool := okB (Zgf a b).val
def ZHh : Entry := Zk Zja Zgg (fun a => some (ZnG a.1 a.2)) (fun a => ZtA a.1 a.2)
theorem Zzx : Zc Tryz.prog 50 ZHh :=
 pureP 63 [] [(0, Zmu)] Zja Zgg trivial Tryz.func50 Tryz.call50 ⟨Zro, trivial⟩ (t := fun a => Zgf a.1 a.2) (fun a => by kernel_rfl)
def ZB7 (k : Int) : Bool := k == 1 || (k == 2 || k == 3)
def ZNB (c : TC) (e : EVTT) : TC := (c.1, c.2.1, c.2.2.1, c.2.2.2.1, c.2.2.2.2.1, c.2.2.2.2.2.1, e.2.2.2.2.2.1, e.2.2.2.2.1, e.2.2.2.2.2.2.2.1, e.2.2.2.2.2.2.1, c.2.2.2.2.2.2.2.2.2.2)
def Zdq (c : TC) (e : EVTT) : TC := bif ZB7 e.1 then finX (ZNB (ZH c e.2.1) e) e.2.1 e.2.2.1 e.2.2.2.1 else bif e.1 == 4 then ZaX c else c
theorem ZHd (c : TC) (e : EVTT) : Zzv c e = Zdq c e := by
 unfold Zzv Zxc Zdq ZB7
 simp only [RT.val]
 cases e.1 == 1 <;> cases e.1 == 2 <;> cases e.1 == 3 <;> cases e.1 == 4 <;> rfl
theorem ZMW (c : TC) (e : EVTT) : ZCk c e = Zdq c e := by
 unfold ZCk ZtC Zdq ZB7
 simp only [RT.val]
 by_cases h : e.1 = 4
 ·have h1 : (e.1 == 1) = false := by rw [h]; rfl
  have h2 : (e.1 == 2) = false := by rw [h]; rfl
  have h3 : (e.1 == 3) = false := by rw [h]; rfl
  have h4 : (e.1 == 4) = true := by rw [h]; rfl
  rw [h1, h2, h3, h4]; rfl
 ·have h4 : (e.1 == 4) = false := by simpa using h
  rw [h4]
  cases e.1 == 1 <;> cases e.1 == 2 <;> cases e.1 == 3 <;> rfl
def Zyi (c : TC) (x : TY) (b : Int) : TY := (x.1, x.2.1, bif Zjx x.1 then b else x.2.2.1, bif x.1 == 1 || x.1 == 8 then ZfH c.1 b else x.2.2.2)
def cyX (c : TC) (s : Int) (g : List Int) : List Int → List TY
 | [] => []
 | b :: r => bif (Zt c s g).2 then Zyi c (Zt c s g).1 b :: cyX c s (g ++ [b]) r else []
def cycE (k : Int) : Bool := ZB7 k || (k == 6 || k == 7)
def ZbL (c : TC) (e : EVTT) : List TY := bif cycE e.1 then cyX (ZH c e.2.1) e.2.1 [] e.2.2.1 else []
theorem Zzp (c : TC) (s : Int) (g : List Int) (b : Int) (r : List Int) : cyX c s g (b :: r) = bif (Zt c s g).2 then Zyi c (Zt c s g).1 b :: cyX c s (g ++ [b]) r else [] := rfl
theorem ZGV (c : TC) (s : Int) (g : List Int) : cyX c s g [] = [] := rfl
theorem Zzq {α : Type} {b : Bool} {x y z : α} (h : b = true) (e : x = z := by rfl) : (bif b then x else y) = z := by rw [h]; exact e
theorem ZGW (c : TC) (s : Int) : ∀ (r g : List Int), (cyX c s g r).length ≤ r.length
 | [], g => Nat.le_refl _
 | b :: r, g => by
  have := ZGW c s r (g ++ [b])
  unfold cyX
  cases (Zt c s g).2
  ·exact Nat.zero_le _
  ·simp only [cond_true, List.length_cons]; omega
theorem ZnT (g : List Int) (i : Nat) : subL g 0 (i : Int) = g.take i := by simp [subL]
theorem Zzm (g : List Int) (i : Nat) (h : i < g.length) : g.drop i = R.get (R.int .u8) g (i : Int) :: g.drop (i + 1) := by
 rw [List.drop_eq_getElem_cons h]
 simp [R.get, List.getElem?_eq_getElem h]
theorem Zxs (g : List Int) (i : Nat) (h : i < g.length) : g.take (i + 1) = g.take i ++ [R.get (R.int .u8) g (i : Int)] := by
 rw [List.take_add_one, List.getElem?_eq_getElem h]
 simp [R.get, List.getElem?_eq_getElem h]
theorem cyc_b (c : TC) (e : EVTT) (h : e.2.2.1.length ≤ 1000000) : Zrf c e = true ∧ Zxb c e = ZbL c e := by
 have hms := mst
 obtain ⟨r, hr, h0, h1⟩ := Zag (fl := true) (t := Zc3) (fuel := fun _ => 1000000000000)
  (fun a => ∃ (i : Nat) (o : List TY), i ≤ e.2.2.1.length ∧ o.length ≤ i ∧ o ++ cyX (ZH c e.2.1) e.2.1 (e.2.2.1.take i) (e.2.2.1.drop i) = cyX (ZH c e.2.1) e.2.1 [] e.2.2.1 ∧ a = (e.2.2.1, (e.2.2.1.length : Int), (i : Int), ZH c e.2.1, e, o, ()))
  (fun a => Int.toNat (a.2.1 - a.2.2.1)) (fun r => r.1 = false ∧ r.2.2.2.2.2.2.1 = cyX (ZH c e.2.1) e.2.1 [] e.2.2.1)
  (by
   rintro a ⟨i, o, hi, ho, hc, rfl⟩
   by_cases hlt : i < e.2.2.1.length
   ·have d : decide ((i : Int) < (e.2.2.1.length : Int)) = true := decide_eq_true (by omega)
    have hin : Zf (i : Int) e.2.2.1.length = true := Zae.2 ⟨by omega, by omega⟩
    have w : IntKind.wrap .i64 ((i : Int) + 1) = ((i + 1 : Nat) : Int) := by rw [wrap_i64 _ (by omega) (by omega)]; omega
    have h0 : (decide ((0 : Int) ≤ 0) && decide ((0 : Int) ≤ (i : Int)) && (decide ((i : Int) = 0) || decide ((i : Int) ≤ iN e.2.2.1.length))) = true := by
     have : (i : Int) ≤ iN e.2.2.1.length := by simp only [iN]; omega
     simp [this]
    have hb : ∀ x : TY, Nat.ble (o ++ [x]).length most = true := fun x => Znx (by simp; omega)
    rw [Zzm _ i hlt, Zzp] at hc
    cases hn : (Zt (ZH c e.2.1) e.2.1 (e.2.2.1.take i)).2
    ·right; left
     rw [hn] at hc
     simp only [cond_false, List.append_nil] at hc
     refine ⟨(e.2.2.1, (e.2.2.1.length : Int), (i : Int), ZH c e.2.1, e, o, ()), ?_, rfl, hc⟩
     simp only [Zc3, RT.val, d, hin, ZnT, hn, hb, Bool.not_false, Bool.not_true, Bool.or_true, Bool.true_or, Bool.false_or, cond_true]
     exact Zzq h0
    ·left
     rw [hn] at hc
     simp only [cond_true] at hc
     refine ⟨(e.2.2.1, (e.2.2.1.length : Int), ((i + 1 : Nat) : Int), ZH c e.2.1, e, o ++ [Zyi (ZH c e.2.1) (Zt (ZH c e.2.1) e.2.1 (e.2.2.1.take i)).1 (R.get (R.int .u8) e.2.2.1 (i : Int))], ()), ?_, ⟨i + 1, _, by omega, by simp; omega, ?_, rfl⟩, by simp only; omega⟩
     ·simp only [Zc3, RT.val, d, hin, w, ZnT, hn, hb, Bool.not_false, Bool.not_true, Bool.or_true, Bool.true_or, Bool.false_or, cond_true, cond_false]
      exact Zzq h0
     ·rw [Zxs _ i hlt, List.append_assoc]
      exact hc
   ·right; left
    have e1 : i = e.2.2.1.length := by omega
    subst e1
    have d : decide ((e.2.2.1.length : Int) < (e.2.2.1.length : Int)) = false := decide_eq_false (by omega)
    rw [List.take_length, List.drop_length, ZGV, List.append_nil] at hc
    exact ⟨(e.2.2.1, (e.2.2.1.length : Int), (e.2.2.1.length : Int), ZH c e.2.1, e, o, ()), by simp only [Zc3, RT.val, d, cond_false], rfl, hc⟩)
  (e.2.2.1, (e.2.2.1.length : Int), 0, ZH c e.2.1, e, [], ()) ⟨0, [], Nat.zero_le _, Nat.le_refl _, rfl, rfl⟩ (by simp only; omega)
 obtain ⟨r1, r2⟩ := r
 simp only at h0 h1
 subst h0
 have hv : (Zhc c e).val = some (ZbL c e) := by
  unfold Zhc ZbL cycE ZB7
  simp only [RT.val, iN, hr, okB, getO, cond_true, cond_false, h1]
  cases e.1 == 1 <;> cases e.1 == 2 <;> cases e.1 == 3 <;> cases e.1 == 6 <;> cases e.1 == 7 <;> rfl
 exact ⟨by simp only [Zrf, hv]; rfl, by simp only [Zxb, hv, getO]⟩
theorem cyc_w (c : TC) (e : EVTT) (h : e.2.2.1.length ≤ 1000000) : ZnH c e = true ∧ ZtB c e = ZbL c e := by
 have hms := mst
 obtain ⟨z1, z2, z3, z4, z5, z6, z7, z8, z9, za, zb, zc, zd, ze, zf, zg, zh, zi, hz⟩ : ∃ z1 z2 z3 z4 z5 z6 z7 z8 z9 za zb zc zd ze zf zg zh zi, (e.1, e.2.1, e.2.2.1, e.2.2.2.1.1, e.2.2.2.1.2.1, e.2.2.2.1.2.2.1, e.2.2.2.1.2.2.2.1, e.2.2.2.1.2.2.2.2.1, e.2.2.2.1.2.2.2.2.2.1, e.2.2.2.1.2.2.2.2.2.2.1, e.2.2.2.1.2.2.2.2.2.2.2.1, e.2.2.2.1.2.2.2.2.2.2.2.2, e.2.2.2.2.1, e.2.2.2.2.2.1, e.2.2.2.2.2.2.1, e.2.2.2.2.2.2.2.1, e.2.2.2.2.2.2.2.2.1, e.2.2.2.2.2.2.2.2.2) = (z1, z2, z3, z4, z5, z6, z7, z8, z9, za, zb, zc, zd, ze, zf, zg, zh, zi) := ⟨_, _, _, _, _, _, _, _, _, _, _, _, _, _, _, _, _, _, rfl⟩
 have key : ∃ r, runF true Zb9 (fun _ => 1000000000000) ([], e.2.2.1, (e.2.2.1.length : Int), 0, ZH c e.2.1, e, z1, z2, z3, z4, z5, z6, z7, z8, z9, za, zb, zc, zd, ze, zf, zg, zh, zi, [], ()) = some r ∧
   ((r.1 = true ∧ r.2.1 = cyX (ZH c e.2.1) e.2.1 [] e.2.2.1) ∨ (r.1 = false ∧ r.2.2.2.2.2.2.2.2.2.2.2.2.2.2.2.2.2.2.2.2.2.2.2.2.2.1 = cyX (ZH c e.2.1) e.2.1 [] e.2.2.1)) := by
  refine Zag (fl := true) (t := Zb9) (fuel := fun _ => 1000000000000)
   (fun a => ∃ (i : Nat) (o : List TY), i ≤ e.2.2.1.length ∧ o.length ≤ i ∧ o ++ cyX (ZH c e.2.1) e.2.1 (e.2.2.1.take i) (e.2.2.1.drop i) = cyX (ZH c e.2.1) e.2.1 [] e.2.2.1 ∧ a = ([], e.2.2.1, (e.2.2.1.length : Int), (i : Int), ZH c e.2.1, e, z1, z2, z3, z4, z5, z6, z7, z8, z9, za, zb, zc, zd, ze, zf, zg, zh, zi, o, ()))
   (fun a => Int.toNat (a.2.2.1 - a.2.2.2.1)) _ ?_ _ ⟨0, [], Nat.zero_le _, Nat.le_refl _, rfl, rfl⟩ (by simp only; omega)
  rintro a ⟨i, o, hi, ho, hc, rfl⟩
  by_cases hlt : i < e.2.2.1.length
  ·have d : decide ((i : Int) < (e.2.2.1.length : Int)) = true := decide_eq_true (by omega)
   have hin : Zf (i : Int) e.2.2.1.length = true := Zae.2 ⟨by omega, by omega⟩
   have w : IntKind.wrap .i64 ((i : Int) + 1) = ((i + 1 : Nat) : Int) := by rw [wrap_i64 _ (by omega) (by omega)]; omega
   have h0 : (decide ((0 : Int) ≤ 0) && decide ((0 : Int) ≤ (i : Int)) && (decide ((i : Int) = 0) || decide ((i : Int) ≤ iN e.2.2.1.length))) = true := by
    have : (i : Int) ≤ iN e.2.2.1.length := by simp only [iN]; omega
    simp [this]
   have hb : ∀ x : TY, Nat.ble (o ++ [x]).length most = true := fun x => Znx (by simp; omega)
   rw [Zzm _ i hlt, Zzp] at hc
   cases hn : (Zt (ZH c e.2.1) e.2.1 (e.2.2.1.take i)).2
   ·right; right
    rw [hn] at hc
    simp only [cond_false, List.append_nil] at hc
    refine ⟨(o, e.2.2.1, (e.2.2.1.length : Int), (i : Int), ZH c e.2.1, e, z1, z2, z3, z4, z5, z6, z7, z8, z9, za, zb, zc, zd, ze, zf, zg, zh, zi, o, ()), rfl, ?_, .inl ⟨rfl, hc⟩⟩
    simp only [Zb9, RT.val, d, hin, ZnT, hn, hb, Bool.not_false, Bool.not_true, Bool.or_true, Bool.true_or, Bool.false_or, cond_true]
    exact Zzq h0
   ·left
    rw [hn] at hc
    simp only [cond_true] at hc
    refine ⟨([], e.2.2.1, (e.2.2.1.length : Int), ((i + 1 : Nat) : Int), ZH c e.2.1, e, z1, z2, z3, z4, z5, z6, z7, z8, z9, za, zb, zc, zd, ze, zf, zg, zh, zi, o ++ [Zyi (ZH c e.2.1) (Zt (ZH c e.2.1) e.2.1 (e.2.2.1.take i)).1 (R.get (R.int .u8) e.2.2.1 (i : Int))], ()), ?_, ⟨i + 1, _, by omega, by simp; omega, ?_, rfl⟩, by simp only; omega⟩
    ·simp only [Zb9, RT.val, d, hin, w, ZnT, hn, hb, Bool.not_false, Bool.not_true, Bool.or_true, Bool.true_or, Bool.false_or, cond_true, cond_false]
     exact Zzq h0
    ·rw [Zxs _ i hlt, List.append_assoc]
     exact hc
  ·right; left
   have e1 : i = e.2.2.1.length := by omega
   subst e1
   have d : decide ((e.2.2.1.length : Int) < (e.2.2.1.length : Int)) = false := decide_eq_false (by omega)
   rw [List.take_length, List.drop_length, ZGV, List.append_nil] at hc
   exact ⟨([], e.2.2.1, (e.2.2.1.length : Int), (e.2.2.1.length : Int), ZH c e.2.1, e, z1, z2, z3, z4, z5, z6, z7, z8, z9, za, zb, zc, zd, ze, zf, zg, zh, zi, o, ()), by simp only [Zb9, RT.val, d, cond_false], .inr ⟨rfl, hc⟩⟩
 obtain ⟨r, hr, h1⟩ := key
 simp only [pinj] at hz
 obtain ⟨rfl, rfl, rfl, rfl, rfl, rfl, rfl, rfl, rfl, rfl, rfl, rfl, rfl, rfl, rfl, rfl, rfl, rfl⟩ := hz
 obtain ⟨r1, r2⟩ := r
 simp only at h1
 have hv : (Zgh c e).val = some (ZbL c e) := by
  unfold Zgh ZbL cycE ZB7
  have hbool : ∀ a b c d f : Bool, (!(a || (b || c)) && (!d && !f)) = !(a || (b || c) || (d || f)) := by decide
  have hne : ∀ k : Int, (e.1 != k) = !(e.1 == k) := fun k => rfl
  rcases h1 with ⟨h0, h1⟩ | ⟨h0, h1⟩
  ·subst h0
   simp only [RT.val, iN, hr, okB, getO, cond_true, cond_false, h1, hne, hbool]
   cases e.1 == 1 || (e.1 == 2 || e.1 == 3) || (e.1 == 6 || e.1 == 7) <;> rfl
  ·subst h0
   simp only [RT.val, iN, hr, okB, getO, cond_true, cond_false, h1, hne, hbool]
   cases e.1 == 1 || (e.1 == 2 || e.1 == 3) || (e.1 == 6 || e.1 == 7) <;> rfl
 exact ⟨by simp only [ZnH, hv]; rfl, by simp only [ZtB, hv, getO]⟩
def Zmo (c : TC) : List EVTT → List TC
 | [] => []
 | e :: l => Zdq c e :: Zmo (Zdq c e) l
theorem ZCU {r : R} (g : List r.den) (i : Nat) (h : i < g.length) : g.take (i + 1) = g.take i ++ [R.get r g (i : Int)] := by
 rw [List.take_add_one, List.getElem?_eq_getElem h]
 simp [R.get, List.getElem?_eq_getElem h]
theorem ZMQ {r : R} (g : List r.den) (i : Nat) (h : i < g.length) : g.drop i = R.get r g (i : Int) :: g.drop (i + 1) := by
 rw [List.drop_eq_getElem_cons h]
 simp [R.get, List.getElem?_eq_getElem h]
theorem ZHE (T : List EVTT × Int × Int × TC × List TC × PUnit → RT (Option (Go1 (List EVTT × Int × Int × TC × List TC × PUnit))))
  (hT : ∀ (l : List EVTT) (n i : Int) (c : TC) (o : List TC), (T (l, n, i, c, o, ())).val = bif decide (i < n) then (bif !Zf i l.length || Nat.ble (o ++ [Zdq c (R.get Zcc l i)]).length most then (bif Zf i l.length then some (.cont (l, n, IntKind.wrap .i64 (i + 1), Zdq c (R.get Zcc l i), o ++ [Zdq c (R.get Zcc l i)], ())) else none) else none) else some (.brk (l, n, i, c, o, ())))
  (c : TC) (l : List EVTT) (h : l.length ≤ 1000000) : ∃ z, runF false T (fun _ => 1000000000000) (l, (l.length : Int), 0, c, [], ()) = some (false, (l, (l.length : Int), (l.length : Int), z, Zmo c l, ())) := by
 have hms := mst
 obtain ⟨r, hr, z, h1⟩ := Zag (fl := false) (t := T) (fuel := fun _ => 1000000000000)
  (fun a => ∃ (i : Nat) (c' : TC) (o : List TC), i ≤ l.length ∧ o.length = i ∧ o ++ Zmo c' (l.drop i) = Zmo c l ∧ a = (l, (l.length : Int), (i : Int), c', o, ()))
  (fun a => Int.toNat (a.2.1 - a.2.2.1)) (fun r => ∃ z, r = (false, (l, (l.length : Int), (l.length : Int), z, Zmo c l, ())))
  (by
   rintro a ⟨i, c', o, hi, ho, hc, rfl⟩
   by_cases hlt : i < l.length
   ·left
    have d : decide ((i : Int) < (l.length : Int)) = true := decide_eq_true (by omega)
    have hin : Zf (i : Int) l.length = true := Zae.2 ⟨by omega, by omega⟩
    have w : IntKind.wrap .i64 ((i : Int) + 1) = ((i + 1 : Nat) : Int) := by rw [wrap_i64 _ (by omega) (by omega)]; omega
    have hb : ∀ x : TC, Nat.ble (o ++ [x]).length most = true := fun x => Znx (by simp; omega)
    rw [ZMQ (r := Zcc) l i hlt] at hc
    refine ⟨(l, (l.length : Int), ((i + 1 : Nat) : Int), Zdq c' (R.get Zcc l (i : Int)), o ++ [Zdq c' (R.get Zcc l (i : Int))], ()), ?_, ⟨i + 1, _, _, by omega, by simp; omega, ?_, rfl⟩, by simp only; omega⟩
    ·rw [hT]; simp only [d, hin, w, hb, Bool.or_true, cond_true]
    ·rw [List.append_assoc]; exact hc
   ·right; left
    have e1 : i = l.length := by omega
    subst e1
    have d : decide ((l.length : Int) < (l.length : Int)) = false := decide_eq_false (by omega)
    rw [List.drop_length] at hc
    simp only [Zmo, List.append_nil] at hc
    subst hc
    exact ⟨_, by rw [hT]; simp only [d, cond_false], c', rfl⟩)
  (l, (l.length : Int), 0, c, [], ()) ⟨0, c, [], Nat.zero_le _, rfl, rfl, rfl⟩ (by simp only; omega)
 exact ⟨z, by rw [← h1]; exact hr⟩
theorem ZNd (c : TC) (l : List EVTT) (h : l.length ≤ 1000000) : Zrd c l = true ∧ Zxa c l = Zmo c l := by
 obtain ⟨z, hr⟩ := ZHE ZfC (fun l n i c o => by simp only [ZfC, RT.val, ZHd]) c l h
 have hv : (Zha c l).val = some (Zmo c l) := by simp only [Zha, RT.val, iN, hr, okB, getO, cond_true]
 exact ⟨by simp only [Zrd, hv]; rfl, by simp only [Zxa, hv, getO]⟩
theorem ZHB {r : R} (hp : r.plain = true) (T : List r.den × List r.den × Bool × Int × Int × PUnit → RT (Option (Go1 (List r.den × List r.den × Bool × Int × Int × PUnit))))
  (hT : ∀ (a b : List r.den) (f : Bool) (n i : Int), Zf i a.length = true → Zf i b.length = true → (T (a, b, f, n, i, ())).val = bif decide (i < n) then (bif r.eqf (R.get r a i) (R.get r b i) true then some (.cont (a, b, f, n, IntKind.wrap .i64 (i + 1), ())) else some (.ret (a, b, false, n, i, ()))) else some (.brk (a, b, f, n, i, ())))
  (hT2 : ∀ (a b : List r.den) (f : Bool) (n : Int), (T (a, b, f, n, n, ())).val = some (.brk (a, b, f, n, n, ())))
  (a b : List r.den) (h : a.length = b.length) (hl : a.length ≤ 1000000000) :
  ∃ q, runF true T (fun _ => 1000000000000) (a, b, false, (a.length : Int), 0, ()) = some q ∧ ((q.1 = false ∧ a = b) ∨ (q.1 = true ∧ a ≠ b ∧ q.2.2.2.1 = false)) := by
 refine Zag (fl := true) (t := T) (fuel := fun _ => 1000000000000)
  (fun x => ∃ i : Nat, i ≤ a.length ∧ a.take i = b.take i ∧ x = (a, b, false, (a.length : Int), (i : Int), ()))
  (fun x => Int.toNat (x.2.2.2.1 - x.2.2.2.2.1)) _ ?_ _ ⟨0, Nat.zero_le _, rfl, rfl⟩ (by simp only; omega)
 rintro x ⟨i, hi, ht, rfl⟩
 by_cases hlt : i < a.length
 ·have d : decide ((i : Int) < (a.length : Int)) = true := decide_eq_true (by omega)
  have i1 : Zf (i : Int) a.length = true := Zae.2 ⟨by omega, by omega⟩
  have i2 : Zf (i : Int) b.length = true := Zae.2 ⟨by omega, by omega⟩
  have w : IntKind.wrap .i64 ((i : Int) + 1) = ((i + 1 : Nat) : Int) := by rw [wrap_i64 _ (by omega) (by omega)]; omega
  cases he : r.eqf (R.get r a (i : Int)) (R.get r b (i : Int)) true
  ·right; right
   refine ⟨(a, b, false, (a.length : Int), (i : Int), ()), rfl, by rw [hT _ _ _ _ _ i1 i2]; simp only [d, he, cond_true, cond_false], .inr ⟨rfl, fun e => ?_, rfl⟩⟩
   rw [e, R.eqf_refl] at he
   exact absurd he (by simp)
  ·left
   have e := ((R.eqf_iff r hp _ _ _).1 he).1
   refine ⟨(a, b, false, (a.length : Int), ((i + 1 : Nat) : Int), ()), by rw [hT _ _ _ _ _ i1 i2]; simp only [d, he, w, cond_true], ⟨i + 1, by omega, ?_, rfl⟩, by simp only; omega⟩
   rw [ZCU a i hlt, ZCU b i (by omega), ht, e]
 ·right; left
  have e1 : i = a.length := by omega
  subst e1
  refine ⟨_, hT2 _ _ _ _, .inl ⟨rfl, ?_⟩⟩
  rw [List.take_length] at ht
  rw [ht, h, List.take_length]
def Zgo (r : R) : List r.den → List r.den → Bool
 | [], [] => true
 | x :: a, y :: b => r.eqf x y (Zgo r a b)
 | _, _ => false
theorem Zjp (r : R) (hp : r.plain = true) : ∀ a b : List r.den, Zgo r a b = true ↔ a = b
 | [], [] => by simp [Zgo]
 | [], y :: b => by simp [Zgo]
 | x :: a, [] => by simp [Zgo]
 | x :: a, y :: b => by
  simp only [Zgo]
  rw [R.eqf_iff r hp, Zjp r hp a b]
  simp
theorem Zhp (r : R) : ∀ a : List r.den, Zgo r a a = true
 | [] => rfl
 | x :: a => by simp only [Zgo, R.eqf_refl, Zhp r a]
theorem Zxz (r : R) (hp : r.plain = true) {a b : List r.den} (h : a ≠ b) : Zgo r a b = false := by
 cases hq : Zgo r a b
 ·rfl
 ·exact absurd ((Zjp r hp a b).1 hq) h
theorem ZNZ {α : Type} {a b : List α} (h : (iN a.length != iN b.length) = true) : a ≠ b := fun e => by subst e; simp at h
theorem ZC6 (a b : List TY) (h : a.length ≤ 1000000000) : ZnG a b = true ∧ ZtA a b = Zgo RY a b := by
 have hv : (Zgf a b).val = some (Zgo RY a b) := by
  unfold Zgf
  cases hx : iN a.length != iN b.length
  ·have hl : a.length = b.length := by simp only [iN, bne_eq_false_iff_eq] at hx; omega
   obtain ⟨q, hr, hq⟩ := ZHB (r := RY) rfl ZdJ (fun a b f n i h1 h2 => by
    simp only [ZdJ, RT.val, h1, h2, Bool.not_true, Bool.or_self, Bool.false_or, cond_true]
    cases decide (i < n)
    ·rfl
    ·simp only [cond_true]
     cases RY.eqf (R.get RY a i) (R.get RY b i) true <;> rfl) (fun a b f n => by
    have d : decide (n < n) = false := decide_eq_false (by omega)
    simp only [ZdJ, RT.val, d, cond_false]) a b hl h
   simp only [RT.val, iN] at hr ⊢
   rcases hq with ⟨e1, e2⟩ | ⟨e1, e2, e3⟩
   ·rw [(Zjp RY rfl a b).2 e2]; simp only [hr, e1, okB, getO, cond_true, cond_false]
   ·simp only [hr, e1, e3, okB, getO, cond_true, cond_false]
    exact congrArg some (Zxz RY rfl e2).symm
  ·simp only [RT.val, hx, cond_true]
   exact congrArg some (Zxz RY rfl (ZNZ hx)).symm
 exact ⟨by simp only [ZnG, hv]; rfl, by simp only [ZtA, hv, getO]⟩
def ZtV (e : EVTT) : Bool := Nat.ble e.2.2.1.length 1000000
def Zn5 {α : Type} (l : List α) : Bool := Nat.ble l.length 1000000
theorem ZxD {α : Type} {l : List α} (h : Zn5 l = true) : l.length ≤ 1000000 := by simpa [Zn5] using h
theorem ZxF {e : EVTT} (h : ZtV e = true) : e.2.2.1.length ≤ 1000000 := by simpa [ZtV] using h
def ZcX : Entry := Zk Zrg Zrh (fun _ => none) (fun a => Zdq a.1 a.2)
theorem Zd5 : Zc Tryz.prog 48 ZcX := Zmh.tot (fun a h => by simp) (fun a h => ZHd a.1 a.2)
def Zff : Entry := Zk ZnI ZnJ (fun _ => none) (fun a => Zdq a.1 a.2)
theorem Zhg : Zc Tryz.prog 49 Zff := ZCj.tot (fun a h => by simp) (fun a h => ZMW a.1 a.2)
def Zb2 : Entry := Zk Zmg Zhd (fun a => some (ZtV a.2)) (fun a => ZbL a.1 a.2)
theorem Zdp : Zc Tryz.prog 51 Zb2 := ZtH ZCe fun a h => cyc_b a.1 a.2 (ZxF h)
def ZdL : Entry := Zk Zjb Zgi (fun a => some (ZtV a.2)) (fun a => ZbL a.1 a.2)
theorem ZfO : Zc Tryz.prog 52 ZdL := ZtH Zzz fun a h => cyc_w a.1 a.2 (ZxF h)
def Zts : Entry := Zk Zme Zhb (fun a => some (Zn5 a.2)) (fun a => Zmo a.1 a.2)
theorem Zw9 : Zc Tryz.prog 56 Zts := ZtH ZCa fun a h => ZNd a.1 a.2 (ZxD h)
def ZdK : Entry := Zk Zja Zgg (fun a => some (Zn5 a.1)) (fun a => Zgo RY a.1 a.2)
theorem ZfN : Zc Tryz.prog 50 ZdK := ZtH Zzx fun a h => ZC6 a.1 a.2 (Nat.le_trans (ZxD h) (by omega))
abbrev Zny : List Sh := [Sh.agg Z3, Sh.one rcRG, Sh.one rcCE, Sh.agg Zcc]
abbrev Zh0 : Rs := Rs.one (Sh.one rcCE)
def Zw8 : LS := { n := 48, slots := [(1, .code (Sh.one rcRG)), (2, .code (Sh.one rcCE)), (25, .code (Sh.one (R.sl (RY)))), (26, .code (Sh.one (R.int i64))), (27, .code (Sh.one (R.int i64)))], boxes := [[.many Z3], [.many Zcc]], stgs := [] }
def Zmc (a : List (QT8) × List (Int × Int) × List TY × Int × Int × TC × EVTT × PUnit) : RT (Option (Go1 (List (QT8) × List (Int × Int) × List TY × Int × Int × TC × EVTT × PUnit))) :=
 let x1 : QT18 := R.get (RY) a.2.2.1 a.2.2.2.2.1
 let x2 := x1.1
 let x3 := x2 == 3 || x2 == 5
 let x4 := x1.2
 let x5 : TC × EVTT × PUnit := (a.2.2.2.2.2.1, a.2.2.2.2.2.2.1, PUnit.unit)
 .br (decide (a.2.2.2.2.1 < a.2.2.2.1)) (.br (!Zf a.2.2.2.2.1 (List.length a.2.2.1) || (!x3 || smG a.1 && smC a.2.1)) (.br (Zf a.2.2.2.2.1 (List.length a.2.2.1)) (.leaf (some (Go1.cont (a.1, bif x3 then Zhf a.1 a.2.1 x4.1 x4.2.1 else a.2.1, a.2.2.1, a.2.2.2.1, i64.wrap (a.2.2.2.2.1 + 1), x5)))) (.leaf none)) (.leaf none)) (.leaf (some (Go1.brk (a.1, a.2.1, a.2.2.1, a.2.2.2.1, a.2.2.2.2.1, x5))))
def Zmd : Ora := Zcj false Zw8 Zmc (fun a => 1000000000000)
theorem Zrc : ZbF (envX Tryz.prog [(51, Zb2), (187, ZgJ)] [] 2047 8) (.block 0 (.loop (ZaA Tryz.f118.body 0))) Zmd :=
 ZP (ZT (l := [(51, Zb2), (187, ZgJ)]) ⟨Zdp, Zko, trivial⟩ [] 2047 8) (Zz (by kernel_rfl)) (fun a => by kernel_rfl)
def Zmb (c : TC) (rg : List (QT8)) (m : List (Int × Int)) (e : EVTT) : RT (Option (List (Int × Int))) :=
 let x1 : List (QT8) × List (Int × Int) × List TY × Int × Int × TC × EVTT × PUnit := (rg, m, ZbL c e, iN (List.length (ZbL c e)), 0, c, e, ())
 let x2 := runF false Zmc (fun a => 1000000000000) x1
 .br (!e.1 == 5 || smG rg && smC m) (.br (e.1 == 5) (.leaf (some (Zhf rg m e.2.2.2.2.2.2.2.2.1 e.2.2.2.2.2.2.2.2.2))) (.br (ZtV e) (.br (okB x2) (.leaf (some (getO (false, x1) x2).2.2.1)) (.leaf none)) (.leaf none))) (.leaf none)
def Zzs (c : TC) (rg : List (QT8)) (m : List (Int × Int)) (e : EVTT) : List (Int × Int) := getO Zh0.dflt (Zmb c rg m e).val
def Ztq (c : TC) (rg : List (QT8)) (m : List (Int × Int)) (e : EVTT) : Bool := okB (Zmb c rg m e).val
def Zg9 : Entry := Zk Zny Zh0 (fun a => some (Ztq a.1 a.2.1 a.2.2.1 a.2.2.2)) (fun a => Zzs a.1 a.2.1 a.2.2.1 a.2.2.2)
theorem Zma : Zc Tryz.prog 118 Zg9 :=
 pureP 2047 [(51, Zb2), (187, ZgJ)] [(0, Zmd)] Zny Zh0 ⟨Zdp, Zko, trivial⟩ Tryz.func118 Tryz.call118 ⟨Zrc, trivial⟩ (t := fun a => Zmb a.1 a.2.1 a.2.2.1 a.2.2.2) (fun a => by kernel_rfl)
abbrev Ztt : List Sh := [Sh.agg Z3, Sh.one rcRG, Sh.one rcCE, Sh.one (R.sl Zcc)]
abbrev Zmf : Rs := Rs.one (Sh.one rcCE)
def ZCd : LS := { n := 29, slots := [(1, .code (Sh.one rcRG)), (2, .code (Sh.one rcCE)), (4, .fix (A.loc 0 0)), (13, .code (Sh.one (R.sl Zcc))), (14, .code (Sh.one (R.int i64))), (15, .code (Sh.one (R.int i64)))], boxes := [[.many Z3]], stgs := [] }
def ZnA (a : List (QT8) × List (Int × Int) × List EVTT × Int × Int × TC × PUnit) : RT (Option (Go1 (List (QT8) × List (Int × Int) × List EVTT × Int × Int × TC × PUnit))) :=
 let x1 : EVTT := R.get Zcc a.2.2.1 a.2.2.2.2.1
 .br (decide (a.2.2.2.2.1 < a.2.2.2.1)) (.br (!Zf a.2.2.2.2.1 (List.length a.2.2.1) || Ztq a.2.2.2.2.2.1 a.1 a.2.1 x1) (.br (Zf a.2.2.2.2.1 (List.length a.2.2.1)) (.leaf (some (Go1.cont (a.1, Zzs a.2.2.2.2.2.1 a.1 a.2.1 x1, a.2.2.1, a.2.2.2.1, i64.wrap (a.2.2.2.2.1 + 1), Zdq a.2.2.2.2.2.1 x1, PUnit.unit)))) (.leaf none)) (.leaf none)) (.leaf (some (Go1.brk (a.1, a.2.1, a.2.2.1, a.2.2.2.1, a.2.2.2.2.1, a.2.2.2.2.2.1, PUnit.unit))))
def ZnB : Ora := Zcj false ZCd ZnA (fun a => 1000000000000)
theorem Ztu : ZbF (envX Tryz.prog [(48, ZcX), (117, ZqP), (118, Zg9)] [] 2047 8) (.block 0 (.loop (ZaA Tryz.f58.body 0))) ZnB :=
 ZP (ZT (l := [(48, ZcX), (117, ZqP), (118, Zg9)]) ⟨Zd5, ZsV, Zma, trivial⟩ [] 2047 8) (Zz (by kernel_rfl)) (fun a => by kernel_rfl)
def Zre (c : TC) (rg : List (QT8)) (m : List (Int × Int)) (l : List EVTT) : RT (Option (List (Int × Int))) :=
 let x1 : List (QT8) × List (Int × Int) × List EVTT × Int × Int × TC × PUnit := (rg, Cells.normX m, l, iN (List.length l), 0, c, ())
 let x2 := runF false ZnA (fun a => 1000000000000) x1
 .br (smC m) (.br (okB x2) (.leaf (some (getO (false, x1) x2).2.2.1)) (.leaf none)) (.leaf none)
def ZG7 (c : TC) (rg : List (QT8)) (m : List (Int × Int)) (l : List EVTT) : List (Int × Int) := getO Zmf.dflt (Zre c rg m l).val
def Zzu (c : TC) (rg : List (QT8)) (m : List (Int × Int)) (l : List EVTT) : Bool := okB (Zre c rg m l).val
def Zzt : Entry := Zk Ztt Zmf (fun a => some (Zzu a.1 a.2.1 a.2.2.1 a.2.2.2)) (fun a => ZG7 a.1 a.2.1 a.2.2.1 a.2.2.2)
theorem ZCc : Zc Tryz.prog 58 Zzt :=
 pureP 2047 [(48, ZcX), (117, ZqP), (118, Zg9)] [(0, ZnB)] Ztt Zmf ⟨Zd5, ZsV, Zma, trivial⟩ Tryz.func58 Tryz.call58 ⟨Ztu, trivial⟩ (t := fun a => Zre a.1 a.2.1 a.2.2.1 a.2.2.2) (fun a => by kernel_rfl)
abbrev ZN2 : List Sh := []
abbrev ZMB : Rs := Rs.one (Sh.one R.bool)
def kKbT : RT (Option (Bool)) :=
 let x1 : LINT × Bool × Bool × Bool × Bool × Int × Int := ((false, false, false, false, false, false, false, false, false), false, false, false, false, 0, 0)
 let x2 : List EVTT := [(1, 0, [62, 7], x1), (1, 0, [50, 5, 0, 7], x1), (4, 0, [], x1)]
 let x3 : TC := (1, (0, 0, 0, 0, 0, 0, 0, (false, false, false, false, false, false, false), 0, 0), false, false, false, 0, false, false, false, false, false, false, false)
 let x4 := Zmo x3 x2
 let x5 : Nat := List.length x4
 let x6 := !iN x5 == 3
 let x7 := Zf 1 x5
 let x8 := x6 || x7
 let x9 := !x8
 let x10 : TR := (R.get Z3 x4 1).2.1
 let x11 := !x10.1 == 7
 let x12 := x6 || (x11 || x7)
 let x13 := !x12
 let x14 := !x10.2.2.2.2.2.2.2.2.2 == 5
 let x15 := x6 || (x11 || (x14 || Zf 2 x5))
 let p1 := (!(R.get Z3 x4 2).2.1.2.2.2.2.2.2.2.2.2 == 0) :: x14 :: x11 :: x6 :: (!x15) :: x13 :: x9 :: []
 .br (Zn5 x2) (.br (Zzu x3 [(0, 65535, true, 0)] [] x2) (.br (orR p1 (smC (ZG7 x3 [(0, 65535, true, 0)] [] x2))) (.br (x9 || (x13 || x15)) (.br (x9 || x12) (.br (x8) (.leaf (some (true))) (.leaf none)) (.leaf none)) (.leaf none)) (.leaf none)) (.leaf none)) (.leaf none)
def kKb : Bool := getO ZMB.dflt (kKbT ).val
def kKbC : Bool := okB (kKbT ).val
def kKbE : Entry := Zk ZN2 ZMB (fun a => some (kKbC )) (fun a => kKb )
theorem ZGm : Zc Tryz.prog 45 kKbE :=
 pureP 31 [(39, ZxK), (56, Zts), (58, Zzt)] [] ZN2 ZMB ⟨ZzO, Zw9, ZCc, trivial⟩ Tryz.func45 Tryz.call45 trivial (t := fun a => kKbT ) (fun a => by kernel_rfl)
def Zaq : Entry := .tree (ZS (envX Tryz.prog [] [] 7 8) Tryz.f21)
theorem ZbA : Zc Tryz.prog 21 Zaq := Zak (P := Tryz.prog) (n := 7) (k := 8) (l := []) (ol := []) trivial Tryz.func21 rfl (by kernel_rfl) Tryz.call21 trivial
abbrev Zs1 : List Sh := [Sh.agg Z3, Sh.agg Zcc, Sh.one (R.sl (R.int i64))]
abbrev ZlI : Rs := Rs.one (Sh.one R.bool)
def ZBV : LS := { n := 70, slots := [(4, .fix (A.loc 1 0)), (6, .code (Sh.one R.bool)), (9, .fix (A.loc 4 0)), (11, .fix (A.loc 5 0)), (40, .code (Sh.agg (R.pair Z3 Z3))), (41, .code (Sh.one (R.int i64))), (46, .code (Sh.agg (R.pair Zcc Zcc))), (47, .code (Sh.one (R.int i64)))], boxes := [[.many Z3], [.many Zcc], [.code (.sl (R.int i64)), .code (.int i64)], [.many Z3], [.many Zcc], [.many Z3]], stgs := [] }
def Zcl (a : QT10) : RT (Option (Go1 (QT10))) :=
 let x1 := decide (0 ≤ a.2.2.2.2.1 ∧ a.2.2.2.2.1 < 2)
 let x2 := !x1
 let x11 := a.2.2.2.1.1.2.2.2.2.2.2.2.2
 let x12 := a.2.2.2.1.2.2.2.2.2.2.2.2.2
 let x13 : EVTT := (bif a.2.2.2.2.1 == 0 then a.2.2.2.1.1.1 else a.2.2.2.1.2.1, bif a.2.2.2.2.1 == 0 then a.2.2.2.1.1.2.1 else a.2.2.2.1.2.2.1, bif a.2.2.2.2.1 == 0 then a.2.2.2.1.1.2.2.1 else a.2.2.2.1.2.2.2.1, (R.sel ZNf (a.2.2.2.2.1 == 0) a.2.2.2.1.1.2.2.2.1 a.2.2.2.1.2.2.2.2.1), bif a.2.2.2.2.1 == 0 then a.2.2.2.1.1.2.2.2.2.1 else a.2.2.2.1.2.2.2.2.2.1, bif a.2.2.2.2.1 == 0 then a.2.2.2.1.1.2.2.2.2.2.1 else a.2.2.2.1.2.2.2.2.2.2.1, bif a.2.2.2.2.1 == 0 then a.2.2.2.1.1.2.2.2.2.2.2.1 else a.2.2.2.1.2.2.2.2.2.2.2.1, bif a.2.2.2.2.1 == 0 then a.2.2.2.1.1.2.2.2.2.2.2.2.1 else a.2.2.2.1.2.2.2.2.2.2.2.2.1, bif a.2.2.2.2.1 == 0 then x11.1 else x12.1, bif a.2.2.2.2.1 == 0 then x11.2 else x12.2)
 let x14 := Zdq a.2.2.2.2.2.2.2.2.2.2.2.1 x13
 let x69 := !(R.eqf Z3 x14 x14 true)
 let x70 := ZtV x13
 let x71 := !x70
 let x72 := ZbL a.2.2.2.2.2.2.2.2.2.2.2.1 x13
 let x73 := x69 || (x71 || (x71 || Zn5 x72))
 let x74 := !x73
 let x75 := x69 || (x71 || x70)
 let p1 := x69 :: (!x75) :: x74 :: x2 :: []
 let x76 : TC × EVTT × List Int × Int × TC × EVTT × TC × PUnit := (a.2.2.2.2.2.1, a.2.2.2.2.2.2.1, a.2.2.2.2.2.2.2.1, a.2.2.2.2.2.2.2.2.1, a.2.2.2.2.2.2.2.2.2.1, a.2.2.2.2.2.2.2.2.2.2.1, a.2.2.2.2.2.2.2.2.2.2.2.1, PUnit.unit)
 let x77 : (TC × TC) × Int × (EVTT × EVTT) × Int × TC × EVTT × List Int × Int × TC × EVTT × TC × PUnit := (a.2.1, a.2.2.1, a.2.2.2.1, a.2.2.2.2.1, x76)
 .br (decide (a.2.2.2.2.1 < 2)) (.br (orR p1 x70) (.br (x2 || (x74 || x75)) (.br (x2 || x73) (.br (x1) (.br (x69 || !Zgo RY x72 x72) (.leaf (some (Go1.ret (false, x77)))) (.leaf (some (Go1.cont (a.1, a.2.1, a.2.2.1, a.2.2.2.1, i64.wrap (a.2.2.2.2.1 + 1), x76))))) (.leaf none)) (.leaf none)) (.leaf none)) (.leaf none)) (.leaf (some (Go1.brk (a.1, x77))))
def Zfu : Ora := Zcj true ZBV Zcl (fun a => 5)
theorem Zij : ZbF (envX Tryz.prog [(21, Zaq), (23, ZBN), (45, kKbE), (46, ZcH), (47, ZdV), (48, ZcX), (49, Zff), (50, ZdK), (51, Zb2), (52, ZdL)] [] 16383 8) (.block 2 (.loop (ZaA Tryz.f9.body 2))) Zfu :=
 ZP (ZT (l := [(21, Zaq), (23, ZBN), (45, kKbE), (46, ZcH), (47, ZdV), (48, ZcX), (49, Zff), (50, ZdK), (51, Zb2), (52, ZdL)]) ⟨ZbA, ZwI, ZGm, ZbH, Zf3, Zd5, Zhg, ZfN, Zdp, ZfO, trivial⟩ [] 16383 8) (Zz (by kernel_rfl)) (fun a => by kernel_rfl)
def ZBU : LS := { n := 70, slots := [(4, .fix (A.loc 1 0)), (6, .code (Sh.one R.bool)), (9, .fix (A.loc 4 0)), (40, .code (Sh.agg (R.pair Z3 Z3))), (41, .code (Sh.one (R.int i64)))], boxes := [[.many Z3], [.many Zcc], [.code (.sl (R.int i64)), .code (.int i64)], [.many Z3], [.many Zcc]], stgs := [] }
def Zck (a : QT13) : RT (Option (Go1 (QT13))) :=
 let x1 := decide (0 ≤ a.2.2.1 ∧ a.2.2.1 < 2)
 let x20 : QT10 := (a.1, a.2.1, a.2.2.1, (a.2.2.2.2.1, a.2.2.2.2.2.2.2.2.1), 0, a.2.2.2.1, a.2.2.2.2.1, a.2.2.2.2.2.1, a.2.2.2.2.2.2.1, a.2.2.2.2.2.2.2.1, a.2.2.2.2.2.2.2.2.1, (R.sel Z3 (a.2.2.1 == 0) a.2.1.1 a.2.1.2), ())
 let x21 := runF true Zcl (fun a_1 => 5) x20
 let x22 := getO (false, x20) x21
 let x23 := x22.2
 let x24 := x23.1
 let x25 := x23.2
 let x26 := x25.1
 let x27 := x25.2
 let x28 := x27.1
 let x29 := x27.2.2.2
 let x30 := x29.2
 let x31 := x30.2
 let x32 := x31.2
 let x33 := x32.2
 let x34 : TC × EVTT × List Int × Int × TC × EVTT × PUnit := (x29.1, x30.1, x31.1, x32.1, x33.1, x33.2.1, PUnit.unit)
 .br (decide (a.2.2.1 < 2)) (.br (!x1 || okB x21) (.br (x1) (.br x22.1 (.leaf (some (Go1.ret (x24, x26, x28, x34)))) (.leaf (some (Go1.cont (x24, x26, i64.wrap (x28 + 1), x34))))) (.leaf none)) (.leaf none)) (.leaf (some (Go1.brk (a.1, a.2.1, a.2.2.1, a.2.2.2.1, a.2.2.2.2.1, a.2.2.2.2.2.1, a.2.2.2.2.2.2.1, a.2.2.2.2.2.2.2.1, a.2.2.2.2.2.2.2.2.1, PUnit.unit))))
def Znl : Ora := Zcj true ZBU Zck (fun a => 5)
theorem Zs2 : ZbF (envX Tryz.prog [(21, Zaq), (23, ZBN), (45, kKbE), (46, ZcH), (47, ZdV), (48, ZcX), (49, Zff), (50, ZdK), (51, Zb2), (52, ZdL)] [(2, Zfu)] 16383 8) (.block 0 (.loop (ZaA Tryz.f9.body 0))) Znl :=
 ZP (ZT (l := [(21, Zaq), (23, ZBN), (45, kKbE), (46, ZcH), (47, ZdV), (48, ZcX), (49, Zff), (50, ZdK), (51, Zb2), (52, ZdL)]) ⟨ZbA, ZwI, ZGm, ZbH, Zf3, Zd5, Zhg, ZfN, Zdp, ZfO, trivial⟩ [(2, Zfu)] 16383 8) (Zf6 (by kernel_rfl) (by kernel_rfl) ⟨Zij, trivial⟩) (fun a => by kernel_rfl)
def Zft (c : TC) (e : EVTT) (n : List Int) : RT (Option (Bool)) :=
 let x1 := decide (iN (List.length e.2.2.1) > 40) || decide (iN (List.length n) > 250)
 let x2 : List Int × Int := (ZbW (Ze (Ze (nCPU (n, 0)).2 9).2 6).2 2).2
 let x3 : QT13 := (false, (c, (nCPU (n, 0)).1), 0, c, e, x2.1, x2.2, (nCPU (n, 0)).1, ((Ze (nCPU (n, 0)).2 9).1, (Ze (Ze (nCPU (n, 0)).2 9).2 6).1, (ZbW (Ze (Ze (nCPU (n, 0)).2 9).2 6).2 2).1, e.2.2.2), ())
 let x4 := runF true Zck (fun a => 5) x3
 let x5 := getO (false, x3) x4
 .br (!x1 || kKbC) (.br (x1) (.leaf (some (true))) (.br (ZIL (n, 0)) (.br (!ZB (nCPU (n, 0)).2 9 || (!ZB (Ze (nCPU (n, 0)).2 9).2 6 || Ze4 (Ze (Ze (nCPU (n, 0)).2 9).2 6).2 2)) (.br (!ZB (nCPU (n, 0)).2 9 || ZB (Ze (nCPU (n, 0)).2 9).2 6) (.br (ZB (nCPU (n, 0)).2 9) (.br (okB x4) (.br x5.1 (.leaf (some x5.2.1)) (.br (kKbC) (.leaf (some (true))) (.leaf none))) (.leaf none)) (.leaf none)) (.leaf none)) (.leaf none)) (.leaf none))) (.leaf none)
def ZwQ (c : TC) (e : EVTT) (n : List Int) : Bool := getO ZlI.dflt (Zft c e n).val
def ZqS (c : TC) (e : EVTT) (n : List Int) : Bool := okB (Zft c e n).val
def ZIR : Entry := Zk Zs1 ZlI (fun a => some (ZqS a.1 a.2.1 a.2.2)) (fun a => ZwQ a.1 a.2.1 a.2.2)
theorem lStates_ok : Zc Tryz.prog 9 ZIR :=
 pureP 16383 [(21, Zaq), (23, ZBN), (45, kKbE), (46, ZcH), (47, ZdV), (48, ZcX), (49, Zff), (50, ZdK), (51, Zb2), (52, ZdL)] [(2, Zfu), (0, Znl)] Zs1 ZlI ⟨ZbA, ZwI, ZGm, ZbH, Zf3, Zd5, Zhg, ZfN, Zdp, ZfO, trivial⟩ Tryz.func9 Tryz.call9 ⟨Zij, Zs2, trivial⟩ (t := fun a => Zft a.1 a.2.1 a.2.2) (fun a => by kernel_rfl)
theorem lvalB {t : RT (Option Bool)} (h : t.val = some true) : okB t.val = true ∧ getO false t.val = true := by rw [h]; exact ⟨rfl, rfl⟩
theorem ZKC : kKbC = true ∧ kKb = true := lvalB (t := kKbT) (by kernel_rfl)
theorem ZxE {e : EVTT} (h : e.2.2.1.length ≤ 1000000) : ZtV e = true := Znx h
theorem ZxC {α : Type} {l : List α} (h : l.length ≤ 1000000) : Zn5 l = true := Znx h
theorem ZGU (c : TC) (e : EVTT) : (ZbL c e).length ≤ e.2.2.1.length := by
 unfold ZbL
 cases cycE e.1
 ·exact Nat.zero_le _
 ·exact ZGW _ _ _ _
theorem Zxx (f : Bool) (cc : TC × TC) (k : Int) (e1 e2 : EVTT) (c0 : TC) (e0 : EVTT) (n1 : List Int) (n2 : Int) (d0 : TC) (f0 : EVTT) (x : TC) (h1 : e1.2.2.1.length ≤ 1000000) (h2 : e2.2.2.1.length ≤ 1000000) :
  runF true Zcl (fun _ => 5) (f, cc, k, (e1, e2), 0, c0, e0, n1, n2, d0, f0, x, ()) = some (false, (f, cc, k, (e1, e2), 2, c0, e0, n1, n2, d0, f0, x, ())) := by
 have h00 : ((0 : Int) == 0) = true := rfl
 have h10 : ((1 : Int) == 0) = false := rfl
 have r1 := ZxE h1
 have r2 := ZxE h2
 have l1 : Zn5 (ZbL x e1) = true := ZxC (Nat.le_trans (ZGU x e1) h1)
 have l2 : Zn5 (ZbL x e2) = true := ZxC (Nat.le_trans (ZGU x e2) h2)
 obtain ⟨r, hr, h1⟩ := Zag (fl := true) (t := Zcl) (fuel := fun _ => 5)
  (fun a => ∃ i : Nat, i ≤ 2 ∧ a = (f, cc, k, (e1, e2), (i : Int), c0, e0, n1, n2, d0, f0, x, ()))
  (fun a => Int.toNat (2 - a.2.2.2.2.1)) (fun r => r = (false, (f, cc, k, (e1, e2), 2, c0, e0, n1, n2, d0, f0, x, ())))
  (by
   rintro a ⟨i, hi, rfl⟩
   match i, hi with
   | 0, _ =>
    left
    exact ⟨(f, cc, k, (e1, e2), 1, c0, e0, n1, n2, d0, f0, x, ()), by
     have : ((0 : Nat) : Int) = 0 := rfl
     simp only [Zcl, RT.val, this, R.sel_eq, h00, cond_true, Prod.eta]
     simp only [r1, l1, R.eqf_refl, Zhp, ZFM, ZyO, Bool.or_true, Bool.not_true, Bool.or_self, cond_true, cond_false]
     rfl, ⟨1, by omega, rfl⟩, by simp only; omega⟩
   | 1, _ =>
    left
    exact ⟨(f, cc, k, (e1, e2), 2, c0, e0, n1, n2, d0, f0, x, ()), by
     have : ((1 : Nat) : Int) = 1 := rfl
     simp only [Zcl, RT.val, this, R.sel_eq, h10, cond_false, Prod.eta]
     simp only [r2, l2, R.eqf_refl, Zhp, ZFM, ZyO, Bool.or_true, Bool.not_true, Bool.or_self, cond_true, cond_false]
     rfl, ⟨2, by omega, rfl⟩, by simp only; omega⟩
   | 2, _ =>
    right; left
    exact ⟨_, by simp only [Zcl, RT.val]; rfl, rfl⟩)
  (f, cc, k, (e1, e2), 0, c0, e0, n1, n2, d0, f0, x, ()) ⟨0, by omega, rfl⟩ (by simp only; omega)
 rw [h1] at hr
 exact hr
theorem ZHz (f : Bool) (c d : TC) (e1 e2 : EVTT) (n1 : List Int) (n2 : Int) (c0 d0 : TC) (h1 : e1.2.2.1.length ≤ 1000000) (h2 : e2.2.2.1.length ≤ 1000000) :
  runF true Zck (fun _ => 5) (f, (c, d), 0, c0, e1, n1, n2, d0, e2, ()) = some (false, (f, (c, d), 2, c0, e1, n1, n2, d0, e2, ())) := by
 have h00 : ((0 : Int) == 0) = true := rfl
 have h10 : ((1 : Int) == 0) = false := rfl
 have k0 := Zxx f (c, d) 0 e1 e2 c0 e1 n1 n2 d0 e2 c h1 h2
 have k1 := Zxx f (c, d) 1 e1 e2 c0 e1 n1 n2 d0 e2 d h1 h2
 obtain ⟨r, hr, h1⟩ := Zag (fl := true) (t := Zck) (fuel := fun _ => 5)
  (fun a => ∃ i : Nat, i ≤ 2 ∧ a = (f, (c, d), (i : Int), c0, e1, n1, n2, d0, e2, ()))
  (fun a => Int.toNat (2 - a.2.2.1)) (fun r => r = (false, (f, (c, d), 2, c0, e1, n1, n2, d0, e2, ())))
  (by
   rintro a ⟨i, hi, rfl⟩
   match i, hi with
   | 0, _ =>
    left
    exact ⟨(f, (c, d), 1, c0, e1, n1, n2, d0, e2, ()), by
     have : ((0 : Nat) : Int) = 0 := rfl
     simp only [Zck, RT.val, this, R.sel_eq, h00, cond_true]
     simp only [k0, okB, getO, Bool.or_true, cond_true, cond_false]
     rfl, ⟨1, by omega, rfl⟩, by simp only; omega⟩
   | 1, _ =>
    left
    exact ⟨(f, (c, d), 2, c0, e1, n1, n2, d0, e2, ()), by
     have : ((1 : Nat) : Int) = 1 := rfl
     simp only [Zck, RT.val, this, R.sel_eq, h10, cond_false]
     simp only [k1, okB, getO, Bool.or_true, cond_true, cond_false]
     rfl, ⟨2, by omega, rfl⟩, by simp only; omega⟩
   | 2, _ =>
    right; left
    exact ⟨_, by simp only [Zck, RT.val]; rfl, rfl⟩)
  (f, (c, d), 0, c0, e1, n1, n2, d0, e2, ()) ⟨0, by omega, rfl⟩ (by simp only; omega)
 rw [h1] at hr
 exact hr
theorem states_law (c : TC) (e : EVTT) (n : List Int) : ZqS c e n = true ∧ ZwQ c e n = true := by
 obtain ⟨c1, b1, _⟩ := ZMt (ZML n) (by omega)
 obtain ⟨c2, b2, _⟩ := Z2 b1 (by omega) 9 (by decide) (by decide)
 obtain ⟨c3, b3, _⟩ := Z2 b2 (by omega) 6 (by decide) (by decide)
 obtain ⟨c4, b4, l4⟩ := ZwA b3 (by omega) 2 (by omega)
 have c4 : Ze4 (Ze (Ze (nCPU (n, 0)).2 9).2 6).2 2 = true := c4
 have l4 : (ZbW (Ze (Ze (nCPU (n, 0)).2 9).2 6).2 2).1.length ≤ 12 * 2 := l4
 have hv : (Zft c e n).val = some true := by
  cases hx : decide (iN (List.length e.2.2.1) > 40) || decide (iN (List.length n) > 250)
  ·have hc : e.2.2.1.length ≤ 40 := by
    simp only [iN, Bool.or_eq_false_iff, decide_eq_false_iff_not] at hx; omega
   have k := ZHz false c (nCPU (n, 0)).1 e ((Ze (nCPU (n, 0)).2 9).1, (Ze (Ze (nCPU (n, 0)).2 9).2 6).1, (ZbW (Ze (Ze (nCPU (n, 0)).2 9).2 6).2 2).1, e.2.2.2) (ZbW (Ze (Ze (nCPU (n, 0)).2 9).2 6).2 2).2.1 (ZbW (Ze (Ze (nCPU (n, 0)).2 9).2 6).2 2).2.2
    c (nCPU (n, 0)).1 (by omega) (by show (ZbW (Ze (Ze (nCPU (n, 0)).2 9).2 6).2 2).1.length ≤ _; omega)
   simp only [Zft, RT.val, hx, c1, c2, c3, c4, k, ZKC.1, okB, getO, Bool.not_true, Bool.not_false, Bool.or_true, Bool.true_or, Bool.false_or, cond_true, cond_false]
  ·simp only [Zft, RT.val, hx, ZKC.1, Bool.not_true, Bool.false_or, cond_true]
 exact ⟨by simp only [ZqS, hv]; rfl, by simp only [ZwQ, hv, getO]⟩
end
end Go.Proofs.YtghoimllhpjkjaaGreat
