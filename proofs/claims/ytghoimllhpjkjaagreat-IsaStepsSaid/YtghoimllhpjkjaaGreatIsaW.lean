/-
  Laws of the interpreter over a made scene. Conditions: none.
-/
import Derived.Test.YtghoimllhpjkjaaGreatS3D
import Derived.Test.YtghoimllhpjkjaaGreatProg
import Derived.Test.YtghoimllhpjkjaaGreatMakeOk5
import Derived.Test.YtghoimllhpjkjaaGreatS3Box1
import Derived.Test.YtghoimllhpjkjaaGreatMemE
import Derived.Test.YtghoimllhpjkjaaGreatS3New
import Derived.Test.YtghoimllhpjkjaaGreatS3Stg
open Go.IntKind (u8 u16 i64)
set_option linter.unusedSimpArgs false
open Go Go.S3 Go.Proofs
set_option linter.unusedVariables false
set_option maxRecDepth 100000
namespace Go.Proofs.YtghoimllhpjkjaaGreat
noncomputable section
def qDoE : Entry := .tree (ZN (envX Tryz.prog [(187, Zk1), (204, Zqi)] [] 9223389629049209151 8) Tryz.f150)
theorem Zzx : Zc Tryz.prog 150 qDoE := Zaa (P := Tryz.prog) (n := 9223389629049209151) (k := 8) (l := [(187, Zk1), (204, Zqi)]) (ol := []) ⟨Zwi, ZCn, trivial⟩ Tryz.func150 rfl (by kernel_rfl) Tryz.call150 trivial
def ZF2 : LS := { n := 37, slots := [(0, .fix (A.loc 3 0)), (2, .code (Sh.one (R.int i64))), (5, .fix (A.loc 4 0)), (7, .fix (A.loc 5 0)), (8, .fix (A.loc 6 0)), (9, .code (Sh.one (R.sl (R.int u8)))), (10, .tip 1)], boxes := [[.many Zaf], [.many ZuR], [.many Zaf], [.code rcRG, .code rcCE, .code (R.sl (R.int u8)), .tip 0], [.many Zaf], [.many ZuR], [.many Zaf]], stgs := [⟨R.pair (R.int u8) (R.int u8), 166, true⟩, ⟨(R.int u8), 5, true⟩] }
def Zd3 (a : QT10) : RT (Option (Go1 (QT10))) :=
 let x1 := a.2.2.2.2.2.2.2.2.2.2.2.2.1
 let x2 := Zl a.2.2.2.2.2.2.2.2.1 a.1 x1
 let x3 := !x2.2
 let x4 := x2.1
 let x5 := x4.1
 let x6 := x5 == 1
 let x7 := x5 == 2
 let x8 := bif x6 then x6 else bif x7 then x7 else x5 == 4
 let x9 := !x8
 let x10 := smG a.2.2.2.2.2.1 && smC a.2.2.2.2.2.2.1
 let x11 := x9 || x10
 let x12 := !x11
 let x13 := x5 == 3
 let x14 := bif x13 then x13 else x5 == 5
 let x15 := !x14
 let x16 := x8 || (x15 || x10)
 let x17 := !x16
 let x18 := x5 == 7
 let x19 := !x18
 let x20 := x4.2
 let x21 := x20.1
 let x22 := x20.2.1
 let x23 : List (Int × Int) := a.2.2.2.2.2.2.2.2.2.2.2.1 ++ [(u8.wrap x21, x22)]
 let x24 := x8 || (x14 || (x19 || Nat.ble (List.length x23) most))
 let x25 := !x24
 let x26 := x5 == 6
 let x27 := x5 == 8
 let x28 := bif x26 then x26 else bif x27 then x27 else x5 == 9
 let x29 := !x28
 let x30 := x12 || (x17 || (x25 || (x8 || (x14 || (x18 || (x29 || (iN (List.length a.2.2.2.2.2.2.2.1) == 0 || (!Zf 0 (List.length a.2.2.2.2.2.2.2.1) || decide (0 ≤ 1) && decide (1 ≤ iN (List.length a.2.2.2.2.2.2.2.1)) && (decide (iN (List.length a.2.2.2.2.2.2.2.1) = 0) || decide (iN (List.length a.2.2.2.2.2.2.2.1) ≤ iN (List.length a.2.2.2.2.2.2.2.1)))))))))))
 let x31 := !x30
 let x32 := x12 || (x17 || (x25 || (x8 || (x14 || (x18 || (x29 || (iN (List.length a.2.2.2.2.2.2.2.1) == 0 || Zf 0 (List.length a.2.2.2.2.2.2.2.1))))))))
 let x33 := !x32
 let x34 := x12 || (x17 || x24)
 let x35 := !x34
 let x36 := x12 || x16
 let x37 := !x36
 let x38 : List Int := x1 ++ [ZeB a.2.2.2.2.2.1 a.2.2.2.2.2.2.1 x21]
 let x39 := x31 || (x33 || (x35 || (x37 || (x12 || (x9 || Nat.ble (List.length x38) most)))))
 let x40 := !x39
 let x41 : List Int := x1 ++ [x22]
 let x42 := Nat.ble (List.length x41) most
 let x43 := x31 || (x33 || (x35 || (x37 || (x12 || (x8 || (x15 || x42))))))
 let x44 := !x43
 let x45 := x31 || (x33 || (x35 || (x37 || (x12 || (x8 || (x14 || (x19 || x42)))))))
 let x46 := !x45
 let x47 : List Int := x1 ++ [0]
 let x48 := Nat.ble (List.length x47) most
 let x49 := x31 || (x33 || (x35 || (x37 || (x12 || (x8 || (x14 || (x18 || (x29 || (!iN (List.length a.2.2.2.2.2.2.2.1) == 0 || x48)))))))))
 let x50 := !x49
 let x51 : List Int := x1 ++ [R.get (R.int u8) a.2.2.2.2.2.2.2.1 0]
 let x52 := x31 || (x33 || (x35 || (x37 || (x12 || (x8 || (x14 || (x18 || (x29 || (iN (List.length a.2.2.2.2.2.2.2.1) == 0 || Nat.ble (List.length x51) most)))))))))
 let x53 := !x52
 let x54 := x31 || (x33 || (x35 || (x37 || (x12 || (x8 || (x14 || (x18 || (x28 || x48))))))))
 let x55 := !x54
 let x56 := x31 || (x33 || (x35 || (x37 || x11)))
 let x57 := !x56
 let x58 := x31 || (x33 || (x35 || x36))
 let x59 := !x58
 let x60 := x31 || (x33 || x34)
 let x61 := !x60
 let x62 := x31 || x32
 .br (x3 || (x40 || (x44 || (x46 || (x50 || (x53 || (x55 || (x57 || (x59 || (x61 || (!x62 || x30))))))))))) (.br (x3 || (x40 || (x44 || (x46 || (x50 || (x53 || (x55 || (x57 || (x59 || (x61 || x62)))))))))) (.br (x3 || (x40 || (x44 || (x46 || (x50 || (x53 || (x55 || (x57 || (x59 || x60))))))))) (.br (x3 || (x40 || (x44 || (x46 || (x50 || (x53 || (x55 || (x57 || x58)))))))) (.br (x3 || (x40 || (x44 || (x46 || (x50 || (x53 || (x55 || x56))))))) (.br (x3 || (x40 || (x44 || (x46 || (x50 || (x53 || x54)))))) (.br (x3 || (x40 || (x44 || (x46 || (x50 || x52))))) (.br (x3 || (x40 || (x44 || (x46 || x49)))) (.br (x3 || (x40 || (x44 || x45))) (.br (x3 || (x40 || x43)) (.br (x3 || x39) (.br (x3) (.leaf (some (Go1.ret (a.1, x1, a.2.2.1, a.2.2.2.1, a.2.2.2.2.1, a.2.2.2.2.2.1, a.2.2.2.2.2.2.1, a.2.2.2.2.2.2.2.1, a.2.2.2.2.2.2.2.2.1, a.2.2.2.2.2.2.2.2.2.1, finX a.2.2.2.2.2.2.2.2.1 a.1 x1 a.2.2.2.2.2.2.2.2.2.1, a.2.2.2.2.2.2.2.2.2.2.2.1, x1, PUnit.unit)))) (.leaf (some (Go1.cont (a.1, a.2.1, a.2.2.1, a.2.2.2.1, a.2.2.2.2.1, a.2.2.2.2.2.1, bif x8 then a.2.2.2.2.2.2.1 else bif x14 then ZbH a.2.2.2.2.2.1 a.2.2.2.2.2.2.1 x21 x22 else a.2.2.2.2.2.2.1, bif x8 then a.2.2.2.2.2.2.2.1 else bif x14 then a.2.2.2.2.2.2.2.1 else bif x18 then a.2.2.2.2.2.2.2.1 else bif x28 then bif iN (List.length a.2.2.2.2.2.2.2.1) == 0 then a.2.2.2.2.2.2.2.1 else subL a.2.2.2.2.2.2.2.1 1 (iN (List.length a.2.2.2.2.2.2.2.1)) else a.2.2.2.2.2.2.2.1, a.2.2.2.2.2.2.2.2.1, a.2.2.2.2.2.2.2.2.2.1, a.2.2.2.2.2.2.2.2.2.2.1, bif x8 then a.2.2.2.2.2.2.2.2.2.2.2.1 else bif x14 then a.2.2.2.2.2.2.2.2.2.2.2.1 else bif x18 then x23 else a.2.2.2.2.2.2.2.2.2.2.2.1, bif x8 then x38 else bif x14 then x41 else bif x18 then x41 else bif x28 then bif iN (List.length a.2.2.2.2.2.2.2.1) == 0 then x47 else x51 else x47, PUnit.unit))))) (.leaf none)) (.leaf none)) (.leaf none)) (.leaf none)) (.leaf none)) (.leaf none)) (.leaf none)) (.leaf none)) (.leaf none)) (.leaf none)) (.leaf none)
def ZkU : Ora := Zbt true ZF2 Zd3 (fun a => 100)
theorem Zwa : Za3 (envX Tryz.prog [(110, Zb5), (111, Zrd), (113, Zg2), (150, qDoE)] [] 8191 8) (.block 0 (.loop (Zab Tryz.f94.body 0))) ZkU :=
 ZB (ZI (l := [(110, Zb5), (111, Zrd), (113, Zg2), (150, qDoE)]) ⟨Zel, ZqA, Zjr, Zzx, trivial⟩ [] 8191 8) (Zp (by kernel_rfl)) (fun a => by kernel_rfl)
def ZF3 : Entry := .tree (ZN (envX Tryz.prog [(110, Zb5), (111, Zrd), (113, Zg2), (150, qDoE)] [(0, ZkU)] 8191 8) Tryz.f94)
theorem ZF1 : Zc Tryz.prog 94 ZF3 := Zaa (P := Tryz.prog) (n := 8191) (k := 8) (l := [(110, Zb5), (111, Zrd), (113, Zg2), (150, qDoE)]) (ol := [(0, ZkU)]) ⟨Zel, ZqA, Zjr, Zzx, trivial⟩ Tryz.func94 rfl (by kernel_rfl) Tryz.call94 ⟨Zwa, trivial⟩
def Zb9 : Entry := .tree (ZN (envX Tryz.prog [(117, Zx4)] [] 7 8) Tryz.f93)
theorem Zdx : Zc Tryz.prog 93 Zb9 := Zaa (P := Tryz.prog) (n := 7) (k := 8) (l := [(117, Zx4)]) (ol := []) ⟨ZIf, trivial⟩ Tryz.func93 rfl (by kernel_rfl) Tryz.call93 trivial
abbrev Zyi : List Sh := [Sh.agg Zaf, Sh.one rcRG, Sh.one rcCE, Sh.one (R.int i64), Sh.one (R.sl (R.int u8)), Sh.agg ZuR]
abbrev ZrM : Rs := Rs.tup [Sh.agg Zaf, Sh.one rcCE, Sh.one (R.sl (R.pair (R.int u8) (R.int u8))), Sh.one (R.sl (R.int u8))]
def Zt8 (c : TC) (rg : List (QT4)) (m : List (Int × Int)) (s : Int) (ins : List Int) (l : LINT) : RT (Option (QT14)) :=
 let x1 : TC := (0, (0, 0, 0, 0, 0, 0, 0, (false, false, false, false, false, false, false), 0, 0), false, false, false, 0, false, false, false, false, false, false, false)
 let x2 : QT10 := (s, [], c, l, x1, rg, Cells.normX m, ins, Zbo c s, l, x1, [], [], ())
 let x3 := runF true Zd3 (fun a => 100) x2
 let x4 := getO (false, x2) x3
 let x5 := x4.2.2
 let x6 := x5.2.2.2.2.2
 let x7 := x6.2.2.2.2
 let x8 : QT14 := (x7.1, x6.1, x7.2.1, x5.1)
 .br (smC m) (.br (okB x3) (.br x4.1 (.leaf (some (x8))) (.leaf (some (x8)))) (.leaf none)) (.leaf none)
def ZPh (c : TC) (rg : List (QT4)) (m : List (Int × Int)) (s : Int) (ins : List Int) (l : LINT) : QT14 := getO ZrM.dflt (Zt8 c rg m s ins l).val
def ZIF (c : TC) (rg : List (QT4)) (m : List (Int × Int)) (s : Int) (ins : List Int) (l : LINT) : Bool := okB (Zt8 c rg m s ins l).val
def ZQW : Entry := Zk Zyi ZrM (fun a => some (ZIF a.1 a.2.1 a.2.2.1 a.2.2.2.1 a.2.2.2.2.1 a.2.2.2.2.2)) (fun a => ZPh a.1 a.2.1 a.2.2.1 a.2.2.2.1 a.2.2.2.2.1 a.2.2.2.2.2)
theorem ZLr : Zc Tryz.prog 37 ZQW :=
 pureP 131071 [(93, Zb9), (94, ZF3)] [] Zyi ZrM ⟨Zdx, ZF1, trivial⟩ Tryz.func37 Tryz.call37 trivial (t := fun a => Zt8 a.1 a.2.1 a.2.2.1 a.2.2.2.1 a.2.2.2.2.1 a.2.2.2.2.2) (fun a => by kernel_rfl)
def ZF0 : LS := { n := 37, slots := [(0, .fix (A.loc 2 0)), (2, .code (Sh.one (R.int i64))), (5, .fix (A.loc 3 0)), (7, .fix (A.loc 4 0)), (8, .fix (A.loc 5 0)), (9, .code (Sh.one (R.sl (R.int u8)))), (10, .tip 1)], boxes := [[.many Zaf], [.many Zaf], [.code rcRG, .code rcCE, .code (R.sl (R.int u8)), .tip 0], [.many Zaf], [.many ZuR], [.many Zaf]], stgs := [⟨R.pair (R.int u8) (R.int u8), 166, true⟩, ⟨(R.int u8), 5, true⟩] }
def Zd2 (a : QT11) : RT (Option (Go1 (QT11))) :=
 let x1 := Zl a.2.2.2.2.2.2.2.1 a.1 a.2.2.2.2.2.2.2.2.2.2.2.1
 let x2 := !x1.2
 let x3 := x1.1
 let x4 := x3.1
 let x5 := x4 == 1
 let x6 := x4 == 2
 let x7 := bif x5 then x5 else bif x6 then x6 else x4 == 4
 let x8 := !x7
 let x9 := smG a.2.2.2.2.1 && smC a.2.2.2.2.2.1
 let x10 := x8 || x9
 let x11 := !x10
 let x12 := x4 == 3
 let x13 := bif x12 then x12 else x4 == 5
 let x14 := !x13
 let x15 := x7 || (x14 || x9)
 let x16 := !x15
 let x17 := x4 == 7
 let x18 := !x17
 let x19 := x3.2
 let x20 := x19.1
 let x21 := x19.2.1
 let x22 : List (Int × Int) := a.2.2.2.2.2.2.2.2.2.2.1 ++ [(u8.wrap x20, x21)]
 let x23 := x7 || (x13 || (x18 || Nat.ble (List.length x22) most))
 let x24 := !x23
 let x25 := x4 == 6
 let x26 := x4 == 8
 let x27 := bif x25 then x25 else bif x26 then x26 else x4 == 9
 let x28 := !x27
 let x29 := x11 || (x16 || (x24 || (x7 || (x13 || (x17 || (x28 || (iN (List.length a.2.2.2.2.2.2.1) == 0 || (!Zf 0 (List.length a.2.2.2.2.2.2.1) || decide (0 ≤ 1) && decide (1 ≤ iN (List.length a.2.2.2.2.2.2.1)) && (decide (iN (List.length a.2.2.2.2.2.2.1) = 0) || decide (iN (List.length a.2.2.2.2.2.2.1) ≤ iN (List.length a.2.2.2.2.2.2.1)))))))))))
 let x30 := !x29
 let x31 := x11 || (x16 || (x24 || (x7 || (x13 || (x17 || (x28 || (iN (List.length a.2.2.2.2.2.2.1) == 0 || Zf 0 (List.length a.2.2.2.2.2.2.1))))))))
 let x32 := !x31
 let x33 := x11 || (x16 || x23)
 let x34 := !x33
 let x35 := x11 || x15
 let x36 := !x35
 let x37 : List Int := a.2.2.2.2.2.2.2.2.2.2.2.1 ++ [ZeB a.2.2.2.2.1 a.2.2.2.2.2.1 x20]
 let x38 := x30 || (x32 || (x34 || (x36 || (x11 || (x8 || Nat.ble (List.length x37) most)))))
 let x39 := !x38
 let x40 : List Int := a.2.2.2.2.2.2.2.2.2.2.2.1 ++ [x21]
 let x41 := Nat.ble (List.length x40) most
 let x42 := x30 || (x32 || (x34 || (x36 || (x11 || (x7 || (x14 || x41))))))
 let x43 := !x42
 let x44 := x30 || (x32 || (x34 || (x36 || (x11 || (x7 || (x13 || (x18 || x41)))))))
 let x45 := !x44
 let x46 : List Int := a.2.2.2.2.2.2.2.2.2.2.2.1 ++ [0]
 let x47 := Nat.ble (List.length x46) most
 let x48 := x30 || (x32 || (x34 || (x36 || (x11 || (x7 || (x13 || (x17 || (x28 || (!iN (List.length a.2.2.2.2.2.2.1) == 0 || x47)))))))))
 let x49 := !x48
 let x50 : List Int := a.2.2.2.2.2.2.2.2.2.2.2.1 ++ [R.get (R.int u8) a.2.2.2.2.2.2.1 0]
 let x51 := x30 || (x32 || (x34 || (x36 || (x11 || (x7 || (x13 || (x17 || (x28 || (iN (List.length a.2.2.2.2.2.2.1) == 0 || Nat.ble (List.length x50) most)))))))))
 let x52 := !x51
 let x53 := x30 || (x32 || (x34 || (x36 || (x11 || (x7 || (x13 || (x17 || (x27 || x47))))))))
 let x54 := !x53
 let x55 := x30 || (x32 || (x34 || (x36 || x10)))
 let x56 := !x55
 let x57 := x30 || (x32 || (x34 || x35))
 let x58 := !x57
 let x59 := x30 || (x32 || x33)
 let x60 := !x59
 let x61 := x30 || x31
 .br (x2 || (x39 || (x43 || (x45 || (x49 || (x52 || (x54 || (x56 || (x58 || (x60 || (!x61 || x29))))))))))) (.br (x2 || (x39 || (x43 || (x45 || (x49 || (x52 || (x54 || (x56 || (x58 || (x60 || x61)))))))))) (.br (x2 || (x39 || (x43 || (x45 || (x49 || (x52 || (x54 || (x56 || (x58 || x59))))))))) (.br (x2 || (x39 || (x43 || (x45 || (x49 || (x52 || (x54 || (x56 || x57)))))))) (.br (x2 || (x39 || (x43 || (x45 || (x49 || (x52 || (x54 || x55))))))) (.br (x2 || (x39 || (x43 || (x45 || (x49 || (x52 || x53)))))) (.br (x2 || (x39 || (x43 || (x45 || (x49 || x51))))) (.br (x2 || (x39 || (x43 || (x45 || x48)))) (.br (x2 || (x39 || (x43 || x44))) (.br (x2 || (x39 || x42)) (.br (x2 || x38) (.br (x2) (.leaf (some (Go1.ret (a.1, a.2.2.2.2.2.2.2.2.2.2.2.1, a.2.2.1, a.2.2.2.1, a.2.2.2.2.1, a.2.2.2.2.2.1, a.2.2.2.2.2.2.1, a.2.2.2.2.2.2.2.1, a.2.2.2.2.2.2.2.2.1, finX a.2.2.2.2.2.2.2.1 a.1 a.2.2.2.2.2.2.2.2.2.2.2.1 a.2.2.2.2.2.2.2.2.1, a.2.2.2.2.2.2.2.2.2.2.1, a.2.2.2.2.2.2.2.2.2.2.2.1, PUnit.unit)))) (.leaf (some (Go1.cont (a.1, a.2.1, a.2.2.1, a.2.2.2.1, a.2.2.2.2.1, bif x7 then a.2.2.2.2.2.1 else bif x13 then ZbH a.2.2.2.2.1 a.2.2.2.2.2.1 x20 x21 else a.2.2.2.2.2.1, bif x7 then a.2.2.2.2.2.2.1 else bif x13 then a.2.2.2.2.2.2.1 else bif x17 then a.2.2.2.2.2.2.1 else bif x27 then bif iN (List.length a.2.2.2.2.2.2.1) == 0 then a.2.2.2.2.2.2.1 else subL a.2.2.2.2.2.2.1 1 (iN (List.length a.2.2.2.2.2.2.1)) else a.2.2.2.2.2.2.1, a.2.2.2.2.2.2.2.1, a.2.2.2.2.2.2.2.2.1, a.2.2.2.2.2.2.2.2.2.1, bif x7 then a.2.2.2.2.2.2.2.2.2.2.1 else bif x13 then a.2.2.2.2.2.2.2.2.2.2.1 else bif x17 then x22 else a.2.2.2.2.2.2.2.2.2.2.1, bif x7 then x37 else bif x13 then x40 else bif x17 then x40 else bif x27 then bif iN (List.length a.2.2.2.2.2.2.1) == 0 then x46 else x50 else x46, PUnit.unit))))) (.leaf none)) (.leaf none)) (.leaf none)) (.leaf none)) (.leaf none)) (.leaf none)) (.leaf none)) (.leaf none)) (.leaf none)) (.leaf none)) (.leaf none)
def ZkT : Ora := Zbt true ZF0 Zd2 (fun a => 100)
theorem Zv9 : Za3 (envX Tryz.prog [(110, Zb5), (111, Zrd), (113, Zg2), (150, qDoE)] [] 8191 8) (.block 0 (.loop (Zab Tryz.f94.body 0))) ZkT :=
 ZB (ZI (l := [(110, Zb5), (111, Zrd), (113, Zg2), (150, qDoE)]) ⟨Zel, ZqA, Zjr, Zzx, trivial⟩ [] 8191 8) (Zp (by kernel_rfl)) (fun a => by kernel_rfl)
def ZpX : Entry := .tree (ZN (envX Tryz.prog [(110, Zb5), (111, Zrd), (113, Zg2), (150, qDoE)] [(0, ZkT)] 8191 8) Tryz.f94)
theorem Zs5 : Zc Tryz.prog 94 ZpX := Zaa (P := Tryz.prog) (n := 8191) (k := 8) (l := [(110, Zb5), (111, Zrd), (113, Zg2), (150, qDoE)]) (ol := [(0, ZkT)]) ⟨Zel, ZqA, Zjr, Zzx, trivial⟩ Tryz.func94 rfl (by kernel_rfl) Tryz.call94 ⟨Zv9, trivial⟩
abbrev ZII : List Sh := [Sh.agg Zaf, Sh.one rcRG, Sh.one rcCE, Sh.one (R.sl (R.int u8)), Sh.one (R.int i64)]
abbrev ZAD : Rs := Rs.tup [Sh.agg Zaf, Sh.one rcCE, Sh.one (R.sl (R.pair (R.int u8) (R.int u8))), Sh.one (R.int i64)]
def ZPj : LS := { n := 49, slots := [(4, .code (Sh.one (R.int i64))), (5, .fix (A.loc 0 0)), (10, .fix (A.loc 1 0)), (13, .code (Sh.one (R.int i64))), (14, .fix (A.loc 2 0))], boxes := [[.many Zaf], [.many Zaf], [.code rcRG, .code rcCE, .code (R.sl (R.int u8)), .tip 0]], stgs := [⟨R.pair (R.int u8) (R.int u8), 166, true⟩] }
def Zib (a : QT12) : RT (Option (Go1 (QT12))) :=
 let x1 : QT11 := (0, [], a.2.2.1, a.2.2.2.1, a.2.2.2.2.1, a.2.2.2.2.2.1, a.2.2.2.2.2.2.1, Zbo a.2.2.1 0, (false, false, false, false, false, false, false, false, false), (0, (0, 0, 0, 0, 0, 0, 0, (false, false, false, false, false, false, false), 0, 0), false, false, false, 0, false, false, false, false, false, false, false), a.2.2.2.2.2.2.2.1, [], ())
 let x2 := runF true Zd2 (fun a_1 => 100) x1
 let x3 := getO (false, x1) x2
 let x4 := x3.1
 let x5 := x3.2.2.2.2
 let x6 := x5.2
 let x7 := x6.2
 let x8 := x7.2
 let x9 := x8.2.2.2
 let x10 := x9.1
 let x11 := x10.1
 let x12 := x10.2
 let x13 := x12.1
 let x14 := x13.1
 let x15 := x13.2
 let x16 := x15.1
 let x17 := x15.2
 let x18 := x17.1
 let x19 := x17.2
 let x20 := x19.1
 let x21 := x19.2
 let x22 := x21.1
 let x23 := x21.2
 let x24 := x23.1
 let x25 := x23.2
 let x26 := x25.1
 let x27 := x25.2
 let x28 := x27.1
 let x29 := x28.1
 let x30 := x28.2
 let x31 := x30.1
 let x32 := x30.2
 let x33 := x32.1
 let x34 := x32.2
 let x35 := x34.1
 let x36 := x34.2
 let x37 := x36.1
 let x38 := x36.2
 let x39 := x38.1
 let x40 := x38.2
 let x41 := x27.2
 let x42 := x41.1
 let x43 := x41.2
 let x44 := x12.2
 let x45 := x44.1
 let x46 := x44.2
 let x47 := x46.1
 let x48 := x46.2
 let x49 := x48.1
 let x50 := x48.2
 let x51 := x50.1
 let x52 := x50.2
 let x53 := x52.1
 let x54 := x52.2
 let x55 := x54.1
 let x56 := x54.2
 let x57 := x56.1
 let x58 := x56.2
 let x59 := x58.1
 let x60 := x58.2
 let x61 := x60.1
 let x62 := x60.2
 let x63 := x62.1
 let x64 := x62.2
 let x65 := x5.1
 let x66 := x65.1
 let x67 := x65.2
 let x68 := x67.1
 let x69 := x68.1
 let x70 := x68.2
 let x71 := x70.1
 let x72 := x70.2
 let x73 := x72.1
 let x74 := x72.2
 let x75 := x74.1
 let x76 := x74.2
 let x77 := x76.1
 let x78 := x76.2
 let x79 := x78.1
 let x80 := x78.2
 let x81 := x80.1
 let x82 := x80.2
 let x83 := x82.1
 let x84 := x83.1
 let x85 := x83.2
 let x86 := x85.1
 let x87 := x85.2
 let x88 := x87.1
 let x89 := x87.2
 let x90 := x89.1
 let x91 := x89.2
 let x92 := x91.1
 let x93 := x91.2
 let x94 := x93.1
 let x95 := x93.2
 let x96 := x82.2
 let x97 := x96.1
 let x98 := x96.2
 let x99 := x67.2
 let x100 := x99.1
 let x101 := x99.2
 let x102 := x101.1
 let x103 := x101.2
 let x104 := x103.1
 let x105 := x103.2
 let x106 := x105.1
 let x107 := x105.2
 let x108 := x107.1
 let x109 := x107.2
 let x110 := x109.1
 let x111 := x109.2
 let x112 := x111.1
 let x113 := x111.2
 let x114 := x113.1
 let x115 := x113.2
 let x116 := x115.1
 let x117 := x115.2
 let x118 := x117.1
 let x119 := x117.2
 let x120 := x6.1
 let x121 := x7.1
 let x122 := x8.1
 let x123 := x9.2.1
 .br (decide (a.2.1 < if 10000 < a.1 then 10000 else a.1) && !a.2.2.1.2.2.2.2.1) (.br (okB x2) (.leaf (some (Go1.cont (a.1, i64.wrap (a.2.1 + 1), (bif x4 then x11 else x11, (bif x4 then x14 else x14, bif x4 then x16 else x16, bif x4 then x18 else x18, bif x4 then x20 else x20, bif x4 then x22 else x22, bif x4 then x24 else x24, bif x4 then x26 else x26, (bif x4 then x29 else x29, bif x4 then x31 else x31, bif x4 then x33 else x33, bif x4 then x35 else x35, bif x4 then x37 else x37, bif x4 then x39 else x39, bif x4 then x40 else x40), bif x4 then x42 else x42, bif x4 then x43 else x43), bif x4 then x45 else x45, bif x4 then x47 else x47, bif x4 then x49 else x49, bif x4 then x51 else x51, bif x4 then x53 else x53, bif x4 then x55 else x55, bif x4 then x57 else x57, bif x4 then x59 else x59, bif x4 then x61 else x61, bif x4 then x63 else x63, bif x4 then x64 else x64), (bif x4 then x66 else x66, (bif x4 then x69 else x69, bif x4 then x71 else x71, bif x4 then x73 else x73, bif x4 then x75 else x75, bif x4 then x77 else x77, bif x4 then x79 else x79, bif x4 then x81 else x81, (bif x4 then x84 else x84, bif x4 then x86 else x86, bif x4 then x88 else x88, bif x4 then x90 else x90, bif x4 then x92 else x92, bif x4 then x94 else x94, bif x4 then x95 else x95), bif x4 then x97 else x97, bif x4 then x98 else x98), bif x4 then x100 else x100, bif x4 then x102 else x102, bif x4 then x104 else x104, bif x4 then x106 else x106, bif x4 then x108 else x108, bif x4 then x110 else x110, bif x4 then x112 else x112, bif x4 then x114 else x114, bif x4 then x116 else x116, bif x4 then x118 else x118, bif x4 then x119 else x119), bif x4 then x120 else x120, bif x4 then x121 else x121, bif x4 then x122 else x122, bif x4 then x123 else x123, PUnit.unit)))) (.leaf none)) (.leaf (some (Go1.brk (a.1, a.2.1, a.2.2.1, a.2.2.2.1, a.2.2.2.2.1, a.2.2.2.2.2.1, a.2.2.2.2.2.2.1, a.2.2.2.2.2.2.2.1, PUnit.unit))))
def ZIL : Ora := Zbt false ZPj Zib (fun a => 20000)
theorem ZIK : Za3 (envX Tryz.prog [(93, Zb9), (94, ZpX)] [] 32767 8) (.block 0 (.loop (Zab Tryz.f33.body 0))) ZIL :=
 ZB (ZI (l := [(93, Zb9), (94, ZpX)]) ⟨Zdx, Zs5, trivial⟩ [] 32767 8) (Zp (by kernel_rfl)) (fun a => by kernel_rfl)
def ZIJ (c : TC) (rg : List (QT4)) (m : List (Int × Int)) (ins : List Int) (k : Int) : RT (Option (QT23)) :=
 let x1 : QT12 := (k, 0, c, (0, (0, 0, 0, 0, 0, 0, 0, (false, false, false, false, false, false, false), 0, 0), false, false, false, 0, false, false, false, false, false, false, false), rg, Cells.normX m, ins, [], ())
 let x2 := runF false Zib (fun a => 20000) x1
 let x3 : Int × TC × TC × List (Int × Int × Bool × Int) × List (Int × Int) × List Int × List (Int × Int) × PUnit := (getO (false, x1) x2).2.2
 let x4 := x3.2
 let x5 := x4.2.2.2
 .br (smC m) (.br (okB x2) (.leaf (some ((x4.1, x5.1, x5.2.2.1, x3.1)))) (.leaf none)) (.leaf none)
def iRun (c : TC) (rg : List (QT4)) (m : List (Int × Int)) (ins : List Int) (k : Int) : QT23 := getO ZAD.dflt (ZIJ c rg m ins k).val
def ZPk (c : TC) (rg : List (QT4)) (m : List (Int × Int)) (ins : List Int) (k : Int) : Bool := okB (ZIJ c rg m ins k).val
def iRunE : Entry := Zk ZII ZAD (fun a => some (ZPk a.1 a.2.1 a.2.2.1 a.2.2.2.1 a.2.2.2.2)) (fun a => iRun a.1 a.2.1 a.2.2.1 a.2.2.2.1 a.2.2.2.2)
theorem ZPi : Zc Tryz.prog 33 iRunE :=
 pureP 32767 [(93, Zb9), (94, ZpX)] [(0, ZIL)] ZII ZAD ⟨Zdx, Zs5, trivial⟩ Tryz.func33 Tryz.call33 ⟨ZIK, trivial⟩ (t := fun a => ZIJ a.1 a.2.1 a.2.2.1 a.2.2.2.1 a.2.2.2.2) (fun a => by kernel_rfl)
def Zag : Entry := .tree (ZN (envX Tryz.prog [] [] 7 8) Tryz.f99)
theorem Zbi : Zc Tryz.prog 99 Zag := Zaa (P := Tryz.prog) (n := 7) (k := 8) (l := []) (ol := []) trivial Tryz.func99 rfl (by kernel_rfl) Tryz.call99 trivial
abbrev Zyb : List Sh := [Sh.agg Zaf, Sh.one rcRG, Sh.one rcCE, Sh.one (R.int i64), Sh.one (R.sl (R.int u8)), Sh.agg ZuR]
abbrev ZrK : Rs := Rs.tup [Sh.agg Zaf, Sh.one rcCE, Sh.one (R.sl (R.pair (R.int u8) (R.int u8))), Sh.one (R.sl (R.int u8))]
def ZLg : LS := { n := 97, slots := [(1, .code (Sh.one rcRG)), (2, .code (Sh.one rcCE)), (3, .code (Sh.one (R.int i64))), (4, .code (Sh.one (R.sl (R.int u8)))), (6, .fix (A.loc 0 0)), (11, .fix (A.loc 1 0)), (12, .fix (A.loc 2 0)), (13, .code (Sh.one rcCE)), (14, .code (Sh.one (R.sl (R.pair (R.int u8) (R.int u8))))), (15, .code (Sh.one (R.sl (R.int u8)))), (16, .tip 0), (17, .tip 1)], boxes := [[.many Zaf], [.many ZuR], [.many Zaf]], stgs := [⟨(R.int u8), 5, true⟩, ⟨(R.pair (R.int u8) (R.int u8)), 166, true⟩] }
def ZfM (a : List (QT4) × List (Int × Int) × Int × List Int × List (Int × Int) × List (Int × Int) × List Int × TC × LINT × TC × List Int × List (Int × Int) × PUnit) : RT (Option (Go1 (List (QT4) × List (Int × Int) × Int × List Int × List (Int × Int) × List (Int × Int) × List Int × TC × LINT × TC × List Int × List (Int × Int) × PUnit))) :=
 let x1 := Zl a.2.2.2.2.2.2.2.1 a.2.2.1 a.2.2.2.2.2.2.2.2.2.2.1
 let x2 := !x1.2
 let x3 := x1.1
 let x4 := x3.1
 let x5 := x4 == 7
 let x6 := !x5
 let x7 := x3.2
 let x8 := x7.1
 let x9 := x7.2.1
 let x10 : List (Int × Int) := a.2.2.2.2.2.2.2.2.2.2.2.1 ++ [(u8.wrap x8, x9)]
 let x11 := x6 || Nat.ble (List.length x10) most
 let x12 := !x11
 let x13 := decide (x4 ≥ 1) && decide (x4 ≤ 5)
 let x14 := x13 && ZEO x4
 let x15 := !x14
 let x16 := x5 || (x15 || smG a.1 && smC a.2.1)
 let x17 := !x16
 let x18 := !x13
 let x19 := x5 || (x14 || (x18 || smG a.1 && smC a.2.1))
 let x20 := !x19
 let x21 := ZE0 x4
 let x22 := !x21
 let x23 := x5 || (x14 || (x13 || (x22 || (!decide (iN (List.length a.2.2.2.1) > 0) || (!Zf 0 (List.length a.2.2.2.1) || decide (0 ≤ 1) && decide (1 ≤ iN (List.length a.2.2.2.1)) && (decide (iN (List.length a.2.2.2.1) = 0) || decide (iN (List.length a.2.2.2.1) ≤ iN (List.length a.2.2.2.1))))))))
 let x24 := x12 || (x17 || (x20 || (!x23 || (x5 || (x14 || (x13 || (x22 || (!decide (iN (List.length a.2.2.2.1) > 0) || Zf 0 (List.length a.2.2.2.1)))))))))
 let x25 := !x24
 let x26 := x12 || (x17 || (x20 || x23))
 let x27 := !x26
 let x28 := x12 || (x17 || x19)
 let x29 := !x28
 let x30 := x12 || x16
 let x31 := !x30
 let x32 : List Int := a.2.2.2.2.2.2.2.2.2.2.1 ++ [x9]
 let x33 := Nat.ble (List.length x32) most
 let x34 : List Int := a.2.2.2.2.2.2.2.2.2.2.1 ++ [ZeB a.1 a.2.1 x8]
 let x35 : List Int := a.2.2.2.2.2.2.2.2.2.2.1 ++ [bif x21 then bif decide (iN (List.length a.2.2.2.1) > 0) then R.get (R.int u8) a.2.2.2.1 0 else 0 else x9]
 let x36 : List (Int × Int) × PUnit := (a.2.2.2.2.2.2.2.2.2.2.2.1, PUnit.unit)
 .br (x2 || (x25 || (x27 || (x29 || (x31 || (x12 || (x6 || x33))))))) (.br (x2 || (x25 || (x27 || (x29 || (x31 || (x12 || (x5 || (x15 || x33)))))))) (.br (x2 || (x25 || (x27 || (x29 || (x31 || (x12 || (x5 || (x14 || (x18 || Nat.ble (List.length x34) most))))))))) (.br (x2 || (x25 || (x27 || (x29 || (x31 || (x12 || (x5 || (x14 || (x13 || Nat.ble (List.length x35) most))))))))) (.br (x2 || (x25 || (x27 || (x29 || (x31 || x11))))) (.br (x2 || (x25 || (x27 || (x29 || x30)))) (.br (x2 || (x25 || (x27 || x28))) (.br (x2 || (x25 || x26)) (.br (x2 || x24) (.br (x2) (.leaf (some (Go1.ret (a.1, a.2.1, a.2.2.1, a.2.2.2.1, a.2.1, a.2.2.2.2.2.2.2.2.2.2.2.1, a.2.2.2.2.2.2.2.2.2.2.1, a.2.2.2.2.2.2.2.1, a.2.2.2.2.2.2.2.2.1, finX a.2.2.2.2.2.2.2.1 a.2.2.1 a.2.2.2.2.2.2.2.2.2.2.1 a.2.2.2.2.2.2.2.2.1, a.2.2.2.2.2.2.2.2.2.2.1, x36)))) (.br (x5) (.leaf (some (Go1.cont (a.1, a.2.1, a.2.2.1, a.2.2.2.1, a.2.2.2.2.1, a.2.2.2.2.2.1, a.2.2.2.2.2.2.1, a.2.2.2.2.2.2.2.1, a.2.2.2.2.2.2.2.2.1, a.2.2.2.2.2.2.2.2.2.1, x32, x10, PUnit.unit)))) (.br (x14) (.leaf (some (Go1.cont (a.1, ZbH a.1 a.2.1 x8 x9, a.2.2.1, a.2.2.2.1, a.2.2.2.2.1, a.2.2.2.2.2.1, a.2.2.2.2.2.2.1, a.2.2.2.2.2.2.2.1, a.2.2.2.2.2.2.2.2.1, a.2.2.2.2.2.2.2.2.2.1, x32, x36)))) (.br (x13) (.leaf (some (Go1.cont (a.1, a.2.1, a.2.2.1, a.2.2.2.1, a.2.2.2.2.1, a.2.2.2.2.2.1, a.2.2.2.2.2.2.1, a.2.2.2.2.2.2.2.1, a.2.2.2.2.2.2.2.2.1, a.2.2.2.2.2.2.2.2.2.1, x34, x36)))) (.leaf (some (Go1.cont (a.1, a.2.1, a.2.2.1, bif x21 then bif decide (iN (List.length a.2.2.2.1) > 0) then subL a.2.2.2.1 1 (iN (List.length a.2.2.2.1)) else a.2.2.2.1 else a.2.2.2.1, a.2.2.2.2.1, a.2.2.2.2.2.1, a.2.2.2.2.2.2.1, a.2.2.2.2.2.2.2.1, a.2.2.2.2.2.2.2.2.1, a.2.2.2.2.2.2.2.2.2.1, x35, x36)))))))) (.leaf none)) (.leaf none)) (.leaf none)) (.leaf none)) (.leaf none)) (.leaf none)) (.leaf none)) (.leaf none)) (.leaf none)
def ZAx : Ora := Zbt true ZLg ZfM (fun a => 100)
theorem ZDx : Za3 (envX Tryz.prog [(42, Zzg), (92, Zo2), (97, Zjl), (98, ZKg), (99, Zag), (100, Zi8), (101, ZgG), (102, Zjf), (103, ZoQ)] [] 2422574149862500444667903 8) (.block 0 (.loop (Zab Tryz.f38.body 0))) ZAx :=
 ZB (ZI (l := [(42, Zzg), (92, Zo2), (97, Zjl), (98, ZKg), (99, Zag), (100, Zi8), (101, ZgG), (102, Zjf), (103, ZoQ)]) ⟨Zzf, ZsZ, ZnI, ZFB, Zbi, Zno, Zj0, Znx, ZsN, trivial⟩ [] 2422574149862500444667903 8) (Zp (by kernel_rfl)) (fun a => by kernel_rfl)
def Zt2 (c : TC) (rg : List (QT4)) (m : List (Int × Int)) (s : Int) (ins : List Int) (l : LINT) : RT (Option (QT14)) :=
 let x1 : List (QT4) × List (Int × Int) × Int × List Int × List (Int × Int) × List (Int × Int) × List Int × TC × LINT × TC × List Int × List (Int × Int) × PUnit := (rg, Cells.normX m, s, ins, [], [], [], Zbo c s, l, (0, (0, 0, 0, 0, 0, 0, 0, (false, false, false, false, false, false, false), 0, 0), false, false, false, 0, false, false, false, false, false, false, false), [], [], ())
 let x2 := runF true ZfM (fun a => 100) x1
 let x3 := getO (false, x1) x2
 let x4 := x3.2.2.2.2.2
 let x5 := x4.2
 let x6 := x5.2
 let x7 : QT14 := (x6.2.2.2.1, x4.1, x5.1, x6.1)
 .br (smC m) (.br (okB x2) (.br x3.1 (.leaf (some (x7))) (.leaf (some (x7)))) (.leaf none)) (.leaf none)
def ZPc (c : TC) (rg : List (QT4)) (m : List (Int × Int)) (s : Int) (ins : List Int) (l : LINT) : QT14 := getO ZrK.dflt (Zt2 c rg m s ins l).val
def ZIl (c : TC) (rg : List (QT4)) (m : List (Int × Int)) (s : Int) (ins : List Int) (l : LINT) : Bool := okB (Zt2 c rg m s ins l).val
def ZQT : Entry := Zk Zyb ZrK (fun a => some (ZIl a.1 a.2.1 a.2.2.1 a.2.2.2.1 a.2.2.2.2.1 a.2.2.2.2.2)) (fun a => ZPc a.1 a.2.1 a.2.2.1 a.2.2.2.1 a.2.2.2.2.1 a.2.2.2.2.2)
theorem ZLf : Zc Tryz.prog 38 ZQT :=
 pureP 2422574149862500444667903 [(42, Zzg), (92, Zo2), (97, Zjl), (98, ZKg), (99, Zag), (100, Zi8), (101, ZgG), (102, Zjf), (103, ZoQ)] [(0, ZAx)] Zyb ZrK ⟨Zzf, ZsZ, ZnI, ZFB, Zbi, Zno, Zj0, Znx, ZsN, trivial⟩ Tryz.func38 Tryz.call38 ⟨ZDx, trivial⟩ (t := fun a => Zt2 a.1 a.2.1 a.2.2.1 a.2.2.2.1 a.2.2.2.2.1 a.2.2.2.2.2) (fun a => by kernel_rfl)
abbrev ZIo : List Sh := [Sh.one (R.sl (R.pair (R.int u8) (R.int u8))), Sh.one (R.sl (R.pair (R.int u8) (R.int u8)))]
abbrev Zyc : Rs := Rs.one (Sh.one R.bool)
def ZLh : LS := { n := 26, slots := [(0, .code (Sh.one (R.sl (R.pair (R.int u8) (R.int u8))))), (1, .code (Sh.one (R.sl (R.pair (R.int u8) (R.int u8))))), (4, .code (Sh.one R.bool)), (12, .code (Sh.one (R.int i64))), (13, .code (Sh.one (R.int i64)))], boxes := [], stgs := [] }
def Zhg (a : List (Int × Int) × List (Int × Int) × Bool × Int × Int × PUnit) : RT (Option (Go1 (List (Int × Int) × List (Int × Int) × Bool × Int × Int × PUnit))) :=
 let x1 := !Zf a.2.2.2.2.1 (List.length a.1) || Zf a.2.2.2.2.1 (List.length a.2.1)
 let x2 : Int × Int := R.get (R.pair (R.int u8) (R.int u8)) a.1 a.2.2.2.2.1
 let x3 : Int × Int := R.get (R.pair (R.int u8) (R.int u8)) a.2.1 a.2.2.2.2.1
 let x4 : Int × Int × PUnit := (a.2.2.2.1, a.2.2.2.2.1, PUnit.unit)
 .br (decide (a.2.2.2.2.1 < a.2.2.2.1)) (.br (!x1 || Zf a.2.2.2.2.1 (List.length a.1)) (.br (x1) (.br (!(x2.1 == x3.1 && (x2.2 == x3.2 && true))) (.leaf (some (Go1.ret (a.1, a.2.1, false, x4)))) (.leaf (some (Go1.cont (a.1, a.2.1, a.2.2.1, a.2.2.2.1, i64.wrap (a.2.2.2.2.1 + 1), PUnit.unit))))) (.leaf none)) (.leaf none)) (.leaf (some (Go1.brk (a.1, a.2.1, a.2.2.1, x4))))
def ZAz : Ora := Zbt true ZLh Zhg (fun a => 1000000000000)
theorem ZDy : Za3 (envX Tryz.prog [] [] 63 8) (.block 0 (.loop (Zab Tryz.f40.body 0))) ZAz :=
 ZB (ZI (l := []) trivial [] 63 8) (Zp (by kernel_rfl)) (fun a => by kernel_rfl)
def Zt3 (a : List (Int × Int)) (b : List (Int × Int)) : RT (Option (Bool)) :=
 let x1 := runF true Zhg (fun a_1 => 1000000000000) (a, b, false, iN (List.length a), 0, ())
 let x2 := getO (false, a, b, false, iN (List.length a), 0, ()) x1
 .br (iN (List.length a) != iN (List.length b)) (.leaf (some (false))) (.br (okB x1) (.br x2.1 (.leaf (some x2.2.2.2.1)) (.leaf (some (true)))) (.leaf none))
def Zm2 (a : List (Int × Int)) (b : List (Int × Int)) : Bool := getO Zyc.dflt (Zt3 a b).val
def Zfk (a : List (Int × Int)) (b : List (Int × Int)) : Bool := okB (Zt3 a b).val
def ZIp : Entry := Zk ZIo Zyc (fun a => some (Zfk a.1 a.2)) (fun a => Zm2 a.1 a.2)
theorem ZAy : Zc Tryz.prog 40 ZIp :=
 pureP 63 [] [(0, ZAz)] ZIo Zyc trivial Tryz.func40 Tryz.call40 ⟨ZDy, trivial⟩ (t := fun a => Zt3 a.1 a.2) (fun a => by kernel_rfl)
abbrev ZAA : List Sh := [Sh.one (R.sl (R.int u8)), Sh.one (R.sl (R.int u8))]
abbrev ZAB : Rs := Rs.one (Sh.one R.bool)
def Zyd (a : List Int) (b : List Int) : RT (Bool) :=
 .leaf (ByteArray.toList (ZJG a) == ByteArray.toList (ZJG b))
def Zhh (a : List Int) (b : List Int) : Bool := (Zyd a b).val
def ZIr : Entry := Zk ZAA ZAB (fun _ => none) (fun a => Zhh a.1 a.2)
theorem ZIq : Zc Tryz.prog 41 ZIr :=
 pureQ 31 [] [] ZAA ZAB trivial Tryz.func41 Tryz.call41 trivial (t := fun a => Zyd a.1 a.2) (fun a => by kernel_rfl)
end
end Go.Proofs.YtghoimllhpjkjaaGreat
open Go Go.S3 Go.Proofs Go.Proofs.Cells
namespace Go.Proofs.YtghoimllhpjkjaaGreat
noncomputable section
abbrev MacT := List ZS × List Cell × List Int × List (Int × Int)
def doX (x : Cyc) (m : MacT) : Int × MacT :=
 bif x.1 == 1 || (x.1 == 2 || x.1 == 4) then (ZeB m.1 m.2.1 x.2.1, m)
 else bif x.1 == 3 || x.1 == 5 then (x.2.2.1, (m.1, ZbH m.1 m.2.1 x.2.1 x.2.2.1, m.2.2))
 else bif x.1 == 7 then (x.2.2.1, (m.1, m.2.1, m.2.2.1, m.2.2.2 ++ [(IntKind.wrap .u8 x.2.1, x.2.2.1)]))
 else bif x.1 == 6 || (x.1 == 8 || x.1 == 9) then (m.2.2.1.getD 0 0, (m.1, m.2.1, m.2.2.1.drop 1, m.2.2.2))
 else (0, m)
def goX (c : CpuT) (s : Int) : Nat → List Int → MacT → List Int × MacT
 | 0, g, m => (g, m)
 | n + 1, g, m => bif (Zl c s g).2 then goX c s n (g ++ [(doX (Zl c s g).1 m).1]) (doX (Zl c s g).1 m).2 else (g, m)
def ZhH (c : CpuT) (s : Int) (l : LnT) (m : MacT) : CpuT × MacT × List Int :=
 (finX (Zbo c s) s (goX (Zbo c s) s 6 [] m).1 l, (goX (Zbo c s) s 6 [] m).2, (goX (Zbo c s) s 6 [] m).1)
def noL : LnT := (false, false, false, false, false, false, false, false, false)
def runX : Nat → CpuT → MacT → Int → CpuT × MacT × Int
 | 0, c, m, u => (c, m, u)
 | n + 1, c, m, u => bif c.2.2.2.2.1 then (c, m, u) else runX n (ZhH c 0 noL m).1 (ZhH c 0 noL m).2.1 (u + 1)
theorem cle {b : Bool} {x y : List Cyc} {n : Nat} (hx : x.length ≤ n) (hy : y.length ≤ n) : (bif b then x else y).length ≤ n := by cases b <;> assumption
theorem ZLJ (c : CpuT) (inj : Bool) (g : List Int) (i : InsT) : (ZfZ c inj g i).length ≤ 4 := by
 unfold ZfZ
 simp only [ZbT, Zgf, Zdd, ZbI, popX]
 repeat' apply cle
 all_goals first
  | (simp only [List.length_cons, List.length_nil, List.length_append]; omega)
  | (cases i.2.2.1 == 6 <;> cases ZaZ c i <;> cases c.1 == 2 <;> simp; done)
  | skip
theorem ZKo (c : CpuT) (s : Int) (g : List Int) : (Zfc c s g).length ≤ 5 := by
 have h := fun o => ZLJ c (s == 5) g (Zb c.1 o)
 unfold Zfc
 cases g with
 | nil => exact cle (by simp [ZbI]) (by simp)
 | cons o l => exact cle (by simp [ZbI]) (by simpa using h o)
def okK (x : Cyc) : Bool := (decide (1 ≤ x.1) && decide (x.1 ≤ 9)) || x.2.2.1 == 0
theorem okc {b : Bool} {x y : List Cyc} (hx : x.all okK = true) (hy : y.all okK = true) : (bif b then x else y).all okK = true := by cases b <;> assumption
theorem ZPD (c : CpuT) (inj : Bool) (g : List Int) (i : InsT) : (ZfZ c inj g i).all okK = true := by
 have h1 : ∀ k, okK (opC c inj k) = true := fun k => by cases inj <;> rfl
 have ha : ∀ (b : Bool) (x y : List Cyc), (bif b then x else y).all okK = bif b then x.all okK else y.all okK := fun b x y => by cases b <;> rfl
 have hc : ∀ b : Bool, (bif b then true else true) = true := fun b => by cases b <;> rfl
 have hk : ∀ (k a d s : Int), 1 ≤ k → k ≤ 9 → okK (k, a, d, s) = true := fun k a d s h1 h2 => by simp [okK, h1, h2]
 have h0 : ∀ (k a s : Int), okK (k, a, 0, s) = true := fun k a s => by simp [okK]
 have h3 : ∀ a d s, okK (3, a, d, s) = true := fun a d s => hk 3 a d s (by omega) (by omega)
 have h5 : ∀ a d s, okK (5, a, d, s) = true := fun a d s => hk 5 a d s (by omega) (by omega)
 have h7 : ∀ a d s, okK (7, a, d, s) = true := fun a d s => hk 7 a d s (by omega) (by omega)
 simp only [ZfZ, ZbT, Zgf, Zdd, ZbI, popX, ZfY, ha, List.all_cons, List.all_nil, List.all_append, h1, h0, h3, h5, h7, Bool.and_true, hc]
theorem ZN7 (c : CpuT) (s : Int) (g : List Int) : (Zfc c s g).all okK = true := by
 have h := fun o => ZPD c (s == 5) g (Zb c.1 o)
 have h5 : ∀ a d s, okK (5, a, d, s) = true := fun a d s => by rfl
 unfold Zfc
 cases g with
 | nil => exact okc (by simp [ZbI, h5]; rfl) (by simp [okK])
 | cons o l => exact okc (by simp [ZbI, h5]; rfl) (by rw [List.all_cons, h o]; simp [okK])
theorem ZOQ (c : CpuT) (s : Int) (g : List Int) (h : (Zl c s g).2 = true) : okK (Zl c s g).1 = true := by
 have hp := ZN7 c s g
 unfold Zl at *
 generalize Zfc c s g = p at *
 by_cases hg : g.length < p.length
 ·have : (pick p g.length).1 ∈ p := by
   simp [pick, hg, List.getElem?_eq_getElem] at h ⊢
  exact List.all_eq_true.1 hp _ this
 ·simp [pick, hg] at h
theorem Zrk (c : CpuT) (s : Int) (g : List Int) (h : 5 ≤ g.length) : (Zl c s g).2 = false := by
 have hp := ZKo c s g
 unfold Zl
 simp [pick]; omega
theorem ZDO (l : List ZS) (m : List Cell) (t v : Int) : Vld (ZbH l m t v) := by
 unfold ZbH
 cases decide (Zbk l t ≥ 0) && (R.get GR l (Zbk l t)).2.2.1
 ·exact Zdp m
 ·exact Zp1 (Zdp m)
theorem ZDP (l : List ZS) (m : List Cell) (t v : Int) : (ZbH l m t v).length ≤ m.length + 1 := by
 have h := Zb7 m
 unfold ZbH
 cases decide (Zbk l t ≥ 0) && (R.get GR l (Zbk l t)).2.2.1
 ·exact Nat.le_trans h (Nat.le_succ _)
 ·exact Nat.le_trans (Zp3 _ _) (by omega)
theorem ZAQ (x : Cyc) (m : MacT) : (doX x m).2.1 = m.1 ∧ (Vld m.2.1 → Vld (doX x m).2.2.1) ∧ (doX x m).2.2.1.length ≤ m.2.1.length + 1 ∧
  (doX x m).2.2.2.1.length ≤ m.2.2.1.length ∧ (doX x m).2.2.2.2.length ≤ m.2.2.2.length + 1 := by
 unfold doX
 have hl := ZDP m.1 m.2.1 x.2.1 x.2.2.1
 have hv := ZDO m.1 m.2.1 x.2.1 x.2.2.1
 cases x.1 == 1 || (x.1 == 2 || x.1 == 4)
 ·cases x.1 == 3 || x.1 == 5
  ·cases x.1 == 7
   ·cases x.1 == 6 || (x.1 == 8 || x.1 == 9)
    ·exact ⟨rfl, id, by simp, by simp, by simp⟩
    ·exact ⟨rfl, id, by simp, by simp, by simp⟩
   ·exact ⟨rfl, id, by simp, by simp, by simp⟩
  ·exact ⟨rfl, fun _ => hv, hl, by simp, by simp⟩
 ·exact ⟨rfl, id, by simp, by simp, by simp⟩
def pre (o : List (Int × Int)) (m : MacT) : MacT := (m.1, m.2.1, m.2.2.1, o ++ m.2.2.2)
theorem ZJN (n : Nat) (c : CpuT) (m : MacT) (u : Int) : runX (n + 1) c m u = bif c.2.2.2.2.1 then (c, m, u) else runX n (ZhH c 0 noL m).1 (ZhH c 0 noL m).2.1 (u + 1) := rfl
theorem ZIO (c : CpuT) (s : Int) : ∀ (n : Nat) (g : List Int) (m : MacT), (goX c s n g m).2.1 = m.1 ∧ (Vld m.2.1 → Vld (goX c s n g m).2.2.1) ∧ (goX c s n g m).2.2.1.length ≤ m.2.1.length + n ∧
  (goX c s n g m).2.2.2.1.length ≤ m.2.2.1.length ∧ (goX c s n g m).2.2.2.2.length ≤ m.2.2.2.length + n
 | 0, g, m => ⟨rfl, id, Nat.le_refl _, Nat.le_refl _, Nat.le_refl _⟩
 | n + 1, g, m => by
  unfold goX
  cases (Zl c s g).2
  ·exact ⟨rfl, id, Nat.le_add_right _ _, Nat.le_refl _, Nat.le_add_right _ _⟩
  ·have h1 := ZAQ (Zl c s g).1 m
   have h2 := ZIO c s n (g ++ [(doX (Zl c s g).1 m).1]) (doX (Zl c s g).1 m).2
   exact ⟨h2.1.trans h1.1, fun h => h2.2.1 (h1.2.1 h), Nat.le_trans h2.2.2.1 (by omega), Nat.le_trans h2.2.2.2.1 h1.2.2.2.1, Nat.le_trans h2.2.2.2.2 (by omega)⟩
theorem cor (a b : Bool) : (bif a then a else b) = (a || b) := by cases a <;> rfl
theorem ZIu (l : List Int) : (iN l.length == 0 || Zf 0 l.length) = true := by
 cases l with
 | nil => rfl
 | cons x l => simp [iN, Zf]
theorem Zye (l : List Int) : (iN l.length == 0 || (!Zf 0 l.length || decide (0 ≤ 1) && decide (1 ≤ iN l.length) && (decide (iN l.length = 0) || decide (iN l.length ≤ iN l.length)))) = true := by
 cases l with
 | nil => rfl
 | cons x l => simp [iN, Zf]; omega
theorem ZIv (l g : List Int) : (bif iN l.length == 0 then g ++ [0] else g ++ [R.get (R.int .u8) l 0]) = g ++ [l.getD 0 0] := by
 cases l with
 | nil => rfl
 | cons x l =>
  have : (iN (x :: l).length == 0) = false := by simp [iN]; omega
  rw [this]; rfl
theorem ZIt (l : List Int) : (bif iN l.length == 0 then l else subL l 1 (iN l.length)) = l.drop 1 := by
 cases l with
 | nil => rfl
 | cons x l =>
  have : (iN (x :: l).length == 0) = false := by simp [iN]; omega
  rw [this]
  simp [subL, iN]
theorem ZfP (c : CpuT) (s : Int) (n : Nat) (g : List Int) (m : MacT) : goX c s (n + 1) g m = bif (Zl c s g).2 then goX c s n (g ++ [(doX (Zl c s g).1 m).1]) (doX (Zl c s g).1 m).2 else (g, m) := rfl
structure Rm (rg : List ZS) (m : List Cell) (outs : List (Int × Int)) (g : List Int) : Prop where
 r : smG rg = true
 m : smC m = true
 o : ∀ x, Nat.ble (outs ++ [x]).length most = true
 g : ∀ x, Nat.ble (g ++ [x]).length most = true
theorem ZPm (s g0 c0 l0 cz rg m ins c l cz2 outs g) (h : Rm rg m outs g) :
  (Zd3 (s, g0, c0, l0, cz, rg, m, ins, c, l, cz2, outs, g, ())).val = some (bif (Zl c s g).2 then
   Go1.cont (s, g0, c0, l0, cz, rg, (doX (Zl c s g).1 (rg, m, ins, outs)).2.2.1, (doX (Zl c s g).1 (rg, m, ins, outs)).2.2.2.1, c, l, cz2, (doX (Zl c s g).1 (rg, m, ins, outs)).2.2.2.2, g ++ [(doX (Zl c s g).1 (rg, m, ins, outs)).1], ())
   else Go1.ret (s, g, c0, l0, cz, rg, m, ins, c, l, finX c s g l, outs, g, ())) := by
 have i1 := ZIu ins
 have i2 := Zye ins
 have i3 := ZIv ins g
 have i4 := ZIt ins
 simp only [Zd3, RT.val, cor, h.r, h.m, h.o, h.g, i1, i2, Bool.or_true, Bool.true_or, Bool.not_true, Bool.false_or, Bool.or_false, Bool.and_self, cond_true]
 cases (Zl c s g).2
 ·rfl
 ·simp only [Bool.not_true, cond_false, cond_true, i3, i4]
  unfold doX
  generalize (Zl c s g).1 = x
  cases x.1 == 1 || (x.1 == 2 || x.1 == 4)
  ·cases x.1 == 3 || x.1 == 5
   ·cases x.1 == 7
    ·cases x.1 == 6 || (x.1 == 8 || x.1 == 9) <;> rfl
    ·rfl
   ·rfl
  ·rfl
theorem ZPl (s g0 c0 cz rg m ins c l cz2 outs g) (h : Rm rg m outs g) :
  (Zd2 (s, g0, c0, cz, rg, m, ins, c, l, cz2, outs, g, ())).val = some (bif (Zl c s g).2 then
   Go1.cont (s, g0, c0, cz, rg, (doX (Zl c s g).1 (rg, m, ins, outs)).2.2.1, (doX (Zl c s g).1 (rg, m, ins, outs)).2.2.2.1, c, l, cz2, (doX (Zl c s g).1 (rg, m, ins, outs)).2.2.2.2, g ++ [(doX (Zl c s g).1 (rg, m, ins, outs)).1], ())
   else Go1.ret (s, g, c0, cz, rg, m, ins, c, l, finX c s g l, outs, g, ())) := by
 have i1 := ZIu ins
 have i2 := Zye ins
 have i3 := ZIv ins g
 have i4 := ZIt ins
 simp only [Zd2, RT.val, cor, h.r, h.m, h.o, h.g, i1, i2, Bool.or_true, Bool.true_or, Bool.not_true, Bool.false_or, Bool.or_false, Bool.and_self, cond_true]
 cases (Zl c s g).2
 ·rfl
 ·simp only [Bool.not_true, cond_false, cond_true, i3, i4]
  unfold doX
  generalize (Zl c s g).1 = x
  cases x.1 == 1 || (x.1 == 2 || x.1 == 4)
  ·cases x.1 == 3 || x.1 == 5
   ·cases x.1 == 7
    ·cases x.1 == 6 || (x.1 == 8 || x.1 == 9) <;> rfl
    ·rfl
   ·rfl
  ·rfl
theorem ZzE (l : List Int) : decide (iN l.length > 0) = !(iN l.length == 0) := by
 cases l with
 | nil => rfl
 | cons x l => simp [iN]; omega
theorem ZP0 (l : List Int) : (!decide (iN l.length > 0) || Zf 0 l.length) = true := by rw [ZzE, Bool.not_not]; exact ZIu l
theorem ZNz (l : List Int) : (!decide (iN l.length > 0) || (!Zf 0 l.length || decide (0 ≤ 1) && decide (1 ≤ iN l.length) && (decide (iN l.length = 0) || decide (iN l.length ≤ iN l.length)))) = true := by rw [ZzE, Bool.not_not]; exact Zye l
theorem ZNA (l : List Int) : (bif decide (iN l.length > 0) then R.get (R.int .u8) l 0 else 0) = l.getD 0 0 := by
 cases l with
 | nil => rfl
 | cons x l =>
  rw [ZzE]
  have : (iN (x :: l).length == 0) = false := by simp [iN]; omega
  rw [this]; rfl
theorem ZPZ (l : List Int) : (bif decide (iN l.length > 0) then subL l 1 (iN l.length) else l) = l.drop 1 := by
 rw [ZzE, ← ZIt l]
 cases iN l.length == 0 <;> rfl
theorem ZDu {x : Cyc} (h : okK x = true) :
  (x.1 = 1 ∨ x.1 = 2 ∨ x.1 = 4) ∨ (x.1 = 3 ∨ x.1 = 5) ∨ x.1 = 7 ∨ (x.1 = 6 ∨ x.1 = 8 ∨ x.1 = 9) ∨ ((x.1 < 1 ∨ 9 < x.1) ∧ x.2.2.1 = 0) := by
 simp only [okK, Bool.or_eq_true, Bool.and_eq_true, decide_eq_true_eq, beq_iff_eq] at h
 omega
theorem ZQS (rg m s ins r1 r2 r3 c l cz g outs) (h : Rm rg m outs g) :
  (ZfM (rg, m, s, ins, r1, r2, r3, c, l, cz, g, outs, ())).val = some (bif (Zl c s g).2 then
   Go1.cont (rg, (doX (Zl c s g).1 (rg, m, ins, outs)).2.2.1, s, (doX (Zl c s g).1 (rg, m, ins, outs)).2.2.2.1, r1, r2, r3, c, l, cz, g ++ [(doX (Zl c s g).1 (rg, m, ins, outs)).1], (doX (Zl c s g).1 (rg, m, ins, outs)).2.2.2.2, ())
   else Go1.ret (rg, m, s, ins, m, outs, g, c, l, finX c s g l, g, outs, ())) := by
 have i1 := ZP0 ins
 have i2 := ZNz ins
 have i3 := ZNA ins
 have i4 := ZPZ ins
 simp only [ZfM, RT.val, h.r, h.m, h.o, h.g, i1, i2, i3, i4, Bool.or_true, Bool.true_or, Bool.not_true, Bool.false_or, Bool.or_false, Bool.and_self, cond_true]
 cases hn : (Zl c s g).2
 ·rfl
 ·have hk := ZOQ c s g hn
  simp only [Bool.not_true, cond_false, cond_true]
  generalize (Zl c s g).1 = x at hk
  obtain ⟨k, t, d, n⟩ := x
  rcases ZDu hk with h | h | h | h | h
  ·rcases h with h | h | h <;> simp only at h <;> subst h <;> rfl
  ·rcases h with h | h <;> simp only at h <;> subst h <;> rfl
  ·simp only at h; subst h; rfl
  ·rcases h with h | h | h <;> simp only at h <;> subst h <;> rfl
  ·simp only at h
   obtain ⟨h1, h2⟩ := h
   subst h2
   have e : ∀ j : Int, 1 ≤ j → j ≤ 9 → (k == j) = false := fun j _ _ => by simp; omega
   have e5 : (decide (k ≥ 1) && decide (k ≤ 5)) = false := by
    cases h : (decide (k ≥ 1) && decide (k ≤ 5)) with
    | false => rfl
    | true => simp at h; omega
   have er : ZE0 k = false := by
    show (k == 1 || (k == 2 || (k == 4 || (k == 6 || (k == 8 || k == 9))))) = false
    simp only [e 1 (by omega) (by omega), e 2 (by omega) (by omega), e 4 (by omega) (by omega), e 6 (by omega) (by omega), e 8 (by omega) (by omega), e 9 (by omega) (by omega), Bool.or_self]
   simp only [doX, e 1 (by omega) (by omega), e 2 (by omega) (by omega), e 3 (by omega) (by omega), e 4 (by omega) (by omega), e 5 (by omega) (by omega), e 6 (by omega) (by omega), e 7 (by omega) (by omega), e 8 (by omega) (by omega), e 9 (by omega) (by omega), e5, er, Bool.or_self, Bool.false_and, cond_false]
def ZmB (a : Int × List Int × CpuT × LnT × CpuT × List ZS × List Cell × List Int × CpuT × LnT × CpuT × List (Int × Int) × List Int × PUnit) : List Int := a.2.2.2.2.2.2.2.2.2.2.2.2.1
theorem ZQY (A : List Int × CpuT × LnT × CpuT × CpuT) (c : CpuT) (s : Int) (l : LnT) (M0 : MacT) (hr : smG M0.1 = true) (hm : M0.2.1.length + 20 ≤ most) (ho : M0.2.2.2.length + 20 ≤ most) :
  ∃ r, runF true Zd3 (fun _ => 100) (s, A.1, A.2.1, A.2.2.1, A.2.2.2.1, M0.1, M0.2.1, M0.2.2.1, c, l, A.2.2.2.2, M0.2.2.2, [], ()) = some r ∧ r = (true, s, (goX c s 6 [] M0).1, A.2.1, A.2.2.1, A.2.2.2.1, M0.1, (goX c s 6 [] M0).2.2.1, (goX c s 6 [] M0).2.2.2.1, c, l, finX c s (goX c s 6 [] M0).1 l, (goX c s 6 [] M0).2.2.2.2, (goX c s 6 [] M0).1, ()) := by
 have hms := mst
 obtain ⟨r, h1, h2⟩ := ZZ (fl := true) (t := Zd3) (fuel := fun _ => 100)
  (fun a => ∃ (g : List Int) (M : MacT), a = (s, A.1, A.2.1, A.2.2.1, A.2.2.2.1, M0.1, M.2.1, M.2.2.1, c, l, A.2.2.2.2, M.2.2.2, g, ()) ∧ M.1 = M0.1 ∧ g.length ≤ 5 ∧ goX c s (6 - g.length) g M = goX c s 6 [] M0 ∧ M.2.1.length ≤ M0.2.1.length + g.length ∧ M.2.2.2.length ≤ M0.2.2.2.length + g.length)
  (fun a => 6 - (ZmB a).length) (fun r => r = (true, s, (goX c s 6 [] M0).1, A.2.1, A.2.2.1, A.2.2.2.1, M0.1, (goX c s 6 [] M0).2.2.1, (goX c s 6 [] M0).2.2.2.1, c, l, finX c s (goX c s 6 [] M0).1 l, (goX c s 6 [] M0).2.2.2.2, (goX c s 6 [] M0).1, ()))
  (by
   rintro a ⟨g, M, rfl, hM, hg, hR, hl, hq⟩
   have rm : Rm M0.1 M.2.1 M.2.2.2 g := ⟨hr, by rw [show smC M.2.1 = sm M.2.1 from rfl, ZdV]; omega, fun x => by rw [Nat.ble_eq]; simp; omega, fun x => by rw [Nat.ble_eq]; simp; omega⟩
   have hs := ZPm s A.1 A.2.1 A.2.2.1 A.2.2.2.1 M0.1 M.2.1 M.2.2.1 c l A.2.2.2.2 M.2.2.2 g rm
   have e6 : 6 - g.length = (5 - g.length) + 1 := by omega
   rw [e6] at hR
   have hMe : M = (M0.1, M.2.1, M.2.2.1, M.2.2.2) := by rw [← hM]
   cases hn : (Zl c s g).2
   ·right; right
    rw [hn, cond_false] at hs
    refine ⟨_, rfl, hs, ?_⟩
    rw [ZfP c s (5 - g.length) g M, hn, cond_false] at hR
    rw [← hR]
   ·left
    rw [hn, cond_true, ← hMe] at hs
    have h5 : g.length < 5 := by
     refine Nat.lt_of_not_le fun h => ?_
     rw [Zrk c s g h] at hn; simp at hn
    have hd := ZAQ (Zl c s g).1 M
    rw [ZfP c s (5 - g.length) g M, hn, cond_true] at hR
    refine ⟨_, hs, ⟨g ++ [(doX (Zl c s g).1 M).1], (doX (Zl c s g).1 M).2, rfl, hd.1.trans hM, by simp; omega, ?_, ?_, ?_⟩, ?_⟩
    ·rw [show 6 - (g ++ [(doX (Zl c s g).1 M).1]).length = 5 - g.length by simp only [List.length_append, List.length_singleton]; omega]; exact hR
    ·have := hd.2.2.1; simp; omega
    ·have := hd.2.2.2.2; simp; omega
    ·simp [ZmB]; omega)
  (s, A.1, A.2.1, A.2.2.1, A.2.2.2.1, M0.1, M0.2.1, M0.2.2.1, c, l, A.2.2.2.2, M0.2.2.2, [], ()) ⟨[], M0, rfl, rfl, by simp, rfl, by simp, by simp⟩ (by simp [ZmB])
 exact ⟨r, h1, h2⟩
def ZmA (a : Int × List Int × CpuT × CpuT × List ZS × List Cell × List Int × CpuT × LnT × CpuT × List (Int × Int) × List Int × PUnit) : List Int := a.2.2.2.2.2.2.2.2.2.2.2.1
theorem ZQX (A : List Int × CpuT × CpuT × CpuT) (c : CpuT) (s : Int) (l : LnT) (M0 : MacT) (hr : smG M0.1 = true) (hm : M0.2.1.length + 20 ≤ most) (ho : M0.2.2.2.length + 20 ≤ most) :
  ∃ r, runF true Zd2 (fun _ => 100) (s, A.1, A.2.1, A.2.2.1, M0.1, M0.2.1, M0.2.2.1, c, l, A.2.2.2, M0.2.2.2, [], ()) = some r ∧ r = (true, s, (goX c s 6 [] M0).1, A.2.1, A.2.2.1, M0.1, (goX c s 6 [] M0).2.2.1, (goX c s 6 [] M0).2.2.2.1, c, l, finX c s (goX c s 6 [] M0).1 l, (goX c s 6 [] M0).2.2.2.2, (goX c s 6 [] M0).1, ()) := by
 have hms := mst
 obtain ⟨r, h1, h2⟩ := ZZ (fl := true) (t := Zd2) (fuel := fun _ => 100)
  (fun a => ∃ (g : List Int) (M : MacT), a = (s, A.1, A.2.1, A.2.2.1, M0.1, M.2.1, M.2.2.1, c, l, A.2.2.2, M.2.2.2, g, ()) ∧ M.1 = M0.1 ∧ g.length ≤ 5 ∧ goX c s (6 - g.length) g M = goX c s 6 [] M0 ∧ M.2.1.length ≤ M0.2.1.length + g.length ∧ M.2.2.2.length ≤ M0.2.2.2.length + g.length)
  (fun a => 6 - (ZmA a).length) (fun r => r = (true, s, (goX c s 6 [] M0).1, A.2.1, A.2.2.1, M0.1, (goX c s 6 [] M0).2.2.1, (goX c s 6 [] M0).2.2.2.1, c, l, finX c s (goX c s 6 [] M0).1 l, (goX c s 6 [] M0).2.2.2.2, (goX c s 6 [] M0).1, ()))
  (by
   rintro a ⟨g, M, rfl, hM, hg, hR, hl, hq⟩
   have rm : Rm M0.1 M.2.1 M.2.2.2 g := ⟨hr, by rw [show smC M.2.1 = sm M.2.1 from rfl, ZdV]; omega, fun x => by rw [Nat.ble_eq]; simp; omega, fun x => by rw [Nat.ble_eq]; simp; omega⟩
   have hs := ZPl s A.1 A.2.1 A.2.2.1 M0.1 M.2.1 M.2.2.1 c l A.2.2.2 M.2.2.2 g rm
   have e6 : 6 - g.length = (5 - g.length) + 1 := by omega
   rw [e6] at hR
   have hMe : M = (M0.1, M.2.1, M.2.2.1, M.2.2.2) := by rw [← hM]
   cases hn : (Zl c s g).2
   ·right; right
    rw [hn, cond_false] at hs
    refine ⟨_, rfl, hs, ?_⟩
    rw [ZfP c s (5 - g.length) g M, hn, cond_false] at hR
    rw [← hR]
   ·left
    rw [hn, cond_true, ← hMe] at hs
    have h5 : g.length < 5 := by
     refine Nat.lt_of_not_le fun h => ?_
     rw [Zrk c s g h] at hn; simp at hn
    have hd := ZAQ (Zl c s g).1 M
    rw [ZfP c s (5 - g.length) g M, hn, cond_true] at hR
    refine ⟨_, hs, ⟨g ++ [(doX (Zl c s g).1 M).1], (doX (Zl c s g).1 M).2, rfl, hd.1.trans hM, by simp; omega, ?_, ?_, ?_⟩, ?_⟩
    ·rw [show 6 - (g ++ [(doX (Zl c s g).1 M).1]).length = 5 - g.length by simp only [List.length_append, List.length_singleton]; omega]; exact hR
    ·have := hd.2.2.1; simp; omega
    ·have := hd.2.2.2.2; simp; omega
    ·simp [ZmA]; omega)
  (s, A.1, A.2.1, A.2.2.1, M0.1, M0.2.1, M0.2.2.1, c, l, A.2.2.2, M0.2.2.2, [], ()) ⟨[], M0, rfl, rfl, by simp, rfl, by simp, by simp⟩ (by simp [ZmA])
 exact ⟨r, h1, h2⟩
def ZrP (a : List ZS × List Cell × Int × List Int × List Cell × List (Int × Int) × List Int × CpuT × LnT × CpuT × List Int × List (Int × Int) × PUnit) : List Int := a.2.2.2.2.2.2.2.2.2.2.1
theorem j_run (A : List Cell × List (Int × Int) × List Int × CpuT) (c : CpuT) (s : Int) (l : LnT) (M0 : MacT) (hr : smG M0.1 = true) (hm : M0.2.1.length + 20 ≤ most) (ho : M0.2.2.2.length + 20 ≤ most) :
  ∃ r, runF true ZfM (fun _ => 100) (M0.1, M0.2.1, s, M0.2.2.1, A.1, A.2.1, A.2.2.1, c, l, A.2.2.2, [], M0.2.2.2, ()) = some r ∧ r = (true, M0.1, (goX c s 6 [] M0).2.2.1, s, (goX c s 6 [] M0).2.2.2.1, (goX c s 6 [] M0).2.2.1, (goX c s 6 [] M0).2.2.2.2, (goX c s 6 [] M0).1, c, l, finX c s (goX c s 6 [] M0).1 l, (goX c s 6 [] M0).1, (goX c s 6 [] M0).2.2.2.2, ()) := by
 have hms := mst
 obtain ⟨r, h1, h2⟩ := ZZ (fl := true) (t := ZfM) (fuel := fun _ => 100)
  (fun a => ∃ (g : List Int) (M : MacT), a = (M0.1, M.2.1, s, M.2.2.1, A.1, A.2.1, A.2.2.1, c, l, A.2.2.2, g, M.2.2.2, ()) ∧ M.1 = M0.1 ∧ g.length ≤ 5 ∧ goX c s (6 - g.length) g M = goX c s 6 [] M0 ∧ M.2.1.length ≤ M0.2.1.length + g.length ∧ M.2.2.2.length ≤ M0.2.2.2.length + g.length)
  (fun a => 6 - (ZrP a).length) (fun r => r = (true, M0.1, (goX c s 6 [] M0).2.2.1, s, (goX c s 6 [] M0).2.2.2.1, (goX c s 6 [] M0).2.2.1, (goX c s 6 [] M0).2.2.2.2, (goX c s 6 [] M0).1, c, l, finX c s (goX c s 6 [] M0).1 l, (goX c s 6 [] M0).1, (goX c s 6 [] M0).2.2.2.2, ()))
  (by
   rintro a ⟨g, M, rfl, hM, hg, hR, hl, hq⟩
   have rm : Rm M0.1 M.2.1 M.2.2.2 g := ⟨hr, by rw [show smC M.2.1 = sm M.2.1 from rfl, ZdV]; omega, fun x => by rw [Nat.ble_eq]; simp; omega, fun x => by rw [Nat.ble_eq]; simp; omega⟩
   have hs := ZQS M0.1 M.2.1 s M.2.2.1 A.1 A.2.1 A.2.2.1 c l A.2.2.2 g M.2.2.2 rm
   have e6 : 6 - g.length = (5 - g.length) + 1 := by omega
   rw [e6] at hR
   have hMe : M = (M0.1, M.2.1, M.2.2.1, M.2.2.2) := by rw [← hM]
   cases hn : (Zl c s g).2
   ·right; right
    rw [hn, cond_false] at hs
    refine ⟨_, rfl, hs, ?_⟩
    rw [ZfP c s (5 - g.length) g M, hn, cond_false] at hR
    rw [← hR]
   ·left
    rw [hn, cond_true, ← hMe] at hs
    have h5 : g.length < 5 := by
     refine Nat.lt_of_not_le fun h => ?_
     rw [Zrk c s g h] at hn; simp at hn
    have hd := ZAQ (Zl c s g).1 M
    rw [ZfP c s (5 - g.length) g M, hn, cond_true] at hR
    refine ⟨_, hs, ⟨g ++ [(doX (Zl c s g).1 M).1], (doX (Zl c s g).1 M).2, rfl, hd.1.trans hM, by simp; omega, ?_, ?_, ?_⟩, ?_⟩
    ·rw [show 6 - (g ++ [(doX (Zl c s g).1 M).1]).length = 5 - g.length by simp only [List.length_append, List.length_singleton]; omega]; exact hR
    ·have := hd.2.2.1; simp; omega
    ·have := hd.2.2.2.2; simp; omega
    ·simp [ZrP]; omega)
  (M0.1, M0.2.1, s, M0.2.2.1, A.1, A.2.1, A.2.2.1, c, l, A.2.2.2, [], M0.2.2.2, ()) ⟨[], M0, rfl, rfl, by simp, rfl, by simp, by simp⟩ (by simp [ZrP])
 exact ⟨r, h1, h2⟩
def czX : CpuT := (0, (0, 0, 0, 0, 0, 0, 0, (false, false, false, false, false, false, false), 0, 0), false, false, false, 0, false, false, false, false, false, false, false)
def Zdi (rg : List ZS) (m : List Cell) (ins : List Int) : MacT := (rg, normX m, ins, [])
def ZdT (c : CpuT) (rg : List ZS) (m : List Cell) (s : Int) (ins : List Int) (l : LnT) : CpuT × List Cell × List (Int × Int) × List Int :=
 let r := ZhH c s l (Zdi rg m ins)
 (r.1, r.2.1.2.1, r.2.1.2.2.2, r.2.2)
theorem ZQV (c : CpuT) (rg : List ZS) (m : List Cell) (s : Int) (ins : List Int) (l : LnT) (hr : smG rg = true) (hm : m.length + 20 ≤ most) :
  ZIF c rg m s ins l = true ∧ ZPh c rg m s ins l = ZdT c rg m s ins l := by
 have hms := mst
 have hl := Zb7 m
 have hs : smC m = true := by show sm m = true; rw [ZdV]; omega
 obtain ⟨r, h1, h2⟩ := ZQY ([], c, l, czX, czX) (Zbo c s) s l (Zdi rg m ins) hr (by show (normX m).length + 20 ≤ most; omega) (by show 0 + 20 ≤ most; omega)
 subst h2
 simp only [Zdi, czX] at h1
 have hv : (Zt8 c rg m s ins l).val = some (ZdT c rg m s ins l) := by
  simp only [Zt8, RT.val, hs, h1, okB, getO, cond_true]
  rfl
 exact ⟨by simp only [ZIF, hv]; rfl, by simp only [ZPh, hv, getO]⟩
theorem ZPb (c : CpuT) (rg : List ZS) (m : List Cell) (s : Int) (ins : List Int) (l : LnT) (hr : smG rg = true) (hm : m.length + 20 ≤ most) :
  ZIl c rg m s ins l = true ∧ ZPc c rg m s ins l = ZdT c rg m s ins l := by
 have hms := mst
 have hl := Zb7 m
 have hs : smC m = true := by show sm m = true; rw [ZdV]; omega
 obtain ⟨r, h1, h2⟩ := j_run ([], [], [], czX) (Zbo c s) s l (Zdi rg m ins) hr (by show (normX m).length + 20 ≤ most; omega) (by show 0 + 20 ≤ most; omega)
 subst h2
 simp only [Zdi, czX] at h1
 have hv : (Zt2 c rg m s ins l).val = some (ZdT c rg m s ins l) := by
  simp only [Zt2, RT.val, hs, h1, okB, getO, cond_true]
  rfl
 exact ⟨by simp only [ZIl, hv]; rfl, by simp only [ZPc, hv, getO]⟩
def limK (k : Int) : Int := if 10000 < k then 10000 else k
def runR (c : CpuT) (rg : List ZS) (m : List Cell) (ins : List Int) (k : Int) : CpuT × List Cell × List (Int × Int) × Int :=
 let r := runX (limK k).toNat c (Zdi rg m ins) 0
 (r.1, r.2.1.2.1, r.2.1.2.2.2, r.2.2)
theorem i_run (c : CpuT) (rg : List ZS) (m : List Cell) (ins : List Int) (k : Int) (hr : smG rg = true) (hm : m.length + 100000 ≤ most) :
  ZPk c rg m ins k = true ∧ iRun c rg m ins k = runR c rg m ins k := by
 have hms := mst
 have hl := Zb7 m
 have hs : smC m = true := by show sm m = true; rw [ZdV]; omega
 have hk : (limK k).toNat ≤ 10000 := by unfold limK; split <;> omega
 obtain ⟨r, h1, h2⟩ := ZZ (fl := false) (t := Zib) (fuel := fun _ => 20000)
  (fun a => ∃ (n : Nat) (c' : CpuT) (M : MacT) (u : Nat), a = (k, (u : Int), c', czX, rg, M.2.1, M.2.2.1, M.2.2.2, ()) ∧ M.1 = rg ∧ n + u = (limK k).toNat ∧ runX n c' M u = runX (limK k).toNat c (Zdi rg m ins) 0 ∧ M.2.1.length ≤ m.length + 6 * u ∧ M.2.2.2.length ≤ 6 * u)
  (fun a => 10001 - Int.toNat a.2.1) (fun r => ∃ rest, r = (false, (k, (runX (limK k).toNat c (Zdi rg m ins) 0).2.2, (runX (limK k).toNat c (Zdi rg m ins) 0).1, czX, rg, (runX (limK k).toNat c (Zdi rg m ins) 0).2.1.2.1, rest, (runX (limK k).toNat c (Zdi rg m ins) 0).2.1.2.2.2, ())))
  (by
   rintro a ⟨n, c', M, u, rfl, hM, hn, hR, hq1, hq2⟩
   have hMe : M = (rg, M.2.1, M.2.2.1, M.2.2.2) := by rw [← hM]
   have hlt : decide ((u : Int) < limK k) = decide (0 < n) := by
    by_cases h0 : 0 < n
    ·rw [decide_eq_true h0, decide_eq_true]; omega
    ·rw [decide_eq_false h0, decide_eq_false]; omega
   cases n with
   | zero =>
    right; left
    refine ⟨(k, (u : Int), c', czX, rg, M.2.1, M.2.2.1, M.2.2.2, ()), ?_, M.2.2.1, ?_⟩
    ·have : (decide ((u : Int) < if 10000 < k then 10000 else k) && !c'.2.2.2.2.1) = false := by
      show (decide ((u : Int) < limK k) && _) = false
      rw [hlt]; rfl
     simp only [Zib, RT.val, this, cond_false]
    ·rw [← hR]; rfl
   | succ n =>
    rw [ZJN] at hR
    cases hh : c'.2.2.2.2.1 with
    | true =>
     right; left
     refine ⟨(k, (u : Int), c', czX, rg, M.2.1, M.2.2.1, M.2.2.2, ()), ?_, M.2.2.1, ?_⟩
     ·have : (decide ((u : Int) < if 10000 < k then 10000 else k) && !c'.2.2.2.2.1) = false := by rw [hh]; simp
      simp only [Zib, RT.val, this, cond_false]
     ·rw [hh, cond_true] at hR
      rw [← hR]
    | false =>
     left
     rw [hh, cond_false] at hR
     obtain ⟨r, h1, h2⟩ := ZQX ([], c', czX, czX) (Zbo c' 0) 0 noL M (by rw [hM]; exact hr) (by omega) (by omega)
     subst h2
     rw [hM] at h1
     simp only [noL, czX] at h1
     have hc : (decide ((u : Int) < if 10000 < k then 10000 else k) && !c'.2.2.2.2.1) = true := by
      show (decide ((u : Int) < limK k) && _) = true
      rw [hlt, hh]; simp
     have gi := ZIO (Zbo c' 0) 0 6 [] M
     refine ⟨(k, ((u + 1 : Nat) : Int), (ZhH c' 0 noL M).1, czX, rg, (ZhH c' 0 noL M).2.1.2.1, (ZhH c' 0 noL M).2.1.2.2.1, (ZhH c' 0 noL M).2.1.2.2.2, ()), ?_, ⟨n, (ZhH c' 0 noL M).1, (ZhH c' 0 noL M).2.1, u + 1, rfl, ?_, by omega, ?_, ?_, ?_⟩, ?_⟩
     ·simp only [Zib, RT.val, hc, czX, h1, okB, getO, cond_true]
      rw [ZeO u (by omega)]
      rfl
     ·exact gi.1.trans hM
     ·exact hR
     ·have := gi.2.2.1; simp only [ZhH]; omega
     ·have := gi.2.2.2.2; simp only [ZhH]; omega
     ·simp only; omega)
  (k, 0, c, czX, rg, normX m, ins, [], ()) ⟨(limK k).toNat, c, Zdi rg m ins, 0, rfl, rfl, by omega, rfl, by show (normX m).length ≤ _; omega, by simp [Zdi]⟩ (by simp)
 obtain ⟨rest, rfl⟩ := h2
 simp only [czX] at h1
 have hv : (ZIJ c rg m ins k).val = some (runR c rg m ins k) := by
  simp only [ZIJ, RT.val, hs, h1, okB, getO, cond_true]
  rfl
 exact ⟨by simp only [ZPk, hv]; rfl, by simp only [iRun, hv, getO]⟩
abbrev ZoT : R := R.pair (R.int u16) (R.int u8)
abbrev ZoU : Nat := 106
abbrev Zu2 : List Sh := [Sh.one rcCE, Sh.agg (R.pair (R.int u16) (R.int u8))]
def ZJX : LS := { n := 53, slots := [(3, .fix (A.loc 0 0)), (5, .tip 0), (6, .code (Sh.one R.bool)), (9, .code (Sh.one rcCE)), (10, .code (Sh.one (R.int i64))), (11, .code (Sh.one (R.int i64)))], boxes := [[.many (R.pair (R.int u16) (R.int u8))]], stgs := [⟨(R.pair (R.int u16) (R.int u8)), 106, false⟩] }
def Zy3 (a : QT7) : RT (Option (Go1 (QT7))) :=
 let x1 : Int × Int := R.get (R.pair (R.int u16) (R.int u8)) a.2.1 a.2.2.2.1
 let x2 := x1.1
 let x3 := !a.1 && decide (x2 ≥ a.2.2.2.2.1.1)
 let x4 : List (Int × Int) := a.2.2.2.2.2.1 ++ [a.2.2.2.2.1]
 let x5 := !x3 || (!a.2.2.2.2.1.2 != 0 || Nat.ble (List.length x4) most)
 let x6 := x2 != a.2.2.2.2.1.1
 let x7 : List (Int × Int) := bif x3 then bif a.2.2.2.2.1.2 != 0 then x4 else a.2.2.2.2.2.1 else a.2.2.2.2.2.1
 let x8 : List (Int × Int) := x7 ++ [x1]
 .br (decide (a.2.2.2.1 < a.2.2.1)) (.br (!Zf a.2.2.2.1 (List.length a.2.1) || (!x5 || (!x6 || Nat.ble (List.length x8) most))) (.br (!Zf a.2.2.2.1 (List.length a.2.1) || x5) (.br (Zf a.2.2.2.1 (List.length a.2.1)) (.leaf (some (Go1.cont (x3 || a.1, a.2.1, a.2.2.1, i64.wrap (a.2.2.2.1 + 1), a.2.2.2.2.1, bif x6 then x8 else x7, PUnit.unit)))) (.leaf none)) (.leaf none)) (.leaf none)) (.leaf (some (Go1.brk (a.1, a.2.1, a.2.2.1, a.2.2.2.1, a.2.2.2.2.1, a.2.2.2.2.2.1, PUnit.unit))))
def Zy4 : Ora := Zbt false ZJX Zy3 (fun a => 1000000000000)
theorem ZBe : Za3 (envX Tryz.prog [] [] 511 8) (.block 0 (.loop (Zab Tryz.f149.body 0))) Zy4 :=
 ZB (ZI (l := []) trivial [] 511 8) (Zp (by kernel_rfl)) (fun a => by kernel_rfl)
def Zy2 (m : List (Int × Int)) (c : Int × Int) : RT (Option (List (Int × Int))) :=
 let x1 : QT7 := (false, m, iN (List.length m), 0, c, [], ())
 let x2 := runF false Zy3 (fun a => 1000000000000) x1
 let x3 : QT7 := (getO (false, x1) x2).2
 let x4 := x3.2.2.2.2
 let x5 := x4.1
 let x6 := !x3.1 && x5.2 != 0
 let x7 := x4.2.1
 let x8 : List (Int × Int) := x7 ++ [x5]
 .br (okB x2) (.br (!x6 || Nat.ble (List.length x8) most) (.leaf (some (bif x6 then x8 else x7))) (.leaf none)) (.leaf none)
def ZJY (m : List (Int × Int)) (c : Int × Int) : List (Int × Int) := getO [] (Zy2 m c).val
def Zy6 (m : List (Int × Int)) (c : Int × Int) : Bool := okB (Zy2 m c).val
def Zy5 : Entry := frzE (newE ZoT ZoU Zu2 (fun a => some (Zy6 a.1 a.2)) (fun a => ZJY a.1 a.2))
theorem ZE5 : Zc Tryz.prog 149 (newE ZoT ZoU Zu2 (fun a => some (Zy6 a.1 a.2)) (fun a => ZJY a.1 a.2)) :=
 Zrl (P := Tryz.prog) (n := 511) (k := 8) (l := []) (ol := [(0, Zy4)]) trivial Tryz.func149 rfl (by kernel_rfl) Tryz.call149 ⟨ZBe, trivial⟩ (r := ZoT) (T := ZoU) (ts := Zu2) (t := fun a => Zy2 a.1 a.2) (fun a => by kernel_rfl)
theorem Zy1 : Zc Tryz.prog 149 Zy5 := ZAF ZE5
abbrev Zjh : R := R.pair (R.int u16) (R.int u8)
abbrev Zji : Nat := 106
abbrev Zo0 : List Sh := [Sh.one rcCE]
def ZFk : LS := { n := 21, slots := [(3, .tip 0), (10, .code (Sh.one rcCE)), (11, .code (Sh.one (R.int i64))), (12, .code (Sh.one (R.int i64)))], boxes := [], stgs := [⟨(R.pair (R.int u16) (R.int u8)), 106, false⟩] }
def Ze4 (a : List (Int × Int) × Int × Int × List (Int × Int) × PUnit) : RT (Option (Go1 (List (Int × Int) × Int × Int × List (Int × Int) × PUnit))) :=
 .br (decide (a.2.2.1 < a.2.1)) (.br (!Zf a.2.2.1 (List.length a.1) || Zy6 a.2.2.2.1 (R.get (R.pair (R.int u16) (R.int u8)) a.1 a.2.2.1)) (.br (Zf a.2.2.1 (List.length a.1)) (.leaf (some (Go1.cont (a.1, a.2.1, i64.wrap (a.2.2.1 + 1), Stg.l (newG ZoT ZoU (ZJY a.2.2.2.1 (R.get (R.pair (R.int u16) (R.int u8)) a.1 a.2.2.1))), PUnit.unit)))) (.leaf none)) (.leaf none)) (.leaf (some (Go1.brk (a.1, a.2.1, a.2.2.1, a.2.2.2.1, PUnit.unit))))
def ZsX : Ora := Zbt false ZFk Ze4 (fun a => 1000000000000)
theorem Zvb : Za3 (envX Tryz.prog [(44, Zja), (149, Zy5)] [] 63 8) (.block 0 (.loop (Zab Tryz.f92.body 0))) ZsX :=
 ZB (ZI (l := [(44, Zja), (149, Zy5)]) ⟨Znp, Zy1, trivial⟩ [] 63 8) (Zp (by kernel_rfl)) (fun a => by kernel_rfl)
def ZhN (l : List (Int × Int)) : RT (Option (List (Int × Int))) :=
 let x1 := runF false Ze4 (fun a => 1000000000000) (l, iN (List.length l), 0, [], ())
 .br (smC l) (.br (!vldB l || Nat.ble (List.length ([] ++ l)) most) (.br (vldB l) (.leaf (some ([] ++ l))) (.br (okB x1) (.leaf (some (getO (false, l, iN (List.length l), 0, [], ()) x1).2.2.2.2.1)) (.leaf none))) (.leaf none)) (.leaf none)
def ZsY (l : List (Int × Int)) : List (Int × Int) := getO [] (ZhN l).val
def Zj7 (l : List (Int × Int)) : Bool := okB (ZhN l).val
def Zo1 : Entry := frzE (newE Zjh Zji Zo0 (fun a => some (Zj7 a)) (fun a => ZsY a))
theorem ZBh : Zc Tryz.prog 92 (newE Zjh Zji Zo0 (fun a => some (Zj7 a)) (fun a => ZsY a)) :=
 Zrl (P := Tryz.prog) (n := 63) (k := 8) (l := [(44, Zja), (149, Zy5)]) (ol := [(0, ZsX)]) ⟨Znp, Zy1, trivial⟩ Tryz.func92 rfl (by kernel_rfl) Tryz.call92 ⟨Zvb, trivial⟩ (r := Zjh) (T := Zji) (ts := Zo0) (t := fun a => ZhN a) (fun a => by kernel_rfl)
theorem ZsW : Zc Tryz.prog 92 Zo1 := ZAF ZBh
abbrev ZgL : R := R.pair (R.int u16) (R.int u8)
abbrev ZgM : Nat := 106
abbrev Zpd : List Sh := [Sh.one (R.int u16), Sh.one (R.sl (R.int u8))]
def ZFm : LS := { n := 27, slots := [(0, .code (Sh.one (R.int u16))), (1, .code (Sh.one (R.sl (R.int u8)))), (5, .tip 0), (8, .code (Sh.one (R.int i64))), (9, .code (Sh.one (R.int i64)))], boxes := [], stgs := [⟨(R.pair (R.int u16) (R.int u8)), 106, true⟩] }
def Ze5 (a : QT17) : RT (Option (Go1 (QT17))) :=
 let x1 : List (Int × Int) := a.2.2.2.2.1 ++ [(u16.wrap (a.1 + u16.wrap a.2.2.2.1), R.get (R.int u8) a.2.1 a.2.2.2.1)]
 let x2 := !Zf a.2.2.2.1 (List.length a.2.1) || Nat.ble (List.length x1) most
 .br (decide (a.2.2.2.1 < a.2.2.1)) (.br (!x2 || Zf a.2.2.2.1 (List.length a.2.1)) (.br (x2) (.leaf (some (Go1.cont (a.1, a.2.1, a.2.2.1, i64.wrap (a.2.2.2.1 + 1), x1, PUnit.unit)))) (.leaf none)) (.leaf none)) (.leaf (some (Go1.brk (a.1, a.2.1, a.2.2.1, a.2.2.2.1, a.2.2.2.2.1, PUnit.unit))))
def Zs1 : Ora := Zbt false ZFm Ze5 (fun a => 1000000000000)
theorem ZvQ : Za3 (envX Tryz.prog [(92, Zo1)] [] 127 8) (.block 0 (.loop (Zab Tryz.f32.body 0))) Zs1 :=
 ZB (ZI (l := [(92, Zo1)]) ⟨ZsW, trivial⟩ [] 127 8) (Zp (by kernel_rfl)) (fun a => by kernel_rfl)
def ZkM (t : Int) (b : List Int) : RT (Option (List (Int × Int))) :=
 let x1 := runF false Ze5 (fun a => 1000000000000) (t, b, iN (List.length b), 0, [], ())
 let x2 : List (Int × Int) := (getO (false, t, b, iN (List.length b), 0, [], ()) x1).2.2.2.2.2.1
 .br (okB x1) (.br (Zj7 x2) (.leaf (some (Stg.l (newG Zjh Zji (ZsY x2))))) (.leaf none)) (.leaf none)
def ZFn (t : Int) (b : List Int) : List (Int × Int) := getO [] (ZkM t b).val
def ZvR (t : Int) (b : List Int) : Bool := okB (ZkM t b).val
theorem ZBu : Zc Tryz.prog 32 (newE ZgL ZgM Zpd (fun a => some (ZvR a.1 a.2)) (fun a => ZFn a.1 a.2)) :=
 Zrl (P := Tryz.prog) (n := 127) (k := 8) (l := [(92, Zo1)]) (ol := [(0, Zs1)]) ⟨ZsW, trivial⟩ Tryz.func32 rfl (by kernel_rfl) Tryz.call32 ⟨ZvQ, trivial⟩ (r := ZgL) (T := ZgM) (ts := Zpd) (t := fun a => ZkM a.1 a.2) (fun a => by kernel_rfl)
theorem ZEF (m : List Cell) (c : Cell) (hv : Vld m) (hm : m.length + 1 ≤ most) : Zy6 m c = true ∧ ZJY m c = putX m c := by
 have h := ZjU m c hv hm
 have e : Zy2 m c = Zny m c := rfl
 simp only [Znz, ZBg, ← e] at h
 exact h
theorem ZA4 (l : List Cell) (hl : l.length + 1 ≤ most) : Zj7 l = true ∧ ZsY l = normX l := by
 have hms := mst
 have hs : smC l = true := (ZdV.2 hl : sm l = true)
 have hv : (ZhN l).val = some (normX l) := by
  cases hb : vldB l with
  | true =>
   have e : Nat.ble l.length most = true := by rw [Nat.ble_eq]; omega
   simp only [ZhN, RT.val, hs, hb, List.nil_append, e, cond_true, Bool.not_true, Bool.false_or, ZhY (Zog.1 hb)]
  | false =>
   obtain ⟨r, hr, h1, i, hR⟩ := ZZ (fl := false) (t := Ze4) (fuel := fun a => 1000000000000)
    (fun a => ∃ i : Nat, i ≤ l.length ∧ a = (l, (l.length : Int), (i : Int), normX (l.take i), ()))
    (fun a => Int.toNat (a.2.1 - a.2.2.1)) (fun r => r.1 = false ∧ ∃ i : Nat, r.2 = (l, (l.length : Int), (i : Int), normX l, ()))
    (by
     rintro a ⟨i, hi, rfl⟩
     by_cases hlt : i < l.length
     ·left
      have d : decide ((i : Int) < (l.length : Int)) = true := by simpa using hlt
      have r1 := Zal l i hlt
      have hlen := Zb7 (l.take i)
      rw [List.length_take] at hlen
      have hp := ZEF (normX (l.take i)) (el l i) (Zdp _) (by omega)
      refine ⟨_, ?_, ⟨i + 1, hlt, rfl⟩, by simp only; omega⟩
      rw [ZuA l i hlt, ZhX]
      simp only [Ze4, RT.val, d, r1, ZbP, hp.1, hp.2, cond_true, Bool.or_true, ZeO i (by omega)]
     ·right; left
      have d : decide ((i : Int) < (l.length : Int)) = false := by simpa using hlt
      have e : l.take i = l := List.take_of_length_le (by omega)
      rw [e]
      exact ⟨_, by simp only [Ze4, RT.val, d, cond_false], rfl, i, rfl⟩)
    (l, iN l.length, 0, [], ()) ⟨0, Nat.zero_le _, rfl⟩ (by simp only [iN]; omega)
   obtain ⟨r1, r2⟩ := r
   simp only at h1 hR
   subst h1 hR
   simp only [ZhN, RT.val, hs, hb, hr, okB, getO, cond_true, cond_false, Bool.not_false, Bool.true_or]
 exact ⟨by simp only [Zj7, hv]; rfl, by simp only [ZsY, hv, getO]⟩
theorem ZA5 (t : Int) (b : List Int) (hb : b.length + 1 ≤ most) : ZvR t b = true ∧ ZFn t b = Zd8 t b := by
 have hms := mst
 obtain ⟨r, hr, h1, hR⟩ := ZZ (fl := false) (t := Ze5) (fuel := fun a => 1000000000000)
  (fun a => ∃ i : Nat, i ≤ b.length ∧ a = (t, b, (b.length : Int), (i : Int), Zgo t b i, ()))
  (fun a => Int.toNat (a.2.2.1 - a.2.2.2.1)) (fun r => r.1 = false ∧ r.2 = (t, b, (b.length : Int), (b.length : Int), Zgo t b b.length, ()))
  (by
   rintro a ⟨i, hi, rfl⟩
   by_cases hlt : i < b.length
   ·left
    have d : decide ((i : Int) < (b.length : Int)) = true := by simpa using hlt
    have r1 := Zal b i hlt
    have hl : ∀ x : Cell, Nat.ble (Zgo t b i ++ [x]).length most = true := fun x => by rw [Nat.ble_eq, List.length_append, Zfj]; simp only [List.length_singleton]; omega
    refine ⟨_, ?_, ⟨i + 1, hlt, rfl⟩, by simp only; omega⟩
    rw [Zn2]
    have g := ZQ1 b i
    simp only [Ze5, RT.val, d, r1, g, hl, cond_true, Bool.not_true, Bool.false_or, ZeO i (by omega)]
   ·right; left
    have d : decide ((i : Int) < (b.length : Int)) = false := by simpa using hlt
    have e : i = b.length := by omega
    subst e
    exact ⟨_, by simp only [Ze5, RT.val, d, cond_false], rfl, rfl⟩)
  (t, b, iN b.length, 0, [], ()) ⟨0, Nat.zero_le _, rfl⟩ (by simp only [iN]; omega)
 obtain ⟨r1, r2⟩ := r
 simp only at h1 hR
 subst h1 hR
 have hn := ZA4 (Zgo t b b.length) (by rw [Zfj]; exact hb)
 have hv : (ZkM t b).val = some (Zd8 t b) := by
  simp only [ZkM, RT.val, hr, okB, getO, cond_true, hn.1, hn.2, Zd8]
 exact ⟨by simp only [ZvR, hv]; rfl, by simp only [ZFn, hv, getO]⟩
def Zpe : Entry := frzE (newE ZgL ZgM Zpd (fun a => some (smB a.2)) (fun a => Zd8 a.1 a.2))
theorem ZBt : Zc Tryz.prog 32 Zpe := ZAF (ZDj ZBu fun a _ h => by
 have hb : smB a.2 = true := by cases hq : smB a.2 with
  | true => rfl
  | false => rw [hq] at h; exact absurd rfl h
 obtain ⟨h1, h2⟩ := ZA5 a.1 a.2 (ZdV.1 hb)
 exact ⟨by rw [h1]; simp, h2⟩)
abbrev ZxS : R := R.pair (R.sl (R.int i64)) (R.int i64)
abbrev ZHV : List Sh := []
abbrev ZxR : Rs := Rs.one (Sh.one R.bool)
def ZAe (s : List Int × Int) : RT (Option (Bool × List Int × Int)) :=
 .br (Zw s 2) (.leaf (some (((Zd s 2).1 == 1, (Zd s 2).2)))) (.leaf none)
def Zgm (s : List Int × Int) : Bool × List Int × Int := getO (ZxR.dflt, ZxS.dflt) (ZAe s).val
def Zha (s : List Int × Int) : Bool := okB (ZAe s).val
def ZMV : Entry := boxE ZxS ZHV ZxR (fun a => some (Zha a.1 )) (fun a => Zgm a.1 )
theorem ZK7 : Zc Tryz.prog 74 ZMV :=
 ZbS (P := Tryz.prog) (n := 7) (k := 8) (l := [(46, ZbY)]) (ol := []) ⟨Za8, trivial⟩ Tryz.func74 rfl (by kernel_rfl) Tryz.call74 trivial (rb := ZxS) (ts := ZHV) (rs := ZxR) (t := fun a => ZAe a.1 ) (fun a => by kernel_rfl)
abbrev ZH2 : R := R.pair (R.sl (R.int i64)) (R.int i64)
abbrev ZMX : List Sh := []
abbrev ZH1 : Rs := Rs.one (Sh.agg Zaf)
def ZH0 (s : List Int × Int) : RT (Option (TC × List Int × Int)) :=
 let x1 := Zd (Zd (Zgm (ZhZ (ZaC s).2 (ZaC s).1).2).2 5).2 8
 let x2 := x1.2
 let x3 := Zw x2 5
 let x4 := !x3
 let x5 := Zd x2 5
 let x6 := x5.2
 let x7 := Zha x6
 let x8 := !x7
 let x9 := Zgm x6
 let x10 := x9.2
 let x11 := Zha x10
 let x12 := Zgm x10
 let x13 := x12.2
 let x14 := Zgm x13
 let x15 := x14.2
 let x16 := Zw x15 4
 let x17 := !x16
 let x18 := Zd x15 4
 let x19 := x18.2
 let x20 := Zha x19
 let x21 := Zgm x19
 let x22 := x21.2
 let x23 := Zgm x22
 let x24 := x23.2
 .br (ZAf s) (.br (!ZtC (ZaC s).2 (ZaC s).1 || Zha (ZhZ (ZaC s).2 (ZaC s).1).2) (.br (ZtC (ZaC s).2 (ZaC s).1) (.br (Zw (Zgm (ZhZ (ZaC s).2 (ZaC s).1).2).2 5) (.br (!(ZaC s).1 == 2 || Zw (Zd (Zgm (ZhZ (ZaC s).2 (ZaC s).1).2).2 5).2 8) (.br (!(ZaC s).1 == 2 || (x4 || (x8 || (!x11 || Zha x13)))) (.br (!(ZaC s).1 == 2 || (x4 || (x8 || x11))) (.br (!(ZaC s).1 == 2 || (x4 || x7)) (.br (!(ZaC s).1 == 2 || x3) (.br (!(ZaC s).1 == 2 || (x17 || (!x20 || Zha x22))) (.br (!(ZaC s).1 == 2 || (x17 || x20)) (.br (!(ZaC s).1 == 2 || x16) (.leaf (some ((((ZaC s).1, (ZhZ (ZaC s).2 (ZaC s).1).1, (Zgm (ZhZ (ZaC s).2 (ZaC s).1).2).1, (Zd (Zgm (ZhZ (ZaC s).2 (ZaC s).1).2).2 5).1 == 0, false, bif (ZaC s).1 == 2 then u8.wrap x1.1 else 0, (ZaC s).1 == 2 && x5.1 == 0, (ZaC s).1 == 2 && x9.1, (ZaC s).1 == 2 && x12.1, (ZaC s).1 == 2 && x14.1, (ZaC s).1 == 2 && x18.1 == 0, (ZaC s).1 == 2 && x21.1, (ZaC s).1 == 2 && x23.1), bif (ZaC s).1 == 2 then x24.1 else (Zd (Zgm (ZhZ (ZaC s).2 (ZaC s).1).2).2 5).2.1, bif (ZaC s).1 == 2 then x24.2 else (Zd (Zgm (ZhZ (ZaC s).2 (ZaC s).1).2).2 5).2.2)))) (.leaf none)) (.leaf none)) (.leaf none)) (.leaf none)) (.leaf none)) (.leaf none)) (.leaf none)) (.leaf none)) (.leaf none)) (.leaf none)) (.leaf none)) (.leaf none)
def nCPU (s : List Int × Int) : TC × List Int × Int := getO (ZH1.dflt, ZH2.dflt) (ZH0 s).val
def Zru (s : List Int × Int) : Bool := okB (ZH0 s).val
def ZOX : Entry := boxE ZH2 ZMX ZH1 (fun a => some (Zru a.1 )) (fun a => nCPU a.1 )
theorem ZOV : Zc Tryz.prog 23 ZOX :=
 ZbS (P := Tryz.prog) (n := 31) (k := 8) (l := [(46, ZbY), (72, ZMW), (73, ZMT), (74, ZMV)]) (ol := []) ⟨Za8, ZK8, ZK5, ZK7, trivial⟩ Tryz.func23 rfl (by kernel_rfl) Tryz.call23 trivial (rb := ZH2) (ts := ZMX) (rs := ZH1) (t := fun a => ZH0 a.1 ) (fun a => by kernel_rfl)
abbrev Zrt : R := R.pair (R.sl (R.int i64)) (R.int i64)
abbrev ZAg : List Sh := [Sh.one (R.int i64)]
abbrev Zrs : Rs := Rs.one (Sh.one rcCE)
def ZHZ : LS := { n := 24, slots := [(0, .fix (A.loc 0 0)), (5, .tip 0), (6, .code (Sh.one (R.int i64)))], boxes := [[.many (R.pair (R.sl (R.int i64)) (R.int i64))]], stgs := [⟨(R.pair (R.int u16) (R.int u8)), 106, true⟩] }
def Zfi (a : QT22) : RT (Option (Go1 (QT22))) :=
 let x1 : List (Int × Int) := a.2.2.1 ++ [((Zar a.2.1).1, (Zm (Zar a.2.1).2).1)]
 let x2 := !Zcj a.2.1 || (!Z9 (Zar a.2.1).2 || Nat.ble (List.length x1) most)
 let x3 := !x2
 .br (decide (a.1 > 0)) (.br (x3 || (!(!Zcj a.2.1 || Z9 (Zar a.2.1).2) || Zcj a.2.1)) (.br (x3 || (!Zcj a.2.1 || Z9 (Zar a.2.1).2)) (.br (x2) (.leaf (some (Go1.cont (i64.wrap (a.1 - 1), (Zm (Zar a.2.1).2).2, x1, PUnit.unit)))) (.leaf none)) (.leaf none)) (.leaf none)) (.leaf (some (Go1.brk (a.1, a.2.1, a.2.2.1, PUnit.unit))))
def ZtH : Ora := Zbt false ZHZ Zfi (fun a => 400)
theorem ZxV : Za3 (envX Tryz.prog [(46, ZbY), (108, ZiH), (137, ZiF)] [] 127 8) (.block 0 (.loop (Zab Tryz.f96.body 0))) ZtH :=
 ZB (ZI (l := [(46, ZbY), (108, ZiH), (137, ZiF)]) ⟨Za8, Zhb, Zg8, trivial⟩ [] 127 8) (Zp (by kernel_rfl)) (fun a => by kernel_rfl)
def Zl5 (s : List Int × Int) (n : Int) : RT (Option (List (Int × Int) × List Int × Int)) :=
 let x1 : QT22 := ((Zd s (i64.wrap (n + 1))).1, (Zd s (i64.wrap (n + 1))).2, [], ())
 let x2 := runF false Zfi (fun a => 400) x1
 let x3 : (List Int × Int) × List (Int × Int) × PUnit := (getO (false, x1) x2).2.2
 .br (Zw s (i64.wrap (n + 1))) (.br (okB x2) (.leaf (some ((x3.2.1, x3.1)))) (.leaf none)) (.leaf none)
def Zdr (s : List Int × Int) (n : Int) : List (Int × Int) × List Int × Int := getO (Zrs.dflt, Zrt.dflt) (Zl5 s n).val
def Zl6 (s : List Int × Int) (n : Int) : Bool := okB (Zl5 s n).val
def ZxW : Entry := boxE Zrt ZAg Zrs (fun a => some (Zl6 a.1 a.2)) (fun a => Zdr a.1 a.2)
theorem ZHX : Zc Tryz.prog 96 ZxW :=
 ZbS (P := Tryz.prog) (n := 127) (k := 8) (l := [(46, ZbY), (108, ZiH), (137, ZiF)]) (ol := [(0, ZtH)]) ⟨Za8, Zhb, Zg8, trivial⟩ Tryz.func96 rfl (by kernel_rfl) Tryz.call96 ⟨ZxV, trivial⟩ (rb := Zrt) (ts := ZAg) (rs := Zrs) (t := fun a => Zl5 a.1 a.2) (fun a => by kernel_rfl)
abbrev Zd5 : R := R.pair (R.int u16) (R.pair (R.int u16) (R.pair R.bool (R.int i64)))
abbrev Zd6 : Nat := 102
abbrev ZfJ : R := R.pair (R.sl (R.int i64)) (R.int i64)
abbrev Zh0 : List Sh := [Sh.one (R.int i64)]
def ZxK : LS := { n := 44, slots := [(0, .fix (A.loc 0 0)), (5, .tip 0), (6, .code (Sh.one (R.int i64)))], boxes := [[.many (R.pair (R.sl (R.int i64)) (R.int i64))]], stgs := [⟨(R.pair (R.int u16) (R.pair (R.int u16) (R.pair R.bool (R.int i64)))), 102, false⟩] }
def Zdq (a : QT18) : RT (Option (Go1 (QT18))) :=
 let x1 := !Zw (Zar a.2.1).2 6 || Zf (Zd (Zar a.2.1).2 6).1 (List.length [0, 3, 15, 255, 4095, 65535])
 let x2 := !x1
 let x3 := !Zw (Zd (Zd (Zar a.2.1).2 6).2 3).2 5
 let x4 : Int := (Zd (Zd (Zd (Zar a.2.1).2 6).2 3).2 5).1
 let x5 := Zf x4 (List.length [0, 0, 1, 2, 5])
 let x6 := i64.wrap (i64.wrap (Zar a.2.1).1 + R.get (R.int i64) [0, 3, 15, 255, 4095, 65535] (Zd (Zar a.2.1).2 6).1)
 let x7 : List (QT4) := a.2.2.1 ++ [((Zar a.2.1).1, u16.wrap (if 65535 < x6 then 65535 else x6), decide ((Zd (Zd (Zar a.2.1).2 6).2 3).1 > 0), R.get (R.int i64) [0, 0, 1, 2, 5] x4)]
 let x8 := !Zw (Zd (Zar a.2.1).2 6).2 3 || (x3 || (!x5 || Nat.ble (List.length x7) most))
 let x9 := !x8
 let x10 := !Zw (Zd (Zar a.2.1).2 6).2 3 || (x3 || x5)
 let x11 := !x10
 let x12 := !Zw (Zd (Zar a.2.1).2 6).2 3 || Zw (Zd (Zd (Zar a.2.1).2 6).2 3).2 5
 .br (decide (a.1 > 0)) (.br (!Zcj a.2.1 || (x2 || (!Zw (Zar a.2.1).2 6 || (x9 || (x11 || (!x12 || Zw (Zd (Zar a.2.1).2 6).2 3)))))) (.br (!Zcj a.2.1 || (x2 || (!Zw (Zar a.2.1).2 6 || (x9 || (x11 || x12))))) (.br (!Zcj a.2.1 || (x2 || (!Zw (Zar a.2.1).2 6 || (x9 || x10)))) (.br (!Zcj a.2.1 || (x2 || (!Zw (Zar a.2.1).2 6 || x8))) (.br (!Zcj a.2.1 || (x2 || Zw (Zar a.2.1).2 6)) (.br (!Zcj a.2.1 || x1) (.br (Zcj a.2.1) (.leaf (some (Go1.cont (i64.wrap (a.1 - 1), (Zd (Zd (Zd (Zar a.2.1).2 6).2 3).2 5).2, x7, PUnit.unit)))) (.leaf none)) (.leaf none)) (.leaf none)) (.leaf none)) (.leaf none)) (.leaf none)) (.leaf none)) (.leaf (some (Go1.brk (a.1, a.2.1, a.2.2.1, PUnit.unit))))
def ZlZ : Ora := Zbt false ZxK Zdq (fun a => 400)
theorem Zrm : Za3 (envX Tryz.prog [(46, ZbY), (137, ZiF)] [] 511 8) (.block 0 (.loop (Zab Tryz.f151.body 0))) ZlZ :=
 ZB (ZI (l := [(46, ZbY), (137, ZiF)]) ⟨Za8, Zg8, trivial⟩ [] 511 8) (Zp (by kernel_rfl)) (fun a => by kernel_rfl)
def Zfg (s : List Int × Int) (n : Int) : RT (Option (List (QT4) × List Int × Int)) :=
 let x1 : QT18 := ((Zd s (i64.wrap (n + 1))).1, (Zd s (i64.wrap (n + 1))).2, [], ())
 let x2 := runF false Zdq (fun a => 400) x1
 let x3 : (List Int × Int) × List (QT4) × PUnit := (getO (false, x1) x2).2.2
 .br (Zw s (i64.wrap (n + 1))) (.br (okB x2) (.leaf (some ((x3.2.1, x3.1)))) (.leaf none)) (.leaf none)
def ZaX (s : List Int × Int) (n : Int) : List (QT4) × List Int × Int := getO ([], ZfJ.dflt) (Zfg s n).val
def ZcI (s : List Int × Int) (n : Int) : Bool := okB (Zfg s n).val
def ZtD : Entry := frzE (ZDl ZfJ Zd5 Zd6 Zh0 (fun a => some (ZcI a.1 a.2)) (fun a => ZaX a.1 a.2))
theorem ZtE : Zc Tryz.prog 151 (ZDl ZfJ Zd5 Zd6 Zh0 (fun a => some (ZcI a.1 a.2)) (fun a => ZaX a.1 a.2)) :=
 ZHK (P := Tryz.prog) (n := 511) (k := 8) (l := [(46, ZbY), (137, ZiF)]) (ol := [(0, ZlZ)]) ⟨Za8, Zg8, trivial⟩ Tryz.func151 rfl (by kernel_rfl) Tryz.call151 ⟨Zrm, trivial⟩ (rb := ZfJ) (r := Zd5) (T := Zd6) (ts := Zh0) (t := fun a => Zfg a.1 a.2) (fun a => by kernel_rfl)
theorem ZxI : Zc Tryz.prog 151 ZtD := ZAF ZtE
abbrev ZHR : R := R.pair (R.sl (R.int i64)) (R.int i64)
abbrev ZMU : List Sh := []
abbrev ZHQ : Rs := Rs.one (Sh.one rcRG)
def ZHP (s : List Int × Int) : RT (Option (List (QT4) × List Int × Int)) :=
 let x1 : List (QT4) := Stg.l (newG Zd5 Zd6 (ZaX s 2).1) ++ [(0, 65535, true, i64.wrap (Int.tdiv (Zd (ZaX s 2).2 3).1 2))]
 .br (!ZcI s 2 || (!Zw (ZaX s 2).2 3 || Nat.ble (List.length x1) most)) (.br (!ZcI s 2 || Zw (ZaX s 2).2 3) (.br (ZcI s 2) (.leaf (some ((x1, (Zd (ZaX s 2).2 3).2)))) (.leaf none)) (.leaf none)) (.leaf none)
def nMap (s : List Int × Int) : List (QT4) × List Int × Int := getO (ZHQ.dflt, ZHR.dflt) (ZHP s).val
def ZxQ (s : List Int × Int) : Bool := okB (ZHP s).val
def ZOU : Entry := boxE ZHR ZMU ZHQ (fun a => some (ZxQ a.1 )) (fun a => nMap a.1 )
theorem ZOS : Zc Tryz.prog 95 ZOU :=
 ZbS (P := Tryz.prog) (n := 7) (k := 8) (l := [(46, ZbY), (151, ZtD)]) (ol := []) ⟨Za8, ZxI, trivial⟩ Tryz.func95 rfl (by kernel_rfl) Tryz.call95 trivial (rb := ZHR) (ts := ZMU) (rs := ZHQ) (t := fun a => ZHP a.1 ) (fun a => by kernel_rfl)
abbrev Zh2 : R := R.pair (R.sl (R.int i64)) (R.int i64)
abbrev ZnY : List Sh := [Sh.one (R.int i64)]
abbrev Zh1 : Rs := Rs.one (Sh.one (R.sl (R.int u8)))
def ZxN : LS := { n := 75, slots := [(0, .fix (A.loc 0 0)), (5, .tip 0), (6, .code (Sh.one (R.int i64)))], boxes := [[.many (R.pair (R.sl (R.int i64)) (R.int i64))]], stgs := [⟨(R.int u8), 5, true⟩] }
def Zcq (a : QT24) : RT (Option (Go1 (QT24))) :=
 let x1 := Zf (Zd (Zd a.2.1 8).2 4).1 (List.length [33, 49, 1, 17])
 let x2 := !x1
 let x3 := Zw (Zd (Zd (Zd a.2.1 8).2 4).2 256).2 4
 let x4 := !x3
 let x5 := Zd (Zd (Zd (Zd a.2.1 8).2 4).2 256).2 4
 let x6 := x5.1
 let x7 := Zf x6 (List.length [0, 0, 1, 255])
 let x8 : List Int := a.2.2.1 ++ [R.get (R.int u8) [33, 49, 1, 17] (Zd (Zd a.2.1 8).2 4).1, u8.wrap (Zd (Zd (Zd a.2.1 8).2 4).2 256).1, R.get (R.int u8) [0, 0, 1, 255] x6]
 let x9 := !(Zd a.2.1 8).1 == 0 || (!Zw (Zd a.2.1 8).2 4 || (x2 || (!Zw (Zd (Zd a.2.1 8).2 4).2 256 || (x4 || (!x7 || Nat.ble (List.length x8) most)))))
 let x10 := !x9
 let x11 := !(Zd a.2.1 8).1 == 0 || (!Zw (Zd a.2.1 8).2 4 || (x2 || (!Zw (Zd (Zd a.2.1 8).2 4).2 256 || (x4 || x7))))
 let x12 := !x11
 let x13 := !(Zd a.2.1 8).1 == 0 || (!Zw (Zd a.2.1 8).2 4 || (x2 || (!Zw (Zd (Zd a.2.1 8).2 4).2 256 || x3)))
 let x14 := !x13
 let x15 := !(Zd a.2.1 8).1 == 0 || (!Zw (Zd a.2.1 8).2 4 || (x2 || Zw (Zd (Zd a.2.1 8).2 4).2 256))
 let x16 := !x15
 let x17 := !(Zd a.2.1 8).1 == 0 || (!Zw (Zd a.2.1 8).2 4 || x1)
 let x18 := !x17
 let x19 := !(Zd a.2.1 8).1 == 0 || Zw (Zd a.2.1 8).2 4
 let x20 := !x19
 let x21 : List Int := a.2.2.1 ++ [62, (Zm (Zd a.2.1 8).2).1, 211, u8.wrap (Zd (Zm (Zd a.2.1 8).2).2 8).1]
 let x22 := (Zd a.2.1 8).1 == 0 || (!(Zd a.2.1 8).1 == 1 || (!Z9 (Zd a.2.1 8).2 || (!Zw (Zm (Zd a.2.1 8).2).2 8 || Nat.ble (List.length x21) most)))
 let x23 := !x22
 let x24 := (Zd a.2.1 8).1 == 0 || (!(Zd a.2.1 8).1 == 1 || (!Z9 (Zd a.2.1 8).2 || Zw (Zm (Zd a.2.1 8).2).2 8))
 let x25 := !x24
 let x26 := (Zd a.2.1 8).1 == 0 || (!(Zd a.2.1 8).1 == 1 || Z9 (Zd a.2.1 8).2)
 let x27 := !x26
 let x28 := (Zd a.2.1 8).1 == 0 || ((Zd a.2.1 8).1 == 1 || (!(Zd a.2.1 8).1 == 2 || Nat.ble (List.length (a.2.2.1 ++ [251])) most))
 let x29 := !x28
 let x30 : List Int := a.2.2.1 ++ [62, u8.wrap (i64.wrap (16 + (Zd (Zd a.2.1 8).2 16).1)), 211, 0, 62, (Zm (Zd (Zd a.2.1 8).2 16).2).1, 211, 1, 62, 0, 211, 1]
 let x31 := (Zd a.2.1 8).1 == 0 || ((Zd a.2.1 8).1 == 1 || ((Zd a.2.1 8).1 == 2 || (!(Zd a.2.1 8).1 == 3 || (!Zw (Zd a.2.1 8).2 16 || (!Z9 (Zd (Zd a.2.1 8).2 16).2 || Nat.ble (List.length x30) most)))))
 let x32 := !x31
 let x33 := (Zd a.2.1 8).1 == 0 || ((Zd a.2.1 8).1 == 1 || ((Zd a.2.1 8).1 == 2 || (!(Zd a.2.1 8).1 == 3 || (!Zw (Zd a.2.1 8).2 16 || Z9 (Zd (Zd a.2.1 8).2 16).2))))
 let x34 := !x33
 let x35 := (Zd a.2.1 8).1 == 0 || ((Zd a.2.1 8).1 == 1 || ((Zd a.2.1 8).1 == 2 || (!(Zd a.2.1 8).1 == 3 || Zw (Zd a.2.1 8).2 16)))
 let x36 := !x35
 let x37 := !Zw (Zd (Za7 (Zd a.2.1 8).2).2 64).2 4
 let x38 : Int := (Zd (Zd (Za7 (Zd a.2.1 8).2).2 64).2 4).1
 let x39 := Zf x38 (List.length [0, 0, 1, 255])
 let x40 : List Int := a.2.2.1 ++ [(Za7 (Zd a.2.1 8).2).1, u8.wrap (Zd (Za7 (Zd a.2.1 8).2).2 64).1, R.get (R.int u8) [0, 0, 1, 255] x38]
 let x41 := (Zd a.2.1 8).1 == 0 || ((Zd a.2.1 8).1 == 1 || ((Zd a.2.1 8).1 == 2 || ((Zd a.2.1 8).1 == 3 || (!Zc5 (Zd a.2.1 8).2 || (!Zw (Za7 (Zd a.2.1 8).2).2 64 || (x37 || (!x39 || Nat.ble (List.length x40) most)))))))
 let x42 := !x41
 let x43 := (Zd a.2.1 8).1 == 0 || ((Zd a.2.1 8).1 == 1 || ((Zd a.2.1 8).1 == 2 || ((Zd a.2.1 8).1 == 3 || (!Zc5 (Zd a.2.1 8).2 || (!Zw (Za7 (Zd a.2.1 8).2).2 64 || (x37 || x39))))))
 let x44 := !x43
 let x45 := (Zd a.2.1 8).1 == 0 || ((Zd a.2.1 8).1 == 1 || ((Zd a.2.1 8).1 == 2 || ((Zd a.2.1 8).1 == 3 || (!Zc5 (Zd a.2.1 8).2 || (!Zw (Za7 (Zd a.2.1 8).2).2 64 || Zw (Zd (Za7 (Zd a.2.1 8).2).2 64).2 4)))))
 let x46 := !x45
 let x47 := (Zd a.2.1 8).1 == 0 || ((Zd a.2.1 8).1 == 1 || ((Zd a.2.1 8).1 == 2 || ((Zd a.2.1 8).1 == 3 || (!Zc5 (Zd a.2.1 8).2 || Zw (Za7 (Zd a.2.1 8).2).2 64))))
 let x48 := x10 || (x12 || (x14 || (x16 || (x18 || (x20 || (x23 || (x25 || (x27 || (x29 || (x32 || (x34 || (x36 || (x42 || (x44 || (x46 || (!x47 || ((Zd a.2.1 8).1 == 0 || ((Zd a.2.1 8).1 == 1 || ((Zd a.2.1 8).1 == 2 || ((Zd a.2.1 8).1 == 3 || Zc5 (Zd a.2.1 8).2))))))))))))))))))))
 let x49 := !x48
 let x50 := x10 || (x12 || (x14 || (x16 || (x18 || (x20 || (x23 || (x25 || (x27 || (x29 || (x32 || (x34 || (x36 || (x42 || (x44 || (x46 || x47)))))))))))))))
 let x51 := !x50
 let x52 := x10 || (x12 || (x14 || (x16 || (x18 || (x20 || (x23 || (x25 || (x27 || (x29 || (x32 || (x34 || (x36 || (x42 || (x44 || x45))))))))))))))
 let x53 := !x52
 let x54 := x10 || (x12 || (x14 || (x16 || (x18 || (x20 || (x23 || (x25 || (x27 || (x29 || (x32 || (x34 || (x36 || (x42 || x43)))))))))))))
 let x55 := !x54
 let x56 := x10 || (x12 || (x14 || (x16 || (x18 || (x20 || (x23 || (x25 || (x27 || (x29 || (x32 || (x34 || (x36 || x41))))))))))))
 let x57 := !x56
 let x58 := x10 || (x12 || (x14 || (x16 || (x18 || (x20 || (x23 || (x25 || (x27 || (x29 || (x32 || (x34 || x35)))))))))))
 let x59 := !x58
 let x60 := x10 || (x12 || (x14 || (x16 || (x18 || (x20 || (x23 || (x25 || (x27 || (x29 || (x32 || x33))))))))))
 let x61 := !x60
 let x62 := x10 || (x12 || (x14 || (x16 || (x18 || (x20 || (x23 || (x25 || (x27 || (x29 || x31)))))))))
 let x63 := !x62
 let x64 := x10 || (x12 || (x14 || (x16 || (x18 || (x20 || (x23 || (x25 || (x27 || x28))))))))
 let x65 := !x64
 let x66 := x10 || (x12 || (x14 || (x16 || (x18 || (x20 || (x23 || (x25 || x26)))))))
 let x67 := !x66
 let x68 := x10 || (x12 || (x14 || (x16 || (x18 || (x20 || (x23 || x24))))))
 let x69 := !x68
 let x70 := x10 || (x12 || (x14 || (x16 || (x18 || (x20 || x22)))))
 let x71 := !x70
 let x72 := x10 || (x12 || (x14 || (x16 || (x18 || x19))))
 let x73 := !x72
 let x74 := x10 || (x12 || (x14 || (x16 || x17)))
 let x75 := !x74
 let x76 := x10 || (x12 || (x14 || x15))
 let x77 := !x76
 let x78 := x10 || (x12 || x13)
 let x79 := !x78
 let x80 := x10 || x11
 let x81 : List Int × Int := (Zd (Zd (Za7 (Zd a.2.1 8).2).2 64).2 4).2
 .br (decide (a.1 > 0)) (.br (!Zw a.2.1 8 || (x49 || (x51 || (x53 || (x55 || (x57 || (x59 || (x61 || (x63 || (x65 || (x67 || (x69 || (x71 || (x73 || (x75 || (x77 || (x79 || (!x80 || x9)))))))))))))))))) (.br (!Zw a.2.1 8 || (x49 || (x51 || (x53 || (x55 || (x57 || (x59 || (x61 || (x63 || (x65 || (x67 || (x69 || (x71 || (x73 || (x75 || (x77 || (x79 || x80))))))))))))))))) (.br (!Zw a.2.1 8 || (x49 || (x51 || (x53 || (x55 || (x57 || (x59 || (x61 || (x63 || (x65 || (x67 || (x69 || (x71 || (x73 || (x75 || (x77 || x78)))))))))))))))) (.br (!Zw a.2.1 8 || (x49 || (x51 || (x53 || (x55 || (x57 || (x59 || (x61 || (x63 || (x65 || (x67 || (x69 || (x71 || (x73 || (x75 || x76))))))))))))))) (.br (!Zw a.2.1 8 || (x49 || (x51 || (x53 || (x55 || (x57 || (x59 || (x61 || (x63 || (x65 || (x67 || (x69 || (x71 || (x73 || x74)))))))))))))) (.br (!Zw a.2.1 8 || (x49 || (x51 || (x53 || (x55 || (x57 || (x59 || (x61 || (x63 || (x65 || (x67 || (x69 || (x71 || x72))))))))))))) (.br (!Zw a.2.1 8 || (x49 || (x51 || (x53 || (x55 || (x57 || (x59 || (x61 || (x63 || (x65 || (x67 || (x69 || x70)))))))))))) (.br (!Zw a.2.1 8 || (x49 || (x51 || (x53 || (x55 || (x57 || (x59 || (x61 || (x63 || (x65 || (x67 || x68))))))))))) (.br (!Zw a.2.1 8 || (x49 || (x51 || (x53 || (x55 || (x57 || (x59 || (x61 || (x63 || (x65 || x66)))))))))) (.br (!Zw a.2.1 8 || (x49 || (x51 || (x53 || (x55 || (x57 || (x59 || (x61 || (x63 || x64))))))))) (.br (!Zw a.2.1 8 || (x49 || (x51 || (x53 || (x55 || (x57 || (x59 || (x61 || x62)))))))) (.br (!Zw a.2.1 8 || (x49 || (x51 || (x53 || (x55 || (x57 || (x59 || x60))))))) (.br (!Zw a.2.1 8 || (x49 || (x51 || (x53 || (x55 || (x57 || x58)))))) (.br (!Zw a.2.1 8 || (x49 || (x51 || (x53 || (x55 || x56))))) (.br (!Zw a.2.1 8 || (x49 || (x51 || (x53 || x54)))) (.br (!Zw a.2.1 8 || (x49 || (x51 || x52))) (.br (!Zw a.2.1 8 || (x49 || x50)) (.br (!Zw a.2.1 8 || x48) (.br (Zw a.2.1 8) (.br ((Zd a.2.1 8).1 == 0) (.leaf (some (Go1.cont (i64.wrap (a.1 - 1), x5.2, x8, PUnit.unit)))) (.br ((Zd a.2.1 8).1 == 1) (.leaf (some (Go1.cont (i64.wrap (a.1 - 1), (Zd (Zm (Zd a.2.1 8).2).2 8).2, x21, PUnit.unit)))) (.br ((Zd a.2.1 8).1 == 2) (.leaf (some (Go1.cont (i64.wrap (a.1 - 1), (Zd a.2.1 8).2, a.2.2.1 ++ [251], PUnit.unit)))) (.leaf (some (Go1.cont (i64.wrap (a.1 - 1), (bif (Zd a.2.1 8).1 == 3 then (Zm (Zd (Zd a.2.1 8).2 16).2).2.1 else x81.1, bif (Zd a.2.1 8).1 == 3 then (Zm (Zd (Zd a.2.1 8).2 16).2).2.2 else x81.2), bif (Zd a.2.1 8).1 == 3 then x30 else x40, PUnit.unit))))))) (.leaf none)) (.leaf none)) (.leaf none)) (.leaf none)) (.leaf none)) (.leaf none)) (.leaf none)) (.leaf none)) (.leaf none)) (.leaf none)) (.leaf none)) (.leaf none)) (.leaf none)) (.leaf none)) (.leaf none)) (.leaf none)) (.leaf none)) (.leaf none)) (.leaf none)) (.leaf (some (Go1.brk (a.1, a.2.1, a.2.2.1, PUnit.unit))))
def Zl0 : Ora := Zbt false ZxN Zcq (fun a => 400)
theorem Zrn : Za3 (envX Tryz.prog [(46, ZbY), (108, ZiH), (109, Zjw)] [] 9511883889056940159 8) (.block 0 (.loop (Zab Tryz.f47.body 0))) Zl0 :=
 ZB (ZI (l := [(46, ZbY), (108, ZiH), (109, Zjw)]) ⟨Za8, Zhb, ZnZ, trivial⟩ [] 9511883889056940159 8) (Zp (by kernel_rfl)) (fun a => by kernel_rfl)
def Zfh (s : List Int × Int) (n : Int) : RT (Option (List Int × List Int × Int)) :=
 let x1 : QT24 := ((Zd s (i64.wrap (n + 1))).1, (Zd s (i64.wrap (n + 1))).2, [], ())
 let x2 := runF false Zcq (fun a => 400) x1
 let x3 : (List Int × Int) × List Int × PUnit := (getO (false, x1) x2).2.2
 .br (Zw s (i64.wrap (n + 1))) (.br (okB x2) (.leaf (some ((x3.2.1, x3.1)))) (.leaf none)) (.leaf none)
def ZX (s : List Int × Int) (n : Int) : List Int × List Int × Int := getO (Zh1.dflt, Zh2.dflt) (Zfh s n).val
def ZcJ (s : List Int × Int) (n : Int) : Bool := okB (Zfh s n).val
def Zl1 : Entry := boxE Zh2 ZnY Zh1 (fun a => some (ZcJ a.1 a.2)) (fun a => ZX a.1 a.2)
theorem ZxL : Zc Tryz.prog 47 Zl1 :=
 ZbS (P := Tryz.prog) (n := 9511883889056940159) (k := 8) (l := [(46, ZbY), (108, ZiH), (109, Zjw)]) (ol := [(0, Zl0)]) ⟨Za8, Zhb, ZnZ, trivial⟩ Tryz.func47 rfl (by kernel_rfl) Tryz.call47 ⟨Zrn, trivial⟩ (rb := Zh2) (ts := ZnY) (rs := Zh1) (t := fun a => Zfh a.1 a.2) (fun a => by kernel_rfl)
def Zst (m : List (Int × Int)) : Bool := Nat.ble (m.length + 100000) most
theorem ZgB {m : List (Int × Int)} : Zst m = true ↔ m.length + 100000 ≤ most := by simp [Zst]
def ZIH : Entry := Zk Zyi ZrM (fun a => some (smG a.2.1 && Zst a.2.2.1)) (fun a => ZdT a.1 a.2.1 a.2.2.1 a.2.2.2.1 a.2.2.2.2.1 a.2.2.2.2.2)
theorem ZIG : Zc Tryz.prog 37 ZIH := ZhG ZLr fun a h => by
 rw [Bool.and_eq_true] at h
 exact ZQV a.1 a.2.1 a.2.2.1 a.2.2.2.1 a.2.2.2.2.1 a.2.2.2.2.2 h.1 (by have := ZgB.1 h.2; omega)
def ZIn : Entry := Zk Zyb ZrK (fun a => some (smG a.2.1 && Zst a.2.2.1)) (fun a => ZdT a.1 a.2.1 a.2.2.1 a.2.2.2.1 a.2.2.2.2.1 a.2.2.2.2.2)
theorem ZIm : Zc Tryz.prog 38 ZIn := ZhG ZLf fun a h => by
 rw [Bool.and_eq_true] at h
 exact ZPb a.1 a.2.1 a.2.2.1 a.2.2.2.1 a.2.2.2.2.1 a.2.2.2.2.2 h.1 (by have := ZgB.1 h.2; omega)
def ZM4 : Entry := Zk ZII ZAD (fun a => some (smG a.2.1 && Zst a.2.2.1)) (fun a => runR a.1 a.2.1 a.2.2.1 a.2.2.2.1 a.2.2.2.2)
theorem ZLs : Zc Tryz.prog 33 ZM4 := ZhG ZPi fun a h => by
 rw [Bool.and_eq_true] at h
 exact i_run a.1 a.2.1 a.2.2.1 a.2.2.2.1 a.2.2.2.2 h.1 (ZgB.1 h.2)
theorem ZDv (l : List (Int × Int)) (hl : l.length ≤ most) : Zfk l l = true ∧ Zm2 l l = true := by
 have hms := mst
 obtain ⟨r, hr, h1⟩ := ZZ (fl := true) (t := Zhg) (fuel := fun _ => 1000000000000)
  (fun a => ∃ i : Nat, i ≤ l.length ∧ a = (l, l, false, (l.length : Int), (i : Int), ()))
  (fun a => Int.toNat (a.2.2.2.1 - a.2.2.2.2.1)) (fun r => r.1 = false)
  (by
   rintro a ⟨i, hi, rfl⟩
   by_cases hlt : i < l.length
   ·left
    have d : decide ((i : Int) < (l.length : Int)) = true := by simpa using hlt
    have r1 := Zal l i hlt
    refine ⟨_, ?_, ⟨i + 1, hlt, rfl⟩, by simp only; omega⟩
    simp only [Zhg, RT.val, d, r1, cond_true, Bool.not_true, Bool.false_or, ZeO i (by omega), beq_self_eq_true, Bool.and_self, cond_false]
   ·right; left
    have d : decide ((i : Int) < (l.length : Int)) = false := by simpa using hlt
    exact ⟨(l, l, false, (l.length : Int), (i : Int), ()), by simp only [Zhg, RT.val, d, cond_false], rfl⟩)
  (l, l, false, iN l.length, 0, ()) ⟨0, Nat.zero_le _, rfl⟩ (by simp only [iN]; omega)
 have hv : (Zt3 l l).val = some true := by
  have hn : (iN l.length != iN l.length) = false := by simp
  simp only [Zt3, RT.val, hn, hr, okB, getO, h1, cond_true, cond_false]
 exact ⟨by simp only [Zfk, hv]; rfl, by simp only [Zm2, hv, getO]⟩
theorem Zya (g : List Int) : Zhh g g = true := by simp [Zhh, Zyd, RT.val]
abbrev ZM1 : List Sh := []
abbrev ZM2 : Rs := Rs.one (Sh.one rcRG)
def ZQO : RT (List (QT4)) :=
 .leaf ([(0, 65535, true, 0)])
def kRam : List (QT4) := (ZQO ).val
def ZQP : Entry := Zk ZM1 ZM2 (fun _ => none) (fun a => kRam )
theorem ZO7 : Zc Tryz.prog 34 ZQP :=
 pureQ 1 [] [] ZM1 ZM2 trivial Tryz.func34 Tryz.call34 trivial (t := fun a => ZQO ) (fun a => by kernel_rfl)
abbrev ZQR : List Sh := []
abbrev ZO8 : Rs := Rs.one (Sh.one R.bool)
def kKnT : RT (Option (Bool)) :=
 let x1 : List Int := [62, 5, 198, 7, 50, 16, 0, 211, 9, 118]
 let x2 := Zd8 0 x1
 let x3 : QT23 := runR (1, (0, 0, 0, 0, 0, 0, 0, (false, false, false, false, false, false, false), 0, 0), false, false, false, 0, false, false, false, false, false, false, false) kRam x2 [] 100
 let x4 := x3.1.2
 let x5 := !x4.1.1 == 12
 let x6 := !x4.2.2.2.1
 let x7 := x3.2
 let x8 := x7.1
 let x9 := x5 || (x6 || smC x8)
 let x10 := x7.2
 .br (smB x1) (.br (smG kRam && Zst x2) (.br (!x9 || (x5 || (x6 || (!Cells.getX x8 16 == 12 || (!x10.2 == 5 || Zfk x10.1 [(9, 12)]))))) (.br (x9) (.leaf (some (true))) (.leaf none)) (.leaf none)) (.leaf none)) (.leaf none)
def kKn : Bool := getO ZO8.dflt (kKnT ).val
def kKnC : Bool := okB (kKnT ).val
def kKnE : Entry := Zk ZQR ZO8 (fun a => some (kKnC )) (fun a => kKn )
theorem ZQQ : Zc Tryz.prog 31 kKnE :=
 pureP 127 [(32, ZFq), (33, ZM4), (34, ZQP), (35, ZFy), (40, ZIp)] [] ZQR ZO8 ⟨ZFp, ZLs, ZO7, ZFx, ZAy, trivial⟩ Tryz.func31 Tryz.call31 trivial (t := fun a => kKnT ) (fun a => by kernel_rfl)
def Zb8 : Entry := .tree (ZN (envX Tryz.prog [] [] 7 8) Tryz.f21)
theorem ZfX : Zc Tryz.prog 21 Zb8 := Zaa (P := Tryz.prog) (n := 7) (k := 8) (l := []) (ol := []) trivial Tryz.func21 rfl (by kernel_rfl) Tryz.call21 trivial
def ZcX : Entry := .tree (ZN (envX Tryz.prog [(21, Zb8), (23, ZOX), (32, Zpe), (46, ZbY), (47, Zl1), (95, ZOU), (96, ZxW)] [] 1023 8) Tryz.f36)
theorem ZeF : Zc Tryz.prog 36 ZcX := Zaa (P := Tryz.prog) (n := 1023) (k := 8) (l := [(21, Zb8), (23, ZOX), (32, Zpe), (46, ZbY), (47, Zl1), (95, ZOU), (96, ZxW)]) (ol := []) ⟨ZfX, ZOV, ZBt, Za8, ZxL, ZOS, ZHX, trivial⟩ Tryz.func36 rfl (by kernel_rfl) Tryz.call36 trivial
abbrev ZAu : List Sh := [Sh.agg Zaf, Sh.one (R.sl (R.int i64)), Sh.one (R.int i64), Sh.one (R.sl (R.int u8)), Sh.agg ZuR]
abbrev ZrG : Rs := Rs.one (Sh.one R.bool)
def Zmp (c : TC) (n : List Int) (s : Int) (ins : List Int) (l : LINT) : RT (Option (Bool)) :=
 let x1 := smB (ZX (nMap (Zd (nCPU (n, 0)).2 8).2).2 10).1
 let x2 := !x1
 let x3 := Zl6 (ZX (nMap (Zd (nCPU (n, 0)).2 8).2).2 10).2 6
 let x4 : List (Int × Int) := Stg.l (newG ZgL ZgM (Zd8 0 (ZX (nMap (Zd (nCPU (n, 0)).2 8).2).2 10).1)) ++ (Zdr (ZX (nMap (Zd (nCPU (n, 0)).2 8).2).2 10).2 6).1
 let x5 := !ZcJ (nMap (Zd (nCPU (n, 0)).2 8).2).2 10 || (x2 || (!x3 || Nat.ble (List.length x4) most))
 let x6 := !x5
 let p3 := x6 :: (!ZxQ (Zd (nCPU (n, 0)).2 8).2) :: (!Zw (nCPU (n, 0)).2 8) :: (!Zru (n, 0)) :: []
 let x7 := !ZcJ (nMap (Zd (nCPU (n, 0)).2 8).2).2 10 || (x2 || x3)
 let x8 := !x7
 let p7 := x8 :: p3
 let x9 := !ZcJ (nMap (Zd (nCPU (n, 0)).2 8).2).2 10 || x1
 let p12 := (!x9) :: p7
 let x10 := smG (nMap (Zd (nCPU (n, 0)).2 8).2).1 && Zst x4
 let x11 := !x10
 let x12 := ZdT c (nMap (Zd (nCPU (n, 0)).2 8).2).1 x4 s ins l
 let x13 := x12.1
 let x68 := !(R.eqf Zaf x13 x13 true)
 let x69 := x12.2
 let x70 := x69.1
 let x71 := x68 || smC x70
 let x72 := !decide (x70 = x70)
 let x73 := x69.2
 let x74 := x73.1
 let x75 := !x71 || (x68 || (x72 || Zfk x74 x74))
 let x76 := x11 || (x11 || (!x75 || x71))
 let x77 := !x76
 let x78 := x11 || (x11 || x75)
 let x79 := !x78
 let x80 := x11 || x10
 let x81 := !x80
 let x82 := x73.2
 let x83 := x68 || (x72 || (!Zm2 x74 x74 || !Zhh x82 x82))
 let p6 := x83 :: x11 :: x81 :: x79 :: x77 :: []
 let x84 := ZdT c (nMap (Zd (nCPU (n, 0)).2 8).2).1 x4 (ZiI s 6) ins l
 let x85 := x84.1
 let x140 := !(R.eqf Zaf x85 x85 true)
 let x141 := x84.2
 let x142 := x141.1
 let x143 := x140 || smC x142
 let x144 := !decide (x142 = x142)
 let x145 := x141.2
 let x146 := x145.1
 let x147 := !x143 || (x140 || (x144 || Zfk x146 x146))
 let x148 := x11 || (x11 || (!x147 || x143))
 let x149 := !x148
 let p13 := x149 :: p6
 let x150 := x11 || (x11 || x147)
 let x151 := !x150
 let p17 := x151 :: p13
 let x152 := x145.2
 let x153 := x140 || (x144 || (!Zm2 x146 x146 || !Zhh x152 x152))
 let p28 := x153 :: x11 :: x81 :: p17
 let x154 := ZdT c (nMap (Zd (nCPU (n, 0)).2 8).2).1 x4 0 ins l
 let x155 := x154.1
 let x210 := !(R.eqf Zaf x155 x155 true)
 let x211 := x154.2
 let x212 := x211.1
 let x213 := x210 || smC x212
 let x214 := !decide (x212 = x212)
 let x215 := x211.2
 let x216 := x215.1
 let x217 := !x213 || (x210 || (x214 || Zfk x216 x216))
 let x218 := x11 || (x11 || (!x217 || x213))
 let x219 := !x218
 let p37 := x219 :: p28
 let x220 := x11 || (x11 || x217)
 let x221 := !x220
 let p40 := x221 :: p37
 let x222 := x81 || x10
 let x223 := orR p40 x222
 let x224 := !x223
 let x225 := orR p40 x80
 let x226 := !x225
 let x227 := orR p37 x220
 let x228 := !x227
 let p4 := x228 :: x226 :: x224 :: (!ZbJ s 6) :: []
 let x229 := orR p28 x218
 let x230 := !x229
 let p5 := x230 :: p4
 let x231 := orR p17 x222
 let x232 := !x231
 let p16 := x232 :: p5
 let x233 := orR p17 x80
 let x234 := !x233
 let p20 := x234 :: p16
 let x235 := orR p13 x150
 let x236 := !x235
 let p24 := x236 :: p20
 let x237 := orR p6 x148
 let x238 := !x237
 let p25 := x238 :: p24
 let x239 := x77 || (x79 || x222)
 let x240 := !x239
 let p29 := x240 :: p25
 let x241 := x77 || (x79 || x80)
 let x242 := !x241
 let p33 := x242 :: p29
 let x243 := x77 || x78
 let p38 := (!x243) :: p33
 let x244 := orR p38 x76
 let x245 := !x244
 let x246 := orR p33 x243
 let x247 := !x246
 let x248 := orR p29 x241
 let x249 := !x248
 let x250 := orR p25 x239
 let x251 := !x250
 let p2 := x251 :: x249 :: x247 :: x245 :: []
 let x252 := orR p24 x237
 let x253 := !x252
 let p8 := x253 :: p2
 let x254 := orR p20 x235
 let x255 := !x254
 let p11 := x255 :: p8
 let x256 := orR p16 x233
 let x257 := !x256
 let p19 := x257 :: p11
 let x258 := orR p5 x231
 let x259 := !x258
 let p22 := x259 :: p19
 let x260 := orR p4 x229
 let x261 := !x260
 let p26 := x261 :: p22
 let x262 := !ZbJ s 6 || (x224 || (x226 || x227))
 let x263 := !x262
 let p32 := x263 :: p26
 let x264 := !ZbJ s 6 || (x224 || x225)
 let x265 := !x264
 let p36 := x265 :: p32
 let x266 := !ZbJ s 6 || x223
 let x267 := !x266
 let p39 := x267 :: p36
 let x268 := x215.2
 let x269 := x210 || (x214 || (!Zm2 x216 x216 || !Zhh x268 x268))
 let p43 := x269 :: x153 :: x83 :: (!ZbJ s 6) :: p39
 let x270 : TF × Int × Int := (nCPU (n, 0)).1.2.1.2.2.2.2.2.2.2
 let x271 : TC := ((nCPU (n, 0)).1.1, ((nCPU (n, 0)).1.2.1.1, (nCPU (n, 0)).1.2.1.2.1, (nCPU (n, 0)).1.2.1.2.2.1, (nCPU (n, 0)).1.2.1.2.2.2.1, (nCPU (n, 0)).1.2.1.2.2.2.2.1, (nCPU (n, 0)).1.2.1.2.2.2.2.2.1, (nCPU (n, 0)).1.2.1.2.2.2.2.2.2.1, x270.1, x270.2.1, u16.wrap (Zd (nCPU (n, 0)).2 8).1), (nCPU (n, 0)).1.2.2)
 let x272 := ZdT x271 (nMap (Zd (nCPU (n, 0)).2 8).2).1 x4 s ins l
 let x273 := x272.1
 let x328 := !(R.eqf Zaf x273 x273 true)
 let x329 := x272.2
 let x330 := x329.1
 let x331 := x328 || smC x330
 let x332 := !decide (x330 = x330)
 let x333 := x329.2
 let x334 := x333.1
 let x335 := !x331 || (x328 || (x332 || Zfk x334 x334))
 let x336 := x11 || (x11 || (!x335 || x331))
 let x337 := !x336
 let x338 := x11 || (x11 || x335)
 let x339 := !x338
 let x340 := x333.2
 let x341 := x328 || (x332 || (!Zm2 x334 x334 || !Zhh x340 x340))
 let p10 := x341 :: x11 :: x81 :: x339 :: x337 :: []
 let x342 := ZdT x271 (nMap (Zd (nCPU (n, 0)).2 8).2).1 x4 (ZiI s 6) ins l
 let x343 := x342.1
 let x398 := !(R.eqf Zaf x343 x343 true)
 let x399 := x342.2
 let x400 := x399.1
 let x401 := x398 || smC x400
 let x402 := !decide (x400 = x400)
 let x403 := x399.2
 let x404 := x403.1
 let x405 := !x401 || (x398 || (x402 || Zfk x404 x404))
 let x406 := x11 || (x11 || (!x405 || x401))
 let x407 := !x406
 let p14 := x407 :: p10
 let x408 := x11 || (x11 || x405)
 let x409 := !x408
 let p21 := x409 :: p14
 let x410 := x403.2
 let x411 := x398 || (x402 || (!Zm2 x404 x404 || !Zhh x410 x410))
 let p30 := x411 :: x11 :: x81 :: p21
 let x412 := ZdT x271 (nMap (Zd (nCPU (n, 0)).2 8).2).1 x4 0 ins l
 let x413 := x412.1
 let x468 := !(R.eqf Zaf x413 x413 true)
 let x469 := x412.2
 let x470 := x469.1
 let x471 := x468 || smC x470
 let x472 := !decide (x470 = x470)
 let x473 := x469.2
 let x474 := x473.1
 let x475 := !x471 || (x468 || (x472 || Zfk x474 x474))
 let x476 := x11 || (x11 || (!x475 || x471))
 let x477 := !x476
 let p34 := x477 :: p30
 let x478 := x11 || (x11 || x475)
 let x479 := !x478
 let p42 := x479 :: p34
 let x480 := orR p42 x222
 let x481 := !x480
 let x482 := orR p42 x80
 let x483 := !x482
 let x484 := orR p34 x478
 let x485 := !x484
 let p1 := x485 :: x483 :: x481 :: (!ZbJ s 6) :: []
 let x486 := orR p30 x476
 let x487 := !x486
 let p9 := x487 :: p1
 let x488 := orR p21 x222
 let x489 := !x488
 let p15 := x489 :: p9
 let x490 := orR p21 x80
 let x491 := !x490
 let p18 := x491 :: p15
 let x492 := orR p14 x408
 let x493 := !x492
 let p23 := x493 :: p18
 let x494 := orR p10 x406
 let x495 := !x494
 let p27 := x495 :: p23
 let x496 := x337 || (x339 || x222)
 let x497 := !x496
 let p31 := x497 :: p27
 let x498 := x337 || (x339 || x80)
 let x499 := !x498
 let p35 := x499 :: p31
 let x500 := x337 || x338
 let p41 := (!x500) :: p35
 let x501 := orR p41 x336
 let x502 := !x501
 let p44 := x502 :: p43
 let x503 := orR p35 x500
 let x504 := !x503
 let p45 := x504 :: p44
 let x505 := orR p31 x498
 let x506 := !x505
 let p46 := x506 :: p45
 let x507 := orR p27 x496
 let x508 := !x507
 let p47 := x508 :: p46
 let x509 := orR p23 x494
 let x510 := !x509
 let p48 := x510 :: p47
 let x511 := orR p18 x492
 let x512 := !x511
 let p49 := x512 :: p48
 let x513 := orR p15 x490
 let x514 := !x513
 let p50 := x514 :: p49
 let x515 := orR p9 x488
 let x516 := !x515
 let p51 := x516 :: p50
 let x517 := orR p1 x486
 let x518 := !x517
 let p52 := x518 :: p51
 let x519 := !ZbJ s 6 || (x481 || (x483 || x484))
 let x520 := !x519
 let p53 := x520 :: p52
 let x521 := !ZbJ s 6 || (x481 || x482)
 let x522 := !x521
 let p54 := x522 :: p53
 let x523 := !ZbJ s 6 || x480
 let p55 := (!x523) :: p54
 let x524 := x473.2
 .br (!(decide (iN (List.length n) > 150) || decide (iN (List.length ins) > 20)) || kKnC) (.br (decide (iN (List.length n) > 150) || decide (iN (List.length ins) > 20)) (.leaf (some (true))) (.br (orR p12 (ZcJ (nMap (Zd (nCPU (n, 0)).2 8).2).2 10)) (.br (orR p7 x9) (.br (orR p3 x7) (.br (!Zru (n, 0) || (!Zw (nCPU (n, 0)).2 8 || (!ZxQ (Zd (nCPU (n, 0)).2 8).2 || x5))) (.br (!Zru (n, 0) || (!Zw (nCPU (n, 0)).2 8 || ZxQ (Zd (nCPU (n, 0)).2 8).2)) (.br (!Zru (n, 0) || Zw (nCPU (n, 0)).2 8) (.br (Zru (n, 0)) (.br (orR p55 (ZbJ s 6)) (.br (orR p54 x523) (.br (orR p53 x521) (.br (orR p52 x519) (.br (orR p51 x517) (.br (orR p50 x515) (.br (orR p49 x513) (.br (orR p48 x511) (.br (orR p47 x509) (.br (orR p46 x507) (.br (orR p45 x505) (.br (orR p44 x503) (.br (orR p43 x501) (.br (orR p39 (ZbJ s 6)) (.br (orR p36 x266) (.br (orR p32 x264) (.br (orR p26 x262) (.br (orR p22 x260) (.br (orR p19 x258) (.br (orR p11 x256) (.br (orR p8 x254) (.br (orR p2 x252) (.br (x245 || (x247 || (x249 || x250))) (.br (x245 || (x247 || x248)) (.br (x245 || x246) (.br (x244) (.br (x83) (.leaf (some (false))) (.br (x153) (.leaf (some (false))) (.br (x269) (.leaf (some (false))) (.br (x341) (.leaf (some (false))) (.br (x411) (.leaf (some (false))) (.br (x468 || (x472 || (!Zm2 x474 x474 || !Zhh x524 x524))) (.leaf (some (false))) (.br (kKnC) (.leaf (some (true))) (.leaf none)))))))) (.leaf none)) (.leaf none)) (.leaf none)) (.leaf none)) (.leaf none)) (.leaf none)) (.leaf none)) (.leaf none)) (.leaf none)) (.leaf none)) (.leaf none)) (.leaf none)) (.leaf none)) (.leaf none)) (.leaf none)) (.leaf none)) (.leaf none)) (.leaf none)) (.leaf none)) (.leaf none)) (.leaf none)) (.leaf none)) (.leaf none)) (.leaf none)) (.leaf none)) (.leaf none)) (.leaf none)) (.leaf none)) (.leaf none)) (.leaf none)) (.leaf none)) (.leaf none)) (.leaf none))) (.leaf none)
def ZIj (c : TC) (n : List Int) (s : Int) (ins : List Int) (l : LINT) : Bool := getO ZrG.dflt (Zmp c n s ins l).val
def Zx7 (c : TC) (n : List Int) (s : Int) (ins : List Int) (l : LINT) : Bool := okB (Zmp c n s ins l).val
def ZO6 : Entry := Zk ZAu ZrG (fun a => some (Zx7 a.1 a.2.1 a.2.2.1 a.2.2.2.1 a.2.2.2.2)) (fun a => ZIj a.1 a.2.1 a.2.2.1 a.2.2.2.1 a.2.2.2.2)
theorem lSteps_ok : Zc Tryz.prog 7 ZO6 :=
 pureP 134217727 [(24, Zx2), (31, kKnE), (36, ZcX), (37, ZIH), (38, ZIn), (39, ZyW), (40, ZIp), (41, ZIr)] [] ZAu ZrG ⟨ZtR, ZQQ, ZeF, ZIG, ZIm, ZBd, ZAy, ZIq, trivial⟩ Tryz.func7 Tryz.call7 trivial (t := fun a => Zmp a.1 a.2.1 a.2.2.1 a.2.2.2.1 a.2.2.2.2) (fun a => by kernel_rfl)
section
variable {c : CpuT} {m : MacT} {o : Int} {i : InsT} (hi : Zb c.1 o = i)
include hi
end
def cA (chip a d e : Int) (v : Nat) (f : FlgT) (pc : Int) (h : Bool) : CpuT := (chip, (a, 0, 0, d, e, ((v / 256 : Nat) : Int), ((v % 256 : Nat) : Int), f, 0, pc), false, false, h, 0, false, false, false, false, false, false, false)
theorem Zhx (chip a d e : Int) (v : Nat) (f : FlgT) (p : Nat) (i : InsT) (n : Nat) (hn : i.2.1 = n) (hp : p + n < 1000) : ZJ (cA chip a d e v f p false) false i = ((p + n : Nat) : Int) := by
 show IntKind.wrap .u16 ((p : Int) + IntKind.wrap .u16 i.2.1) = _
 rw [hn, w16 (by omega), show (p : Int) + (n : Int) = ((p + n : Nat) : Int) by omega, w16 (by omega)]
section
variable (chip : Int) (a b : Nat) (ha : a < 256) (hb : b < 256)
end
theorem lval {t : RT (Option Bool)} (h : t.val = some true) : okB t.val = true ∧ getO false t.val = true := by rw [h]; exact ⟨rfl, rfl⟩
theorem ZQL : kKnC = true ∧ kKn = true := lval (t := kKnT) (by kernel_rfl)
theorem ZGj (x n : Int) (h0 : 0 < n) (h1 : n ≤ 4611686018427387904) : ZbJ x n = true ∧ 0 ≤ ZiI x n ∧ ZiI x n < n := by
 have h := ZtS x n h0 h1
 exact ⟨h.1, by rw [h.2]; exact Int.emod_nonneg _ (by omega), by rw [h.2]; exact Int.emod_lt_of_pos _ h0⟩
theorem NB.up {s : List Int × Int} {k j : Int} (h : NB s k) (hj : k ≤ j) : NB s j := ⟨h.1, by have := h.2; omega⟩
theorem ZfK {s : List Int × Int} {k : Int} (h : NB s k) (hk : k ≤ 1000000) : Zha s = true ∧ NB (Zgm s).2 (k + 1) := by
 obtain ⟨c1, b, _⟩ := ZY h hk 2 (by decide) (by decide)
 simp only [Zha, Zgm, ZAe, RT.val, c1, cond_true, okB, getO]
 exact ⟨trivial, b⟩
theorem ZiT {a b : Nat} (h : a ≤ b) : Nat.ble a b = true := by rw [Nat.ble_eq]; exact h
theorem ZHY {s : List Int × Int} {k : Int} (h : NB s k) (hk : k ≤ 500000) (n : Nat) (hn : n ≤ 100) :
  Zl6 s (n : Int) = true ∧ NB (Zdr s (n : Int)).2 (k + 1 + 3 * n) ∧ (Zdr s (n : Int)).1.length ≤ n := by
 have hms := mst
 have w0 : IntKind.wrap .i64 ((n : Int) + 1) = (n : Int) + 1 := wrap_i64 _ (by omega) (by omega)
 obtain ⟨c1, b1, d0, d1⟩ := ZY h (by omega) ((n : Int) + 1) (by omega) (by omega)
 obtain ⟨s1, hs1⟩ : ∃ s1, s1 = (Zd s ((n : Int) + 1)).2 := ⟨_, rfl⟩
 obtain ⟨q, hq⟩ : ∃ q : Nat, (Zd s ((n : Int) + 1)).1 = (q : Int) := ⟨_, (Int.toNat_of_nonneg d0).symm⟩
 rw [← hs1] at b1
 obtain ⟨r, hr, h1, s', o, hs', ho, hR⟩ := ZZ (fl := false) (t := Zfi) (fuel := fun a => 400)
  (fun a => ∃ (i : Nat) (s' : List Int × Int) (o : List Cell), i ≤ q ∧ NB s' (k + 1 + 3 * ((q - i : Nat) : Int)) ∧ o.length ≤ q - i ∧ a = ((i : Int), s', o, ()))
  (fun a => Int.toNat a.1) (fun r => r.1 = false ∧ ∃ (s' : List Int × Int) (o : List Cell), NB s' (k + 1 + 3 * (q : Int)) ∧ o.length ≤ q ∧ r.2 = ((0 : Int), s', o, ()))
  (by
   rintro a ⟨i, s', o, hi, hs', ho, rfl⟩
   cases i with
   | zero =>
    right; left
    exact ⟨_, by simp only [Zfi, RT.val]; rfl, rfl, s', o, by simpa using hs', by omega, rfl⟩
   | succ i =>
    left
    have d : decide (((i + 1 : Nat) : Int) > 0) = true := decide_eq_true (by omega)
    obtain ⟨kw, bw, _⟩ := Zjv hs' (by omega)
    obtain ⟨kb, bb, _⟩ := ZcE bw (by omega)
    have hb : ∀ x : Cell, Nat.ble (o ++ [x]).length most = true := fun x => ZiT (by simp; omega)
    have w : IntKind.wrap .i64 (((i + 1 : Nat) : Int) - 1) = (i : Int) := by rw [wrap_i64 _ (by omega) (by omega)]; omega
    refine ⟨_, ?_, ⟨i, (Zm (Zar s').2).2, o ++ [((Zar s').1, (Zm (Zar s').2).1)], by omega, bb.up (by omega), by simp; omega, rfl⟩, by simp only; omega⟩
    simp only [Zfi, RT.val, d, kw, kb, hb, w, cond_true, Bool.not_true, Bool.false_or, Bool.or_true, Bool.or_false])
  ((q : Int), s1, [], ()) ⟨q, s1, [], Nat.le_refl _, by simpa using b1, by simp, rfl⟩ (by simp only; omega)
 obtain ⟨r1, r2⟩ := r
 simp only at h1 hR
 subst h1 hR
 have hv : (Zl5 s (n : Int)).val = some (o, s') := by
  simp only [Zl5, RT.val, w0, c1, hq, ← hs1, hr, okB, getO, cond_true]
 simp only [Zl6, Zdr, hv, okB, getO]
 exact ⟨trivial, hs'.up (by omega), by omega⟩
theorem ZxJ {s : List Int × Int} {k : Int} (h : NB s k) (hk : k ≤ 500000) (n : Nat) (hn : n ≤ 100) :
  ZcI s (n : Int) = true ∧ NB (ZaX s (n : Int)).2 (k + 1 + 5 * n) ∧ (ZaX s (n : Int)).1.length ≤ n := by
 have hms := mst
 have w0 : IntKind.wrap .i64 ((n : Int) + 1) = (n : Int) + 1 := wrap_i64 _ (by omega) (by omega)
 obtain ⟨c1, b1, d0, d1⟩ := ZY h (by omega) ((n : Int) + 1) (by omega) (by omega)
 obtain ⟨L, N, hs1⟩ : ∃ L N, (L, N) = (Zd s ((n : Int) + 1)).2 := ⟨_, _, rfl⟩
 obtain ⟨q, hq⟩ : ∃ q : Nat, (Zd s ((n : Int) + 1)).1 = (q : Int) := ⟨_, (Int.toNat_of_nonneg d0).symm⟩
 rw [← hs1] at b1
 obtain ⟨r, hr, h1, L', N', o, hs', ho, hR⟩ := ZZ (fl := false) (t := Zdq) (fuel := fun a => 400)
  (fun a => ∃ (i : Nat) (L : List Int) (N : Int) (o : List ZS), i ≤ q ∧ NB (L, N) (k + 1 + 5 * ((q - i : Nat) : Int)) ∧ o.length ≤ q - i ∧ a = ((i : Int), (L, N), o, ()))
  (fun a => Int.toNat a.1) (fun r => r.1 = false ∧ ∃ (L : List Int) (N : Int) (o : List ZS), NB (L, N) (k + 1 + 5 * (q : Int)) ∧ o.length ≤ q ∧ r.2 = ((0 : Int), (L, N), o, ()))
  (by
   rintro a ⟨i, L, N, o, hi, hs', ho, rfl⟩
   cases i with
   | zero =>
    right; left
    exact ⟨_, by simp only [Zdq, RT.val]; rfl, rfl, L, N, o, by simpa using hs', by omega, rfl⟩
   | succ i =>
    left
    have d : decide (((i + 1 : Nat) : Int) > 0) = true := decide_eq_true (by omega)
    obtain ⟨kw, bw, _⟩ := Zjv hs' (by omega)
    obtain ⟨k1, b1, e0, e1⟩ := ZY bw (by omega) 6 (by decide) (by decide)
    obtain ⟨k2, b2, _⟩ := ZY b1 (by omega) 3 (by decide) (by decide)
    obtain ⟨k3, b3, f0, f1⟩ := ZY b2 (by omega) 5 (by decide) (by decide)
    have r1 : Zf (Zd (Zar (L, N)).2 6).1 6 = true := ZaH.2 ⟨e0, e1⟩
    have r2 : Zf (Zd (Zd (Zd (Zar (L, N)).2 6).2 3).2 5).1 5 = true := ZaH.2 ⟨f0, f1⟩
    have hb : ∀ x : ZS, Nat.ble (o ++ [x]).length most = true := fun x => ZiT (by simp; omega)
    have w : IntKind.wrap .i64 (((i + 1 : Nat) : Int) - 1) = (i : Int) := by rw [wrap_i64 _ (by omega) (by omega)]; omega
    obtain ⟨o', ho'⟩ : ∃ o' : List ZS, o' = o ++ [((Zar (L, N)).1, u16.wrap (if 65535 < i64.wrap (i64.wrap (Zar (L, N)).1 + R.get (R.int i64) [0, 3, 15, 255, 4095, 65535] (Zd (Zar (L, N)).2 6).1) then 65535 else i64.wrap (i64.wrap (Zar (L, N)).1 + R.get (R.int i64) [0, 3, 15, 255, 4095, 65535] (Zd (Zar (L, N)).2 6).1)), decide ((Zd (Zd (Zar (L, N)).2 6).2 3).1 > 0), R.get (R.int i64) [0, 0, 1, 2, 5] (Zd (Zd (Zd (Zar (L, N)).2 6).2 3).2 5).1)] := ⟨_, rfl⟩
    refine ⟨((i : Int), ((Zd (Zd (Zd (Zar (L, N)).2 6).2 3).2 5).2.1, (Zd (Zd (Zd (Zar (L, N)).2 6).2 3).2 5).2.2), o', ()), ?_, ⟨i, _, _, o', by omega, b3.up (by omega), by rw [ho']; simp; omega, rfl⟩, by simp only; omega⟩
    simp only [Zdq, RT.val, List.length_cons, List.length_nil, Nat.reduceAdd, d, kw, k1, k2, k3, r1, r2, hb, w, ho', cond_true, Bool.not_true, Bool.false_or, Bool.or_true, Bool.or_false])
  ((q : Int), (L, N), [], ()) ⟨q, L, N, [], Nat.le_refl _, by simpa using b1, by simp, rfl⟩ (by simp only; omega)
 obtain ⟨r1, r2⟩ := r
 simp only at h1 hR
 subst h1 hR
 have hv : (Zfg s (n : Int)).val = some (o, L', N') := by
  simp only [Zfg, RT.val, w0, c1, hq, ← hs1, hr, okB, getO, cond_true]
 simp only [ZcI, ZaX, hv, okB, getO]
 exact ⟨trivial, hs'.up (by omega), by omega⟩
theorem ZPT {l : List Cell} (h : l.length ≤ 1000) : smC l = true := ZiT (by have := mst; omega)
theorem ZPU {l : List Int} (h : l.length ≤ 1000) : smB l = true := ZiT (by have := mst; omega)
theorem ZPS {l : List ZS} (h : l.length ≤ 1000) : smG l = true := ZiT (by have := mst; omega)
theorem ZOT {s : List Int × Int} {k : Int} (h : NB s k) (hk : k ≤ 400000) : ZxQ s = true ∧ NB (nMap s).2 (k + 20) ∧ (nMap s).1.length ≤ 3 := by
 obtain ⟨c1, b1, l1⟩ := ZxJ h (by omega) 2 (by omega)
 have c1 : ZcI s 2 = true := c1
 have b1 : NB (ZaX s 2).2 (k + 1 + 5 * ((2 : Nat) : Int)) := b1
 have l1 : (ZaX s 2).1.length ≤ 2 := l1
 obtain ⟨c2, b2, _⟩ := ZY b1 (by omega) 3 (by decide) (by decide)
 have hs : ∀ x : ZS, Nat.ble ((ZaX s 2).1 ++ [x]).length most = true := fun x => ZiT (by have := mst; simp; omega)
 have hg : ∀ l : List ZS, Stg.l (newG Zd5 Zd6 l) = l := fun _ => rfl
 have hv : (ZHP s).val = some ((ZaX s 2).1 ++ [(0, 65535, true, IntKind.wrap .i64 (Int.tdiv (Zd (ZaX s 2).2 3).1 2))], (Zd (ZaX s 2).2 3).2) := by
  simp only [ZHP, RT.val, hg, c1, c2, hs, Bool.not_true, Bool.false_or, Bool.or_true, cond_true]
 refine ⟨by simp only [ZxQ, hv]; rfl, ?_, ?_⟩
 ·simp only [nMap, hv, getO]; exact b2.up (by omega)
 ·simp only [nMap, hv, getO]; simp; omega
theorem ZxM {s : List Int × Int} {k : Int} (h : NB s k) (hk : k ≤ 300000) (n : Nat) (hn : n ≤ 20) :
  ZcJ s (n : Int) = true ∧ NB (ZX s (n : Int)).2 (k + 1 + 10 * n) ∧ (ZX s (n : Int)).1.length ≤ 12 * n := by
 have hms := mst
 have w0 : IntKind.wrap .i64 ((n : Int) + 1) = (n : Int) + 1 := wrap_i64 _ (by omega) (by omega)
 obtain ⟨c1, b1, d0, d1⟩ := ZY h (by omega) ((n : Int) + 1) (by omega) (by omega)
 obtain ⟨s1, hs1⟩ : ∃ s1, s1 = (Zd s ((n : Int) + 1)).2 := ⟨_, rfl⟩
 obtain ⟨q, hq⟩ : ∃ q : Nat, (Zd s ((n : Int) + 1)).1 = (q : Int) := ⟨_, (Int.toNat_of_nonneg d0).symm⟩
 rw [← hs1] at b1
 obtain ⟨r, hr, h1, s', o, hs', ho, hR⟩ := ZZ (fl := false) (t := Zcq) (fuel := fun a => 400)
  (fun a => ∃ (i : Nat) (s' : List Int × Int) (o : List Int), i ≤ q ∧ NB s' (k + 1 + 10 * ((q - i : Nat) : Int)) ∧ o.length ≤ 12 * (q - i) ∧ a = ((i : Int), s', o, ()))
  (fun a => Int.toNat a.1) (fun r => r.1 = false ∧ ∃ (s' : List Int × Int) (o : List Int), NB s' (k + 1 + 10 * (q : Int)) ∧ o.length ≤ 12 * q ∧ r.2 = ((0 : Int), s', o, ()))
  (by
   rintro a ⟨i, s', o, hi, hs', ho, rfl⟩
   cases i with
   | zero =>
    right; left
    exact ⟨_, by simp only [Zcq, RT.val]; rfl, rfl, s', o, by simpa using hs', by omega, rfl⟩
   | succ i =>
    left
    have d : decide (((i + 1 : Nat) : Int) > 0) = true := decide_eq_true (by omega)
    have w : IntKind.wrap .i64 (((i + 1 : Nat) : Int) - 1) = (i : Int) := by rw [wrap_i64 _ (by omega) (by omega)]; omega
    obtain ⟨k0, b0, _⟩ := ZY hs' (by omega) 8 (by decide) (by decide)
    obtain ⟨k1, b1, e0, e1⟩ := ZY b0 (by omega) 4 (by decide) (by decide)
    obtain ⟨k2, b2, _⟩ := ZY b1 (by omega) 256 (by decide) (by decide)
    obtain ⟨k3, b3, f0, f1⟩ := ZY b2 (by omega) 4 (by decide) (by decide)
    obtain ⟨k4, b4, _⟩ := ZcE b0 (by omega)
    obtain ⟨k5, b5, _⟩ := ZY b4 (by omega) 8 (by decide) (by decide)
    obtain ⟨k6, b6, _⟩ := ZY b0 (by omega) 16 (by decide) (by decide)
    obtain ⟨k7, b7, _⟩ := ZcE b6 (by omega)
    obtain ⟨k8, b8, _⟩ := ZDm b0 (by omega)
    obtain ⟨k9, b9, _⟩ := ZY b8 (by omega) 64 (by decide) (by decide)
    obtain ⟨ka, ba, g0, g1⟩ := ZY b9 (by omega) 4 (by decide) (by decide)
    have r1 : Zf (Zd (Zd s' 8).2 4).1 4 = true := ZaH.2 ⟨e0, e1⟩
    have r2 : Zf (Zd (Zd (Zd (Zd s' 8).2 4).2 256).2 4).1 4 = true := ZaH.2 ⟨f0, f1⟩
    have r3 : Zf (Zd (Zd (Za7 (Zd s' 8).2).2 64).2 4).1 4 = true := ZaH.2 ⟨g0, g1⟩
    have hb : ∀ x : List Int, x.length ≤ 12 → Nat.ble (o ++ x).length most = true := fun x hx => ZiT (by rw [List.length_append]; omega)
    have q1 : ∀ a b c : Int, Nat.ble (o ++ [a, b, c]).length most = true := fun a b c => hb _ (by simp)
    have q2 : ∀ a b c d : Int, Nat.ble (o ++ [a, b, c, d]).length most = true := fun a b c d => hb _ (by simp)
    have q3 : ∀ a : Int, Nat.ble (o ++ [a]).length most = true := fun a => hb _ (by simp)
    have q4 : ∀ a b c d e f g h i j k l : Int, Nat.ble (o ++ [a, b, c, d, e, f, g, h, i, j, k, l]).length most = true := fun a b c d e f g h i j k l => hb _ (by simp)
    have hv : ∃ s2 x, x.length ≤ 12 ∧ NB s2 (k + 1 + 10 * ((q - i : Nat) : Int)) ∧ (Zcq (((i + 1 : Nat) : Int), s', o, ())).val = some (Go1.cont ((i : Int), s2, o ++ x, ())) := by
     simp only [Zcq, RT.val, List.length_cons, List.length_nil, Nat.reduceAdd, d, w, k0, k1, k2, k3, k4, k5, k6, k7, k8, k9, ka, r1, r2, r3, q1, q2, q3, q4, cond_true, Bool.not_true, Bool.false_or, Bool.or_true, Bool.or_false]
     cases (Zd s' 8).1 == 0
     ·cases (Zd s' 8).1 == 1
      ·cases (Zd s' 8).1 == 2
       ·cases (Zd s' 8).1 == 3
        ·exact ⟨_, [(Za7 (Zd s' 8).2).1, IntKind.wrap .u8 (Zd (Za7 (Zd s' 8).2).2 64).1, R.get (R.int .u8) [0, 0, 1, 255] (Zd (Zd (Za7 (Zd s' 8).2).2 64).2 4).1], by simp, ba.up (by omega), rfl⟩
        ·exact ⟨_, [62, IntKind.wrap .u8 (IntKind.wrap .i64 (16 + (Zd (Zd s' 8).2 16).1)), 211, 0, 62, (Zm (Zd (Zd s' 8).2 16).2).1, 211, 1, 62, 0, 211, 1], by simp, b7.up (by omega), rfl⟩
       ·exact ⟨_, [251], by simp, b0.up (by omega), rfl⟩
      ·exact ⟨_, [62, (Zm (Zd s' 8).2).1, 211, IntKind.wrap .u8 (Zd (Zm (Zd s' 8).2).2 8).1], by simp, b5.up (by omega), rfl⟩
     ·exact ⟨_, [R.get (R.int .u8) [33, 49, 1, 17] (Zd (Zd s' 8).2 4).1, IntKind.wrap .u8 (Zd (Zd (Zd s' 8).2 4).2 256).1, R.get (R.int .u8) [0, 0, 1, 255] (Zd (Zd (Zd (Zd s' 8).2 4).2 256).2 4).1], by simp, b3.up (by omega), rfl⟩
    obtain ⟨s2, x, hx, hs2, hv⟩ := hv
    exact ⟨_, hv, ⟨i, s2, o ++ x, by omega, hs2, by rw [List.length_append]; omega, rfl⟩, by simp only; omega⟩)
  ((q : Int), s1, [], ()) ⟨q, s1, [], Nat.le_refl _, by simpa using b1, by simp, rfl⟩ (by simp only; omega)
 obtain ⟨r1, r2⟩ := r
 simp only at h1 hR
 subst h1 hR
 have hv : (Zfh s (n : Int)).val = some (o, s') := by
  simp only [Zfh, RT.val, w0, c1, hq, ← hs1, hr, okB, getO, cond_true]
 simp only [ZcJ, ZX, hv, okB, getO]
 exact ⟨trivial, hs'.up (by omega), by omega⟩
theorem ZOW {s : List Int × Int} {k : Int} (h : NB s k) (hk : k ≤ 300000) : Zru s = true ∧ NB (nCPU s).2 (k + 40) ∧ (nCPU s).1.2.2.2.2.1 = false := by
 obtain ⟨c0, b0, _⟩ := ZK9 h (by omega)
 obtain ⟨c1, b1, _⟩ := ZK6 b0 (by omega) (ZaC s).1
 obtain ⟨c2, b2⟩ := ZfK b1 (by omega)
 obtain ⟨c3, b3, _⟩ := ZY b2 (by omega) 5 (by decide) (by decide)
 obtain ⟨c4, b4, _⟩ := ZY b3 (by omega) 8 (by decide) (by decide)
 obtain ⟨c5, b5, _⟩ := ZY b4 (by omega) 5 (by decide) (by decide)
 obtain ⟨c6, b6⟩ := ZfK b5 (by omega)
 obtain ⟨c7, b7⟩ := ZfK b6 (by omega)
 obtain ⟨c8, b8⟩ := ZfK b7 (by omega)
 obtain ⟨c9, b9, _⟩ := ZY b8 (by omega) 4 (by decide) (by decide)
 obtain ⟨ca, ba⟩ := ZfK b9 (by omega)
 obtain ⟨cb, bb⟩ := ZfK ba (by omega)
 have hv : ∃ c s', (ZH0 s).val = some (c, s') ∧ NB s' (k + 40) ∧ c.2.2.2.2.1 = false := by
  simp only [ZH0, RT.val, c0, c1, c2, c3, c4, c5, c6, c7, c8, c9, ca, cb, cond_true, Bool.not_true, Bool.false_or, Bool.or_true]
  cases (ZaC s).1 == 2
  ·exact ⟨_, _, rfl, b3.up (by omega), rfl⟩
  ·exact ⟨_, _, rfl, bb.up (by omega), rfl⟩
 obtain ⟨c, s', hv, h1, h2⟩ := hv
 simp only [Zru, nCPU, hv, okB, getO]
 exact ⟨trivial, h1, h2⟩
theorem ZJH (l : List Cell) : Stg.l (newG ZgL ZgM l) = l := rfl
theorem ZJM (n : List Int) : Zru (n, 0) = true ∧ Zw (nCPU (n, 0)).2 8 = true ∧ ZxQ (Zd (nCPU (n, 0)).2 8).2 = true ∧
  ZcJ (nMap (Zd (nCPU (n, 0)).2 8).2).2 10 = true ∧ Zl6 (ZX (nMap (Zd (nCPU (n, 0)).2 8).2).2 10).2 6 = true ∧
  (nMap (Zd (nCPU (n, 0)).2 8).2).1.length ≤ 3 ∧ (ZX (nMap (Zd (nCPU (n, 0)).2 8).2).2 10).1.length ≤ 120 ∧
  (Zdr (ZX (nMap (Zd (nCPU (n, 0)).2 8).2).2 10).2 6).1.length ≤ 6 ∧ (nCPU (n, 0)).1.2.2.2.2.1 = false := by
 obtain ⟨c1, b1, h1⟩ := ZOW (ZPs n) (by omega)
 obtain ⟨c2, b2, _⟩ := ZY b1 (by omega) 8 (by decide) (by decide)
 obtain ⟨c3, b3, l3⟩ := ZOT b2 (by omega)
 obtain ⟨c4, b4, l4⟩ := ZxM b3 (by omega) 10 (by omega)
 obtain ⟨c5, b5, l5⟩ := ZHY b4 (by omega) 6 (by omega)
 exact ⟨c1, c2, c3, c4, c5, l3, l4, l5, h1⟩
theorem ZLe (t : Int) (b : List Int) : (Zd8 t b).length ≤ b.length := by
 have := Zb7 (Zgo t b b.length)
 rw [Zfj] at this
 exact this
theorem Zso (c : CpuT) (rg : List ZS) (m : List Cell) (s : Int) (ins : List Int) (l : LnT) : (ZdT c rg m s ins l).2.1.length ≤ m.length + 6 ∧ (ZdT c rg m s ins l).2.2.1.length ≤ 6 ∧ Vld (ZdT c rg m s ins l).2.1 := by
 have h := ZIO (Zbo c s) s 6 [] (Zdi rg m ins)
 have h1 := Zb7 m
 refine ⟨Nat.le_trans h.2.2.1 (Nat.add_le_add_right h1 6), ?_, h.2.1 (Zdp m)⟩
 have h2 := h.2.2.2.2
 have h3 : (Zdi rg m ins).2.2.2.length = 0 := rfl
 exact Nat.le_trans h2 (by omega)
theorem dself {α : Type} [DecidableEq α] (a : α) : decide (a = a) = true := decide_eq_true rfl
theorem steps_law (c : CpuT) (n : List Int) (s : Int) (ins : List Int) (l : LnT) : Zx7 c n s ins l = true ∧ ZIj c n s ins l = true := by
 have hms := mst
 obtain ⟨c1, c2, c3, c4, c5, l3, l4, l5, _⟩ := ZJM n
 have hp := ZGj s 6 (by decide) (by decide)
 have hb1 : smB (ZX (nMap (Zd (nCPU (n, 0)).2 8).2).2 10).1 = true := ZPU (by omega)
 have hl := ZLe 0 (ZX (nMap (Zd (nCPU (n, 0)).2 8).2).2 10).1
 have hx : Nat.ble (Zd8 0 (ZX (nMap (Zd (nCPU (n, 0)).2 8).2).2 10).1 ++ (Zdr (ZX (nMap (Zd (nCPU (n, 0)).2 8).2).2 10).2 6).1).length most = true := ZiT (by rw [List.length_append]; omega)
 have hr : Zst (Zd8 0 (ZX (nMap (Zd (nCPU (n, 0)).2 8).2).2 10).1 ++ (Zdr (ZX (nMap (Zd (nCPU (n, 0)).2 8).2).2 10).2 6).1) = true := ZgB.2 (by rw [List.length_append]; omega)
 have hg : smG (nMap (Zd (nCPU (n, 0)).2 8).2).1 = true := ZPS (by omega)
 have hk : ∀ c k, smC (ZdT c (nMap (Zd (nCPU (n, 0)).2 8).2).1 (Zd8 0 (ZX (nMap (Zd (nCPU (n, 0)).2 8).2).2 10).1 ++ (Zdr (ZX (nMap (Zd (nCPU (n, 0)).2 8).2).2 10).2 6).1) k ins l).2.1 = true := fun c k => ZPT (by
  have h := (Zso c (nMap (Zd (nCPU (n, 0)).2 8).2).1 (Zd8 0 (ZX (nMap (Zd (nCPU (n, 0)).2 8).2).2 10).1 ++ (Zdr (ZX (nMap (Zd (nCPU (n, 0)).2 8).2).2 10).2 6).1) k ins l).1
  rw [List.length_append] at h; omega)
 have ho : ∀ c k, Zfk (ZdT c (nMap (Zd (nCPU (n, 0)).2 8).2).1 (Zd8 0 (ZX (nMap (Zd (nCPU (n, 0)).2 8).2).2 10).1 ++ (Zdr (ZX (nMap (Zd (nCPU (n, 0)).2 8).2).2 10).2 6).1) k ins l).2.2.1 (ZdT c (nMap (Zd (nCPU (n, 0)).2 8).2).1 (Zd8 0 (ZX (nMap (Zd (nCPU (n, 0)).2 8).2).2 10).1 ++ (Zdr (ZX (nMap (Zd (nCPU (n, 0)).2 8).2).2 10).2 6).1) k ins l).2.2.1 = true ∧ Zm2 (ZdT c (nMap (Zd (nCPU (n, 0)).2 8).2).1 (Zd8 0 (ZX (nMap (Zd (nCPU (n, 0)).2 8).2).2 10).1 ++ (Zdr (ZX (nMap (Zd (nCPU (n, 0)).2 8).2).2 10).2 6).1) k ins l).2.2.1 (ZdT c (nMap (Zd (nCPU (n, 0)).2 8).2).1 (Zd8 0 (ZX (nMap (Zd (nCPU (n, 0)).2 8).2).2 10).1 ++ (Zdr (ZX (nMap (Zd (nCPU (n, 0)).2 8).2).2 10).2 6).1) k ins l).2.2.1 = true := fun c k => ZDv _ (by
  have h := (Zso c (nMap (Zd (nCPU (n, 0)).2 8).2).1 (Zd8 0 (ZX (nMap (Zd (nCPU (n, 0)).2 8).2).2 10).1 ++ (Zdr (ZX (nMap (Zd (nCPU (n, 0)).2 8).2).2 10).2 6).1) k ins l).2.1
  omega)
 have hv : (Zmp c n s ins l).val = some true := by
  simp only [Zmp, RT.val, ZON, ZK2, R.eqf_refl, ZJH, c1, c2, c3, c4, c5, hb1, hx, hr, hg, hk, ho, hp.1, dself, Zya, ZQL.1, beq_self_eq_true, Bool.not_true, Bool.not_false, Bool.and_self, Bool.or_self, Bool.or_true, Bool.true_or, Bool.or_false, Bool.false_or, cond_true, cond_false, Bool.cond_self, decide_true]
 exact ⟨by simp only [Zx7, hv]; rfl, by simp only [ZIj, hv, getO]⟩
end
end Go.Proofs.YtghoimllhpjkjaaGreat
