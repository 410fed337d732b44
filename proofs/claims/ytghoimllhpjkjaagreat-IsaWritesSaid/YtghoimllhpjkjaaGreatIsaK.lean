/-
  Contracts of functions; each found by the symbolic executor and checked by the kernel. Conditions: none.
-/
import Derived.Test.YtghoimllhpjkjaaGreatS3D
import Derived.Test.YtghoimllhpjkjaaGreatProg
import Derived.Test.YtghoimllhpjkjaaGreatMakeOk5
import Derived.Test.YtghoimllhpjkjaaGreatS3Box1
import Derived.Test.YtghoimllhpjkjaaGreatMemE
import Derived.Test.YtghoimllhpjkjaaGreatS3New
import Derived.Test.YtghoimllhpjkjaaGreatS3Stg
open Go.IntKind (u8 u16 i64)
set_option linter.unusedSimpArgs false
open Go Go.S3 Go.Proofs
set_option linter.unusedVariables false
set_option maxRecDepth 100000
namespace Go.Proofs.YtghoimllhpjkjaaGreat
noncomputable section
def qDoE : Entry := .tree (ZI (envX Tryz.prog [(187, Zj7), (204, Zoo)] [] 9223389629049209151 8) Tryz.f150)
theorem ZwT : Zb Tryz.prog 150 qDoE := Zab (P := Tryz.prog) (n := 9223389629049209151) (k := 8) (l := [(187, Zj7), (204, Zoo)]) (ol := []) ⟨ZtM, ZyV, trivial⟩ Tryz.func150 rfl (by kernel_rfl) Tryz.call150 trivial
def ZCa : LS := { n := 37, slots := [(0, .fix (A.loc 3 0)), (2, .code (Sh.one (R.int i64))), (5, .fix (A.loc 4 0)), (7, .fix (A.loc 5 0)), (8, .fix (A.loc 6 0)), (9, .code (Sh.one (R.sl (R.int u8)))), (10, .tip 1)], boxes := [[.many ZaT], [.many ZFR], [.many ZaT], [.code rcRG, .code rcCE, .code (R.sl (R.int u8)), .tip 0], [.many ZaT], [.many ZFR], [.many ZaT]], stgs := [⟨R.pair (R.int u8) (R.int u8), 166, true⟩, ⟨(R.int u8), 5, true⟩] }
def ZdF (a : QT11) : RT (Option (Go1 (QT11))) :=
 let x1 := a.2.2.2.2.2.2.2.2.2.2.2.2.1
 let x2 := Zi a.2.2.2.2.2.2.2.2.1 a.1 x1
 let x3 := !x2.2
 let x4 := x2.1
 let x5 := x4.1
 let x6 := x5 == 1
 let x7 := x5 == 2
 let x8 := bif x6 then x6 else bif x7 then x7 else x5 == 4
 let x9 := !x8
 let x10 := smG a.2.2.2.2.2.1 && smC a.2.2.2.2.2.2.1
 let x11 := x9 || x10
 let x12 := !x11
 let x13 := x5 == 3
 let x14 := bif x13 then x13 else x5 == 5
 let x15 := !x14
 let x16 := x8 || (x15 || x10)
 let x17 := !x16
 let x18 := x5 == 7
 let x19 := !x18
 let x20 := x4.2
 let x21 := x20.1
 let x22 := x20.2.1
 let x23 : List (Int × Int) := a.2.2.2.2.2.2.2.2.2.2.2.1 ++ [(u8.wrap x21, x22)]
 let x24 := x8 || (x14 || (x19 || Nat.ble (List.length x23) most))
 let x25 := !x24
 let x26 := x5 == 6
 let x27 := x5 == 8
 let x28 := bif x26 then x26 else bif x27 then x27 else x5 == 9
 let x29 := !x28
 let x30 := x12 || (x17 || (x25 || (x8 || (x14 || (x18 || (x29 || (iN (List.length a.2.2.2.2.2.2.2.1) == 0 || (!Zf 0 (List.length a.2.2.2.2.2.2.2.1) || decide (0 ≤ 1) && decide (1 ≤ iN (List.length a.2.2.2.2.2.2.2.1)) && (decide (iN (List.length a.2.2.2.2.2.2.2.1) = 0) || decide (iN (List.length a.2.2.2.2.2.2.2.1) ≤ iN (List.length a.2.2.2.2.2.2.2.1)))))))))))
 let x31 := !x30
 let x32 := x12 || (x17 || (x25 || (x8 || (x14 || (x18 || (x29 || (iN (List.length a.2.2.2.2.2.2.2.1) == 0 || Zf 0 (List.length a.2.2.2.2.2.2.2.1))))))))
 let x33 := !x32
 let x34 := x12 || (x17 || x24)
 let x35 := !x34
 let x36 := x12 || x16
 let x37 := !x36
 let x38 : List Int := x1 ++ [Zi9 a.2.2.2.2.2.1 a.2.2.2.2.2.2.1 x21]
 let x39 := x31 || (x33 || (x35 || (x37 || (x12 || (x9 || Nat.ble (List.length x38) most)))))
 let x40 := !x39
 let x41 : List Int := x1 ++ [x22]
 let x42 := Nat.ble (List.length x41) most
 let x43 := x31 || (x33 || (x35 || (x37 || (x12 || (x8 || (x15 || x42))))))
 let x44 := !x43
 let x45 := x31 || (x33 || (x35 || (x37 || (x12 || (x8 || (x14 || (x19 || x42)))))))
 let x46 := !x45
 let x47 : List Int := x1 ++ [0]
 let x48 := Nat.ble (List.length x47) most
 let x49 := x31 || (x33 || (x35 || (x37 || (x12 || (x8 || (x14 || (x18 || (x29 || (!iN (List.length a.2.2.2.2.2.2.2.1) == 0 || x48)))))))))
 let x50 := !x49
 let x51 : List Int := x1 ++ [R.get (R.int u8) a.2.2.2.2.2.2.2.1 0]
 let x52 := x31 || (x33 || (x35 || (x37 || (x12 || (x8 || (x14 || (x18 || (x29 || (iN (List.length a.2.2.2.2.2.2.2.1) == 0 || Nat.ble (List.length x51) most)))))))))
 let x53 := !x52
 let x54 := x31 || (x33 || (x35 || (x37 || (x12 || (x8 || (x14 || (x18 || (x28 || x48))))))))
 let x55 := !x54
 let x56 := x31 || (x33 || (x35 || (x37 || x11)))
 let x57 := !x56
 let x58 := x31 || (x33 || (x35 || x36))
 let x59 := !x58
 let x60 := x31 || (x33 || x34)
 let x61 := !x60
 let x62 := x31 || x32
 .br (x3 || (x40 || (x44 || (x46 || (x50 || (x53 || (x55 || (x57 || (x59 || (x61 || (!x62 || x30))))))))))) (.br (x3 || (x40 || (x44 || (x46 || (x50 || (x53 || (x55 || (x57 || (x59 || (x61 || x62)))))))))) (.br (x3 || (x40 || (x44 || (x46 || (x50 || (x53 || (x55 || (x57 || (x59 || x60))))))))) (.br (x3 || (x40 || (x44 || (x46 || (x50 || (x53 || (x55 || (x57 || x58)))))))) (.br (x3 || (x40 || (x44 || (x46 || (x50 || (x53 || (x55 || x56))))))) (.br (x3 || (x40 || (x44 || (x46 || (x50 || (x53 || x54)))))) (.br (x3 || (x40 || (x44 || (x46 || (x50 || x52))))) (.br (x3 || (x40 || (x44 || (x46 || x49)))) (.br (x3 || (x40 || (x44 || x45))) (.br (x3 || (x40 || x43)) (.br (x3 || x39) (.br (x3) (.leaf (some (Go1.ret (a.1, x1, a.2.2.1, a.2.2.2.1, a.2.2.2.2.1, a.2.2.2.2.2.1, a.2.2.2.2.2.2.1, a.2.2.2.2.2.2.2.1, a.2.2.2.2.2.2.2.2.1, a.2.2.2.2.2.2.2.2.2.1, finX a.2.2.2.2.2.2.2.2.1 a.1 x1 a.2.2.2.2.2.2.2.2.2.1, a.2.2.2.2.2.2.2.2.2.2.2.1, x1, PUnit.unit)))) (.leaf (some (Go1.cont (a.1, a.2.1, a.2.2.1, a.2.2.2.1, a.2.2.2.2.1, a.2.2.2.2.2.1, bif x8 then a.2.2.2.2.2.2.1 else bif x14 then Zb5 a.2.2.2.2.2.1 a.2.2.2.2.2.2.1 x21 x22 else a.2.2.2.2.2.2.1, bif x8 then a.2.2.2.2.2.2.2.1 else bif x14 then a.2.2.2.2.2.2.2.1 else bif x18 then a.2.2.2.2.2.2.2.1 else bif x28 then bif iN (List.length a.2.2.2.2.2.2.2.1) == 0 then a.2.2.2.2.2.2.2.1 else subL a.2.2.2.2.2.2.2.1 1 (iN (List.length a.2.2.2.2.2.2.2.1)) else a.2.2.2.2.2.2.2.1, a.2.2.2.2.2.2.2.2.1, a.2.2.2.2.2.2.2.2.2.1, a.2.2.2.2.2.2.2.2.2.2.1, bif x8 then a.2.2.2.2.2.2.2.2.2.2.2.1 else bif x14 then a.2.2.2.2.2.2.2.2.2.2.2.1 else bif x18 then x23 else a.2.2.2.2.2.2.2.2.2.2.2.1, bif x8 then x38 else bif x14 then x41 else bif x18 then x41 else bif x28 then bif iN (List.length a.2.2.2.2.2.2.2.1) == 0 then x47 else x51 else x47, PUnit.unit))))) (.leaf none)) (.leaf none)) (.leaf none)) (.leaf none)) (.leaf none)) (.leaf none)) (.leaf none)) (.leaf none)) (.leaf none)) (.leaf none)) (.leaf none)
def Zj0 : Ora := Zbq true ZCa ZdF (fun a => 100)
theorem ZtF : Za5 (envX Tryz.prog [(110, ZbO), (111, Zpj), (113, Zgq), (150, qDoE)] [] 8191 8) (.block 0 (.loop (Z5 Tryz.f94.body 0))) Zj0 :=
 Zw (ZB (l := [(110, ZbO), (111, Zpj), (113, Zgq), (150, qDoE)]) ⟨ZdY, ZoG, ZiD, ZwT, trivial⟩ [] 8191 8) (Zn (by kernel_rfl)) (fun a => by kernel_rfl)
def ZCb : Entry := .tree (ZI (envX Tryz.prog [(110, ZbO), (111, Zpj), (113, Zgq), (150, qDoE)] [(0, Zj0)] 8191 8) Tryz.f94)
theorem ZB9 : Zb Tryz.prog 94 ZCb := Zab (P := Tryz.prog) (n := 8191) (k := 8) (l := [(110, ZbO), (111, Zpj), (113, Zgq), (150, qDoE)]) (ol := [(0, Zj0)]) ⟨ZdY, ZoG, ZiD, ZwT, trivial⟩ Tryz.func94 rfl (by kernel_rfl) Tryz.call94 ⟨ZtF, trivial⟩
def ZbR : Entry := .tree (ZI (envX Tryz.prog [(117, Zvx)] [] 7 8) Tryz.f93)
theorem Zde : Zb Tryz.prog 93 ZbR := Zab (P := Tryz.prog) (n := 7) (k := 8) (l := [(117, Zvx)]) (ol := []) ⟨ZEq, trivial⟩ Tryz.func93 rfl (by kernel_rfl) Tryz.call93 trivial
abbrev ZvI : List Sh := [Sh.agg ZaT, Sh.one rcRG, Sh.one rcCE, Sh.one (R.int i64), Sh.one (R.sl (R.int u8)), Sh.agg ZFR]
abbrev ZpP : Rs := Rs.tup [Sh.agg ZaT, Sh.one rcCE, Sh.one (R.sl (R.pair (R.int u8) (R.int u8))), Sh.one (R.sl (R.int u8))]
def ZrW (c : TC) (rg : List (QT8)) (m : List (Int × Int)) (s : Int) (ins : List Int) (l : LINT) : RT (Option (QT18)) :=
 let x1 : TC := (0, (0, 0, 0, 0, 0, 0, 0, (false, false, false, false, false, false, false), 0, 0), false, false, false, 0, false, false, false, false, false, false, false)
 let x2 : QT11 := (s, [], c, l, x1, rg, Cells.normX m, ins, Za8 c s, l, x1, [], [], ())
 let x3 := runF true ZdF (fun a => 100) x2
 let x4 := getO (false, x2) x3
 let x5 := x4.2.2
 let x6 := x5.2.2.2.2.2
 let x7 := x6.2.2.2.2
 let x8 : QT18 := (x7.1, x6.1, x7.2.1, x5.1)
 .br (smC m) (.br (okB x3) (.br x4.1 (.leaf (some (x8))) (.leaf (some (x8)))) (.leaf none)) (.leaf none)
def ZKQ (c : TC) (rg : List (QT8)) (m : List (Int × Int)) (s : Int) (ins : List Int) (l : LINT) : QT18 := getO ZpP.dflt (ZrW c rg m s ins l).val
def ZEJ (c : TC) (rg : List (QT8)) (m : List (Int × Int)) (s : Int) (ins : List Int) (l : LINT) : Bool := okB (ZrW c rg m s ins l).val
def ZMx : Entry := Zm ZvI ZpP (fun a => some (ZEJ a.1 a.2.1 a.2.2.1 a.2.2.2.1 a.2.2.2.2.1 a.2.2.2.2.2)) (fun a => ZKQ a.1 a.2.1 a.2.2.1 a.2.2.2.1 a.2.2.2.2.1 a.2.2.2.2.2)
theorem ZHq : Zb Tryz.prog 37 ZMx :=
 pureP 131071 [(93, ZbR), (94, ZCb)] [] ZvI ZpP ⟨Zde, ZB9, trivial⟩ Tryz.func37 Tryz.call37 trivial (t := fun a => ZrW a.1 a.2.1 a.2.2.1 a.2.2.2.1 a.2.2.2.2.1 a.2.2.2.2.2) (fun a => by kernel_rfl)
def ZB8 : LS := { n := 37, slots := [(0, .fix (A.loc 2 0)), (2, .code (Sh.one (R.int i64))), (5, .fix (A.loc 3 0)), (7, .fix (A.loc 4 0)), (8, .fix (A.loc 5 0)), (9, .code (Sh.one (R.sl (R.int u8)))), (10, .tip 1)], boxes := [[.many ZaT], [.many ZaT], [.code rcRG, .code rcCE, .code (R.sl (R.int u8)), .tip 0], [.many ZaT], [.many ZFR], [.many ZaT]], stgs := [⟨R.pair (R.int u8) (R.int u8), 166, true⟩, ⟨(R.int u8), 5, true⟩] }
def ZdE (a : QT12) : RT (Option (Go1 (QT12))) :=
 let x1 := Zi a.2.2.2.2.2.2.2.1 a.1 a.2.2.2.2.2.2.2.2.2.2.2.1
 let x2 := !x1.2
 let x3 := x1.1
 let x4 := x3.1
 let x5 := x4 == 1
 let x6 := x4 == 2
 let x7 := bif x5 then x5 else bif x6 then x6 else x4 == 4
 let x8 := !x7
 let x9 := smG a.2.2.2.2.1 && smC a.2.2.2.2.2.1
 let x10 := x8 || x9
 let x11 := !x10
 let x12 := x4 == 3
 let x13 := bif x12 then x12 else x4 == 5
 let x14 := !x13
 let x15 := x7 || (x14 || x9)
 let x16 := !x15
 let x17 := x4 == 7
 let x18 := !x17
 let x19 := x3.2
 let x20 := x19.1
 let x21 := x19.2.1
 let x22 : List (Int × Int) := a.2.2.2.2.2.2.2.2.2.2.1 ++ [(u8.wrap x20, x21)]
 let x23 := x7 || (x13 || (x18 || Nat.ble (List.length x22) most))
 let x24 := !x23
 let x25 := x4 == 6
 let x26 := x4 == 8
 let x27 := bif x25 then x25 else bif x26 then x26 else x4 == 9
 let x28 := !x27
 let x29 := x11 || (x16 || (x24 || (x7 || (x13 || (x17 || (x28 || (iN (List.length a.2.2.2.2.2.2.1) == 0 || (!Zf 0 (List.length a.2.2.2.2.2.2.1) || decide (0 ≤ 1) && decide (1 ≤ iN (List.length a.2.2.2.2.2.2.1)) && (decide (iN (List.length a.2.2.2.2.2.2.1) = 0) || decide (iN (List.length a.2.2.2.2.2.2.1) ≤ iN (List.length a.2.2.2.2.2.2.1)))))))))))
 let x30 := !x29
 let x31 := x11 || (x16 || (x24 || (x7 || (x13 || (x17 || (x28 || (iN (List.length a.2.2.2.2.2.2.1) == 0 || Zf 0 (List.length a.2.2.2.2.2.2.1))))))))
 let x32 := !x31
 let x33 := x11 || (x16 || x23)
 let x34 := !x33
 let x35 := x11 || x15
 let x36 := !x35
 let x37 : List Int := a.2.2.2.2.2.2.2.2.2.2.2.1 ++ [Zi9 a.2.2.2.2.1 a.2.2.2.2.2.1 x20]
 let x38 := x30 || (x32 || (x34 || (x36 || (x11 || (x8 || Nat.ble (List.length x37) most)))))
 let x39 := !x38
 let x40 : List Int := a.2.2.2.2.2.2.2.2.2.2.2.1 ++ [x21]
 let x41 := Nat.ble (List.length x40) most
 let x42 := x30 || (x32 || (x34 || (x36 || (x11 || (x7 || (x14 || x41))))))
 let x43 := !x42
 let x44 := x30 || (x32 || (x34 || (x36 || (x11 || (x7 || (x13 || (x18 || x41)))))))
 let x45 := !x44
 let x46 : List Int := a.2.2.2.2.2.2.2.2.2.2.2.1 ++ [0]
 let x47 := Nat.ble (List.length x46) most
 let x48 := x30 || (x32 || (x34 || (x36 || (x11 || (x7 || (x13 || (x17 || (x28 || (!iN (List.length a.2.2.2.2.2.2.1) == 0 || x47)))))))))
 let x49 := !x48
 let x50 : List Int := a.2.2.2.2.2.2.2.2.2.2.2.1 ++ [R.get (R.int u8) a.2.2.2.2.2.2.1 0]
 let x51 := x30 || (x32 || (x34 || (x36 || (x11 || (x7 || (x13 || (x17 || (x28 || (iN (List.length a.2.2.2.2.2.2.1) == 0 || Nat.ble (List.length x50) most)))))))))
 let x52 := !x51
 let x53 := x30 || (x32 || (x34 || (x36 || (x11 || (x7 || (x13 || (x17 || (x27 || x47))))))))
 let x54 := !x53
 let x55 := x30 || (x32 || (x34 || (x36 || x10)))
 let x56 := !x55
 let x57 := x30 || (x32 || (x34 || x35))
 let x58 := !x57
 let x59 := x30 || (x32 || x33)
 let x60 := !x59
 let x61 := x30 || x31
 .br (x2 || (x39 || (x43 || (x45 || (x49 || (x52 || (x54 || (x56 || (x58 || (x60 || (!x61 || x29))))))))))) (.br (x2 || (x39 || (x43 || (x45 || (x49 || (x52 || (x54 || (x56 || (x58 || (x60 || x61)))))))))) (.br (x2 || (x39 || (x43 || (x45 || (x49 || (x52 || (x54 || (x56 || (x58 || x59))))))))) (.br (x2 || (x39 || (x43 || (x45 || (x49 || (x52 || (x54 || (x56 || x57)))))))) (.br (x2 || (x39 || (x43 || (x45 || (x49 || (x52 || (x54 || x55))))))) (.br (x2 || (x39 || (x43 || (x45 || (x49 || (x52 || x53)))))) (.br (x2 || (x39 || (x43 || (x45 || (x49 || x51))))) (.br (x2 || (x39 || (x43 || (x45 || x48)))) (.br (x2 || (x39 || (x43 || x44))) (.br (x2 || (x39 || x42)) (.br (x2 || x38) (.br (x2) (.leaf (some (Go1.ret (a.1, a.2.2.2.2.2.2.2.2.2.2.2.1, a.2.2.1, a.2.2.2.1, a.2.2.2.2.1, a.2.2.2.2.2.1, a.2.2.2.2.2.2.1, a.2.2.2.2.2.2.2.1, a.2.2.2.2.2.2.2.2.1, finX a.2.2.2.2.2.2.2.1 a.1 a.2.2.2.2.2.2.2.2.2.2.2.1 a.2.2.2.2.2.2.2.2.1, a.2.2.2.2.2.2.2.2.2.2.1, a.2.2.2.2.2.2.2.2.2.2.2.1, PUnit.unit)))) (.leaf (some (Go1.cont (a.1, a.2.1, a.2.2.1, a.2.2.2.1, a.2.2.2.2.1, bif x7 then a.2.2.2.2.2.1 else bif x13 then Zb5 a.2.2.2.2.1 a.2.2.2.2.2.1 x20 x21 else a.2.2.2.2.2.1, bif x7 then a.2.2.2.2.2.2.1 else bif x13 then a.2.2.2.2.2.2.1 else bif x17 then a.2.2.2.2.2.2.1 else bif x27 then bif iN (List.length a.2.2.2.2.2.2.1) == 0 then a.2.2.2.2.2.2.1 else subL a.2.2.2.2.2.2.1 1 (iN (List.length a.2.2.2.2.2.2.1)) else a.2.2.2.2.2.2.1, a.2.2.2.2.2.2.2.1, a.2.2.2.2.2.2.2.2.1, a.2.2.2.2.2.2.2.2.2.1, bif x7 then a.2.2.2.2.2.2.2.2.2.2.1 else bif x13 then a.2.2.2.2.2.2.2.2.2.2.1 else bif x17 then x22 else a.2.2.2.2.2.2.2.2.2.2.1, bif x7 then x37 else bif x13 then x40 else bif x17 then x40 else bif x27 then bif iN (List.length a.2.2.2.2.2.2.1) == 0 then x46 else x50 else x46, PUnit.unit))))) (.leaf none)) (.leaf none)) (.leaf none)) (.leaf none)) (.leaf none)) (.leaf none)) (.leaf none)) (.leaf none)) (.leaf none)) (.leaf none)) (.leaf none)
def ZjZ : Ora := Zbq true ZB8 ZdE (fun a => 100)
theorem ZtE : Za5 (envX Tryz.prog [(110, ZbO), (111, Zpj), (113, Zgq), (150, qDoE)] [] 8191 8) (.block 0 (.loop (Z5 Tryz.f94.body 0))) ZjZ :=
 Zw (ZB (l := [(110, ZbO), (111, Zpj), (113, Zgq), (150, qDoE)]) ⟨ZdY, ZoG, ZiD, ZwT, trivial⟩ [] 8191 8) (Zn (by kernel_rfl)) (fun a => by kernel_rfl)
def Zn1 : Entry := .tree (ZI (envX Tryz.prog [(110, ZbO), (111, Zpj), (113, Zgq), (150, qDoE)] [(0, ZjZ)] 8191 8) Tryz.f94)
theorem ZqU : Zb Tryz.prog 94 Zn1 := Zab (P := Tryz.prog) (n := 8191) (k := 8) (l := [(110, ZbO), (111, Zpj), (113, Zgq), (150, qDoE)]) (ol := [(0, ZjZ)]) ⟨ZdY, ZoG, ZiD, ZwT, trivial⟩ Tryz.func94 rfl (by kernel_rfl) Tryz.call94 ⟨ZtE, trivial⟩
abbrev ZEK : List Sh := [Sh.agg ZaT, Sh.one rcRG, Sh.one rcCE, Sh.one (R.sl (R.int u8)), Sh.one (R.int i64)]
abbrev ZxU : Rs := Rs.tup [Sh.agg ZaT, Sh.one rcCE, Sh.one (R.sl (R.pair (R.int u8) (R.int u8))), Sh.one (R.int i64)]
def ZKS : LS := { n := 49, slots := [(4, .code (Sh.one (R.int i64))), (5, .fix (A.loc 0 0)), (10, .fix (A.loc 1 0)), (13, .code (Sh.one (R.int i64))), (14, .fix (A.loc 2 0))], boxes := [[.many ZaT], [.many ZaT], [.code rcRG, .code rcCE, .code (R.sl (R.int u8)), .tip 0]], stgs := [⟨R.pair (R.int u8) (R.int u8), 166, true⟩] }
def Zhy (a : QT13) : RT (Option (Go1 (QT13))) :=
 let x1 : QT12 := (0, [], a.2.2.1, a.2.2.2.1, a.2.2.2.2.1, a.2.2.2.2.2.1, a.2.2.2.2.2.2.1, Za8 a.2.2.1 0, (false, false, false, false, false, false, false, false, false), (0, (0, 0, 0, 0, 0, 0, 0, (false, false, false, false, false, false, false), 0, 0), false, false, false, 0, false, false, false, false, false, false, false), a.2.2.2.2.2.2.2.1, [], ())
 let x2 := runF true ZdE (fun a_1 => 100) x1
 let x3 := getO (false, x1) x2
 let x4 := x3.1
 let x5 := x3.2.2.2.2
 let x6 := x5.2
 let x7 := x6.2
 let x8 := x7.2
 let x9 := x8.2.2.2
 let x10 := x9.1
 let x11 := x10.1
 let x12 := x10.2
 let x13 := x12.1
 let x14 := x13.1
 let x15 := x13.2
 let x16 := x15.1
 let x17 := x15.2
 let x18 := x17.1
 let x19 := x17.2
 let x20 := x19.1
 let x21 := x19.2
 let x22 := x21.1
 let x23 := x21.2
 let x24 := x23.1
 let x25 := x23.2
 let x26 := x25.1
 let x27 := x25.2
 let x28 := x27.1
 let x29 := x28.1
 let x30 := x28.2
 let x31 := x30.1
 let x32 := x30.2
 let x33 := x32.1
 let x34 := x32.2
 let x35 := x34.1
 let x36 := x34.2
 let x37 := x36.1
 let x38 := x36.2
 let x39 := x38.1
 let x40 := x38.2
 let x41 := x27.2
 let x42 := x41.1
 let x43 := x41.2
 let x44 := x12.2
 let x45 := x44.1
 let x46 := x44.2
 let x47 := x46.1
 let x48 := x46.2
 let x49 := x48.1
 let x50 := x48.2
 let x51 := x50.1
 let x52 := x50.2
 let x53 := x52.1
 let x54 := x52.2
 let x55 := x54.1
 let x56 := x54.2
 let x57 := x56.1
 let x58 := x56.2
 let x59 := x58.1
 let x60 := x58.2
 let x61 := x60.1
 let x62 := x60.2
 let x63 := x62.1
 let x64 := x62.2
 let x65 := x5.1
 let x66 := x65.1
 let x67 := x65.2
 let x68 := x67.1
 let x69 := x68.1
 let x70 := x68.2
 let x71 := x70.1
 let x72 := x70.2
 let x73 := x72.1
 let x74 := x72.2
 let x75 := x74.1
 let x76 := x74.2
 let x77 := x76.1
 let x78 := x76.2
 let x79 := x78.1
 let x80 := x78.2
 let x81 := x80.1
 let x82 := x80.2
 let x83 := x82.1
 let x84 := x83.1
 let x85 := x83.2
 let x86 := x85.1
 let x87 := x85.2
 let x88 := x87.1
 let x89 := x87.2
 let x90 := x89.1
 let x91 := x89.2
 let x92 := x91.1
 let x93 := x91.2
 let x94 := x93.1
 let x95 := x93.2
 let x96 := x82.2
 let x97 := x96.1
 let x98 := x96.2
 let x99 := x67.2
 let x100 := x99.1
 let x101 := x99.2
 let x102 := x101.1
 let x103 := x101.2
 let x104 := x103.1
 let x105 := x103.2
 let x106 := x105.1
 let x107 := x105.2
 let x108 := x107.1
 let x109 := x107.2
 let x110 := x109.1
 let x111 := x109.2
 let x112 := x111.1
 let x113 := x111.2
 let x114 := x113.1
 let x115 := x113.2
 let x116 := x115.1
 let x117 := x115.2
 let x118 := x117.1
 let x119 := x117.2
 let x120 := x6.1
 let x121 := x7.1
 let x122 := x8.1
 let x123 := x9.2.1
 .br (decide (a.2.1 < if 10000 < a.1 then 10000 else a.1) && !a.2.2.1.2.2.2.2.1) (.br (okB x2) (.leaf (some (Go1.cont (a.1, i64.wrap (a.2.1 + 1), (bif x4 then x11 else x11, (bif x4 then x14 else x14, bif x4 then x16 else x16, bif x4 then x18 else x18, bif x4 then x20 else x20, bif x4 then x22 else x22, bif x4 then x24 else x24, bif x4 then x26 else x26, (bif x4 then x29 else x29, bif x4 then x31 else x31, bif x4 then x33 else x33, bif x4 then x35 else x35, bif x4 then x37 else x37, bif x4 then x39 else x39, bif x4 then x40 else x40), bif x4 then x42 else x42, bif x4 then x43 else x43), bif x4 then x45 else x45, bif x4 then x47 else x47, bif x4 then x49 else x49, bif x4 then x51 else x51, bif x4 then x53 else x53, bif x4 then x55 else x55, bif x4 then x57 else x57, bif x4 then x59 else x59, bif x4 then x61 else x61, bif x4 then x63 else x63, bif x4 then x64 else x64), (bif x4 then x66 else x66, (bif x4 then x69 else x69, bif x4 then x71 else x71, bif x4 then x73 else x73, bif x4 then x75 else x75, bif x4 then x77 else x77, bif x4 then x79 else x79, bif x4 then x81 else x81, (bif x4 then x84 else x84, bif x4 then x86 else x86, bif x4 then x88 else x88, bif x4 then x90 else x90, bif x4 then x92 else x92, bif x4 then x94 else x94, bif x4 then x95 else x95), bif x4 then x97 else x97, bif x4 then x98 else x98), bif x4 then x100 else x100, bif x4 then x102 else x102, bif x4 then x104 else x104, bif x4 then x106 else x106, bif x4 then x108 else x108, bif x4 then x110 else x110, bif x4 then x112 else x112, bif x4 then x114 else x114, bif x4 then x116 else x116, bif x4 then x118 else x118, bif x4 then x119 else x119), bif x4 then x120 else x120, bif x4 then x121 else x121, bif x4 then x122 else x122, bif x4 then x123 else x123, PUnit.unit)))) (.leaf none)) (.leaf (some (Go1.brk (a.1, a.2.1, a.2.2.1, a.2.2.2.1, a.2.2.2.2.1, a.2.2.2.2.2.1, a.2.2.2.2.2.2.1, a.2.2.2.2.2.2.2.1, PUnit.unit))))
def ZEN : Ora := Zbq false ZKS Zhy (fun a => 20000)
theorem ZEM : Za5 (envX Tryz.prog [(93, ZbR), (94, Zn1)] [] 32767 8) (.block 0 (.loop (Z5 Tryz.f33.body 0))) ZEN :=
 Zw (ZB (l := [(93, ZbR), (94, Zn1)]) ⟨Zde, ZqU, trivial⟩ [] 32767 8) (Zn (by kernel_rfl)) (fun a => by kernel_rfl)
def ZEL (c : TC) (rg : List (QT8)) (m : List (Int × Int)) (ins : List Int) (k : Int) : RT (Option (QT24)) :=
 let x1 : QT13 := (k, 0, c, (0, (0, 0, 0, 0, 0, 0, 0, (false, false, false, false, false, false, false), 0, 0), false, false, false, 0, false, false, false, false, false, false, false), rg, Cells.normX m, ins, [], ())
 let x2 := runF false Zhy (fun a => 20000) x1
 let x3 : Int × TC × TC × List (Int × Int × Bool × Int) × List (Int × Int) × List Int × List (Int × Int) × PUnit := (getO (false, x1) x2).2.2
 let x4 := x3.2
 let x5 := x4.2.2.2
 .br (smC m) (.br (okB x2) (.leaf (some ((x4.1, x5.1, x5.2.2.1, x3.1)))) (.leaf none)) (.leaf none)
def iRun (c : TC) (rg : List (QT8)) (m : List (Int × Int)) (ins : List Int) (k : Int) : QT24 := getO ZxU.dflt (ZEL c rg m ins k).val
def ZKT (c : TC) (rg : List (QT8)) (m : List (Int × Int)) (ins : List Int) (k : Int) : Bool := okB (ZEL c rg m ins k).val
def iRunE : Entry := Zm ZEK ZxU (fun a => some (ZKT a.1 a.2.1 a.2.2.1 a.2.2.2.1 a.2.2.2.2)) (fun a => iRun a.1 a.2.1 a.2.2.1 a.2.2.2.1 a.2.2.2.2)
theorem ZKR : Zb Tryz.prog 33 iRunE :=
 pureP 32767 [(93, ZbR), (94, Zn1)] [(0, ZEN)] ZEK ZxU ⟨Zde, ZqU, trivial⟩ Tryz.func33 Tryz.call33 ⟨ZEM, trivial⟩ (t := fun a => ZEL a.1 a.2.1 a.2.2.1 a.2.2.2.1 a.2.2.2.2) (fun a => by kernel_rfl)
abbrev ZEv : List Sh := [Sh.one (R.sl (R.pair (R.int u8) (R.int u8))), Sh.one (R.sl (R.pair (R.int u8) (R.int u8)))]
abbrev ZvE : Rs := Rs.one (Sh.one R.bool)
def ZHf : LS := { n := 26, slots := [(0, .code (Sh.one (R.sl (R.pair (R.int u8) (R.int u8))))), (1, .code (Sh.one (R.sl (R.pair (R.int u8) (R.int u8))))), (4, .code (Sh.one R.bool)), (12, .code (Sh.one (R.int i64))), (13, .code (Sh.one (R.int i64)))], boxes := [], stgs := [] }
def ZxR (a : List (Int × Int) × List (Int × Int) × Bool × Int × Int × PUnit) : RT (Option (Go1 (List (Int × Int) × List (Int × Int) × Bool × Int × Int × PUnit))) :=
 let x1 := !Zf a.2.2.2.2.1 (List.length a.1) || Zf a.2.2.2.2.1 (List.length a.2.1)
 let x2 : Int × Int := R.get (R.pair (R.int u8) (R.int u8)) a.1 a.2.2.2.2.1
 let x3 : Int × Int := R.get (R.pair (R.int u8) (R.int u8)) a.2.1 a.2.2.2.2.1
 let x4 : Int × Int × PUnit := (a.2.2.2.1, a.2.2.2.2.1, PUnit.unit)
 .br (decide (a.2.2.2.2.1 < a.2.2.2.1)) (.br (!x1 || Zf a.2.2.2.2.1 (List.length a.1)) (.br (x1) (.br (!(x2.1 == x3.1 && (x2.2 == x3.2 && true))) (.leaf (some (Go1.ret (a.1, a.2.1, false, x4)))) (.leaf (some (Go1.cont (a.1, a.2.1, a.2.2.1, a.2.2.2.1, i64.wrap (a.2.2.2.2.1 + 1), PUnit.unit))))) (.leaf none)) (.leaf none)) (.leaf (some (Go1.brk (a.1, a.2.1, a.2.2.1, x4))))
def ZxS : Ora := Zbq true ZHf ZxR (fun a => 1000000000000)
theorem Zz5 : Za5 (envX Tryz.prog [] [] 63 8) (.block 0 (.loop (Z5 Tryz.f40.body 0))) ZxS :=
 Zw (ZB (l := []) trivial [] 63 8) (Zn (by kernel_rfl)) (fun a => by kernel_rfl)
def ZEw (a : List (Int × Int)) (b : List (Int × Int)) : RT (Option (Bool)) :=
 let x1 := runF true ZxR (fun a_1 => 1000000000000) (a, b, false, iN (List.length a), 0, ())
 let x2 := getO (false, a, b, false, iN (List.length a), 0, ()) x1
 .br (iN (List.length a) != iN (List.length b)) (.leaf (some (false))) (.br (okB x1) (.br x2.1 (.leaf (some x2.2.2.2.1)) (.leaf (some (true)))) (.leaf none))
def jOuts (a : List (Int × Int)) (b : List (Int × Int)) : Bool := getO ZvE.dflt (ZEw a b).val
def ZIV (a : List (Int × Int)) (b : List (Int × Int)) : Bool := okB (ZEw a b).val
def ZIU : Entry := Zm ZEv ZvE (fun a => some (ZIV a.1 a.2)) (fun a => jOuts a.1 a.2)
theorem ZHe : Zb Tryz.prog 40 ZIU :=
 pureP 63 [] [(0, ZxS)] ZEv ZvE trivial Tryz.func40 Tryz.call40 ⟨Zz5, trivial⟩ (t := fun a => ZEw a.1 a.2) (fun a => by kernel_rfl)
end
end Go.Proofs.YtghoimllhpjkjaaGreat
open Go Go.S3 Go.Proofs Go.Proofs.Cells
namespace Go.Proofs.YtghoimllhpjkjaaGreat
noncomputable section
abbrev MacT := List ZK × List Cell × List Int × List (Int × Int)
def doX (x : Cyc) (m : MacT) : Int × MacT :=
 bif x.1 == 1 || (x.1 == 2 || x.1 == 4) then (Zi9 m.1 m.2.1 x.2.1, m)
 else bif x.1 == 3 || x.1 == 5 then (x.2.2.1, (m.1, Zb5 m.1 m.2.1 x.2.1 x.2.2.1, m.2.2))
 else bif x.1 == 7 then (x.2.2.1, (m.1, m.2.1, m.2.2.1, m.2.2.2 ++ [(IntKind.wrap .u8 x.2.1, x.2.2.1)]))
 else bif x.1 == 6 || (x.1 == 8 || x.1 == 9) then (m.2.2.1.getD 0 0, (m.1, m.2.1, m.2.2.1.drop 1, m.2.2.2))
 else (0, m)
def goX (c : CpuT) (s : Int) : Nat → List Int → MacT → List Int × MacT
 | 0, g, m => (g, m)
 | n + 1, g, m => bif (Zi c s g).2 then goX c s n (g ++ [(doX (Zi c s g).1 m).1]) (doX (Zi c s g).1 m).2 else (g, m)
def Zg6 (c : CpuT) (s : Int) (l : LnT) (m : MacT) : CpuT × MacT × List Int :=
 (finX (Za8 c s) s (goX (Za8 c s) s 6 [] m).1 l, (goX (Za8 c s) s 6 [] m).2, (goX (Za8 c s) s 6 [] m).1)
def noL : LnT := (false, false, false, false, false, false, false, false, false)
def runX : Nat → CpuT → MacT → Int → CpuT × MacT × Int
 | 0, c, m, u => (c, m, u)
 | n + 1, c, m, u => bif c.2.2.2.2.1 then (c, m, u) else runX n (Zg6 c 0 noL m).1 (Zg6 c 0 noL m).2.1 (u + 1)
theorem cle {b : Bool} {x y : List Cyc} {n : Nat} (hx : x.length ≤ n) (hy : y.length ≤ n) : (bif b then x else y).length ≤ n := by cases b <;> assumption
theorem ZHI (c : CpuT) (inj : Bool) (g : List Int) (i : InsT) : (ZgW c inj g i).length ≤ 4 := by
 unfold ZgW
 simp only [ZbK, Zf4, Zdk, ZbI, popX]
 repeat' apply cle
 all_goals first
  | (simp only [List.length_cons, List.length_nil, List.length_append]; omega)
  | (cases i.2.2.1 == 6 <;> cases ZaS c i <;> cases c.1 == 2 <;> simp; done)
  | skip
theorem ZGl (c : CpuT) (s : Int) (g : List Int) : (Zgm c s g).length ≤ 5 := by
 have h := fun o => ZHI c (s == 5) g (Zc c.1 o)
 unfold Zgm
 cases g with
 | nil => exact cle (by simp [ZbI]) (by simp)
 | cons o l => exact cle (by simp [ZbI]) (by simpa using h o)
theorem Zxx (c : CpuT) (s : Int) (g : List Int) (h : 5 ≤ g.length) : (Zi c s g).2 = false := by
 have hp := ZGl c s g
 unfold Zi
 simp [pick]; omega
theorem ZAm (l : List ZK) (m : List Cell) (t v : Int) : Vld (Zb5 l m t v) := by
 unfold Zb5
 cases decide (Zaq l t ≥ 0) && (R.get GR l (Zaq l t)).2.2.1
 ·exact Zc5 m
 ·exact Zn5 (Zc5 m)
theorem ZAn (l : List ZK) (m : List Cell) (t v : Int) : (Zb5 l m t v).length ≤ m.length + 1 := by
 have h := Zc6 m
 unfold Zb5
 cases decide (Zaq l t ≥ 0) && (R.get GR l (Zaq l t)).2.2.1
 ·exact Nat.le_trans h (Nat.le_succ _)
 ·exact Nat.le_trans (Zn7 _ _) (by omega)
theorem Zx7 (x : Cyc) (m : MacT) : (doX x m).2.1 = m.1 ∧ (Vld m.2.1 → Vld (doX x m).2.2.1) ∧ (doX x m).2.2.1.length ≤ m.2.1.length + 1 ∧
  (doX x m).2.2.2.1.length ≤ m.2.2.1.length ∧ (doX x m).2.2.2.2.length ≤ m.2.2.2.length + 1 := by
 unfold doX
 have hl := ZAn m.1 m.2.1 x.2.1 x.2.2.1
 have hv := ZAm m.1 m.2.1 x.2.1 x.2.2.1
 cases x.1 == 1 || (x.1 == 2 || x.1 == 4)
 ·cases x.1 == 3 || x.1 == 5
  ·cases x.1 == 7
   ·cases x.1 == 6 || (x.1 == 8 || x.1 == 9)
    ·exact ⟨rfl, id, by simp, by simp, by simp⟩
    ·exact ⟨rfl, id, by simp, by simp, by simp⟩
   ·exact ⟨rfl, id, by simp, by simp, by simp⟩
  ·exact ⟨rfl, fun _ => hv, hl, by simp, by simp⟩
 ·exact ⟨rfl, id, by simp, by simp, by simp⟩
def pre (o : List (Int × Int)) (m : MacT) : MacT := (m.1, m.2.1, m.2.2.1, o ++ m.2.2.2)
theorem ZFO (n : Nat) (c : CpuT) (m : MacT) (u : Int) : runX (n + 1) c m u = bif c.2.2.2.2.1 then (c, m, u) else runX n (Zg6 c 0 noL m).1 (Zg6 c 0 noL m).2.1 (u + 1) := rfl
theorem ZEQ (c : CpuT) (s : Int) : ∀ (n : Nat) (g : List Int) (m : MacT), (goX c s n g m).2.1 = m.1 ∧ (Vld m.2.1 → Vld (goX c s n g m).2.2.1) ∧ (goX c s n g m).2.2.1.length ≤ m.2.1.length + n ∧
  (goX c s n g m).2.2.2.1.length ≤ m.2.2.1.length ∧ (goX c s n g m).2.2.2.2.length ≤ m.2.2.2.length + n
 | 0, g, m => ⟨rfl, id, Nat.le_refl _, Nat.le_refl _, Nat.le_refl _⟩
 | n + 1, g, m => by
  unfold goX
  cases (Zi c s g).2
  ·exact ⟨rfl, id, Nat.le_add_right _ _, Nat.le_refl _, Nat.le_add_right _ _⟩
  ·have h1 := Zx7 (Zi c s g).1 m
   have h2 := ZEQ c s n (g ++ [(doX (Zi c s g).1 m).1]) (doX (Zi c s g).1 m).2
   exact ⟨h2.1.trans h1.1, fun h => h2.2.1 (h1.2.1 h), Nat.le_trans h2.2.2.1 (by omega), Nat.le_trans h2.2.2.2.1 h1.2.2.2.1, Nat.le_trans h2.2.2.2.2 (by omega)⟩
def hits (c : CpuT) (s t : Int) (g : List Int) : Bool := (Zi c s g).2 && ((Zi c s g).1.2.1 == t && ((Zi c s g).1.1 == 3 || (Zi c s g).1.1 == 5))
theorem ZAo (l : List ZK) (m : List Cell) (t v q : Int) : getX (Zb5 l m t v) q = if (decide (Zaq l t ≥ 0) && (R.get GR l (Zaq l t)).2.2.1) = true ∧ t = q then v else getX m q := by
 unfold Zb5
 cases decide (Zaq l t ≥ 0) && (R.get GR l (Zaq l t)).2.2.1
 ·simp [Zgu]
 ·simp only [cond_true]; rw [Zn8 (Zc5 m)]; simp [Zgu]
theorem ZMF (x : Cyc) (m : MacT) (q : Int) (h : ((x.2.1 == q && (x.1 == 3 || x.1 == 5)) = false) ∨ (decide (Zaq m.1 q ≥ 0) && (R.get GR m.1 (Zaq m.1 q)).2.2.1) = false) : getX (doX x m).2.2.1 q = getX m.2.1 q := by
 unfold doX
 cases h1 : x.1 == 1 || (x.1 == 2 || x.1 == 4)
 ·cases h2 : x.1 == 3 || x.1 == 5
  ·cases x.1 == 7
   ·cases x.1 == 6 || (x.1 == 8 || x.1 == 9) <;> rfl
   ·rfl
  ·simp only [cond_true, cond_false]
   rw [ZAo]
   rw [h2, Bool.and_true] at h
   refine if_neg fun h3 => ?_
   rcases h with h | h
   ·simp [h3.2] at h
   ·rw [← h3.2, h3.1] at h; simp at h
 ·rfl
theorem ZI0 (c : CpuT) (s q : Int) : ∀ (n : Nat) (g : List Int) (m : MacT),
  (∀ i : Nat, g.length ≤ i → i < (goX c s n g m).1.length → hits c s q ((goX c s n g m).1.take i) = false) ∨ (decide (Zaq m.1 q ≥ 0) && (R.get GR m.1 (Zaq m.1 q)).2.2.1) = false →
  getX (goX c s n g m).2.2.1 q = getX m.2.1 q
 | 0, g, m => fun _ => rfl
 | n + 1, g, m => by
  have hp : ∀ (n : Nat) (g : List Int) (m : MacT), g <+: (goX c s n g m).1 := by
   intro n
   induction n with
   | zero => exact fun g m => List.prefix_refl g
   | succ n ih =>
    intro g m
    unfold goX
    cases (Zi c s g).2
    ·exact List.prefix_refl g
    ·exact (List.prefix_append g _).trans (ih _ _)
  have h0 := hp (n + 1) g m
  unfold goX at h0 ⊢
  cases hn : (Zi c s g).2
  ·exact fun _ => rfl
  ·simp only [hn, cond_true] at h0 ⊢
   intro h
   have h1 := Zx7 (Zi c s g).1 m
   have h2 := ZI0 c s q n (g ++ [(doX (Zi c s g).1 m).1]) (doX (Zi c s g).1 m).2
   have hq := hp n (g ++ [(doX (Zi c s g).1 m).1]) (doX (Zi c s g).1 m).2
   rw [h2, ZMF]
   ·rcases h with h | h
    ·left
     have hlt : g.length < (goX c s n (g ++ [(doX (Zi c s g).1 m).1]) (doX (Zi c s g).1 m).2).1.length := by
      have := hq.length_le; simp at this; omega
     have := h g.length (Nat.le_refl _) hlt
     rw [← List.prefix_iff_eq_take.1 h0] at this
     simpa [hits, hn] using this
    ·exact .inr h
   ·rw [h1.1]
    rcases h with h | h
    ·left
     exact fun i hi hi2 => h i (by simp at hi; omega) hi2
    ·exact .inr h
theorem cor (a b : Bool) : (bif a then a else b) = (a || b) := by cases a <;> rfl
theorem ZIX (l : List Int) : (iN l.length == 0 || Zf 0 l.length) = true := by
 cases l with
 | nil => rfl
 | cons x l => simp [iN, Zf]
theorem ZEy (l : List Int) : (iN l.length == 0 || (!Zf 0 l.length || decide (0 ≤ 1) && decide (1 ≤ iN l.length) && (decide (iN l.length = 0) || decide (iN l.length ≤ iN l.length)))) = true := by
 cases l with
 | nil => rfl
 | cons x l => simp [iN, Zf]; omega
theorem ZEz (l g : List Int) : (bif iN l.length == 0 then g ++ [0] else g ++ [R.get (R.int .u8) l 0]) = g ++ [l.getD 0 0] := by
 cases l with
 | nil => rfl
 | cons x l =>
  have : (iN (x :: l).length == 0) = false := by simp [iN]; omega
  rw [this]; rfl
theorem ZIW (l : List Int) : (bif iN l.length == 0 then l else subL l 1 (iN l.length)) = l.drop 1 := by
 cases l with
 | nil => rfl
 | cons x l =>
  have : (iN (x :: l).length == 0) = false := by simp [iN]; omega
  rw [this]
  simp [subL, iN]
theorem ZgI (c : CpuT) (s : Int) (n : Nat) (g : List Int) (m : MacT) : goX c s (n + 1) g m = bif (Zi c s g).2 then goX c s n (g ++ [(doX (Zi c s g).1 m).1]) (doX (Zi c s g).1 m).2 else (g, m) := rfl
structure Rm (rg : List ZK) (m : List Cell) (outs : List (Int × Int)) (g : List Int) : Prop where
 r : smG rg = true
 m : smC m = true
 o : ∀ x, Nat.ble (outs ++ [x]).length most = true
 g : ∀ x, Nat.ble (g ++ [x]).length most = true
theorem ZKV (s g0 c0 l0 cz rg m ins c l cz2 outs g) (h : Rm rg m outs g) :
  (ZdF (s, g0, c0, l0, cz, rg, m, ins, c, l, cz2, outs, g, ())).val = some (bif (Zi c s g).2 then
   Go1.cont (s, g0, c0, l0, cz, rg, (doX (Zi c s g).1 (rg, m, ins, outs)).2.2.1, (doX (Zi c s g).1 (rg, m, ins, outs)).2.2.2.1, c, l, cz2, (doX (Zi c s g).1 (rg, m, ins, outs)).2.2.2.2, g ++ [(doX (Zi c s g).1 (rg, m, ins, outs)).1], ())
   else Go1.ret (s, g, c0, l0, cz, rg, m, ins, c, l, finX c s g l, outs, g, ())) := by
 have i1 := ZIX ins
 have i2 := ZEy ins
 have i3 := ZEz ins g
 have i4 := ZIW ins
 simp only [ZdF, RT.val, cor, h.r, h.m, h.o, h.g, i1, i2, Bool.or_true, Bool.true_or, Bool.not_true, Bool.false_or, Bool.or_false, Bool.and_self, cond_true]
 cases (Zi c s g).2
 ·rfl
 ·simp only [Bool.not_true, cond_false, cond_true, i3, i4]
  unfold doX
  generalize (Zi c s g).1 = x
  cases x.1 == 1 || (x.1 == 2 || x.1 == 4)
  ·cases x.1 == 3 || x.1 == 5
   ·cases x.1 == 7
    ·cases x.1 == 6 || (x.1 == 8 || x.1 == 9) <;> rfl
    ·rfl
   ·rfl
  ·rfl
theorem ZKU (s g0 c0 cz rg m ins c l cz2 outs g) (h : Rm rg m outs g) :
  (ZdE (s, g0, c0, cz, rg, m, ins, c, l, cz2, outs, g, ())).val = some (bif (Zi c s g).2 then
   Go1.cont (s, g0, c0, cz, rg, (doX (Zi c s g).1 (rg, m, ins, outs)).2.2.1, (doX (Zi c s g).1 (rg, m, ins, outs)).2.2.2.1, c, l, cz2, (doX (Zi c s g).1 (rg, m, ins, outs)).2.2.2.2, g ++ [(doX (Zi c s g).1 (rg, m, ins, outs)).1], ())
   else Go1.ret (s, g, c0, cz, rg, m, ins, c, l, finX c s g l, outs, g, ())) := by
 have i1 := ZIX ins
 have i2 := ZEy ins
 have i3 := ZEz ins g
 have i4 := ZIW ins
 simp only [ZdE, RT.val, cor, h.r, h.m, h.o, h.g, i1, i2, Bool.or_true, Bool.true_or, Bool.not_true, Bool.false_or, Bool.or_false, Bool.and_self, cond_true]
 cases (Zi c s g).2
 ·rfl
 ·simp only [Bool.not_true, cond_false, cond_true, i3, i4]
  unfold doX
  generalize (Zi c s g).1 = x
  cases x.1 == 1 || (x.1 == 2 || x.1 == 4)
  ·cases x.1 == 3 || x.1 == 5
   ·cases x.1 == 7
    ·cases x.1 == 6 || (x.1 == 8 || x.1 == 9) <;> rfl
    ·rfl
   ·rfl
  ·rfl
def ZlG (a : Int × List Int × CpuT × LnT × CpuT × List ZK × List Cell × List Int × CpuT × LnT × CpuT × List (Int × Int) × List Int × PUnit) : List Int := a.2.2.2.2.2.2.2.2.2.2.2.2.1
theorem ZMz (A : List Int × CpuT × LnT × CpuT × CpuT) (c : CpuT) (s : Int) (l : LnT) (M0 : MacT) (hr : smG M0.1 = true) (hm : M0.2.1.length + 20 ≤ most) (ho : M0.2.2.2.length + 20 ≤ most) :
  ∃ r, runF true ZdF (fun _ => 100) (s, A.1, A.2.1, A.2.2.1, A.2.2.2.1, M0.1, M0.2.1, M0.2.2.1, c, l, A.2.2.2.2, M0.2.2.2, [], ()) = some r ∧ r = (true, s, (goX c s 6 [] M0).1, A.2.1, A.2.2.1, A.2.2.2.1, M0.1, (goX c s 6 [] M0).2.2.1, (goX c s 6 [] M0).2.2.2.1, c, l, finX c s (goX c s 6 [] M0).1 l, (goX c s 6 [] M0).2.2.2.2, (goX c s 6 [] M0).1, ()) := by
 have hms := mst
 obtain ⟨r, h1, h2⟩ := ZX (fl := true) (t := ZdF) (fuel := fun _ => 100)
  (fun a => ∃ (g : List Int) (M : MacT), a = (s, A.1, A.2.1, A.2.2.1, A.2.2.2.1, M0.1, M.2.1, M.2.2.1, c, l, A.2.2.2.2, M.2.2.2, g, ()) ∧ M.1 = M0.1 ∧ g.length ≤ 5 ∧ goX c s (6 - g.length) g M = goX c s 6 [] M0 ∧ M.2.1.length ≤ M0.2.1.length + g.length ∧ M.2.2.2.length ≤ M0.2.2.2.length + g.length)
  (fun a => 6 - (ZlG a).length) (fun r => r = (true, s, (goX c s 6 [] M0).1, A.2.1, A.2.2.1, A.2.2.2.1, M0.1, (goX c s 6 [] M0).2.2.1, (goX c s 6 [] M0).2.2.2.1, c, l, finX c s (goX c s 6 [] M0).1 l, (goX c s 6 [] M0).2.2.2.2, (goX c s 6 [] M0).1, ()))
  (by
   rintro a ⟨g, M, rfl, hM, hg, hR, hl, hq⟩
   have rm : Rm M0.1 M.2.1 M.2.2.2 g := ⟨hr, by rw [show smC M.2.1 = sm M.2.1 from rfl, Zf0]; omega, fun x => by rw [Nat.ble_eq]; simp; omega, fun x => by rw [Nat.ble_eq]; simp; omega⟩
   have hs := ZKV s A.1 A.2.1 A.2.2.1 A.2.2.2.1 M0.1 M.2.1 M.2.2.1 c l A.2.2.2.2 M.2.2.2 g rm
   have e6 : 6 - g.length = (5 - g.length) + 1 := by omega
   rw [e6] at hR
   have hMe : M = (M0.1, M.2.1, M.2.2.1, M.2.2.2) := by rw [← hM]
   cases hn : (Zi c s g).2
   ·right; right
    rw [hn, cond_false] at hs
    refine ⟨_, rfl, hs, ?_⟩
    rw [ZgI c s (5 - g.length) g M, hn, cond_false] at hR
    rw [← hR]
   ·left
    rw [hn, cond_true, ← hMe] at hs
    have h5 : g.length < 5 := by
     refine Nat.lt_of_not_le fun h => ?_
     rw [Zxx c s g h] at hn; simp at hn
    have hd := Zx7 (Zi c s g).1 M
    rw [ZgI c s (5 - g.length) g M, hn, cond_true] at hR
    refine ⟨_, hs, ⟨g ++ [(doX (Zi c s g).1 M).1], (doX (Zi c s g).1 M).2, rfl, hd.1.trans hM, by simp; omega, ?_, ?_, ?_⟩, ?_⟩
    ·rw [show 6 - (g ++ [(doX (Zi c s g).1 M).1]).length = 5 - g.length by simp only [List.length_append, List.length_singleton]; omega]; exact hR
    ·have := hd.2.2.1; simp; omega
    ·have := hd.2.2.2.2; simp; omega
    ·simp [ZlG]; omega)
  (s, A.1, A.2.1, A.2.2.1, A.2.2.2.1, M0.1, M0.2.1, M0.2.2.1, c, l, A.2.2.2.2, M0.2.2.2, [], ()) ⟨[], M0, rfl, rfl, by simp, rfl, by simp, by simp⟩ (by simp [ZlG])
 exact ⟨r, h1, h2⟩
def ZlF (a : Int × List Int × CpuT × CpuT × List ZK × List Cell × List Int × CpuT × LnT × CpuT × List (Int × Int) × List Int × PUnit) : List Int := a.2.2.2.2.2.2.2.2.2.2.2.1
theorem ZMy (A : List Int × CpuT × CpuT × CpuT) (c : CpuT) (s : Int) (l : LnT) (M0 : MacT) (hr : smG M0.1 = true) (hm : M0.2.1.length + 20 ≤ most) (ho : M0.2.2.2.length + 20 ≤ most) :
  ∃ r, runF true ZdE (fun _ => 100) (s, A.1, A.2.1, A.2.2.1, M0.1, M0.2.1, M0.2.2.1, c, l, A.2.2.2, M0.2.2.2, [], ()) = some r ∧ r = (true, s, (goX c s 6 [] M0).1, A.2.1, A.2.2.1, M0.1, (goX c s 6 [] M0).2.2.1, (goX c s 6 [] M0).2.2.2.1, c, l, finX c s (goX c s 6 [] M0).1 l, (goX c s 6 [] M0).2.2.2.2, (goX c s 6 [] M0).1, ()) := by
 have hms := mst
 obtain ⟨r, h1, h2⟩ := ZX (fl := true) (t := ZdE) (fuel := fun _ => 100)
  (fun a => ∃ (g : List Int) (M : MacT), a = (s, A.1, A.2.1, A.2.2.1, M0.1, M.2.1, M.2.2.1, c, l, A.2.2.2, M.2.2.2, g, ()) ∧ M.1 = M0.1 ∧ g.length ≤ 5 ∧ goX c s (6 - g.length) g M = goX c s 6 [] M0 ∧ M.2.1.length ≤ M0.2.1.length + g.length ∧ M.2.2.2.length ≤ M0.2.2.2.length + g.length)
  (fun a => 6 - (ZlF a).length) (fun r => r = (true, s, (goX c s 6 [] M0).1, A.2.1, A.2.2.1, M0.1, (goX c s 6 [] M0).2.2.1, (goX c s 6 [] M0).2.2.2.1, c, l, finX c s (goX c s 6 [] M0).1 l, (goX c s 6 [] M0).2.2.2.2, (goX c s 6 [] M0).1, ()))
  (by
   rintro a ⟨g, M, rfl, hM, hg, hR, hl, hq⟩
   have rm : Rm M0.1 M.2.1 M.2.2.2 g := ⟨hr, by rw [show smC M.2.1 = sm M.2.1 from rfl, Zf0]; omega, fun x => by rw [Nat.ble_eq]; simp; omega, fun x => by rw [Nat.ble_eq]; simp; omega⟩
   have hs := ZKU s A.1 A.2.1 A.2.2.1 M0.1 M.2.1 M.2.2.1 c l A.2.2.2 M.2.2.2 g rm
   have e6 : 6 - g.length = (5 - g.length) + 1 := by omega
   rw [e6] at hR
   have hMe : M = (M0.1, M.2.1, M.2.2.1, M.2.2.2) := by rw [← hM]
   cases hn : (Zi c s g).2
   ·right; right
    rw [hn, cond_false] at hs
    refine ⟨_, rfl, hs, ?_⟩
    rw [ZgI c s (5 - g.length) g M, hn, cond_false] at hR
    rw [← hR]
   ·left
    rw [hn, cond_true, ← hMe] at hs
    have h5 : g.length < 5 := by
     refine Nat.lt_of_not_le fun h => ?_
     rw [Zxx c s g h] at hn; simp at hn
    have hd := Zx7 (Zi c s g).1 M
    rw [ZgI c s (5 - g.length) g M, hn, cond_true] at hR
    refine ⟨_, hs, ⟨g ++ [(doX (Zi c s g).1 M).1], (doX (Zi c s g).1 M).2, rfl, hd.1.trans hM, by simp; omega, ?_, ?_, ?_⟩, ?_⟩
    ·rw [show 6 - (g ++ [(doX (Zi c s g).1 M).1]).length = 5 - g.length by simp only [List.length_append, List.length_singleton]; omega]; exact hR
    ·have := hd.2.2.1; simp; omega
    ·have := hd.2.2.2.2; simp; omega
    ·simp [ZlF]; omega)
  (s, A.1, A.2.1, A.2.2.1, M0.1, M0.2.1, M0.2.2.1, c, l, A.2.2.2, M0.2.2.2, [], ()) ⟨[], M0, rfl, rfl, by simp, rfl, by simp, by simp⟩ (by simp [ZlF])
 exact ⟨r, h1, h2⟩
def czX : CpuT := (0, (0, 0, 0, 0, 0, 0, 0, (false, false, false, false, false, false, false), 0, 0), false, false, false, 0, false, false, false, false, false, false, false)
def Zcz (rg : List ZK) (m : List Cell) (ins : List Int) : MacT := (rg, normX m, ins, [])
def ZfC (c : CpuT) (rg : List ZK) (m : List Cell) (s : Int) (ins : List Int) (l : LnT) : CpuT × List Cell × List (Int × Int) × List Int :=
 let r := Zg6 c s l (Zcz rg m ins)
 (r.1, r.2.1.2.1, r.2.1.2.2.2, r.2.2)
theorem ZMw (c : CpuT) (rg : List ZK) (m : List Cell) (s : Int) (ins : List Int) (l : LnT) (hr : smG rg = true) (hm : m.length + 20 ≤ most) :
  ZEJ c rg m s ins l = true ∧ ZKQ c rg m s ins l = ZfC c rg m s ins l := by
 have hms := mst
 have hl := Zc6 m
 have hs : smC m = true := by show sm m = true; rw [Zf0]; omega
 obtain ⟨r, h1, h2⟩ := ZMz ([], c, l, czX, czX) (Za8 c s) s l (Zcz rg m ins) hr (by show (normX m).length + 20 ≤ most; omega) (by show 0 + 20 ≤ most; omega)
 subst h2
 simp only [Zcz, czX] at h1
 have hv : (ZrW c rg m s ins l).val = some (ZfC c rg m s ins l) := by
  simp only [ZrW, RT.val, hs, h1, okB, getO, cond_true]
  rfl
 exact ⟨by simp only [ZEJ, hv]; rfl, by simp only [ZKQ, hv, getO]⟩
def limK (k : Int) : Int := if 10000 < k then 10000 else k
def runR (c : CpuT) (rg : List ZK) (m : List Cell) (ins : List Int) (k : Int) : CpuT × List Cell × List (Int × Int) × Int :=
 let r := runX (limK k).toNat c (Zcz rg m ins) 0
 (r.1, r.2.1.2.1, r.2.1.2.2.2, r.2.2)
theorem i_run (c : CpuT) (rg : List ZK) (m : List Cell) (ins : List Int) (k : Int) (hr : smG rg = true) (hm : m.length + 100000 ≤ most) :
  ZKT c rg m ins k = true ∧ iRun c rg m ins k = runR c rg m ins k := by
 have hms := mst
 have hl := Zc6 m
 have hs : smC m = true := by show sm m = true; rw [Zf0]; omega
 have hk : (limK k).toNat ≤ 10000 := by unfold limK; split <;> omega
 obtain ⟨r, h1, h2⟩ := ZX (fl := false) (t := Zhy) (fuel := fun _ => 20000)
  (fun a => ∃ (n : Nat) (c' : CpuT) (M : MacT) (u : Nat), a = (k, (u : Int), c', czX, rg, M.2.1, M.2.2.1, M.2.2.2, ()) ∧ M.1 = rg ∧ n + u = (limK k).toNat ∧ runX n c' M u = runX (limK k).toNat c (Zcz rg m ins) 0 ∧ M.2.1.length ≤ m.length + 6 * u ∧ M.2.2.2.length ≤ 6 * u)
  (fun a => 10001 - Int.toNat a.2.1) (fun r => ∃ rest, r = (false, (k, (runX (limK k).toNat c (Zcz rg m ins) 0).2.2, (runX (limK k).toNat c (Zcz rg m ins) 0).1, czX, rg, (runX (limK k).toNat c (Zcz rg m ins) 0).2.1.2.1, rest, (runX (limK k).toNat c (Zcz rg m ins) 0).2.1.2.2.2, ())))
  (by
   rintro a ⟨n, c', M, u, rfl, hM, hn, hR, hq1, hq2⟩
   have hMe : M = (rg, M.2.1, M.2.2.1, M.2.2.2) := by rw [← hM]
   have hlt : decide ((u : Int) < limK k) = decide (0 < n) := by
    by_cases h0 : 0 < n
    ·rw [decide_eq_true h0, decide_eq_true]; omega
    ·rw [decide_eq_false h0, decide_eq_false]; omega
   cases n with
   | zero =>
    right; left
    refine ⟨(k, (u : Int), c', czX, rg, M.2.1, M.2.2.1, M.2.2.2, ()), ?_, M.2.2.1, ?_⟩
    ·have : (decide ((u : Int) < if 10000 < k then 10000 else k) && !c'.2.2.2.2.1) = false := by
      show (decide ((u : Int) < limK k) && _) = false
      rw [hlt]; rfl
     simp only [Zhy, RT.val, this, cond_false]
    ·rw [← hR]; rfl
   | succ n =>
    rw [ZFO] at hR
    cases hh : c'.2.2.2.2.1 with
    | true =>
     right; left
     refine ⟨(k, (u : Int), c', czX, rg, M.2.1, M.2.2.1, M.2.2.2, ()), ?_, M.2.2.1, ?_⟩
     ·have : (decide ((u : Int) < if 10000 < k then 10000 else k) && !c'.2.2.2.2.1) = false := by rw [hh]; simp
      simp only [Zhy, RT.val, this, cond_false]
     ·rw [hh, cond_true] at hR
      rw [← hR]
    | false =>
     left
     rw [hh, cond_false] at hR
     obtain ⟨r, h1, h2⟩ := ZMy ([], c', czX, czX) (Za8 c' 0) 0 noL M (by rw [hM]; exact hr) (by omega) (by omega)
     subst h2
     rw [hM] at h1
     simp only [noL, czX] at h1
     have hc : (decide ((u : Int) < if 10000 < k then 10000 else k) && !c'.2.2.2.2.1) = true := by
      show (decide ((u : Int) < limK k) && _) = true
      rw [hlt, hh]; simp
     have gi := ZEQ (Za8 c' 0) 0 6 [] M
     refine ⟨(k, ((u + 1 : Nat) : Int), (Zg6 c' 0 noL M).1, czX, rg, (Zg6 c' 0 noL M).2.1.2.1, (Zg6 c' 0 noL M).2.1.2.2.1, (Zg6 c' 0 noL M).2.1.2.2.2, ()), ?_, ⟨n, (Zg6 c' 0 noL M).1, (Zg6 c' 0 noL M).2.1, u + 1, rfl, ?_, by omega, ?_, ?_, ?_⟩, ?_⟩
     ·simp only [Zhy, RT.val, hc, czX, h1, okB, getO, cond_true]
      rw [Zfk u (by omega)]
      rfl
     ·exact gi.1.trans hM
     ·exact hR
     ·have := gi.2.2.1; simp only [Zg6]; omega
     ·have := gi.2.2.2.2; simp only [Zg6]; omega
     ·simp only; omega)
  (k, 0, c, czX, rg, normX m, ins, [], ()) ⟨(limK k).toNat, c, Zcz rg m ins, 0, rfl, rfl, by omega, rfl, by show (normX m).length ≤ _; omega, by simp [Zcz]⟩ (by simp)
 obtain ⟨rest, rfl⟩ := h2
 simp only [czX] at h1
 have hv : (ZEL c rg m ins k).val = some (runR c rg m ins k) := by
  simp only [ZEL, RT.val, hs, h1, okB, getO, cond_true]
  rfl
 exact ⟨by simp only [ZKT, hv]; rfl, by simp only [iRun, hv, getO]⟩
abbrev ZnF : R := R.pair (R.int u16) (R.int u8)
abbrev ZnG : Nat := 106
abbrev ZsM : List Sh := [Sh.one rcCE, Sh.agg (R.pair (R.int u16) (R.int u8))]
def ZFU : LS := { n := 53, slots := [(3, .fix (A.loc 0 0)), (5, .tip 0), (6, .code (Sh.one R.bool)), (9, .code (Sh.one rcCE)), (10, .code (Sh.one (R.int i64))), (11, .code (Sh.one (R.int i64)))], boxes := [[.many (R.pair (R.int u16) (R.int u8))]], stgs := [⟨(R.pair (R.int u16) (R.int u8)), 106, false⟩] }
def Zwp (a : QT7) : RT (Option (Go1 (QT7))) :=
 let x1 : Int × Int := R.get (R.pair (R.int u16) (R.int u8)) a.2.1 a.2.2.2.1
 let x2 := x1.1
 let x3 := !a.1 && decide (x2 ≥ a.2.2.2.2.1.1)
 let x4 : List (Int × Int) := a.2.2.2.2.2.1 ++ [a.2.2.2.2.1]
 let x5 := !x3 || (!a.2.2.2.2.1.2 != 0 || Nat.ble (List.length x4) most)
 let x6 := x2 != a.2.2.2.2.1.1
 let x7 : List (Int × Int) := bif x3 then bif a.2.2.2.2.1.2 != 0 then x4 else a.2.2.2.2.2.1 else a.2.2.2.2.2.1
 let x8 : List (Int × Int) := x7 ++ [x1]
 .br (decide (a.2.2.2.1 < a.2.2.1)) (.br (!Zf a.2.2.2.1 (List.length a.2.1) || (!x5 || (!x6 || Nat.ble (List.length x8) most))) (.br (!Zf a.2.2.2.1 (List.length a.2.1) || x5) (.br (Zf a.2.2.2.1 (List.length a.2.1)) (.leaf (some (Go1.cont (x3 || a.1, a.2.1, a.2.2.1, i64.wrap (a.2.2.2.1 + 1), a.2.2.2.2.1, bif x6 then x8 else x7, PUnit.unit)))) (.leaf none)) (.leaf none)) (.leaf none)) (.leaf (some (Go1.brk (a.1, a.2.1, a.2.2.1, a.2.2.2.1, a.2.2.2.2.1, a.2.2.2.2.2.1, PUnit.unit))))
def Zwq : Ora := Zbq false ZFU Zwp (fun a => 1000000000000)
theorem Zyo : Za5 (envX Tryz.prog [] [] 511 8) (.block 0 (.loop (Z5 Tryz.f149.body 0))) Zwq :=
 Zw (ZB (l := []) trivial [] 511 8) (Zn (by kernel_rfl)) (fun a => by kernel_rfl)
def Zwo (m : List (Int × Int)) (c : Int × Int) : RT (Option (List (Int × Int))) :=
 let x1 : QT7 := (false, m, iN (List.length m), 0, c, [], ())
 let x2 := runF false Zwp (fun a => 1000000000000) x1
 let x3 : QT7 := (getO (false, x1) x2).2
 let x4 := x3.2.2.2.2
 let x5 := x4.1
 let x6 := !x3.1 && x5.2 != 0
 let x7 := x4.2.1
 let x8 : List (Int × Int) := x7 ++ [x5]
 .br (okB x2) (.br (!x6 || Nat.ble (List.length x8) most) (.leaf (some (bif x6 then x8 else x7))) (.leaf none)) (.leaf none)
def ZFV (m : List (Int × Int)) (c : Int × Int) : List (Int × Int) := getO [] (Zwo m c).val
def Zws (m : List (Int × Int)) (c : Int × Int) : Bool := okB (Zwo m c).val
def Zwr : Entry := frzE (newE ZnF ZnG ZsM (fun a => some (Zws a.1 a.2)) (fun a => ZFV a.1 a.2))
theorem ZBr : Zb Tryz.prog 149 (newE ZnF ZnG ZsM (fun a => some (Zws a.1 a.2)) (fun a => ZFV a.1 a.2)) :=
 Zpq (P := Tryz.prog) (n := 511) (k := 8) (l := []) (ol := [(0, Zwq)]) trivial Tryz.func149 rfl (by kernel_rfl) Tryz.call149 ⟨Zyo, trivial⟩ (r := ZnF) (T := ZnG) (ts := ZsM) (t := fun a => Zwo a.1 a.2) (fun a => by kernel_rfl)
theorem Zwn : Zb Tryz.prog 149 Zwr := ZxW ZBr
abbrev Ziv : R := R.pair (R.int u16) (R.int u8)
abbrev Ziw : Nat := 106
abbrev ZnJ : List Sh := [Sh.one rcCE]
def ZBK : LS := { n := 21, slots := [(3, .tip 0), (10, .code (Sh.one rcCE)), (11, .code (Sh.one (R.int i64))), (12, .code (Sh.one (R.int i64)))], boxes := [], stgs := [⟨(R.pair (R.int u16) (R.int u8)), 106, false⟩] }
def Zey (a : List (Int × Int) × Int × Int × List (Int × Int) × PUnit) : RT (Option (Go1 (List (Int × Int) × Int × Int × List (Int × Int) × PUnit))) :=
 .br (decide (a.2.2.1 < a.2.1)) (.br (!Zf a.2.2.1 (List.length a.1) || Zws a.2.2.2.1 (R.get (R.pair (R.int u16) (R.int u8)) a.1 a.2.2.1)) (.br (Zf a.2.2.1 (List.length a.1)) (.leaf (some (Go1.cont (a.1, a.2.1, i64.wrap (a.2.2.1 + 1), Stg.l (newG ZnF ZnG (ZFV a.2.2.2.1 (R.get (R.pair (R.int u16) (R.int u8)) a.1 a.2.2.1))), PUnit.unit)))) (.leaf none)) (.leaf none)) (.leaf (some (Go1.brk (a.1, a.2.1, a.2.2.1, a.2.2.2.1, PUnit.unit))))
def ZqO : Ora := Zbq false ZBK Zey (fun a => 1000000000000)
theorem ZsU : Za5 (envX Tryz.prog [(44, ZdU), (149, Zwr)] [] 63 8) (.block 0 (.loop (Z5 Tryz.f92.body 0))) ZqO :=
 Zw (ZB (l := [(44, ZdU), (149, Zwr)]) ⟨Ze6, Zwn, trivial⟩ [] 63 8) (Zn (by kernel_rfl)) (fun a => by kernel_rfl)
def Zhc (l : List (Int × Int)) : RT (Option (List (Int × Int))) :=
 let x1 := runF false Zey (fun a => 1000000000000) (l, iN (List.length l), 0, [], ())
 .br (smC l) (.br (!vldB l || Nat.ble (List.length ([] ++ l)) most) (.br (vldB l) (.leaf (some ([] ++ l))) (.br (okB x1) (.leaf (some (getO (false, l, iN (List.length l), 0, [], ()) x1).2.2.2.2.1)) (.leaf none))) (.leaf none)) (.leaf none)
def ZqP (l : List (Int × Int)) : List (Int × Int) := getO [] (Zhc l).val
def Zjf (l : List (Int × Int)) : Bool := okB (Zhc l).val
def ZnK : Entry := frzE (newE Ziv Ziw ZnJ (fun a => some (Zjf a)) (fun a => ZqP a))
theorem Zyr : Zb Tryz.prog 92 (newE Ziv Ziw ZnJ (fun a => some (Zjf a)) (fun a => ZqP a)) :=
 Zpq (P := Tryz.prog) (n := 63) (k := 8) (l := [(44, ZdU), (149, Zwr)]) (ol := [(0, ZqO)]) ⟨Ze6, Zwn, trivial⟩ Tryz.func92 rfl (by kernel_rfl) Tryz.call92 ⟨ZsU, trivial⟩ (r := Ziv) (T := Ziw) (ts := ZnJ) (t := fun a => Zhc a) (fun a => by kernel_rfl)
theorem ZqN : Zb Tryz.prog 92 ZnK := ZxW Zyr
abbrev Zf9 : R := R.pair (R.int u16) (R.int u8)
abbrev Zga : Nat := 106
abbrev ZnV : List Sh := [Sh.one (R.int u16), Sh.one (R.sl (R.int u8))]
def ZBN : LS := { n := 27, slots := [(0, .code (Sh.one (R.int u16))), (1, .code (Sh.one (R.sl (R.int u8)))), (5, .tip 0), (8, .code (Sh.one (R.int i64))), (9, .code (Sh.one (R.int i64)))], boxes := [], stgs := [⟨(R.pair (R.int u16) (R.int u8)), 106, true⟩] }
def Zez (a : QT17) : RT (Option (Go1 (QT17))) :=
 let x1 : List (Int × Int) := a.2.2.2.2.1 ++ [(u16.wrap (a.1 + u16.wrap a.2.2.2.1), R.get (R.int u8) a.2.1 a.2.2.2.1)]
 let x2 := !Zf a.2.2.2.1 (List.length a.2.1) || Nat.ble (List.length x1) most
 .br (decide (a.2.2.2.1 < a.2.2.1)) (.br (!x2 || Zf a.2.2.2.1 (List.length a.2.1)) (.br (x2) (.leaf (some (Go1.cont (a.1, a.2.1, a.2.2.1, i64.wrap (a.2.2.2.1 + 1), x1, PUnit.unit)))) (.leaf none)) (.leaf none)) (.leaf (some (Go1.brk (a.1, a.2.1, a.2.2.1, a.2.2.2.1, a.2.2.2.2.1, PUnit.unit))))
def ZqR : Ora := Zbq false ZBN Zez (fun a => 1000000000000)
theorem Zty : Za5 (envX Tryz.prog [(92, ZnK)] [] 127 8) (.block 0 (.loop (Z5 Tryz.f32.body 0))) ZqR :=
 Zw (ZB (l := [(92, ZnK)]) ⟨ZqN, trivial⟩ [] 127 8) (Zn (by kernel_rfl)) (fun a => by kernel_rfl)
def ZjS (t : Int) (b : List Int) : RT (Option (List (Int × Int))) :=
 let x1 := runF false Zez (fun a => 1000000000000) (t, b, iN (List.length b), 0, [], ())
 let x2 : List (Int × Int) := (getO (false, t, b, iN (List.length b), 0, [], ()) x1).2.2.2.2.2.1
 .br (okB x1) (.br (Zjf x2) (.leaf (some (Stg.l (newG Ziv Ziw (ZqP x2))))) (.leaf none)) (.leaf none)
def ZBO (t : Int) (b : List Int) : List (Int × Int) := getO [] (ZjS t b).val
def Ztz (t : Int) (b : List Int) : Bool := okB (ZjS t b).val
theorem ZyD : Zb Tryz.prog 32 (newE Zf9 Zga ZnV (fun a => some (Ztz a.1 a.2)) (fun a => ZBO a.1 a.2)) :=
 Zpq (P := Tryz.prog) (n := 127) (k := 8) (l := [(92, ZnK)]) (ol := [(0, ZqR)]) ⟨ZqN, trivial⟩ Tryz.func32 rfl (by kernel_rfl) Tryz.call32 ⟨Zty, trivial⟩ (r := Zf9) (T := Zga) (ts := ZnV) (t := fun a => ZjS a.1 a.2) (fun a => by kernel_rfl)
theorem ZBg (m : List Cell) (c : Cell) (hv : Vld m) (hm : m.length + 1 ≤ most) : Zws m c = true ∧ ZFV m c = putX m c := by
 have h := Zqu m c hv hm
 have e : Zwo m c = Zmv m c := rfl
 simp only [ZqH, ZBt, ← e] at h
 exact h
theorem Zyk (l : List Cell) (hl : l.length + 1 ≤ most) : Zjf l = true ∧ ZqP l = normX l := by
 have hms := mst
 have hs : smC l = true := (Zf0.2 hl : sm l = true)
 have hv : (Zhc l).val = some (normX l) := by
  cases hb : vldB l with
  | true =>
   have e : Nat.ble l.length most = true := by rw [Nat.ble_eq]; omega
   simp only [Zhc, RT.val, hs, hb, List.nil_append, e, cond_true, Bool.not_true, Bool.false_or, Zhm (Zil.1 hb)]
  | false =>
   obtain ⟨r, hr, h1, i, hR⟩ := ZX (fl := false) (t := Zey) (fuel := fun a => 1000000000000)
    (fun a => ∃ i : Nat, i ≤ l.length ∧ a = (l, (l.length : Int), (i : Int), normX (l.take i), ()))
    (fun a => Int.toNat (a.2.1 - a.2.2.1)) (fun r => r.1 = false ∧ ∃ i : Nat, r.2 = (l, (l.length : Int), (i : Int), normX l, ()))
    (by
     rintro a ⟨i, hi, rfl⟩
     by_cases hlt : i < l.length
     ·left
      have d : decide ((i : Int) < (l.length : Int)) = true := by simpa using hlt
      have r1 := Zax l i hlt
      have hlen := Zc6 (l.take i)
      rw [List.length_take] at hlen
      have hp := ZBg (normX (l.take i)) (el l i) (Zc5 _) (by omega)
      refine ⟨_, ?_, ⟨i + 1, hlt, rfl⟩, by simp only; omega⟩
      rw [Zsp l i hlt, Zhl]
      simp only [Zey, RT.val, d, r1, ZbU, hp.1, hp.2, cond_true, Bool.or_true, Zfk i (by omega)]
     ·right; left
      have d : decide ((i : Int) < (l.length : Int)) = false := by simpa using hlt
      have e : l.take i = l := List.take_of_length_le (by omega)
      rw [e]
      exact ⟨_, by simp only [Zey, RT.val, d, cond_false], rfl, i, rfl⟩)
    (l, iN l.length, 0, [], ()) ⟨0, Nat.zero_le _, rfl⟩ (by simp only [iN]; omega)
   obtain ⟨r1, r2⟩ := r
   simp only at h1 hR
   subst h1 hR
   simp only [Zhc, RT.val, hs, hb, hr, okB, getO, cond_true, cond_false, Bool.not_false, Bool.true_or]
 exact ⟨by simp only [Zjf, hv]; rfl, by simp only [ZqP, hv, getO]⟩
theorem Zyl (t : Int) (b : List Int) (hb : b.length + 1 ≤ most) : Ztz t b = true ∧ ZBO t b = ZfN t b := by
 have hms := mst
 obtain ⟨r, hr, h1, hR⟩ := ZX (fl := false) (t := Zez) (fuel := fun a => 1000000000000)
  (fun a => ∃ i : Nat, i ≤ b.length ∧ a = (t, b, (b.length : Int), (i : Int), ZfO t b i, ()))
  (fun a => Int.toNat (a.2.2.1 - a.2.2.2.1)) (fun r => r.1 = false ∧ r.2 = (t, b, (b.length : Int), (b.length : Int), ZfO t b b.length, ()))
  (by
   rintro a ⟨i, hi, rfl⟩
   by_cases hlt : i < b.length
   ·left
    have d : decide ((i : Int) < (b.length : Int)) = true := by simpa using hlt
    have r1 := Zax b i hlt
    have hl : ∀ x : Cell, Nat.ble (ZfO t b i ++ [x]).length most = true := fun x => by rw [Nat.ble_eq, List.length_append, ZeM]; simp only [List.length_singleton]; omega
    refine ⟨_, ?_, ⟨i + 1, hlt, rfl⟩, by simp only; omega⟩
    rw [ZmV]
    have g := ZMC b i
    simp only [Zez, RT.val, d, r1, g, hl, cond_true, Bool.not_true, Bool.false_or, Zfk i (by omega)]
   ·right; left
    have d : decide ((i : Int) < (b.length : Int)) = false := by simpa using hlt
    have e : i = b.length := by omega
    subst e
    exact ⟨_, by simp only [Zez, RT.val, d, cond_false], rfl, rfl⟩)
  (t, b, iN b.length, 0, [], ()) ⟨0, Nat.zero_le _, rfl⟩ (by simp only [iN]; omega)
 obtain ⟨r1, r2⟩ := r
 simp only at h1 hR
 subst h1 hR
 have hn := Zyk (ZfO t b b.length) (by rw [ZeM]; exact hb)
 have hv : (ZjS t b).val = some (ZfN t b) := by
  simp only [ZjS, RT.val, hr, okB, getO, cond_true, hn.1, hn.2, ZfN]
 exact ⟨by simp only [Ztz, hv]; rfl, by simp only [ZBO, hv, getO]⟩
def ZnW : Entry := frzE (newE Zf9 Zga ZnV (fun a => some (smB a.2)) (fun a => ZfN a.1 a.2))
theorem ZyC : Zb Tryz.prog 32 ZnW := ZxW (ZzR ZyD fun a _ h => by
 have hb : smB a.2 = true := by cases hq : smB a.2 with
  | true => rfl
  | false => rw [hq] at h; exact absurd rfl h
 obtain ⟨h1, h2⟩ := Zyl a.1 a.2 (Zf0.1 hb)
 exact ⟨by rw [h1]; simp, h2⟩)
abbrev Zvm : R := R.pair (R.sl (R.int i64)) (R.int i64)
abbrev ZD2 : List Sh := []
abbrev Zvl : Rs := Rs.one (Sh.one R.bool)
def Zxz (s : List Int × Int) : RT (Option (Bool × List Int × Int)) :=
 .br (Zr s 2) (.leaf (some (((Zd s 2).1 == 1, (Zd s 2).2)))) (.leaf none)
def ZfL (s : List Int × Int) : Bool × List Int × Int := getO (Zvl.dflt, Zvm.dflt) (Zxz s).val
def Zgz (s : List Int × Int) : Bool := okB (Zxz s).val
def ZIJ : Entry := boxE Zvm ZD2 Zvl (fun a => some (Zgz a.1 )) (fun a => ZfL a.1 )
theorem ZG4 : Zb Tryz.prog 74 ZIJ :=
 ZbC (P := Tryz.prog) (n := 7) (k := 8) (l := [(46, ZbG)]) (ol := []) ⟨Za0, trivial⟩ Tryz.func74 rfl (by kernel_rfl) Tryz.call74 trivial (rb := Zvm) (ts := ZD2) (rs := Zvl) (t := fun a => Zxz a.1 ) (fun a => by kernel_rfl)
abbrev ZD9 : R := R.pair (R.sl (R.int i64)) (R.int i64)
abbrev ZIL : List Sh := []
abbrev ZD8 : Rs := Rs.one (Sh.agg ZaT)
def ZD7 (s : List Int × Int) : RT (Option (TC × List Int × Int)) :=
 let x1 := Zd (Zd (ZfL (Zhn (Zav s).2 (Zav s).1).2).2 5).2 8
 let x2 := x1.2
 let x3 := Zr x2 5
 let x4 := !x3
 let x5 := Zd x2 5
 let x6 := x5.2
 let x7 := Zgz x6
 let x8 := !x7
 let x9 := ZfL x6
 let x10 := x9.2
 let x11 := Zgz x10
 let x12 := ZfL x10
 let x13 := x12.2
 let x14 := ZfL x13
 let x15 := x14.2
 let x16 := Zr x15 4
 let x17 := !x16
 let x18 := Zd x15 4
 let x19 := x18.2
 let x20 := Zgz x19
 let x21 := ZfL x19
 let x22 := x21.2
 let x23 := ZfL x22
 let x24 := x23.2
 .br (ZxA s) (.br (!Zrr (Zav s).2 (Zav s).1 || Zgz (Zhn (Zav s).2 (Zav s).1).2) (.br (Zrr (Zav s).2 (Zav s).1) (.br (Zr (ZfL (Zhn (Zav s).2 (Zav s).1).2).2 5) (.br (!(Zav s).1 == 2 || Zr (Zd (ZfL (Zhn (Zav s).2 (Zav s).1).2).2 5).2 8) (.br (!(Zav s).1 == 2 || (x4 || (x8 || (!x11 || Zgz x13)))) (.br (!(Zav s).1 == 2 || (x4 || (x8 || x11))) (.br (!(Zav s).1 == 2 || (x4 || x7)) (.br (!(Zav s).1 == 2 || x3) (.br (!(Zav s).1 == 2 || (x17 || (!x20 || Zgz x22))) (.br (!(Zav s).1 == 2 || (x17 || x20)) (.br (!(Zav s).1 == 2 || x16) (.leaf (some ((((Zav s).1, (Zhn (Zav s).2 (Zav s).1).1, (ZfL (Zhn (Zav s).2 (Zav s).1).2).1, (Zd (ZfL (Zhn (Zav s).2 (Zav s).1).2).2 5).1 == 0, false, bif (Zav s).1 == 2 then u8.wrap x1.1 else 0, (Zav s).1 == 2 && x5.1 == 0, (Zav s).1 == 2 && x9.1, (Zav s).1 == 2 && x12.1, (Zav s).1 == 2 && x14.1, (Zav s).1 == 2 && x18.1 == 0, (Zav s).1 == 2 && x21.1, (Zav s).1 == 2 && x23.1), bif (Zav s).1 == 2 then x24.1 else (Zd (ZfL (Zhn (Zav s).2 (Zav s).1).2).2 5).2.1, bif (Zav s).1 == 2 then x24.2 else (Zd (ZfL (Zhn (Zav s).2 (Zav s).1).2).2 5).2.2)))) (.leaf none)) (.leaf none)) (.leaf none)) (.leaf none)) (.leaf none)) (.leaf none)) (.leaf none)) (.leaf none)) (.leaf none)) (.leaf none)) (.leaf none)) (.leaf none)
def nCPU (s : List Int × Int) : TC × List Int × Int := getO (ZD8.dflt, ZD9.dflt) (ZD7 s).val
def Zpz (s : List Int × Int) : Bool := okB (ZD7 s).val
def ZKB : Entry := boxE ZD9 ZIL ZD8 (fun a => some (Zpz a.1 )) (fun a => nCPU a.1 )
theorem ZKz : Zb Tryz.prog 23 ZKB :=
 ZbC (P := Tryz.prog) (n := 31) (k := 8) (l := [(46, ZbG), (72, ZIK), (73, ZIH), (74, ZIJ)]) (ol := []) ⟨Za0, ZG5, ZG2, ZG4, trivial⟩ Tryz.func23 rfl (by kernel_rfl) Tryz.call23 trivial (rb := ZD9) (ts := ZIL) (rs := ZD8) (t := fun a => ZD7 a.1 ) (fun a => by kernel_rfl)
abbrev Zpy : R := R.pair (R.sl (R.int i64)) (R.int i64)
abbrev ZxB : List Sh := [Sh.one (R.int i64)]
abbrev Zpx : Rs := Rs.one (Sh.one rcCE)
def ZD6 : LS := { n := 24, slots := [(0, .fix (A.loc 0 0)), (5, .tip 0), (6, .code (Sh.one (R.int i64)))], boxes := [[.many (R.pair (R.sl (R.int i64)) (R.int i64))]], stgs := [⟨(R.pair (R.int u16) (R.int u8)), 106, true⟩] }
def ZeK (a : QT23) : RT (Option (Go1 (QT23))) :=
 let x1 : List (Int × Int) := a.2.2.1 ++ [((Zai a.2.1).1, (Zj (Zai a.2.1).2).1)]
 let x2 := !Zb0 a.2.1 || (!Z3 (Zai a.2.1).2 || Nat.ble (List.length x1) most)
 let x3 := !x2
 .br (decide (a.1 > 0)) (.br (x3 || (!(!Zb0 a.2.1 || Z3 (Zai a.2.1).2) || Zb0 a.2.1)) (.br (x3 || (!Zb0 a.2.1 || Z3 (Zai a.2.1).2)) (.br (x2) (.leaf (some (Go1.cont (i64.wrap (a.1 - 1), (Zj (Zai a.2.1).2).2, x1, PUnit.unit)))) (.leaf none)) (.leaf none)) (.leaf none)) (.leaf (some (Go1.brk (a.1, a.2.1, a.2.2.1, PUnit.unit))))
def Zrw : Ora := Zbq false ZD6 ZeK (fun a => 400)
theorem Zvp : Za5 (envX Tryz.prog [(46, ZbG), (108, Zh0), (137, ZhY)] [] 127 8) (.block 0 (.loop (Z5 Tryz.f96.body 0))) Zrw :=
 Zw (ZB (l := [(46, ZbG), (108, Zh0), (137, ZhY)]) ⟨Za0, ZgA, Zgx, trivial⟩ [] 127 8) (Zn (by kernel_rfl)) (fun a => by kernel_rfl)
def Zlb (s : List Int × Int) (n : Int) : RT (Option (List (Int × Int) × List Int × Int)) :=
 let x1 : QT23 := ((Zd s (i64.wrap (n + 1))).1, (Zd s (i64.wrap (n + 1))).2, [], ())
 let x2 := runF false ZeK (fun a => 400) x1
 let x3 : (List Int × Int) × List (Int × Int) × PUnit := (getO (false, x1) x2).2.2
 .br (Zr s (i64.wrap (n + 1))) (.br (okB x2) (.leaf (some ((x3.2.1, x3.1)))) (.leaf none)) (.leaf none)
def Zfv (s : List Int × Int) (n : Int) : List (Int × Int) × List Int × Int := getO (Zpx.dflt, Zpy.dflt) (Zlb s n).val
def Zlc (s : List Int × Int) (n : Int) : Bool := okB (Zlb s n).val
def Zvq : Entry := boxE Zpy ZxB Zpx (fun a => some (Zlc a.1 a.2)) (fun a => Zfv a.1 a.2)
theorem ZD4 : Zb Tryz.prog 96 Zvq :=
 ZbC (P := Tryz.prog) (n := 127) (k := 8) (l := [(46, ZbG), (108, Zh0), (137, ZhY)]) (ol := [(0, Zrw)]) ⟨Za0, ZgA, Zgx, trivial⟩ Tryz.func96 rfl (by kernel_rfl) Tryz.call96 ⟨Zvp, trivial⟩ (rb := Zpy) (ts := ZxB) (rs := Zpx) (t := fun a => Zlb a.1 a.2) (fun a => by kernel_rfl)
abbrev ZdH : R := R.pair (R.int u16) (R.pair (R.int u16) (R.pair R.bool (R.int i64)))
abbrev ZdI : Nat := 102
abbrev Zfa : R := R.pair (R.sl (R.int i64)) (R.int i64)
abbrev Zho : List Sh := [Sh.one (R.int i64)]
def Zve : LS := { n := 44, slots := [(0, .fix (A.loc 0 0)), (5, .tip 0), (6, .code (Sh.one (R.int i64)))], boxes := [[.many (R.pair (R.sl (R.int i64)) (R.int i64))]], stgs := [⟨(R.pair (R.int u16) (R.pair (R.int u16) (R.pair R.bool (R.int i64)))), 102, false⟩] }
def Zc7 (a : QT19) : RT (Option (Go1 (QT19))) :=
 let x1 := !Zr (Zai a.2.1).2 6 || Zf (Zd (Zai a.2.1).2 6).1 (List.length [0, 3, 15, 255, 4095, 65535])
 let x2 := !x1
 let x3 := !Zr (Zd (Zd (Zai a.2.1).2 6).2 3).2 5
 let x4 : Int := (Zd (Zd (Zd (Zai a.2.1).2 6).2 3).2 5).1
 let x5 := Zf x4 (List.length [0, 0, 1, 2, 5])
 let x6 := i64.wrap (i64.wrap (Zai a.2.1).1 + R.get (R.int i64) [0, 3, 15, 255, 4095, 65535] (Zd (Zai a.2.1).2 6).1)
 let x7 : List (QT8) := a.2.2.1 ++ [((Zai a.2.1).1, u16.wrap (if 65535 < x6 then 65535 else x6), decide ((Zd (Zd (Zai a.2.1).2 6).2 3).1 > 0), R.get (R.int i64) [0, 0, 1, 2, 5] x4)]
 let x8 := !Zr (Zd (Zai a.2.1).2 6).2 3 || (x3 || (!x5 || Nat.ble (List.length x7) most))
 let x9 := !x8
 let x10 := !Zr (Zd (Zai a.2.1).2 6).2 3 || (x3 || x5)
 let x11 := !x10
 let x12 := !Zr (Zd (Zai a.2.1).2 6).2 3 || Zr (Zd (Zd (Zai a.2.1).2 6).2 3).2 5
 .br (decide (a.1 > 0)) (.br (!Zb0 a.2.1 || (x2 || (!Zr (Zai a.2.1).2 6 || (x9 || (x11 || (!x12 || Zr (Zd (Zai a.2.1).2 6).2 3)))))) (.br (!Zb0 a.2.1 || (x2 || (!Zr (Zai a.2.1).2 6 || (x9 || (x11 || x12))))) (.br (!Zb0 a.2.1 || (x2 || (!Zr (Zai a.2.1).2 6 || (x9 || x10)))) (.br (!Zb0 a.2.1 || (x2 || (!Zr (Zai a.2.1).2 6 || x8))) (.br (!Zb0 a.2.1 || (x2 || Zr (Zai a.2.1).2 6)) (.br (!Zb0 a.2.1 || x1) (.br (Zb0 a.2.1) (.leaf (some (Go1.cont (i64.wrap (a.1 - 1), (Zd (Zd (Zd (Zai a.2.1).2 6).2 3).2 5).2, x7, PUnit.unit)))) (.leaf none)) (.leaf none)) (.leaf none)) (.leaf none)) (.leaf none)) (.leaf none)) (.leaf none)) (.leaf (some (Go1.brk (a.1, a.2.1, a.2.2.1, PUnit.unit))))
def Zk5 : Ora := Zbq false Zve Zc7 (fun a => 400)
theorem Zpr : Za5 (envX Tryz.prog [(46, ZbG), (137, ZhY)] [] 511 8) (.block 0 (.loop (Z5 Tryz.f151.body 0))) Zk5 :=
 Zw (ZB (l := [(46, ZbG), (137, ZhY)]) ⟨Za0, Zgx, trivial⟩ [] 511 8) (Zn (by kernel_rfl)) (fun a => by kernel_rfl)
def ZeI (s : List Int × Int) (n : Int) : RT (Option (List (QT8) × List Int × Int)) :=
 let x1 : QT19 := ((Zd s (i64.wrap (n + 1))).1, (Zd s (i64.wrap (n + 1))).2, [], ())
 let x2 := runF false Zc7 (fun a => 400) x1
 let x3 : (List Int × Int) × List (QT8) × PUnit := (getO (false, x1) x2).2.2
 .br (Zr s (i64.wrap (n + 1))) (.br (okB x2) (.leaf (some ((x3.2.1, x3.1)))) (.leaf none)) (.leaf none)
def ZaP (s : List Int × Int) (n : Int) : List (QT8) × List Int × Int := getO ([], Zfa.dflt) (ZeI s n).val
def Zco (s : List Int × Int) (n : Int) : Bool := okB (ZeI s n).val
def Zrs : Entry := frzE (ZzT Zfa ZdH ZdI Zho (fun a => some (Zco a.1 a.2)) (fun a => ZaP a.1 a.2))
theorem Zrt : Zb Tryz.prog 151 (ZzT Zfa ZdH ZdI Zho (fun a => some (Zco a.1 a.2)) (fun a => ZaP a.1 a.2)) :=
 ZDR (P := Tryz.prog) (n := 511) (k := 8) (l := [(46, ZbG), (137, ZhY)]) (ol := [(0, Zk5)]) ⟨Za0, Zgx, trivial⟩ Tryz.func151 rfl (by kernel_rfl) Tryz.call151 ⟨Zpr, trivial⟩ (rb := Zfa) (r := ZdH) (T := ZdI) (ts := Zho) (t := fun a => ZeI a.1 a.2) (fun a => by kernel_rfl)
theorem Zvc : Zb Tryz.prog 151 Zrs := ZxW Zrt
abbrev ZDY : R := R.pair (R.sl (R.int i64)) (R.int i64)
abbrev ZII : List Sh := []
abbrev ZDX : Rs := Rs.one (Sh.one rcRG)
def ZDW (s : List Int × Int) : RT (Option (List (QT8) × List Int × Int)) :=
 let x1 : List (QT8) := Stg.l (newG ZdH ZdI (ZaP s 2).1) ++ [(0, 65535, true, i64.wrap (Int.tdiv (Zd (ZaP s 2).2 3).1 2))]
 .br (!Zco s 2 || (!Zr (ZaP s 2).2 3 || Nat.ble (List.length x1) most)) (.br (!Zco s 2 || Zr (ZaP s 2).2 3) (.br (Zco s 2) (.leaf (some ((x1, (Zd (ZaP s 2).2 3).2)))) (.leaf none)) (.leaf none)) (.leaf none)
def nMap (s : List Int × Int) : List (QT8) × List Int × Int := getO (ZDX.dflt, ZDY.dflt) (ZDW s).val
def Zvk (s : List Int × Int) : Bool := okB (ZDW s).val
def ZKy : Entry := boxE ZDY ZII ZDX (fun a => some (Zvk a.1 )) (fun a => nMap a.1 )
theorem ZKw : Zb Tryz.prog 95 ZKy :=
 ZbC (P := Tryz.prog) (n := 7) (k := 8) (l := [(46, ZbG), (151, Zrs)]) (ol := []) ⟨Za0, Zvc, trivial⟩ Tryz.func95 rfl (by kernel_rfl) Tryz.call95 trivial (rb := ZDY) (ts := ZII) (rs := ZDX) (t := fun a => ZDW a.1 ) (fun a => by kernel_rfl)
abbrev Zhq : R := R.pair (R.sl (R.int i64)) (R.int i64)
abbrev ZmR : List Sh := [Sh.one (R.int i64)]
abbrev Zhp : Rs := Rs.one (Sh.one (R.sl (R.int u8)))
def Zvh : LS := { n := 75, slots := [(0, .fix (A.loc 0 0)), (5, .tip 0), (6, .code (Sh.one (R.int i64)))], boxes := [[.many (R.pair (R.sl (R.int i64)) (R.int i64))]], stgs := [⟨(R.int u8), 5, true⟩] }
def Zb9 (a : QT25) : RT (Option (Go1 (QT25))) :=
 let x1 := Zf (Zd (Zd a.2.1 8).2 4).1 (List.length [33, 49, 1, 17])
 let x2 := !x1
 let x3 := Zr (Zd (Zd (Zd a.2.1 8).2 4).2 256).2 4
 let x4 := !x3
 let x5 := Zd (Zd (Zd (Zd a.2.1 8).2 4).2 256).2 4
 let x6 := x5.1
 let x7 := Zf x6 (List.length [0, 0, 1, 255])
 let x8 : List Int := a.2.2.1 ++ [R.get (R.int u8) [33, 49, 1, 17] (Zd (Zd a.2.1 8).2 4).1, u8.wrap (Zd (Zd (Zd a.2.1 8).2 4).2 256).1, R.get (R.int u8) [0, 0, 1, 255] x6]
 let x9 := !(Zd a.2.1 8).1 == 0 || (!Zr (Zd a.2.1 8).2 4 || (x2 || (!Zr (Zd (Zd a.2.1 8).2 4).2 256 || (x4 || (!x7 || Nat.ble (List.length x8) most)))))
 let x10 := !x9
 let x11 := !(Zd a.2.1 8).1 == 0 || (!Zr (Zd a.2.1 8).2 4 || (x2 || (!Zr (Zd (Zd a.2.1 8).2 4).2 256 || (x4 || x7))))
 let x12 := !x11
 let x13 := !(Zd a.2.1 8).1 == 0 || (!Zr (Zd a.2.1 8).2 4 || (x2 || (!Zr (Zd (Zd a.2.1 8).2 4).2 256 || x3)))
 let x14 := !x13
 let x15 := !(Zd a.2.1 8).1 == 0 || (!Zr (Zd a.2.1 8).2 4 || (x2 || Zr (Zd (Zd a.2.1 8).2 4).2 256))
 let x16 := !x15
 let x17 := !(Zd a.2.1 8).1 == 0 || (!Zr (Zd a.2.1 8).2 4 || x1)
 let x18 := !x17
 let x19 := !(Zd a.2.1 8).1 == 0 || Zr (Zd a.2.1 8).2 4
 let x20 := !x19
 let x21 : List Int := a.2.2.1 ++ [62, (Zj (Zd a.2.1 8).2).1, 211, u8.wrap (Zd (Zj (Zd a.2.1 8).2).2 8).1]
 let x22 := (Zd a.2.1 8).1 == 0 || (!(Zd a.2.1 8).1 == 1 || (!Z3 (Zd a.2.1 8).2 || (!Zr (Zj (Zd a.2.1 8).2).2 8 || Nat.ble (List.length x21) most)))
 let x23 := !x22
 let x24 := (Zd a.2.1 8).1 == 0 || (!(Zd a.2.1 8).1 == 1 || (!Z3 (Zd a.2.1 8).2 || Zr (Zj (Zd a.2.1 8).2).2 8))
 let x25 := !x24
 let x26 := (Zd a.2.1 8).1 == 0 || (!(Zd a.2.1 8).1 == 1 || Z3 (Zd a.2.1 8).2)
 let x27 := !x26
 let x28 := (Zd a.2.1 8).1 == 0 || ((Zd a.2.1 8).1 == 1 || (!(Zd a.2.1 8).1 == 2 || Nat.ble (List.length (a.2.2.1 ++ [251])) most))
 let x29 := !x28
 let x30 : List Int := a.2.2.1 ++ [62, u8.wrap (i64.wrap (16 + (Zd (Zd a.2.1 8).2 16).1)), 211, 0, 62, (Zj (Zd (Zd a.2.1 8).2 16).2).1, 211, 1, 62, 0, 211, 1]
 let x31 := (Zd a.2.1 8).1 == 0 || ((Zd a.2.1 8).1 == 1 || ((Zd a.2.1 8).1 == 2 || (!(Zd a.2.1 8).1 == 3 || (!Zr (Zd a.2.1 8).2 16 || (!Z3 (Zd (Zd a.2.1 8).2 16).2 || Nat.ble (List.length x30) most)))))
 let x32 := !x31
 let x33 := (Zd a.2.1 8).1 == 0 || ((Zd a.2.1 8).1 == 1 || ((Zd a.2.1 8).1 == 2 || (!(Zd a.2.1 8).1 == 3 || (!Zr (Zd a.2.1 8).2 16 || Z3 (Zd (Zd a.2.1 8).2 16).2))))
 let x34 := !x33
 let x35 := (Zd a.2.1 8).1 == 0 || ((Zd a.2.1 8).1 == 1 || ((Zd a.2.1 8).1 == 2 || (!(Zd a.2.1 8).1 == 3 || Zr (Zd a.2.1 8).2 16)))
 let x36 := !x35
 let x37 := !Zr (Zd (ZaZ (Zd a.2.1 8).2).2 64).2 4
 let x38 : Int := (Zd (Zd (ZaZ (Zd a.2.1 8).2).2 64).2 4).1
 let x39 := Zf x38 (List.length [0, 0, 1, 255])
 let x40 : List Int := a.2.2.1 ++ [(ZaZ (Zd a.2.1 8).2).1, u8.wrap (Zd (ZaZ (Zd a.2.1 8).2).2 64).1, R.get (R.int u8) [0, 0, 1, 255] x38]
 let x41 := (Zd a.2.1 8).1 == 0 || ((Zd a.2.1 8).1 == 1 || ((Zd a.2.1 8).1 == 2 || ((Zd a.2.1 8).1 == 3 || (!ZcM (Zd a.2.1 8).2 || (!Zr (ZaZ (Zd a.2.1 8).2).2 64 || (x37 || (!x39 || Nat.ble (List.length x40) most)))))))
 let x42 := !x41
 let x43 := (Zd a.2.1 8).1 == 0 || ((Zd a.2.1 8).1 == 1 || ((Zd a.2.1 8).1 == 2 || ((Zd a.2.1 8).1 == 3 || (!ZcM (Zd a.2.1 8).2 || (!Zr (ZaZ (Zd a.2.1 8).2).2 64 || (x37 || x39))))))
 let x44 := !x43
 let x45 := (Zd a.2.1 8).1 == 0 || ((Zd a.2.1 8).1 == 1 || ((Zd a.2.1 8).1 == 2 || ((Zd a.2.1 8).1 == 3 || (!ZcM (Zd a.2.1 8).2 || (!Zr (ZaZ (Zd a.2.1 8).2).2 64 || Zr (Zd (ZaZ (Zd a.2.1 8).2).2 64).2 4)))))
 let x46 := !x45
 let x47 := (Zd a.2.1 8).1 == 0 || ((Zd a.2.1 8).1 == 1 || ((Zd a.2.1 8).1 == 2 || ((Zd a.2.1 8).1 == 3 || (!ZcM (Zd a.2.1 8).2 || Zr (ZaZ (Zd a.2.1 8).2).2 64))))
 let x48 := x10 || (x12 || (x14 || (x16 || (x18 || (x20 || (x23 || (x25 || (x27 || (x29 || (x32 || (x34 || (x36 || (x42 || (x44 || (x46 || (!x47 || ((Zd a.2.1 8).1 == 0 || ((Zd a.2.1 8).1 == 1 || ((Zd a.2.1 8).1 == 2 || ((Zd a.2.1 8).1 == 3 || ZcM (Zd a.2.1 8).2))))))))))))))))))))
 let x49 := !x48
 let x50 := x10 || (x12 || (x14 || (x16 || (x18 || (x20 || (x23 || (x25 || (x27 || (x29 || (x32 || (x34 || (x36 || (x42 || (x44 || (x46 || x47)))))))))))))))
 let x51 := !x50
 let x52 := x10 || (x12 || (x14 || (x16 || (x18 || (x20 || (x23 || (x25 || (x27 || (x29 || (x32 || (x34 || (x36 || (x42 || (x44 || x45))))))))))))))
 let x53 := !x52
 let x54 := x10 || (x12 || (x14 || (x16 || (x18 || (x20 || (x23 || (x25 || (x27 || (x29 || (x32 || (x34 || (x36 || (x42 || x43)))))))))))))
 let x55 := !x54
 let x56 := x10 || (x12 || (x14 || (x16 || (x18 || (x20 || (x23 || (x25 || (x27 || (x29 || (x32 || (x34 || (x36 || x41))))))))))))
 let x57 := !x56
 let x58 := x10 || (x12 || (x14 || (x16 || (x18 || (x20 || (x23 || (x25 || (x27 || (x29 || (x32 || (x34 || x35)))))))))))
 let x59 := !x58
 let x60 := x10 || (x12 || (x14 || (x16 || (x18 || (x20 || (x23 || (x25 || (x27 || (x29 || (x32 || x33))))))))))
 let x61 := !x60
 let x62 := x10 || (x12 || (x14 || (x16 || (x18 || (x20 || (x23 || (x25 || (x27 || (x29 || x31)))))))))
 let x63 := !x62
 let x64 := x10 || (x12 || (x14 || (x16 || (x18 || (x20 || (x23 || (x25 || (x27 || x28))))))))
 let x65 := !x64
 let x66 := x10 || (x12 || (x14 || (x16 || (x18 || (x20 || (x23 || (x25 || x26)))))))
 let x67 := !x66
 let x68 := x10 || (x12 || (x14 || (x16 || (x18 || (x20 || (x23 || x24))))))
 let x69 := !x68
 let x70 := x10 || (x12 || (x14 || (x16 || (x18 || (x20 || x22)))))
 let x71 := !x70
 let x72 := x10 || (x12 || (x14 || (x16 || (x18 || x19))))
 let x73 := !x72
 let x74 := x10 || (x12 || (x14 || (x16 || x17)))
 let x75 := !x74
 let x76 := x10 || (x12 || (x14 || x15))
 let x77 := !x76
 let x78 := x10 || (x12 || x13)
 let x79 := !x78
 let x80 := x10 || x11
 let x81 : List Int × Int := (Zd (Zd (ZaZ (Zd a.2.1 8).2).2 64).2 4).2
 .br (decide (a.1 > 0)) (.br (!Zr a.2.1 8 || (x49 || (x51 || (x53 || (x55 || (x57 || (x59 || (x61 || (x63 || (x65 || (x67 || (x69 || (x71 || (x73 || (x75 || (x77 || (x79 || (!x80 || x9)))))))))))))))))) (.br (!Zr a.2.1 8 || (x49 || (x51 || (x53 || (x55 || (x57 || (x59 || (x61 || (x63 || (x65 || (x67 || (x69 || (x71 || (x73 || (x75 || (x77 || (x79 || x80))))))))))))))))) (.br (!Zr a.2.1 8 || (x49 || (x51 || (x53 || (x55 || (x57 || (x59 || (x61 || (x63 || (x65 || (x67 || (x69 || (x71 || (x73 || (x75 || (x77 || x78)))))))))))))))) (.br (!Zr a.2.1 8 || (x49 || (x51 || (x53 || (x55 || (x57 || (x59 || (x61 || (x63 || (x65 || (x67 || (x69 || (x71 || (x73 || (x75 || x76))))))))))))))) (.br (!Zr a.2.1 8 || (x49 || (x51 || (x53 || (x55 || (x57 || (x59 || (x61 || (x63 || (x65 || (x67 || (x69 || (x71 || (x73 || x74)))))))))))))) (.br (!Zr a.2.1 8 || (x49 || (x51 || (x53 || (x55 || (x57 || (x59 || (x61 || (x63 || (x65 || (x67 || (x69 || (x71 || x72))))))))))))) (.br (!Zr a.2.1 8 || (x49 || (x51 || (x53 || (x55 || (x57 || (x59 || (x61 || (x63 || (x65 || (x67 || (x69 || x70)))))))))))) (.br (!Zr a.2.1 8 || (x49 || (x51 || (x53 || (x55 || (x57 || (x59 || (x61 || (x63 || (x65 || (x67 || x68))))))))))) (.br (!Zr a.2.1 8 || (x49 || (x51 || (x53 || (x55 || (x57 || (x59 || (x61 || (x63 || (x65 || x66)))))))))) (.br (!Zr a.2.1 8 || (x49 || (x51 || (x53 || (x55 || (x57 || (x59 || (x61 || (x63 || x64))))))))) (.br (!Zr a.2.1 8 || (x49 || (x51 || (x53 || (x55 || (x57 || (x59 || (x61 || x62)))))))) (.br (!Zr a.2.1 8 || (x49 || (x51 || (x53 || (x55 || (x57 || (x59 || x60))))))) (.br (!Zr a.2.1 8 || (x49 || (x51 || (x53 || (x55 || (x57 || x58)))))) (.br (!Zr a.2.1 8 || (x49 || (x51 || (x53 || (x55 || x56))))) (.br (!Zr a.2.1 8 || (x49 || (x51 || (x53 || x54)))) (.br (!Zr a.2.1 8 || (x49 || (x51 || x52))) (.br (!Zr a.2.1 8 || (x49 || x50)) (.br (!Zr a.2.1 8 || x48) (.br (Zr a.2.1 8) (.br ((Zd a.2.1 8).1 == 0) (.leaf (some (Go1.cont (i64.wrap (a.1 - 1), x5.2, x8, PUnit.unit)))) (.br ((Zd a.2.1 8).1 == 1) (.leaf (some (Go1.cont (i64.wrap (a.1 - 1), (Zd (Zj (Zd a.2.1 8).2).2 8).2, x21, PUnit.unit)))) (.br ((Zd a.2.1 8).1 == 2) (.leaf (some (Go1.cont (i64.wrap (a.1 - 1), (Zd a.2.1 8).2, a.2.2.1 ++ [251], PUnit.unit)))) (.leaf (some (Go1.cont (i64.wrap (a.1 - 1), (bif (Zd a.2.1 8).1 == 3 then (Zj (Zd (Zd a.2.1 8).2 16).2).2.1 else x81.1, bif (Zd a.2.1 8).1 == 3 then (Zj (Zd (Zd a.2.1 8).2 16).2).2.2 else x81.2), bif (Zd a.2.1 8).1 == 3 then x30 else x40, PUnit.unit))))))) (.leaf none)) (.leaf none)) (.leaf none)) (.leaf none)) (.leaf none)) (.leaf none)) (.leaf none)) (.leaf none)) (.leaf none)) (.leaf none)) (.leaf none)) (.leaf none)) (.leaf none)) (.leaf none)) (.leaf none)) (.leaf none)) (.leaf none)) (.leaf none)) (.leaf none)) (.leaf (some (Go1.brk (a.1, a.2.1, a.2.2.1, PUnit.unit))))
def Zk6 : Ora := Zbq false Zvh Zb9 (fun a => 400)
theorem Zps : Za5 (envX Tryz.prog [(46, ZbG), (108, Zh0), (109, ZiI)] [] 9511883889056940159 8) (.block 0 (.loop (Z5 Tryz.f47.body 0))) Zk6 :=
 Zw (ZB (l := [(46, ZbG), (108, Zh0), (109, ZiI)]) ⟨Za0, ZgA, ZmS, trivial⟩ [] 9511883889056940159 8) (Zn (by kernel_rfl)) (fun a => by kernel_rfl)
def ZeJ (s : List Int × Int) (n : Int) : RT (Option (List Int × List Int × Int)) :=
 let x1 : QT25 := ((Zd s (i64.wrap (n + 1))).1, (Zd s (i64.wrap (n + 1))).2, [], ())
 let x2 := runF false Zb9 (fun a => 400) x1
 let x3 : (List Int × Int) × List Int × PUnit := (getO (false, x1) x2).2.2
 .br (Zr s (i64.wrap (n + 1))) (.br (okB x2) (.leaf (some ((x3.2.1, x3.1)))) (.leaf none)) (.leaf none)
def Zad (s : List Int × Int) (n : Int) : List Int × List Int × Int := getO (Zhp.dflt, Zhq.dflt) (ZeJ s n).val
def Zcp (s : List Int × Int) (n : Int) : Bool := okB (ZeJ s n).val
def Zk7 : Entry := boxE Zhq ZmR Zhp (fun a => some (Zcp a.1 a.2)) (fun a => Zad a.1 a.2)
theorem Zvf : Zb Tryz.prog 47 Zk7 :=
 ZbC (P := Tryz.prog) (n := 9511883889056940159) (k := 8) (l := [(46, ZbG), (108, Zh0), (109, ZiI)]) (ol := [(0, Zk6)]) ⟨Za0, ZgA, ZmS, trivial⟩ Tryz.func47 rfl (by kernel_rfl) Tryz.call47 ⟨Zps, trivial⟩ (rb := Zhq) (ts := ZmR) (rs := Zhp) (t := fun a => ZeJ a.1 a.2) (fun a => by kernel_rfl)
def ZsE (m : List (Int × Int)) : Bool := Nat.ble (m.length + 100000) most
theorem Zi8 {m : List (Int × Int)} : ZsE m = true ↔ m.length + 100000 ≤ most := by simp [ZsE]
def ZpQ : Entry := Zm ZvI ZpP (fun a => some (smG a.2.1 && ZsE a.2.2.1)) (fun a => ZfC a.1 a.2.1 a.2.2.1 a.2.2.2.1 a.2.2.2.2.1 a.2.2.2.2.2)
theorem ZrX : Zb Tryz.prog 37 ZpQ := Znj ZHq fun a h => by
 rw [Bool.and_eq_true] at h
 exact ZMw a.1 a.2.1 a.2.2.1 a.2.2.2.1 a.2.2.2.2.1 a.2.2.2.2.2 h.1 (by have := Zi8.1 h.2; omega)
def ZIZ : Entry := Zm ZEK ZxU (fun a => some (smG a.2.1 && ZsE a.2.2.1)) (fun a => runR a.1 a.2.1 a.2.2.1 a.2.2.2.1 a.2.2.2.2)
theorem ZHr : Zb Tryz.prog 33 ZIZ := Znj ZKR fun a h => by
 rw [Bool.and_eq_true] at h
 exact i_run a.1 a.2.1 a.2.2.1 a.2.2.2.1 a.2.2.2.2 h.1 (Zi8.1 h.2)
abbrev ZIR : List Sh := []
abbrev ZIS : Rs := Rs.one (Sh.one rcRG)
def ZMs : RT (List (QT8)) :=
 .leaf ([(0, 65535, true, 0)])
def kRam : List (QT8) := (ZMs ).val
def ZMt : Entry := Zm ZIR ZIS (fun _ => none) (fun a => kRam )
theorem ZKK : Zb Tryz.prog 34 ZMt :=
 pureQ 1 [] [] ZIR ZIS trivial Tryz.func34 Tryz.call34 trivial (t := fun a => ZMs ) (fun a => by kernel_rfl)
abbrev ZMu : List Sh := []
abbrev ZKL : Rs := Rs.one (Sh.one R.bool)
def kKnT : RT (Option (Bool)) :=
 let x1 : List Int := [62, 5, 198, 7, 50, 16, 0, 211, 9, 118]
 let x2 := ZfN 0 x1
 let x3 : QT24 := runR (1, (0, 0, 0, 0, 0, 0, 0, (false, false, false, false, false, false, false), 0, 0), false, false, false, 0, false, false, false, false, false, false, false) kRam x2 [] 100
 let x4 := x3.1.2
 let x5 := !x4.1.1 == 12
 let x6 := !x4.2.2.2.1
 let x7 := x3.2
 let x8 := x7.1
 let x9 := x5 || (x6 || smC x8)
 let x10 := x7.2
 .br (smB x1) (.br (smG kRam && ZsE x2) (.br (!x9 || (x5 || (x6 || (!Cells.getX x8 16 == 12 || (!x10.2 == 5 || ZIV x10.1 [(9, 12)]))))) (.br (x9) (.leaf (some (true))) (.leaf none)) (.leaf none)) (.leaf none)) (.leaf none)
def kKn : Bool := getO ZKL.dflt (kKnT ).val
def kKnC : Bool := okB (kKnT ).val
def kKnE : Entry := Zm ZMu ZKL (fun a => some (kKnC )) (fun a => kKn )
theorem ZIT : Zb Tryz.prog 31 kKnE :=
 pureP 127 [(32, ZBR), (33, ZIZ), (34, ZMt), (35, ZjW), (40, ZIU)] [] ZMu ZKL ⟨ZBQ, ZHr, ZKK, ZjV, ZHe, trivial⟩ Tryz.func31 Tryz.call31 trivial (t := fun a => kKnT ) (fun a => by kernel_rfl)
end
end Go.Proofs.YtghoimllhpjkjaaGreat
