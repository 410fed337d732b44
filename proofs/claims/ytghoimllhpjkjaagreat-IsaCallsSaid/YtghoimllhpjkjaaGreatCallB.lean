/-
  Call and Ret, Push and Pop, Xthl: each step. Conditions: none.
-/
import Derived.Test.YtghoimllhpjkjaaGreatS3D
import Derived.Test.YtghoimllhpjkjaaGreatProg
import Derived.Test.YtghoimllhpjkjaaGreatMakeOk5
import Derived.Test.YtghoimllhpjkjaaGreatS3Box1
import Derived.Test.YtghoimllhpjkjaaGreatMemE
import Derived.Test.YtghoimllhpjkjaaGreatS3New
import Derived.Test.YtghoimllhpjkjaaGreatS3Stg
open Go.IntKind (u8 u16 i64)
set_option linter.unusedSimpArgs false
open Go Go.S3 Go.Proofs
set_option linter.unusedVariables false
set_option maxRecDepth 100000
namespace Go.Proofs.YtghoimllhpjkjaaGreat
noncomputable section
def qDoE : Entry := .tree (ZQ (envX Tryz.prog [(187, ZiD), (204, Zmw)] [] 9223389629049209151 8) Tryz.f150)
theorem ZEg : Zc Tryz.prog 150 qDoE := ZaF (P := Tryz.prog) (n := 9223389629049209151) (k := 8) (l := [(187, ZiD), (204, Zmw)]) (ol := []) ⟨Zre, ZvZ, trivial⟩ Tryz.func150 rfl (by kernel_rfl) Tryz.call150 trivial
def Zcq : Entry := .tree (ZQ (envX Tryz.prog [(117, ZsR)] [] 7 8) Tryz.f93)
theorem Zej : Zc Tryz.prog 93 Zcq := ZaF (P := Tryz.prog) (n := 7) (k := 8) (l := [(117, ZsR)]) (ol := []) ⟨ZAH, trivial⟩ Tryz.func93 rfl (by kernel_rfl) Tryz.call93 trivial
def ZyH : LS := { n := 37, slots := [(0, .fix (A.loc 2 0)), (2, .code (Sh.one (R.int i64))), (5, .fix (A.loc 3 0)), (7, .fix (A.loc 4 0)), (8, .fix (A.loc 5 0)), (9, .code (Sh.one (R.sl (R.int u8)))), (10, .tip 1)], boxes := [[.many ZbQ], [.many ZbQ], [.code rcRG, .code rcCE, .code (R.sl (R.int u8)), .tip 0], [.many ZbQ], [.many rcLIN], [.many ZbQ]], stgs := [⟨R.pair (R.int u8) (R.int u8), 166, true⟩, ⟨(R.int u8), 5, true⟩] }
def Zdf (a : QT9) : RT (Option (Go1 (QT9))) :=
 let x1 := Zj a.2.2.2.2.2.2.2.1 a.1 a.2.2.2.2.2.2.2.2.2.2.2.1
 let x2 := !x1.2
 let x3 := x1.1
 let x4 := x3.1
 let x5 := x4 == 1
 let x6 := x4 == 2
 let x7 := bif x5 then x5 else bif x6 then x6 else x4 == 4
 let x8 := !x7
 let x9 := smG a.2.2.2.2.1 && smC a.2.2.2.2.2.1
 let x10 := x8 || x9
 let x11 := !x10
 let x12 := x4 == 3
 let x13 := bif x12 then x12 else x4 == 5
 let x14 := !x13
 let x15 := x7 || (x14 || x9)
 let x16 := !x15
 let x17 := x4 == 7
 let x18 := !x17
 let x19 := x3.2
 let x20 := x19.1
 let x21 := x19.2.1
 let x22 : List (Int × Int) := a.2.2.2.2.2.2.2.2.2.2.1 ++ [(u8.wrap x20, x21)]
 let x23 := x7 || (x13 || (x18 || Nat.ble (List.length x22) most))
 let x24 := !x23
 let x25 := x4 == 6
 let x26 := x4 == 8
 let x27 := bif x25 then x25 else bif x26 then x26 else x4 == 9
 let x28 := !x27
 let x29 := x11 || (x16 || (x24 || (x7 || (x13 || (x17 || (x28 || (iN (List.length a.2.2.2.2.2.2.1) == 0 || (!Ze 0 (List.length a.2.2.2.2.2.2.1) || decide (0 ≤ 1) && decide (1 ≤ iN (List.length a.2.2.2.2.2.2.1)) && (decide (iN (List.length a.2.2.2.2.2.2.1) = 0) || decide (iN (List.length a.2.2.2.2.2.2.1) ≤ iN (List.length a.2.2.2.2.2.2.1)))))))))))
 let x30 := !x29
 let x31 := x11 || (x16 || (x24 || (x7 || (x13 || (x17 || (x28 || (iN (List.length a.2.2.2.2.2.2.1) == 0 || Ze 0 (List.length a.2.2.2.2.2.2.1))))))))
 let x32 := !x31
 let x33 := x11 || (x16 || x23)
 let x34 := !x33
 let x35 := x11 || x15
 let x36 := !x35
 let x37 : List Int := a.2.2.2.2.2.2.2.2.2.2.2.1 ++ [ZaD a.2.2.2.2.1 a.2.2.2.2.2.1 x20]
 let x38 := x30 || (x32 || (x34 || (x36 || (x11 || (x8 || Nat.ble (List.length x37) most)))))
 let x39 := !x38
 let x40 : List Int := a.2.2.2.2.2.2.2.2.2.2.2.1 ++ [x21]
 let x41 := Nat.ble (List.length x40) most
 let x42 := x30 || (x32 || (x34 || (x36 || (x11 || (x7 || (x14 || x41))))))
 let x43 := !x42
 let x44 := x30 || (x32 || (x34 || (x36 || (x11 || (x7 || (x13 || (x18 || x41)))))))
 let x45 := !x44
 let x46 : List Int := a.2.2.2.2.2.2.2.2.2.2.2.1 ++ [0]
 let x47 := Nat.ble (List.length x46) most
 let x48 := x30 || (x32 || (x34 || (x36 || (x11 || (x7 || (x13 || (x17 || (x28 || (!iN (List.length a.2.2.2.2.2.2.1) == 0 || x47)))))))))
 let x49 := !x48
 let x50 : List Int := a.2.2.2.2.2.2.2.2.2.2.2.1 ++ [R.get (R.int u8) a.2.2.2.2.2.2.1 0]
 let x51 := x30 || (x32 || (x34 || (x36 || (x11 || (x7 || (x13 || (x17 || (x28 || (iN (List.length a.2.2.2.2.2.2.1) == 0 || Nat.ble (List.length x50) most)))))))))
 let x52 := !x51
 let x53 := x30 || (x32 || (x34 || (x36 || (x11 || (x7 || (x13 || (x17 || (x27 || x47))))))))
 let x54 := !x53
 let x55 := x30 || (x32 || (x34 || (x36 || x10)))
 let x56 := !x55
 let x57 := x30 || (x32 || (x34 || x35))
 let x58 := !x57
 let x59 := x30 || (x32 || x33)
 let x60 := !x59
 let x61 := x30 || x31
 .br (x2 || (x39 || (x43 || (x45 || (x49 || (x52 || (x54 || (x56 || (x58 || (x60 || (!x61 || x29))))))))))) (.br (x2 || (x39 || (x43 || (x45 || (x49 || (x52 || (x54 || (x56 || (x58 || (x60 || x61)))))))))) (.br (x2 || (x39 || (x43 || (x45 || (x49 || (x52 || (x54 || (x56 || (x58 || x59))))))))) (.br (x2 || (x39 || (x43 || (x45 || (x49 || (x52 || (x54 || (x56 || x57)))))))) (.br (x2 || (x39 || (x43 || (x45 || (x49 || (x52 || (x54 || x55))))))) (.br (x2 || (x39 || (x43 || (x45 || (x49 || (x52 || x53)))))) (.br (x2 || (x39 || (x43 || (x45 || (x49 || x51))))) (.br (x2 || (x39 || (x43 || (x45 || x48)))) (.br (x2 || (x39 || (x43 || x44))) (.br (x2 || (x39 || x42)) (.br (x2 || x38) (.br (x2) (.leaf (some (Go1.ret (a.1, a.2.2.2.2.2.2.2.2.2.2.2.1, a.2.2.1, a.2.2.2.1, a.2.2.2.2.1, a.2.2.2.2.2.1, a.2.2.2.2.2.2.1, a.2.2.2.2.2.2.2.1, a.2.2.2.2.2.2.2.2.1, finX a.2.2.2.2.2.2.2.1 a.1 a.2.2.2.2.2.2.2.2.2.2.2.1 a.2.2.2.2.2.2.2.2.1, a.2.2.2.2.2.2.2.2.2.2.1, a.2.2.2.2.2.2.2.2.2.2.2.1, PUnit.unit)))) (.leaf (some (Go1.cont (a.1, a.2.1, a.2.2.1, a.2.2.2.1, a.2.2.2.2.1, bif x7 then a.2.2.2.2.2.1 else bif x13 then ZB a.2.2.2.2.1 a.2.2.2.2.2.1 x20 x21 else a.2.2.2.2.2.1, bif x7 then a.2.2.2.2.2.2.1 else bif x13 then a.2.2.2.2.2.2.1 else bif x17 then a.2.2.2.2.2.2.1 else bif x27 then bif iN (List.length a.2.2.2.2.2.2.1) == 0 then a.2.2.2.2.2.2.1 else subL a.2.2.2.2.2.2.1 1 (iN (List.length a.2.2.2.2.2.2.1)) else a.2.2.2.2.2.2.1, a.2.2.2.2.2.2.2.1, a.2.2.2.2.2.2.2.2.1, a.2.2.2.2.2.2.2.2.2.1, bif x7 then a.2.2.2.2.2.2.2.2.2.2.1 else bif x13 then a.2.2.2.2.2.2.2.2.2.2.1 else bif x17 then x22 else a.2.2.2.2.2.2.2.2.2.2.1, bif x7 then x37 else bif x13 then x40 else bif x17 then x40 else bif x27 then bif iN (List.length a.2.2.2.2.2.2.1) == 0 then x46 else x50 else x46, PUnit.unit))))) (.leaf none)) (.leaf none)) (.leaf none)) (.leaf none)) (.leaf none)) (.leaf none)) (.leaf none)) (.leaf none)) (.leaf none)) (.leaf none)) (.leaf none)
def Ziw : Ora := ZbH true ZyH Zdf (fun a => 100)
theorem Zq7 : Zbe (envX Tryz.prog [(110, Zee), (111, Zz2), (113, ZpG), (150, qDoE)] [] 8191 8) (.block 0 (.loop (Zae Tryz.f94.body 0))) Ziw :=
 ZC (ZF (l := [(110, Zee), (111, Zz2), (113, ZpG), (150, qDoE)]) ⟨Zjy, ZzS, Zup, ZEg, trivial⟩ [] 8191 8) (Zl (by kernel_rfl)) (fun a => by kernel_rfl)
def Zma : Entry := .tree (ZQ (envX Tryz.prog [(110, Zee), (111, Zz2), (113, ZpG), (150, qDoE)] [(0, Ziw)] 8191 8) Tryz.f94)
theorem Zpl : Zc Tryz.prog 94 Zma := ZaF (P := Tryz.prog) (n := 8191) (k := 8) (l := [(110, Zee), (111, Zz2), (113, ZpG), (150, qDoE)]) (ol := [(0, Ziw)]) ⟨Zjy, ZzS, Zup, ZEg, trivial⟩ Tryz.func94 rfl (by kernel_rfl) Tryz.call94 ⟨Zq7, trivial⟩
abbrev ZA5 : List Sh := [Sh.agg ZbQ, Sh.one rcRG, Sh.one rcCE, Sh.one (R.sl (R.int u8)), Sh.one (R.int i64)]
abbrev Zu7 : Rs := Rs.tup [Sh.agg ZbQ, Sh.one rcCE, Sh.one (R.sl (R.pair (R.int u8) (R.int u8))), Sh.one (R.int i64)]
def ZGM : LS := { n := 49, slots := [(4, .code (Sh.one (R.int i64))), (5, .fix (A.loc 0 0)), (10, .fix (A.loc 1 0)), (13, .code (Sh.one (R.int i64))), (14, .fix (A.loc 2 0))], boxes := [[.many ZbQ], [.many ZbQ], [.code rcRG, .code rcCE, .code (R.sl (R.int u8)), .tip 0]], stgs := [⟨R.pair (R.int u8) (R.int u8), 166, true⟩] }
def ZgP (a : QT11) : RT (Option (Go1 (QT11))) :=
 let x1 : QT9 := (0, [], a.2.2.1, a.2.2.2.1, a.2.2.2.2.1, a.2.2.2.2.2.1, a.2.2.2.2.2.2.1, Zb9 a.2.2.1 0, (false, false, false, false, false, false, false, false, false), (0, (0, 0, 0, 0, 0, 0, 0, (false, false, false, false, false, false, false), 0, 0), false, false, false, 0, false, false, false, false, false, false, false), a.2.2.2.2.2.2.2.1, [], ())
 let x2 := runF true Zdf (fun a_1 => 100) x1
 let x3 := getO (false, x1) x2
 let x4 := x3.1
 let x5 := x3.2.2.2.2
 let x6 := x5.2
 let x7 := x6.2
 let x8 := x7.2
 let x9 := x8.2.2.2
 let x10 := x9.1
 let x11 := x10.1
 let x12 := x10.2
 let x13 := x12.1
 let x14 := x13.1
 let x15 := x13.2
 let x16 := x15.1
 let x17 := x15.2
 let x18 := x17.1
 let x19 := x17.2
 let x20 := x19.1
 let x21 := x19.2
 let x22 := x21.1
 let x23 := x21.2
 let x24 := x23.1
 let x25 := x23.2
 let x26 := x25.1
 let x27 := x25.2
 let x28 := x27.1
 let x29 := x28.1
 let x30 := x28.2
 let x31 := x30.1
 let x32 := x30.2
 let x33 := x32.1
 let x34 := x32.2
 let x35 := x34.1
 let x36 := x34.2
 let x37 := x36.1
 let x38 := x36.2
 let x39 := x38.1
 let x40 := x38.2
 let x41 := x27.2
 let x42 := x41.1
 let x43 := x41.2
 let x44 := x12.2
 let x45 := x44.1
 let x46 := x44.2
 let x47 := x46.1
 let x48 := x46.2
 let x49 := x48.1
 let x50 := x48.2
 let x51 := x50.1
 let x52 := x50.2
 let x53 := x52.1
 let x54 := x52.2
 let x55 := x54.1
 let x56 := x54.2
 let x57 := x56.1
 let x58 := x56.2
 let x59 := x58.1
 let x60 := x58.2
 let x61 := x60.1
 let x62 := x60.2
 let x63 := x62.1
 let x64 := x62.2
 let x65 := x5.1
 let x66 := x65.1
 let x67 := x65.2
 let x68 := x67.1
 let x69 := x68.1
 let x70 := x68.2
 let x71 := x70.1
 let x72 := x70.2
 let x73 := x72.1
 let x74 := x72.2
 let x75 := x74.1
 let x76 := x74.2
 let x77 := x76.1
 let x78 := x76.2
 let x79 := x78.1
 let x80 := x78.2
 let x81 := x80.1
 let x82 := x80.2
 let x83 := x82.1
 let x84 := x83.1
 let x85 := x83.2
 let x86 := x85.1
 let x87 := x85.2
 let x88 := x87.1
 let x89 := x87.2
 let x90 := x89.1
 let x91 := x89.2
 let x92 := x91.1
 let x93 := x91.2
 let x94 := x93.1
 let x95 := x93.2
 let x96 := x82.2
 let x97 := x96.1
 let x98 := x96.2
 let x99 := x67.2
 let x100 := x99.1
 let x101 := x99.2
 let x102 := x101.1
 let x103 := x101.2
 let x104 := x103.1
 let x105 := x103.2
 let x106 := x105.1
 let x107 := x105.2
 let x108 := x107.1
 let x109 := x107.2
 let x110 := x109.1
 let x111 := x109.2
 let x112 := x111.1
 let x113 := x111.2
 let x114 := x113.1
 let x115 := x113.2
 let x116 := x115.1
 let x117 := x115.2
 let x118 := x117.1
 let x119 := x117.2
 let x120 := x6.1
 let x121 := x7.1
 let x122 := x8.1
 let x123 := x9.2.1
 .br (decide (a.2.1 < if 10000 < a.1 then 10000 else a.1) && !a.2.2.1.2.2.2.2.1) (.br (okB x2) (.leaf (some (Go1.cont (a.1, i64.wrap (a.2.1 + 1), (bif x4 then x11 else x11, (bif x4 then x14 else x14, bif x4 then x16 else x16, bif x4 then x18 else x18, bif x4 then x20 else x20, bif x4 then x22 else x22, bif x4 then x24 else x24, bif x4 then x26 else x26, (bif x4 then x29 else x29, bif x4 then x31 else x31, bif x4 then x33 else x33, bif x4 then x35 else x35, bif x4 then x37 else x37, bif x4 then x39 else x39, bif x4 then x40 else x40), bif x4 then x42 else x42, bif x4 then x43 else x43), bif x4 then x45 else x45, bif x4 then x47 else x47, bif x4 then x49 else x49, bif x4 then x51 else x51, bif x4 then x53 else x53, bif x4 then x55 else x55, bif x4 then x57 else x57, bif x4 then x59 else x59, bif x4 then x61 else x61, bif x4 then x63 else x63, bif x4 then x64 else x64), (bif x4 then x66 else x66, (bif x4 then x69 else x69, bif x4 then x71 else x71, bif x4 then x73 else x73, bif x4 then x75 else x75, bif x4 then x77 else x77, bif x4 then x79 else x79, bif x4 then x81 else x81, (bif x4 then x84 else x84, bif x4 then x86 else x86, bif x4 then x88 else x88, bif x4 then x90 else x90, bif x4 then x92 else x92, bif x4 then x94 else x94, bif x4 then x95 else x95), bif x4 then x97 else x97, bif x4 then x98 else x98), bif x4 then x100 else x100, bif x4 then x102 else x102, bif x4 then x104 else x104, bif x4 then x106 else x106, bif x4 then x108 else x108, bif x4 then x110 else x110, bif x4 then x112 else x112, bif x4 then x114 else x114, bif x4 then x116 else x116, bif x4 then x118 else x118, bif x4 then x119 else x119), bif x4 then x120 else x120, bif x4 then x121 else x121, bif x4 then x122 else x122, bif x4 then x123 else x123, PUnit.unit)))) (.leaf none)) (.leaf (some (Go1.brk (a.1, a.2.1, a.2.2.1, a.2.2.2.1, a.2.2.2.2.1, a.2.2.2.2.2.1, a.2.2.2.2.2.2.1, a.2.2.2.2.2.2.2.1, PUnit.unit))))
def ZA8 : Ora := ZbH false ZGM ZgP (fun a => 20000)
theorem ZA7 : Zbe (envX Tryz.prog [(93, Zcq), (94, Zma)] [] 32767 8) (.block 0 (.loop (Zae Tryz.f33.body 0))) ZA8 :=
 ZC (ZF (l := [(93, Zcq), (94, Zma)]) ⟨Zej, Zpl, trivial⟩ [] 32767 8) (Zl (by kernel_rfl)) (fun a => by kernel_rfl)
def ZA6 (c : TC) (rg : List (QT10)) (m : List (Int × Int)) (ins : List Int) (k : Int) : RT (Option (QT16)) :=
 let x1 : QT11 := (k, 0, c, (0, (0, 0, 0, 0, 0, 0, 0, (false, false, false, false, false, false, false), 0, 0), false, false, false, 0, false, false, false, false, false, false, false), rg, Cells.normX m, ins, [], ())
 let x2 := runF false ZgP (fun a => 20000) x1
 let x3 : Int × TC × TC × List (Int × Int × Bool × Int) × List (Int × Int) × List Int × List (Int × Int) × PUnit := (getO (false, x1) x2).2.2
 let x4 := x3.2
 let x5 := x4.2.2.2
 .br (smC m) (.br (okB x2) (.leaf (some ((x4.1, x5.1, x5.2.2.1, x3.1)))) (.leaf none)) (.leaf none)
def iRun (c : TC) (rg : List (QT10)) (m : List (Int × Int)) (ins : List Int) (k : Int) : QT16 := getO Zu7.dflt (ZA6 c rg m ins k).val
def ZGN (c : TC) (rg : List (QT10)) (m : List (Int × Int)) (ins : List Int) (k : Int) : Bool := okB (ZA6 c rg m ins k).val
def iRunE : Entry := Zm ZA5 Zu7 (fun a => some (ZGN a.1 a.2.1 a.2.2.1 a.2.2.2.1 a.2.2.2.2)) (fun a => iRun a.1 a.2.1 a.2.2.1 a.2.2.2.1 a.2.2.2.2)
theorem ZGL : Zc Tryz.prog 33 iRunE :=
 pureP 32767 [(93, Zcq), (94, Zma)] [(0, ZA8)] ZA5 Zu7 ⟨Zej, Zpl, trivial⟩ Tryz.func33 Tryz.call33 ⟨ZA7, trivial⟩ (t := fun a => ZA6 a.1 a.2.1 a.2.2.1 a.2.2.2.1 a.2.2.2.2) (fun a => by kernel_rfl)
abbrev ZAT : List Sh := [Sh.one (R.sl (R.pair (R.int u8) (R.int u8))), Sh.one (R.sl (R.pair (R.int u8) (R.int u8)))]
abbrev ZsW : Rs := Rs.one (Sh.one R.bool)
def ZDp : LS := { n := 26, slots := [(0, .code (Sh.one (R.sl (R.pair (R.int u8) (R.int u8))))), (1, .code (Sh.one (R.sl (R.pair (R.int u8) (R.int u8))))), (4, .code (Sh.one R.bool)), (12, .code (Sh.one (R.int i64))), (13, .code (Sh.one (R.int i64)))], boxes := [], stgs := [] }
def Zu4 (a : List (Int × Int) × List (Int × Int) × Bool × Int × Int × PUnit) : RT (Option (Go1 (List (Int × Int) × List (Int × Int) × Bool × Int × Int × PUnit))) :=
 let x1 := !Ze a.2.2.2.2.1 (List.length a.1) || Ze a.2.2.2.2.1 (List.length a.2.1)
 let x2 : Int × Int := R.get (R.pair (R.int u8) (R.int u8)) a.1 a.2.2.2.2.1
 let x3 : Int × Int := R.get (R.pair (R.int u8) (R.int u8)) a.2.1 a.2.2.2.2.1
 let x4 : Int × Int × PUnit := (a.2.2.2.1, a.2.2.2.2.1, PUnit.unit)
 .br (decide (a.2.2.2.2.1 < a.2.2.2.1)) (.br (!x1 || Ze a.2.2.2.2.1 (List.length a.1)) (.br (x1) (.br (!(x2.1 == x3.1 && (x2.2 == x3.2 && true))) (.leaf (some (Go1.ret (a.1, a.2.1, false, x4)))) (.leaf (some (Go1.cont (a.1, a.2.1, a.2.2.1, a.2.2.2.1, i64.wrap (a.2.2.2.2.1 + 1), PUnit.unit))))) (.leaf none)) (.leaf none)) (.leaf (some (Go1.brk (a.1, a.2.1, a.2.2.1, x4))))
def Zu5 : Ora := ZbH true ZDp Zu4 (fun a => 1000000000000)
theorem Zw3 : Zbe (envX Tryz.prog [] [] 63 8) (.block 0 (.loop (Zae Tryz.f40.body 0))) Zu5 :=
 ZC (ZF (l := []) trivial [] 63 8) (Zl (by kernel_rfl)) (fun a => by kernel_rfl)
def ZAU (a : List (Int × Int)) (b : List (Int × Int)) : RT (Option (Bool)) :=
 let x1 := runF true Zu4 (fun a_1 => 1000000000000) (a, b, false, iN (List.length a), 0, ())
 let x2 := getO (false, a, b, false, iN (List.length a), 0, ()) x1
 .br (iN (List.length a) != iN (List.length b)) (.leaf (some (false))) (.br (okB x1) (.br x2.1 (.leaf (some x2.2.2.2.1)) (.leaf (some (true)))) (.leaf none))
def jOuts (a : List (Int × Int)) (b : List (Int × Int)) : Bool := getO ZsW.dflt (ZAU a b).val
def ZEO (a : List (Int × Int)) (b : List (Int × Int)) : Bool := okB (ZAU a b).val
def ZEN : Entry := Zm ZAT ZsW (fun a => some (ZEO a.1 a.2)) (fun a => jOuts a.1 a.2)
theorem ZDo : Zc Tryz.prog 40 ZEN :=
 pureP 63 [] [(0, Zu5)] ZAT ZsW trivial Tryz.func40 Tryz.call40 ⟨Zw3, trivial⟩ (t := fun a => ZAU a.1 a.2) (fun a => by kernel_rfl)
end
end Go.Proofs.YtghoimllhpjkjaaGreat
open Go Go.S3 Go.Proofs Go.Proofs.Cells
namespace Go.Proofs.YtghoimllhpjkjaaGreat
noncomputable section
abbrev MacT := List Z0 × List Cell × List Int × List (Int × Int)
def doX (x : Cyc) (m : MacT) : Int × MacT :=
 bif x.1 == 1 || (x.1 == 2 || x.1 == 4) then (ZaD m.1 m.2.1 x.2.1, m)
 else bif x.1 == 3 || x.1 == 5 then (x.2.2.1, (m.1, ZB m.1 m.2.1 x.2.1 x.2.2.1, m.2.2))
 else bif x.1 == 7 then (x.2.2.1, (m.1, m.2.1, m.2.2.1, m.2.2.2 ++ [(IntKind.wrap .u8 x.2.1, x.2.2.1)]))
 else bif x.1 == 6 || (x.1 == 8 || x.1 == 9) then (m.2.2.1.getD 0 0, (m.1, m.2.1, m.2.2.1.drop 1, m.2.2.2))
 else (0, m)
def goX (c : CpuT) (s : Int) : Nat → List Int → MacT → List Int × MacT
 | 0, g, m => (g, m)
 | n + 1, g, m => bif (Zj c s g).2 then goX c s n (g ++ [(doX (Zj c s g).1 m).1]) (doX (Zj c s g).1 m).2 else (g, m)
def Zcm (c : CpuT) (s : Int) (l : LnT) (m : MacT) : CpuT × MacT × List Int :=
 (finX (Zb9 c s) s (goX (Zb9 c s) s 6 [] m).1 l, (goX (Zb9 c s) s 6 [] m).2, (goX (Zb9 c s) s 6 [] m).1)
def noL : LnT := (false, false, false, false, false, false, false, false, false)
def runX : Nat → CpuT → MacT → Int → CpuT × MacT × Int
 | 0, c, m, u => (c, m, u)
 | n + 1, c, m, u => bif c.2.2.2.2.1 then (c, m, u) else runX n (Zcm c 0 noL m).1 (Zcm c 0 noL m).2.1 (u + 1)
theorem cle {b : Bool} {x y : List Cyc} {n : Nat} (hx : x.length ≤ n) (hy : y.length ≤ n) : (bif b then x else y).length ≤ n := by cases b <;> assumption
theorem ZDQ (c : CpuT) (inj : Bool) (g : List Int) (i : InsT) : (ZbF c inj g i).length ≤ 4 := by
 unfold ZbF
 simp only [Zbv, ZfA, ZcR, Zbs, popX]
 repeat' apply cle
 all_goals first
  | (simp only [List.length_cons, List.length_nil, List.length_append]; omega)
  | (cases i.2.2.1 == 6 <;> cases Zah c i <;> cases c.1 == 2 <;> simp; done)
  | skip
theorem ZCw (c : CpuT) (s : Int) (g : List Int) : (ZfO c s g).length ≤ 5 := by
 have h := fun o => ZDQ c (s == 5) g (Zb c.1 o)
 unfold ZfO
 cases g with
 | nil => exact cle (by simp [Zbs]) (by simp)
 | cons o l => exact cle (by simp [Zbs]) (by simpa using h o)
theorem ZDa (c : CpuT) (s : Int) (g : List Int) (h : 5 ≤ g.length) : (Zj c s g).2 = false := by
 have hp := ZCw c s g
 unfold Zj
 simp [pick]; omega
theorem Zxk (l : List Z0) (m : List Cell) (t v : Int) : Vld (ZB l m t v) := by
 unfold ZB
 cases decide (ZaZ l t ≥ 0) && (R.get GR l (ZaZ l t)).2.2.1
 ·exact Zbz m
 ·exact Zme (Zbz m)
theorem Zbu (l : List Z0) (m : List Cell) (t v : Int) : (ZB l m t v).length ≤ m.length + 1 := by
 have h := Zb4 m
 unfold ZB
 cases decide (ZaZ l t ≥ 0) && (R.get GR l (ZaZ l t)).2.2.1
 ·exact Nat.le_trans h (Nat.le_succ _)
 ·exact Nat.le_trans (Zmg _ _) (by omega)
theorem ZER (x : Cyc) (m : MacT) : (doX x m).2.1 = m.1 ∧ (Vld m.2.1 → Vld (doX x m).2.2.1) ∧ (doX x m).2.2.1.length ≤ m.2.1.length + 1 ∧
  (doX x m).2.2.2.1.length ≤ m.2.2.1.length ∧ (doX x m).2.2.2.2.length ≤ m.2.2.2.length + 1 := by
 unfold doX
 have hl := Zbu m.1 m.2.1 x.2.1 x.2.2.1
 have hv := Zxk m.1 m.2.1 x.2.1 x.2.2.1
 cases x.1 == 1 || (x.1 == 2 || x.1 == 4)
 ·cases x.1 == 3 || x.1 == 5
  ·cases x.1 == 7
   ·cases x.1 == 6 || (x.1 == 8 || x.1 == 9)
    ·exact ⟨rfl, id, by simp, by simp, by simp⟩
    ·exact ⟨rfl, id, by simp, by simp, by simp⟩
   ·exact ⟨rfl, id, by simp, by simp, by simp⟩
  ·exact ⟨rfl, fun _ => hv, hl, by simp, by simp⟩
 ·exact ⟨rfl, id, by simp, by simp, by simp⟩
def pre (o : List (Int × Int)) (m : MacT) : MacT := (m.1, m.2.1, m.2.2.1, o ++ m.2.2.2)
theorem ZlN (n : Nat) (c : CpuT) (m : MacT) (u : Int) : runX (n + 1) c m u = bif c.2.2.2.2.1 then (c, m, u) else runX n (Zcm c 0 noL m).1 (Zcm c 0 noL m).2.1 (u + 1) := rfl
theorem ZEP (c : CpuT) (s : Int) : ∀ (n : Nat) (g : List Int) (m : MacT), (goX c s n g m).2.1 = m.1 ∧ (Vld m.2.1 → Vld (goX c s n g m).2.2.1) ∧ (goX c s n g m).2.2.1.length ≤ m.2.1.length + n ∧
  (goX c s n g m).2.2.2.1.length ≤ m.2.2.1.length ∧ (goX c s n g m).2.2.2.2.length ≤ m.2.2.2.length + n
 | 0, g, m => ⟨rfl, id, Nat.le_refl _, Nat.le_refl _, Nat.le_refl _⟩
 | n + 1, g, m => by
  unfold goX
  cases (Zj c s g).2
  ·exact ⟨rfl, id, Nat.le_add_right _ _, Nat.le_refl _, Nat.le_add_right _ _⟩
  ·have h1 := ZER (Zj c s g).1 m
   have h2 := ZEP c s n (g ++ [(doX (Zj c s g).1 m).1]) (doX (Zj c s g).1 m).2
   exact ⟨h2.1.trans h1.1, fun h => h2.2.1 (h1.2.1 h), Nat.le_trans h2.2.2.1 (by omega), Nat.le_trans h2.2.2.2.1 h1.2.2.2.1, Nat.le_trans h2.2.2.2.2 (by omega)⟩
theorem Zxl (l : List Z0) (m : List Cell) (t v q : Int) : getX (ZB l m t v) q = if (decide (ZaZ l t ≥ 0) && (R.get GR l (ZaZ l t)).2.2.1) = true ∧ t = q then v else getX m q := by
 unfold ZB
 cases decide (ZaZ l t ≥ 0) && (R.get GR l (ZaZ l t)).2.2.1
 ·simp [ZU]
 ·simp only [cond_true]; rw [Zmh (Zbz m)]; simp [ZU]
theorem cor (a b : Bool) : (bif a then a else b) = (a || b) := by cases a <;> rfl
theorem ZIp (l : List Int) : (iN l.length == 0 || Ze 0 l.length) = true := by
 cases l with
 | nil => rfl
 | cons x l => simp [iN, Ze]
theorem ZGF (l : List Int) : (iN l.length == 0 || (!Ze 0 l.length || decide (0 ≤ 1) && decide (1 ≤ iN l.length) && (decide (iN l.length = 0) || decide (iN l.length ≤ iN l.length)))) = true := by
 cases l with
 | nil => rfl
 | cons x l => simp [iN, Ze]; omega
theorem ZGG (l g : List Int) : (bif iN l.length == 0 then g ++ [0] else g ++ [R.get (R.int .u8) l 0]) = g ++ [l.getD 0 0] := by
 cases l with
 | nil => rfl
 | cons x l =>
  have : (iN (x :: l).length == 0) = false := by simp [iN]; omega
  rw [this]; rfl
theorem ZIo (l : List Int) : (bif iN l.length == 0 then l else subL l 1 (iN l.length)) = l.drop 1 := by
 cases l with
 | nil => rfl
 | cons x l =>
  have : (iN (x :: l).length == 0) = false := by simp [iN]; omega
  rw [this]
  simp [subL, iN]
theorem Zva (c : CpuT) (s : Int) (n : Nat) (g : List Int) (m : MacT) : goX c s (n + 1) g m = bif (Zj c s g).2 then goX c s n (g ++ [(doX (Zj c s g).1 m).1]) (doX (Zj c s g).1 m).2 else (g, m) := rfl
structure Rm (rg : List Z0) (m : List Cell) (outs : List (Int × Int)) (g : List Int) : Prop where
 r : smG rg = true
 m : smC m = true
 o : ∀ x, Nat.ble (outs ++ [x]).length most = true
 g : ∀ x, Nat.ble (g ++ [x]).length most = true
theorem ZGO (s g0 c0 cz rg m ins c l cz2 outs g) (h : Rm rg m outs g) :
  (Zdf (s, g0, c0, cz, rg, m, ins, c, l, cz2, outs, g, ())).val = some (bif (Zj c s g).2 then
   Go1.cont (s, g0, c0, cz, rg, (doX (Zj c s g).1 (rg, m, ins, outs)).2.2.1, (doX (Zj c s g).1 (rg, m, ins, outs)).2.2.2.1, c, l, cz2, (doX (Zj c s g).1 (rg, m, ins, outs)).2.2.2.2, g ++ [(doX (Zj c s g).1 (rg, m, ins, outs)).1], ())
   else Go1.ret (s, g, c0, cz, rg, m, ins, c, l, finX c s g l, outs, g, ())) := by
 have i1 := ZIp ins
 have i2 := ZGF ins
 have i3 := ZGG ins g
 have i4 := ZIo ins
 simp only [Zdf, RT.val, cor, h.r, h.m, h.o, h.g, i1, i2, Bool.or_true, Bool.true_or, Bool.not_true, Bool.false_or, Bool.or_false, Bool.and_self, cond_true]
 cases (Zj c s g).2
 ·rfl
 ·simp only [Bool.not_true, cond_false, cond_true, i3, i4]
  unfold doX
  generalize (Zj c s g).1 = x
  cases x.1 == 1 || (x.1 == 2 || x.1 == 4)
  ·cases x.1 == 3 || x.1 == 5
   ·cases x.1 == 7
    ·cases x.1 == 6 || (x.1 == 8 || x.1 == 9) <;> rfl
    ·rfl
   ·rfl
  ·rfl
def Zj9 (a : Int × List Int × CpuT × CpuT × List Z0 × List Cell × List Int × CpuT × LnT × CpuT × List (Int × Int) × List Int × PUnit) : List Int := a.2.2.2.2.2.2.2.2.2.2.2.1
theorem ZIs (A : List Int × CpuT × CpuT × CpuT) (c : CpuT) (s : Int) (l : LnT) (M0 : MacT) (hr : smG M0.1 = true) (hm : M0.2.1.length + 20 ≤ most) (ho : M0.2.2.2.length + 20 ≤ most) :
  ∃ r, runF true Zdf (fun _ => 100) (s, A.1, A.2.1, A.2.2.1, M0.1, M0.2.1, M0.2.2.1, c, l, A.2.2.2, M0.2.2.2, [], ()) = some r ∧ r = (true, s, (goX c s 6 [] M0).1, A.2.1, A.2.2.1, M0.1, (goX c s 6 [] M0).2.2.1, (goX c s 6 [] M0).2.2.2.1, c, l, finX c s (goX c s 6 [] M0).1 l, (goX c s 6 [] M0).2.2.2.2, (goX c s 6 [] M0).1, ()) := by
 have hms := mst
 obtain ⟨r, h1, h2⟩ := ZW (fl := true) (t := Zdf) (fuel := fun _ => 100)
  (fun a => ∃ (g : List Int) (M : MacT), a = (s, A.1, A.2.1, A.2.2.1, M0.1, M.2.1, M.2.2.1, c, l, A.2.2.2, M.2.2.2, g, ()) ∧ M.1 = M0.1 ∧ g.length ≤ 5 ∧ goX c s (6 - g.length) g M = goX c s 6 [] M0 ∧ M.2.1.length ≤ M0.2.1.length + g.length ∧ M.2.2.2.length ≤ M0.2.2.2.length + g.length)
  (fun a => 6 - (Zj9 a).length) (fun r => r = (true, s, (goX c s 6 [] M0).1, A.2.1, A.2.2.1, M0.1, (goX c s 6 [] M0).2.2.1, (goX c s 6 [] M0).2.2.2.1, c, l, finX c s (goX c s 6 [] M0).1 l, (goX c s 6 [] M0).2.2.2.2, (goX c s 6 [] M0).1, ()))
  (by
   rintro a ⟨g, M, rfl, hM, hg, hR, hl, hq⟩
   have rm : Rm M0.1 M.2.1 M.2.2.2 g := ⟨hr, by rw [show smC M.2.1 = sm M.2.1 from rfl, Zig]; omega, fun x => by rw [Nat.ble_eq]; simp; omega, fun x => by rw [Nat.ble_eq]; simp; omega⟩
   have hs := ZGO s A.1 A.2.1 A.2.2.1 M0.1 M.2.1 M.2.2.1 c l A.2.2.2 M.2.2.2 g rm
   have e6 : 6 - g.length = (5 - g.length) + 1 := by omega
   rw [e6] at hR
   have hMe : M = (M0.1, M.2.1, M.2.2.1, M.2.2.2) := by rw [← hM]
   cases hn : (Zj c s g).2
   ·right; right
    rw [hn, cond_false] at hs
    refine ⟨_, rfl, hs, ?_⟩
    rw [Zva c s (5 - g.length) g M, hn, cond_false] at hR
    rw [← hR]
   ·left
    rw [hn, cond_true, ← hMe] at hs
    have h5 : g.length < 5 := by
     refine Nat.lt_of_not_le fun h => ?_
     rw [ZDa c s g h] at hn; simp at hn
    have hd := ZER (Zj c s g).1 M
    rw [Zva c s (5 - g.length) g M, hn, cond_true] at hR
    refine ⟨_, hs, ⟨g ++ [(doX (Zj c s g).1 M).1], (doX (Zj c s g).1 M).2, rfl, hd.1.trans hM, by simp; omega, ?_, ?_, ?_⟩, ?_⟩
    ·rw [show 6 - (g ++ [(doX (Zj c s g).1 M).1]).length = 5 - g.length by simp only [List.length_append, List.length_singleton]; omega]; exact hR
    ·have := hd.2.2.1; simp; omega
    ·have := hd.2.2.2.2; simp; omega
    ·simp [Zj9]; omega)
  (s, A.1, A.2.1, A.2.2.1, M0.1, M0.2.1, M0.2.2.1, c, l, A.2.2.2, M0.2.2.2, [], ()) ⟨[], M0, rfl, rfl, by simp, rfl, by simp, by simp⟩ (by simp [Zj9])
 exact ⟨r, h1, h2⟩
def czX : CpuT := (0, (0, 0, 0, 0, 0, 0, 0, (false, false, false, false, false, false, false), 0, 0), false, false, false, 0, false, false, false, false, false, false, false)
def Zfu (rg : List Z0) (m : List Cell) (ins : List Int) : MacT := (rg, normX m, ins, [])
def limK (k : Int) : Int := if 10000 < k then 10000 else k
def runR (c : CpuT) (rg : List Z0) (m : List Cell) (ins : List Int) (k : Int) : CpuT × List Cell × List (Int × Int) × Int :=
 let r := runX (limK k).toNat c (Zfu rg m ins) 0
 (r.1, r.2.1.2.1, r.2.1.2.2.2, r.2.2)
theorem i_run (c : CpuT) (rg : List Z0) (m : List Cell) (ins : List Int) (k : Int) (hr : smG rg = true) (hm : m.length + 100000 ≤ most) :
  ZGN c rg m ins k = true ∧ iRun c rg m ins k = runR c rg m ins k := by
 have hms := mst
 have hl := Zb4 m
 have hs : smC m = true := by show sm m = true; rw [Zig]; omega
 have hk : (limK k).toNat ≤ 10000 := by unfold limK; split <;> omega
 obtain ⟨r, h1, h2⟩ := ZW (fl := false) (t := ZgP) (fuel := fun _ => 20000)
  (fun a => ∃ (n : Nat) (c' : CpuT) (M : MacT) (u : Nat), a = (k, (u : Int), c', czX, rg, M.2.1, M.2.2.1, M.2.2.2, ()) ∧ M.1 = rg ∧ n + u = (limK k).toNat ∧ runX n c' M u = runX (limK k).toNat c (Zfu rg m ins) 0 ∧ M.2.1.length ≤ m.length + 6 * u ∧ M.2.2.2.length ≤ 6 * u)
  (fun a => 10001 - Int.toNat a.2.1) (fun r => ∃ rest, r = (false, (k, (runX (limK k).toNat c (Zfu rg m ins) 0).2.2, (runX (limK k).toNat c (Zfu rg m ins) 0).1, czX, rg, (runX (limK k).toNat c (Zfu rg m ins) 0).2.1.2.1, rest, (runX (limK k).toNat c (Zfu rg m ins) 0).2.1.2.2.2, ())))
  (by
   rintro a ⟨n, c', M, u, rfl, hM, hn, hR, hq1, hq2⟩
   have hMe : M = (rg, M.2.1, M.2.2.1, M.2.2.2) := by rw [← hM]
   have hlt : decide ((u : Int) < limK k) = decide (0 < n) := by
    by_cases h0 : 0 < n
    ·rw [decide_eq_true h0, decide_eq_true]; omega
    ·rw [decide_eq_false h0, decide_eq_false]; omega
   cases n with
   | zero =>
    right; left
    refine ⟨(k, (u : Int), c', czX, rg, M.2.1, M.2.2.1, M.2.2.2, ()), ?_, M.2.2.1, ?_⟩
    ·have : (decide ((u : Int) < if 10000 < k then 10000 else k) && !c'.2.2.2.2.1) = false := by
      show (decide ((u : Int) < limK k) && _) = false
      rw [hlt]; rfl
     simp only [ZgP, RT.val, this, cond_false]
    ·rw [← hR]; rfl
   | succ n =>
    rw [ZlN] at hR
    cases hh : c'.2.2.2.2.1 with
    | true =>
     right; left
     refine ⟨(k, (u : Int), c', czX, rg, M.2.1, M.2.2.1, M.2.2.2, ()), ?_, M.2.2.1, ?_⟩
     ·have : (decide ((u : Int) < if 10000 < k then 10000 else k) && !c'.2.2.2.2.1) = false := by rw [hh]; simp
      simp only [ZgP, RT.val, this, cond_false]
     ·rw [hh, cond_true] at hR
      rw [← hR]
    | false =>
     left
     rw [hh, cond_false] at hR
     obtain ⟨r, h1, h2⟩ := ZIs ([], c', czX, czX) (Zb9 c' 0) 0 noL M (by rw [hM]; exact hr) (by omega) (by omega)
     subst h2
     rw [hM] at h1
     simp only [noL, czX] at h1
     have hc : (decide ((u : Int) < if 10000 < k then 10000 else k) && !c'.2.2.2.2.1) = true := by
      show (decide ((u : Int) < limK k) && _) = true
      rw [hlt, hh]; simp
     have gi := ZEP (Zb9 c' 0) 0 6 [] M
     refine ⟨(k, ((u + 1 : Nat) : Int), (Zcm c' 0 noL M).1, czX, rg, (Zcm c' 0 noL M).2.1.2.1, (Zcm c' 0 noL M).2.1.2.2.1, (Zcm c' 0 noL M).2.1.2.2.2, ()), ?_, ⟨n, (Zcm c' 0 noL M).1, (Zcm c' 0 noL M).2.1, u + 1, rfl, ?_, by omega, ?_, ?_, ?_⟩, ?_⟩
     ·simp only [ZgP, RT.val, hc, czX, h1, okB, getO, cond_true]
      rw [Ze5 u (by omega)]
      rfl
     ·exact gi.1.trans hM
     ·exact hR
     ·have := gi.2.2.1; simp only [Zcm]; omega
     ·have := gi.2.2.2.2; simp only [Zcm]; omega
     ·simp only; omega)
  (k, 0, c, czX, rg, normX m, ins, [], ()) ⟨(limK k).toNat, c, Zfu rg m ins, 0, rfl, rfl, by omega, rfl, by show (normX m).length ≤ _; omega, by simp [Zfu]⟩ (by simp)
 obtain ⟨rest, rfl⟩ := h2
 simp only [czX] at h1
 have hv : (ZA6 c rg m ins k).val = some (runR c rg m ins k) := by
  simp only [ZA6, RT.val, hs, h1, okB, getO, cond_true]
  rfl
 exact ⟨by simp only [ZGN, hv]; rfl, by simp only [iRun, hv, getO]⟩
abbrev ZlZ : R := R.pair (R.int u16) (R.int u8)
abbrev Zl0 : Nat := 106
abbrev ZqY : List Sh := [Sh.one rcCE, Sh.agg (R.pair (R.int u16) (R.int u8))]
def ZCf : LS := { n := 53, slots := [(3, .fix (A.loc 0 0)), (5, .tip 0), (6, .code (Sh.one R.bool)), (9, .code (Sh.one rcCE)), (10, .code (Sh.one (R.int i64))), (11, .code (Sh.one (R.int i64)))], boxes := [[.many (R.pair (R.int u16) (R.int u8))]], stgs := [⟨(R.pair (R.int u16) (R.int u8)), 106, false⟩] }
def ZtI (a : QT6) : RT (Option (Go1 (QT6))) :=
 let x1 : Int × Int := R.get (R.pair (R.int u16) (R.int u8)) a.2.1 a.2.2.2.1
 let x2 := x1.1
 let x3 := !a.1 && decide (x2 ≥ a.2.2.2.2.1.1)
 let x4 : List (Int × Int) := a.2.2.2.2.2.1 ++ [a.2.2.2.2.1]
 let x5 := !x3 || (!a.2.2.2.2.1.2 != 0 || Nat.ble (List.length x4) most)
 let x6 := x2 != a.2.2.2.2.1.1
 let x7 : List (Int × Int) := bif x3 then bif a.2.2.2.2.1.2 != 0 then x4 else a.2.2.2.2.2.1 else a.2.2.2.2.2.1
 let x8 : List (Int × Int) := x7 ++ [x1]
 .br (decide (a.2.2.2.1 < a.2.2.1)) (.br (!Ze a.2.2.2.1 (List.length a.2.1) || (!x5 || (!x6 || Nat.ble (List.length x8) most))) (.br (!Ze a.2.2.2.1 (List.length a.2.1) || x5) (.br (Ze a.2.2.2.1 (List.length a.2.1)) (.leaf (some (Go1.cont (x3 || a.1, a.2.1, a.2.2.1, i64.wrap (a.2.2.2.1 + 1), a.2.2.2.2.1, bif x6 then x8 else x7, PUnit.unit)))) (.leaf none)) (.leaf none)) (.leaf none)) (.leaf (some (Go1.brk (a.1, a.2.1, a.2.2.1, a.2.2.2.1, a.2.2.2.2.1, a.2.2.2.2.2.1, PUnit.unit))))
def ZtJ : Ora := ZbH false ZCf ZtI (fun a => 1000000000000)
theorem ZvE : Zbe (envX Tryz.prog [] [] 511 8) (.block 0 (.loop (Zae Tryz.f149.body 0))) ZtJ :=
 ZC (ZF (l := []) trivial [] 511 8) (Zl (by kernel_rfl)) (fun a => by kernel_rfl)
def ZtH (m : List (Int × Int)) (c : Int × Int) : RT (Option (List (Int × Int))) :=
 let x1 : QT6 := (false, m, iN (List.length m), 0, c, [], ())
 let x2 := runF false ZtI (fun a => 1000000000000) x1
 let x3 : QT6 := (getO (false, x1) x2).2
 let x4 := x3.2.2.2.2
 let x5 := x4.1
 let x6 := !x3.1 && x5.2 != 0
 let x7 := x4.2.1
 let x8 : List (Int × Int) := x7 ++ [x5]
 .br (okB x2) (.br (!x6 || Nat.ble (List.length x8) most) (.leaf (some (bif x6 then x8 else x7))) (.leaf none)) (.leaf none)
def ZCg (m : List (Int × Int)) (c : Int × Int) : List (Int × Int) := getO [] (ZtH m c).val
def ZtL (m : List (Int × Int)) (c : Int × Int) : Bool := okB (ZtH m c).val
def ZtK : Entry := frzE (newE ZlZ Zl0 ZqY (fun a => some (ZtL a.1 a.2)) (fun a => ZCg a.1 a.2))
theorem Zyn : Zc Tryz.prog 149 (newE ZlZ Zl0 ZqY (fun a => some (ZtL a.1 a.2)) (fun a => ZCg a.1 a.2)) :=
 Znx (P := Tryz.prog) (n := 511) (k := 8) (l := []) (ol := [(0, ZtJ)]) trivial Tryz.func149 rfl (by kernel_rfl) Tryz.call149 ⟨ZvE, trivial⟩ (r := ZlZ) (T := Zl0) (ts := ZqY) (t := fun a => ZtH a.1 a.2) (fun a => by kernel_rfl)
theorem ZtG : Zc Tryz.prog 149 ZtK := ZBg Zyn
abbrev ZhK : R := R.pair (R.int u16) (R.int u8)
abbrev ZhL : Nat := 106
abbrev Zl3 : List Sh := [Sh.one rcCE]
def Zys : LS := { n := 21, slots := [(3, .tip 0), (10, .code (Sh.one rcCE)), (11, .code (Sh.one (R.int i64))), (12, .code (Sh.one (R.int i64)))], boxes := [], stgs := [⟨(R.pair (R.int u16) (R.int u8)), 106, false⟩] }
def Zd6 (a : List (Int × Int) × Int × Int × List (Int × Int) × PUnit) : RT (Option (Go1 (List (Int × Int) × Int × Int × List (Int × Int) × PUnit))) :=
 .br (decide (a.2.2.1 < a.2.1)) (.br (!Ze a.2.2.1 (List.length a.1) || ZtL a.2.2.2.1 (R.get (R.pair (R.int u16) (R.int u8)) a.1 a.2.2.1)) (.br (Ze a.2.2.1 (List.length a.1)) (.leaf (some (Go1.cont (a.1, a.2.1, i64.wrap (a.2.2.1 + 1), Stg.l (newG ZlZ Zl0 (ZCg a.2.2.2.1 (R.get (R.pair (R.int u16) (R.int u8)) a.1 a.2.2.1))), PUnit.unit)))) (.leaf none)) (.leaf none)) (.leaf (some (Go1.brk (a.1, a.2.1, a.2.2.1, a.2.2.2.1, PUnit.unit))))
def ZoE : Ora := ZbH false Zys Zd6 (fun a => 1000000000000)
theorem Zq1 : Zbe (envX Tryz.prog [(44, ZhJ), (149, ZtK)] [] 63 8) (.block 0 (.loop (Zae Tryz.f92.body 0))) ZoE :=
 ZC (ZF (l := [(44, ZhJ), (149, ZtK)]) ⟨ZkT, ZtG, trivial⟩ [] 63 8) (Zl (by kernel_rfl)) (fun a => by kernel_rfl)
def Zgy (l : List (Int × Int)) : RT (Option (List (Int × Int))) :=
 let x1 := runF false Zd6 (fun a => 1000000000000) (l, iN (List.length l), 0, [], ())
 .br (smC l) (.br (!vldB l || Nat.ble (List.length ([] ++ l)) most) (.br (vldB l) (.leaf (some ([] ++ l))) (.br (okB x1) (.leaf (some (getO (false, l, iN (List.length l), 0, [], ()) x1).2.2.2.2.1)) (.leaf none))) (.leaf none)) (.leaf none)
def ZoF (l : List (Int × Int)) : List (Int × Int) := getO [] (Zgy l).val
def Zit (l : List (Int × Int)) : Bool := okB (Zgy l).val
def Zl4 : Entry := frzE (newE ZhK ZhL Zl3 (fun a => some (Zit a)) (fun a => ZoF a))
theorem ZvG : Zc Tryz.prog 92 (newE ZhK ZhL Zl3 (fun a => some (Zit a)) (fun a => ZoF a)) :=
 Znx (P := Tryz.prog) (n := 63) (k := 8) (l := [(44, ZhJ), (149, ZtK)]) (ol := [(0, ZoE)]) ⟨ZkT, ZtG, trivial⟩ Tryz.func92 rfl (by kernel_rfl) Tryz.call92 ⟨Zq1, trivial⟩ (r := ZhK) (T := ZhL) (ts := Zl3) (t := fun a => Zgy a) (fun a => by kernel_rfl)
theorem ZoD : Zc Tryz.prog 92 Zl4 := ZBg ZvG
abbrev ZeC : R := R.pair (R.int u16) (R.int u8)
abbrev ZeD : Nat := 106
abbrev Zl6 : List Sh := [Sh.one (R.int u16), Sh.one (R.sl (R.int u8))]
def Zyt : LS := { n := 27, slots := [(0, .code (Sh.one (R.int u16))), (1, .code (Sh.one (R.sl (R.int u8)))), (5, .tip 0), (8, .code (Sh.one (R.int i64))), (9, .code (Sh.one (R.int i64)))], boxes := [], stgs := [⟨(R.pair (R.int u16) (R.int u8)), 106, true⟩] }
def Zd7 (a : QT15) : RT (Option (Go1 (QT15))) :=
 let x1 : List (Int × Int) := a.2.2.2.2.1 ++ [(u16.wrap (a.1 + u16.wrap a.2.2.2.1), R.get (R.int u8) a.2.1 a.2.2.2.1)]
 let x2 := !Ze a.2.2.2.1 (List.length a.2.1) || Nat.ble (List.length x1) most
 .br (decide (a.2.2.2.1 < a.2.2.1)) (.br (!x2 || Ze a.2.2.2.1 (List.length a.2.1)) (.br (x2) (.leaf (some (Go1.cont (a.1, a.2.1, a.2.2.1, i64.wrap (a.2.2.2.1 + 1), x1, PUnit.unit)))) (.leaf none)) (.leaf none)) (.leaf (some (Go1.brk (a.1, a.2.1, a.2.2.1, a.2.2.2.1, a.2.2.2.2.1, PUnit.unit))))
def Zpj : Ora := ZbH false Zyt Zd7 (fun a => 1000000000000)
theorem Zq3 : Zbe (envX Tryz.prog [(92, Zl4)] [] 127 8) (.block 0 (.loop (Zae Tryz.f32.body 0))) Zpj :=
 ZC (ZF (l := [(92, Zl4)]) ⟨ZoD, trivial⟩ [] 127 8) (Zl (by kernel_rfl)) (fun a => by kernel_rfl)
def Ziu (t : Int) (b : List Int) : RT (Option (List (Int × Int))) :=
 let x1 := runF false Zd7 (fun a => 1000000000000) (t, b, iN (List.length b), 0, [], ())
 let x2 : List (Int × Int) := (getO (false, t, b, iN (List.length b), 0, [], ()) x1).2.2.2.2.2.1
 .br (okB x1) (.br (Zit x2) (.leaf (some (Stg.l (newG ZhK ZhL (ZoF x2))))) (.leaf none)) (.leaf none)
def Zyu (t : Int) (b : List Int) : List (Int × Int) := getO [] (Ziu t b).val
def Zq4 (t : Int) (b : List Int) : Bool := okB (Ziu t b).val
theorem ZvJ : Zc Tryz.prog 32 (newE ZeC ZeD Zl6 (fun a => some (Zq4 a.1 a.2)) (fun a => Zyu a.1 a.2)) :=
 Znx (P := Tryz.prog) (n := 127) (k := 8) (l := [(92, Zl4)]) (ol := [(0, Zpj)]) ⟨ZoD, trivial⟩ Tryz.func32 rfl (by kernel_rfl) Tryz.call32 ⟨Zq3, trivial⟩ (r := ZeC) (T := ZeD) (ts := Zl6) (t := fun a => Ziu a.1 a.2) (fun a => by kernel_rfl)
theorem Zya (m : List Cell) (c : Cell) (hv : Vld m) (hm : m.length + 1 ≤ most) : ZtL m c = true ∧ ZCg m c = putX m c := by
 have h := Zot m c hv hm
 have e : ZtH m c = ZkU m c := rfl
 simp only [ZoB, Zyp, ← e] at h
 exact h
theorem Zvz (l : List Cell) (hl : l.length + 1 ≤ most) : Zit l = true ∧ ZoF l = normX l := by
 have hms := mst
 have hs : smC l = true := (Zig.2 hl : sm l = true)
 have hv : (Zgy l).val = some (normX l) := by
  cases hb : vldB l with
  | true =>
   have e : Nat.ble l.length most = true := by rw [Nat.ble_eq]; omega
   simp only [Zgy, RT.val, hs, hb, List.nil_append, e, cond_true, Bool.not_true, Bool.false_or, ZgI (Zlt.1 hb)]
  | false =>
   obtain ⟨r, hr, h1, i, hR⟩ := ZW (fl := false) (t := Zd6) (fuel := fun a => 1000000000000)
    (fun a => ∃ i : Nat, i ≤ l.length ∧ a = (l, (l.length : Int), (i : Int), normX (l.take i), ()))
    (fun a => Int.toNat (a.2.1 - a.2.2.1)) (fun r => r.1 = false ∧ ∃ i : Nat, r.2 = (l, (l.length : Int), (i : Int), normX l, ()))
    (by
     rintro a ⟨i, hi, rfl⟩
     by_cases hlt : i < l.length
     ·left
      have d : decide ((i : Int) < (l.length : Int)) = true := by simpa using hlt
      have r1 := Zam l i hlt
      have hlen := Zb4 (l.take i)
      rw [List.length_take] at hlen
      have hp := Zya (normX (l.take i)) (el l i) (Zbz _) (by omega)
      refine ⟨_, ?_, ⟨i + 1, hlt, rfl⟩, by simp only; omega⟩
      rw [ZqG l i hlt, ZgH]
      simp only [Zd6, RT.val, d, r1, ZbC, hp.1, hp.2, cond_true, Bool.or_true, Ze5 i (by omega)]
     ·right; left
      have d : decide ((i : Int) < (l.length : Int)) = false := by simpa using hlt
      have e : l.take i = l := List.take_of_length_le (by omega)
      rw [e]
      exact ⟨_, by simp only [Zd6, RT.val, d, cond_false], rfl, i, rfl⟩)
    (l, iN l.length, 0, [], ()) ⟨0, Nat.zero_le _, rfl⟩ (by simp only [iN]; omega)
   obtain ⟨r1, r2⟩ := r
   simp only at h1 hR
   subst h1 hR
   simp only [Zgy, RT.val, hs, hb, hr, okB, getO, cond_true, cond_false, Bool.not_false, Bool.true_or]
 exact ⟨by simp only [Zit, hv]; rfl, by simp only [ZoF, hv, getO]⟩
theorem ZvA (t : Int) (b : List Int) (hb : b.length + 1 ≤ most) : Zq4 t b = true ∧ Zyu t b = ZbW t b := by
 have hms := mst
 obtain ⟨r, hr, h1, hR⟩ := ZW (fl := false) (t := Zd7) (fuel := fun a => 1000000000000)
  (fun a => ∃ i : Nat, i ≤ b.length ∧ a = (t, b, (b.length : Int), (i : Int), Zdx t b i, ()))
  (fun a => Int.toNat (a.2.2.1 - a.2.2.2.1)) (fun r => r.1 = false ∧ r.2 = (t, b, (b.length : Int), (b.length : Int), Zdx t b b.length, ()))
  (by
   rintro a ⟨i, hi, rfl⟩
   by_cases hlt : i < b.length
   ·left
    have d : decide ((i : Int) < (b.length : Int)) = true := by simpa using hlt
    have r1 := Zam b i hlt
    have hl : ∀ x : Cell, Nat.ble (Zdx t b i ++ [x]).length most = true := fun x => by rw [Nat.ble_eq, List.length_append, Zdk]; simp only [List.length_singleton]; omega
    refine ⟨_, ?_, ⟨i + 1, hlt, rfl⟩, by simp only; omega⟩
    rw [Zlf]
    have g := ZIw b i
    simp only [Zd7, RT.val, d, r1, g, hl, cond_true, Bool.not_true, Bool.false_or, Ze5 i (by omega)]
   ·right; left
    have d : decide ((i : Int) < (b.length : Int)) = false := by simpa using hlt
    have e : i = b.length := by omega
    subst e
    exact ⟨_, by simp only [Zd7, RT.val, d, cond_false], rfl, rfl⟩)
  (t, b, iN b.length, 0, [], ()) ⟨0, Nat.zero_le _, rfl⟩ (by simp only [iN]; omega)
 obtain ⟨r1, r2⟩ := r
 simp only at h1 hR
 subst h1 hR
 have hn := Zvz (Zdx t b b.length) (by rw [Zdk]; exact hb)
 have hv : (Ziu t b).val = some (ZbW t b) := by
  simp only [Ziu, RT.val, hr, okB, getO, cond_true, hn.1, hn.2, ZbW]
 exact ⟨by simp only [Zq4, hv]; rfl, by simp only [Zyu, hv, getO]⟩
def Zt3 : Entry := frzE (newE ZeC ZeD Zl6 (fun a => some (smB a.2)) (fun a => ZbW a.1 a.2))
theorem ZvI : Zc Tryz.prog 32 Zt3 := ZBg (ZwU ZvJ fun a _ h => by
 have hb : smB a.2 = true := by cases hq : smB a.2 with
  | true => rfl
  | false => rw [hq] at h; exact absurd rfl h
 obtain ⟨h1, h2⟩ := ZvA a.1 a.2 (Zig.1 hb)
 exact ⟨by rw [h1]; simp, h2⟩)
abbrev ZsH : R := R.pair (R.sl (R.int i64)) (R.int i64)
abbrev ZAt : List Sh := []
abbrev ZsG : Rs := Rs.one (Sh.one R.bool)
def ZuP (s : List Int × Int) : RT (Option (Bool × List Int × Int)) :=
 .br (ZbK s 2) (.leaf (some (((Zw s 2).1 == 1, (Zw s 2).2)))) (.leaf none)
def Zfg (s : List Int × Int) : Bool × List Int × Int := getO (ZsG.dflt, ZsH.dflt) (ZuP s).val
def ZfY (s : List Int × Int) : Bool := okB (ZuP s).val
def ZEE : Entry := boxE ZsH ZAt ZsG (fun a => some (ZfY a.1 )) (fun a => Zfg a.1 )
theorem ZDe : Zc Tryz.prog 74 ZEE :=
 Zc2 (P := Tryz.prog) (n := 7) (k := 8) (l := [(46, ZjF)]) (ol := []) ⟨ZeH, trivial⟩ Tryz.func74 rfl (by kernel_rfl) Tryz.call74 trivial (rb := ZsH) (ts := ZAt) (rs := ZsG) (t := fun a => ZuP a.1 ) (fun a => by kernel_rfl)
abbrev ZAw : R := R.pair (R.sl (R.int i64)) (R.int i64)
abbrev ZEG : List Sh := []
abbrev ZAv : Rs := Rs.one (Sh.agg ZbQ)
def ZsK (s : List Int × Int) : RT (Option (TC × List Int × Int)) :=
 let x1 := Zw (Zw (Zfg (Zei (Z3 s).2 (Z3 s).1).2).2 5).2 8
 let x2 := x1.2
 let x3 := ZbK x2 5
 let x4 := !x3
 let x5 := Zw x2 5
 let x6 := x5.2
 let x7 := ZfY x6
 let x8 := !x7
 let x9 := Zfg x6
 let x10 := x9.2
 let x11 := ZfY x10
 let x12 := Zfg x10
 let x13 := x12.2
 let x14 := Zfg x13
 let x15 := x14.2
 let x16 := ZbK x15 4
 let x17 := !x16
 let x18 := Zw x15 4
 let x19 := x18.2
 let x20 := ZfY x19
 let x21 := Zfg x19
 let x22 := x21.2
 let x23 := Zfg x22
 let x24 := x23.2
 .br (ZuR s) (.br (!ZpR (Z3 s).2 (Z3 s).1 || ZfY (Zei (Z3 s).2 (Z3 s).1).2) (.br (ZpR (Z3 s).2 (Z3 s).1) (.br (ZbK (Zfg (Zei (Z3 s).2 (Z3 s).1).2).2 5) (.br (!(Z3 s).1 == 2 || ZbK (Zw (Zfg (Zei (Z3 s).2 (Z3 s).1).2).2 5).2 8) (.br (!(Z3 s).1 == 2 || (x4 || (x8 || (!x11 || ZfY x13)))) (.br (!(Z3 s).1 == 2 || (x4 || (x8 || x11))) (.br (!(Z3 s).1 == 2 || (x4 || x7)) (.br (!(Z3 s).1 == 2 || x3) (.br (!(Z3 s).1 == 2 || (x17 || (!x20 || ZfY x22))) (.br (!(Z3 s).1 == 2 || (x17 || x20)) (.br (!(Z3 s).1 == 2 || x16) (.leaf (some ((((Z3 s).1, (Zei (Z3 s).2 (Z3 s).1).1, (Zfg (Zei (Z3 s).2 (Z3 s).1).2).1, (Zw (Zfg (Zei (Z3 s).2 (Z3 s).1).2).2 5).1 == 0, false, bif (Z3 s).1 == 2 then u8.wrap x1.1 else 0, (Z3 s).1 == 2 && x5.1 == 0, (Z3 s).1 == 2 && x9.1, (Z3 s).1 == 2 && x12.1, (Z3 s).1 == 2 && x14.1, (Z3 s).1 == 2 && x18.1 == 0, (Z3 s).1 == 2 && x21.1, (Z3 s).1 == 2 && x23.1), bif (Z3 s).1 == 2 then x24.1 else (Zw (Zfg (Zei (Z3 s).2 (Z3 s).1).2).2 5).2.1, bif (Z3 s).1 == 2 then x24.2 else (Zw (Zfg (Zei (Z3 s).2 (Z3 s).1).2).2 5).2.2)))) (.leaf none)) (.leaf none)) (.leaf none)) (.leaf none)) (.leaf none)) (.leaf none)) (.leaf none)) (.leaf none)) (.leaf none)) (.leaf none)) (.leaf none)) (.leaf none)
def nCPU (s : List Int × Int) : TC × List Int × Int := getO (ZAv.dflt, ZAw.dflt) (ZsK s).val
def ZDg (s : List Int × Int) : Bool := okB (ZsK s).val
def ZIb : Entry := boxE ZAw ZEG ZAv (fun a => some (ZDg a.1 )) (fun a => nCPU a.1 )
theorem ZGq : Zc Tryz.prog 23 ZIb :=
 Zc2 (P := Tryz.prog) (n := 31) (k := 8) (l := [(46, ZjF), (72, ZEF), (73, ZED), (74, ZEE)]) (ol := []) ⟨ZeH, ZDf, ZDc, ZDe, trivial⟩ Tryz.func23 rfl (by kernel_rfl) Tryz.call23 trivial (rb := ZAw) (ts := ZEG) (rs := ZAv) (t := fun a => ZsK a.1 ) (fun a => by kernel_rfl)
def Zvy (m : List (Int × Int)) : Bool := Nat.ble (m.length + 100000) most
theorem Zou {m : List (Int × Int)} : Zvy m = true ↔ m.length + 100000 ≤ most := by simp [Zvy]
def ZA9 : Entry := Zm ZA5 Zu7 (fun a => some (smG a.2.1 && Zvy a.2.2.1)) (fun a => runR a.1 a.2.1 a.2.2.1 a.2.2.2.1 a.2.2.2.2)
theorem Zu8 : Zc Tryz.prog 33 ZA9 := ZqF ZGL fun a h => by
 rw [Bool.and_eq_true] at h
 exact i_run a.1 a.2.1 a.2.2.1 a.2.2.2.1 a.2.2.2.2 h.1 (Zou.1 h.2)
abbrev ZEL : List Sh := []
abbrev ZEM : Rs := Rs.one (Sh.one rcRG)
def ZIl : RT (List (QT10)) :=
 .leaf ([(0, 65535, true, 0)])
def kRam : List (QT10) := (ZIl ).val
def ZGD : Entry := Zm ZEL ZEM (fun _ => none) (fun a => kRam )
theorem ZAR : Zc Tryz.prog 34 ZGD :=
 pureQ 1 [] [] ZEL ZEM trivial Tryz.func34 Tryz.call34 trivial (t := fun a => ZIl ) (fun a => by kernel_rfl)
abbrev ZIn : List Sh := []
abbrev ZGE : Rs := Rs.one (Sh.one R.bool)
def kKnT : RT (Option (Bool)) :=
 let x1 : List Int := [62, 5, 198, 7, 50, 16, 0, 211, 9, 118]
 let x2 := ZbW 0 x1
 let x3 : QT16 := runR (1, (0, 0, 0, 0, 0, 0, 0, (false, false, false, false, false, false, false), 0, 0), false, false, false, 0, false, false, false, false, false, false, false) kRam x2 [] 100
 let x4 := x3.1.2
 let x5 := !x4.1.1 == 12
 let x6 := !x4.2.2.2.1
 let x7 := x3.2
 let x8 := x7.1
 let x9 := x5 || (x6 || smC x8)
 let x10 := x7.2
 .br (smB x1) (.br (smG kRam && Zvy x2) (.br (!x9 || (x5 || (x6 || (!Cells.getX x8 16 == 12 || (!x10.2 == 5 || ZEO x10.1 [(9, 12)]))))) (.br (x9) (.leaf (some (true))) (.leaf none)) (.leaf none)) (.leaf none)) (.leaf none)
def kKn : Bool := getO ZGE.dflt (kKnT ).val
def kKnC : Bool := okB (kKnT ).val
def kKnE : Entry := Zm ZIn ZGE (fun a => some (kKnC )) (fun a => kKn )
theorem ZIm : Zc Tryz.prog 31 kKnE :=
 pureP 127 [(32, Zyx), (33, ZA9), (34, ZGD), (35, Zq6), (40, ZEN)] [] ZIn ZGE ⟨Zyw, Zu8, ZAR, Zpk, ZDo, trivial⟩ Tryz.func31 Tryz.call31 trivial (t := fun a => kKnT ) (fun a => by kernel_rfl)
def ZcZ : Entry := .tree (ZQ (envX Tryz.prog [] [] 7 8) Tryz.f21)
theorem ZeS : Zc Tryz.prog 21 ZcZ := ZaF (P := Tryz.prog) (n := 7) (k := 8) (l := []) (ol := []) trivial Tryz.func21 rfl (by kernel_rfl) Tryz.call21 trivial
abbrev Zu2 : List Sh := [Sh.one (R.sl (R.int i64)), Sh.one (R.int i64), Sh.one (R.int u16)]
abbrev ZnL : Rs := Rs.one (Sh.one R.bool)
def ZjX (n : List Int) (w : Int) (t : Int) : RT (Option (Bool)) :=
 let x1 : List (List Int) := [[205, u8.wrap t, u8.wrap (shrI u16 t 8)], [197, 193], [245, 241], [227, 227]]
 let x2 := bif decide (t ≥ 32512) then decide (t < 33024) || decide (t ≥ 255) && decide (t < 272) else decide (t ≥ 255) && decide (t < 272)
 let x3 : List Int := R.get (R.sl (R.int u8)) x1 (Zdj w 4)
 let x4 := smB x3
 let x5 : List (Int × Int) := Stg.l (newG ZeC ZeD (ZbW t [201])) ++ Stg.l (newG ZeC ZeD (ZbW 256 x3))
 let x6 := iN (List.length x3)
 let x7 := x6 == 3
 let x8 : Int := (nCPU (n, 0)).1.2.1.2.2.2.2.2.2.1
 let x9 : TF := (nCPU (n, 0)).1.2.1.2.2.2.2.2.2.2.1
 let x10 : QT16 := runR ((nCPU (n, 0)).1.1, ((nCPU (n, 0)).1.2.1.1, (nCPU (n, 0)).1.2.1.2.1, (nCPU (n, 0)).1.2.1.2.2.1, (nCPU (n, 0)).1.2.1.2.2.2.1, (nCPU (n, 0)).1.2.1.2.2.2.2.1, (nCPU (n, 0)).1.2.1.2.2.2.2.2.1, x8, x9, 32768, 256), (nCPU (n, 0)).1.2.2) kRam x5 [] 2
 let x11 := x10.1
 let x12 := x11.2
 let x13 := x12.1
 let x14 := x13.2
 let x15 := x14.2
 let x16 := x15.2
 let x17 := x16.2
 let x18 := x17.2
 let x19 := x18.2
 let x20 := x19.2
 let x21 := x20.1
 let x22 := x21.2
 let x23 := x9.2
 let x24 := x22.2
 let x25 := x23.2
 let x26 := x24.2
 let x27 := x25.2
 let x28 := x26.2
 let x29 := x27.2
 let x30 := x28.2
 let x31 := x29.2
 let x32 := x20.2
 let x33 := x12.2
 let x34 := x33.2
 let x35 := x34.2
 let x36 := x35.2
 let x37 := x36.2
 let x38 := x37.2
 let x39 := x38.2
 let x40 := x39.2
 let x41 : Bool × Bool × Bool × Bool := (nCPU (n, 0)).1.2.2.2.2.2.2.2.2.2
 let x46 := x11.1 == (nCPU (n, 0)).1.1 && (x13.1 == (nCPU (n, 0)).1.2.1.1 && (x14.1 == (nCPU (n, 0)).1.2.1.2.1 && (x15.1 == (nCPU (n, 0)).1.2.1.2.2.1 && (x16.1 == (nCPU (n, 0)).1.2.1.2.2.2.1 && (x17.1 == (nCPU (n, 0)).1.2.1.2.2.2.2.1 && (x18.1 == (nCPU (n, 0)).1.2.1.2.2.2.2.2.1 && (x19.1 == x8 && (x21.1 == x9.1 && (x22.1 == x23.1 && (x24.1 == x25.1 && (x26.1 == x27.1 && (x28.1 == x29.1 && (x30.1 == x31.1 && (x30.2 == x31.2 && (x32.1 == 32768 && (x32.2 == u16.wrap (256 + u16.wrap x6) && (x33.1 == (nCPU (n, 0)).1.2.2.1 && (x34.1 == false && (x35.1 == (nCPU (n, 0)).1.2.2.2.2.1 && (x36.1 == (nCPU (n, 0)).1.2.2.2.2.2.1 && (x37.1 == (nCPU (n, 0)).1.2.2.2.2.2.2.1 && (x38.1 == (nCPU (n, 0)).1.2.2.2.2.2.2.2.1 && (x39.1 == (nCPU (n, 0)).1.2.2.2.2.2.2.2.2.1 && (R.eqf (R.pair R.bool (R.pair R.bool (R.pair R.bool R.bool))) x40 x41 true))))))))))))))))))))))))
 let x47 := !x46
 let x48 := x10.2
 let x49 := x48.2.2 == 2
 let x50 := !x49
 let x51 := x48.1
 let x52 := x47 || (x50 || smC x51)
 let x53 := Cells.getX x51 32768 == 0
 let p1 := (!x53) :: x50 :: x47 :: (!x52) :: []
 .br (!decide (iN (List.length n) > 60) || kKnC) (.br (decide (iN (List.length n) > 60)) (.leaf (some (true))) (.br (ZDg (n, 0)) (.br (!Zfh w 4 || Ze (Zdj w 4) (List.length x1)) (.br (Zfh w 4) (.br (!x2 || kKnC) (.br (x2) (.leaf (some (true))) (.br (!smB [201] || (!x4 || Nat.ble (List.length x5) most)) (.br (!smB [201] || x4) (.br (smB [201]) (.br (smG kRam && Zvy x5) (.br (!x7 || (x47 || (x50 || kKnC))) (.br (x7) (.leaf (some (x46 && (x49 && kKn)))) (.br (orR p1 kKnC) (.br (x52) (.leaf (some (x46 && (x49 && (x53 && kKn))))) (.leaf none)) (.leaf none))) (.leaf none)) (.leaf none)) (.leaf none)) (.leaf none)) (.leaf none))) (.leaf none)) (.leaf none)) (.leaf none)) (.leaf none))) (.leaf none)
def ZAN (n : List Int) (w : Int) (t : Int) : Bool := getO ZnL.dflt (ZjX n w t).val
def ZsT (n : List Int) (w : Int) (t : Int) : Bool := okB (ZjX n w t).val
def ZGC : Entry := Zm Zu2 ZnL (fun a => some (ZsT a.1 a.2.1 a.2.2)) (fun a => ZAN a.1 a.2.1 a.2.2)
theorem lCalls_ok : Zc Tryz.prog 6 ZGC :=
 pureP 32767 [(21, ZcZ), (23, ZIb), (24, ZsP), (31, kKnE), (32, Zt3), (33, ZA9), (34, ZGD), (35, Zq6)] [] Zu2 ZnL ⟨ZeS, ZGq, Zp3, ZIm, ZvI, Zu8, ZAR, Zpk, trivial⟩ Tryz.func6 Tryz.call6 trivial (t := fun a => ZjX a.1 a.2.1 a.2.2) (fun a => by kernel_rfl)
theorem Zkm {op : Int} {i : InsT} (h2 : Zb 2 op = i) (h0 : Zb 0 op = i) (c : Int) : Zb c op = i := by
 by_cases h : c = 2
 ·rw [h, h2]
 ·rw [ZvD c op h, h0]
theorem acc0 (c : CpuT) : Zb9 c 0 = c := rfl
theorem ZFH (a : Cyc) (b : List Cyc) (n : Nat) : pick (a :: b) (n + 1) = pick b n := by simp [pick]
theorem next0 (c : CpuT) : Zj c 0 [] = ((1, pcOf c, 0, 4), true) := rfl
theorem ZIa (c : CpuT) (o : Int) (l : List Int) {i : InsT} (h : Zb c.1 o = i) : Zj c 0 (o :: l) = pick (ZbF c false (o :: l) i) l.length := by
 subst h
 exact ZFH (1, pcOf c, 0, 4) (ZbF c false (o :: l) (Zb c.1 o)) l.length
theorem Zqh (c : CpuT) (s : Int) : ∀ (n : Nat) (g : List Int) (m : MacT), g <+: (goX c s n g m).1
 | 0, g, m => List.prefix_refl g
 | n + 1, g, m => by
  unfold goX
  cases (Zj c s g).2
  ·exact List.prefix_refl g
  ·exact (List.prefix_append g _).trans (Zqh c s n _ _)
theorem ZFi (c : CpuT) (m : MacT) (l : LnT) {o : Int} {i : InsT} (h : ZaD m.1 m.2.1 (pcOf c) = o) (hi : Zb c.1 o = i) :
  Zcm c 0 l m = (finI c false (goX c 0 5 [o] m).1 l i, (goX c 0 5 [o] m).2, (goX c 0 5 [o] m).1) := by
 have h6 : goX c 0 6 [] m = goX c 0 5 [o] m := by
  conv => lhs; unfold goX
  rw [next0]
  simp only [cond_true, List.nil_append]
  have : doX (1, pcOf c, 0, 4) m = (o, m) := by rw [← h]; rfl
  rw [this]
 have hp := Zqh c 0 5 [o] m
 unfold Zcm
 rw [acc0, h6]
 have hd : (goX c 0 5 [o] m).1.getD 0 0 = o := by
  obtain ⟨t, ht⟩ := hp
  rw [← ht]; rfl
 have hf : finX c 0 (goX c 0 5 [o] m).1 l = finI c false (goX c 0 5 [o] m).1 l i := by
  show finI c (0 == 5) _ l (Zb c.1 ((goX c 0 5 [o] m).1.getD 0 0)) = _
  rw [hd, hi]; rfl
 rw [hf]
theorem ZGR (c : CpuT) (n : Nat) (g : List Int) (m : MacT) {x : Cyc} (h : Zj c 0 g = (x, true)) : goX c 0 (n + 1) g m = goX c 0 n (g ++ [(doX x m).1]) (doX x m).2 := by
 conv => lhs; unfold goX
 rw [h]; rfl
theorem ZGQ (c : CpuT) (n : Nat) (g : List Int) (m : MacT) (h : (Zj c 0 g).2 = false) : goX c 0 n g m = (g, m) := by
 cases n with
 | zero => rfl
 | succ n => unfold goX; rw [h]; rfl
section
variable {c : CpuT} {m : MacT} {o : Int} {i : InsT} (hi : Zb c.1 o = i)
include hi
end
def ramX : List Z0 := [(0, 65535, true, 0)]
theorem ZtB {t : Int} (h0 : 0 ≤ t) (h1 : t ≤ 65535) : ZaZ ramX t = 0 := by
 have : ramX.findIdx (hitB t) = 0 := by simp [ramX, hitB, List.findIdx_cons, h0, h1]
 unfold ZaZ
 rw [this]; rfl
theorem Zax {m : List Cell} {t : Int} (h0 : 0 ≤ t) (h1 : t ≤ 65535) : ZaD ramX m t = getX m t := by
 simp [ZaD, ZtB h0 h1]
theorem ZAK (t : Int) (b : List Int) (n i : Nat) (h : i < n) : el (Zdx t b n) i = (IntKind.wrap .u16 (t + IntKind.wrap .u16 (i : Int)), b.getD i 0) := by
 simp [el, Zdx, h]
theorem ZuZ (t : Int) (b : List Int) (hb : b.length ≤ 300) (i : Nat) (hi : i < b.length) : getX (ZbW t b) (IntKind.wrap .u16 (t + IntKind.wrap .u16 (i : Int))) = b.getD i 0 := by
 unfold ZbW
 rw [ZU]
 have hl := Zdk t b b.length
 have e := ZAK t b b.length i hi
 have h0 := Zs2 (m := Zdx t b b.length) (t := IntKind.wrap .u16 (t + IntKind.wrap .u16 (i : Int))) (i := i) (by rw [hl]; exact hi) (congrArg Prod.fst e) (fun k h1 h2 => by
  rw [hl] at h2
  rw [ZAK t b b.length k h2]
  simp only [ZaA]
  omega)
 rw [h0, e]
def cA (chip a d e : Int) (v : Nat) (f : FlgT) (pc : Int) (h : Bool) : CpuT := (chip, (a, 0, 0, d, e, ((v / 256 : Nat) : Int), ((v % 256 : Nat) : Int), f, 0, pc), false, false, h, 0, false, false, false, false, false, false, false)
theorem Zgk (chip a d e : Int) (v : Nat) (f : FlgT) (p : Nat) (i : InsT) (n : Nat) (hn : i.2.1 = n) (hp : p + n < 1000) : ZK (cA chip a d e v f p false) false i = ((p + n : Nat) : Int) := by
 show IntKind.wrap .u16 ((p : Int) + IntKind.wrap .u16 i.2.1) = _
 rw [hn, w16 (by omega), show (p : Int) + (n : Int) = ((p + n : Nat) : Int) by omega, w16 (by omega)]
theorem ZIt (v : Nat) (h : v < 65536) : IntKind.wrap .u8 (shrI .u16 (v : Int) 8) = ((v / 256 : Nat) : Int) := by
 have : shrI .u16 (v : Int) 8 = ((v / 256 : Nat) : Int) := by
  simp only [shrI]
  have : ((2 : Int) ^ min (8 : Int).toNat u16.bits) = 256 := by decide
  rw [this, Int.fdiv_eq_ediv_of_nonneg _ (by decide)]; omega
 rw [this]
 simp [IntKind.wrap, IntKind.signed, IntKind.bits]; omega
theorem ZIi (v : Nat) : IntKind.wrap .u8 (v : Int) = ((v % 256 : Nat) : Int) := by
 simp [IntKind.wrap, IntKind.signed, IntKind.bits]
theorem u8n (a : Nat) (h : a < 256) : inR .u8 (a : Int) := by rw [Zj5]; omega
theorem ZAS (v : Nat) (h : v < 65536) : ZaH ((v / 256 : Nat) : Int) ((v % 256 : Nat) : Int) = v := by
 rw [ZDn (u8n _ (by omega)) (u8n _ (by omega))]; omega
section
variable (chip : Int) (a b : Nat) (ha : a < 256) (hb : b < 256)
end
theorem lval {t : RT (Option Bool)} (h : t.val = some true) : okB t.val = true ∧ getO false t.val = true := by rw [h]; exact ⟨rfl, rfl⟩
theorem ZnM : kRam = ramX := by kernel_rfl
theorem Ze2 : kKnC = true ∧ kKn = true := lval (t := kKnT) (by kernel_rfl)
theorem ZFj : smG ramX = true := by kernel_rfl
theorem ZyY (x n : Int) (h0 : 0 < n) (h1 : n ≤ 4611686018427387904) : Zfh x n = true ∧ 0 ≤ Zdj x n ∧ Zdj x n < n := by
 have h := Zp4 x n h0 h1
 exact ⟨h.1, by rw [h.2]; exact Int.emod_nonneg _ (by omega), by rw [h.2]; exact Int.emod_lt_of_pos _ h0⟩
theorem NB.up {s : List Int × Int} {k j : Int} (h : NB s k) (hj : k ≤ j) : NB s j := ⟨h.1, by have := h.2; omega⟩
theorem Zbl {s : List Int × Int} {k : Int} (h : NB s k) (hk : k ≤ 1000000) : ZfY s = true ∧ NB (Zfg s).2 (k + 1) := by
 obtain ⟨c1, b, _⟩ := Zay h hk 2 (by decide) (by decide)
 simp only [ZfY, Zfg, ZuP, RT.val, c1, cond_true, okB, getO]
 exact ⟨trivial, b⟩
theorem ZBM {a b : Nat} (h : a ≤ b) : Nat.ble a b = true := by rw [Nat.ble_eq]; exact h
theorem ZxY {l : List Cell} (h : l.length ≤ 1000) : smC l = true := ZBM (by have := mst; omega)
theorem ZD5 {l : List Int} (h : l.length ≤ 1000) : smB l = true := ZBM (by have := mst; omega)
theorem ZGr {s : List Int × Int} {k : Int} (h : NB s k) (hk : k ≤ 300000) : ZDg s = true ∧ NB (nCPU s).2 (k + 40) ∧ (nCPU s).1.2.2.2.2.1 = false := by
 obtain ⟨c0, b0, _⟩ := ZuQ h (by omega)
 obtain ⟨c1, b1, _⟩ := ZuN b0 (by omega) (Z3 s).1
 obtain ⟨c2, b2⟩ := Zbl b1 (by omega)
 obtain ⟨c3, b3, _⟩ := Zay b2 (by omega) 5 (by decide) (by decide)
 obtain ⟨c4, b4, _⟩ := Zay b3 (by omega) 8 (by decide) (by decide)
 obtain ⟨c5, b5, _⟩ := Zay b4 (by omega) 5 (by decide) (by decide)
 obtain ⟨c6, b6⟩ := Zbl b5 (by omega)
 obtain ⟨c7, b7⟩ := Zbl b6 (by omega)
 obtain ⟨c8, b8⟩ := Zbl b7 (by omega)
 obtain ⟨c9, b9, _⟩ := Zay b8 (by omega) 4 (by decide) (by decide)
 obtain ⟨ca, ba⟩ := Zbl b9 (by omega)
 obtain ⟨cb, bb⟩ := Zbl ba (by omega)
 have hv : ∃ c s', (ZsK s).val = some (c, s') ∧ NB s' (k + 40) ∧ c.2.2.2.2.1 = false := by
  simp only [ZsK, RT.val, c0, c1, c2, c3, c4, c5, c6, c7, c8, c9, ca, cb, cond_true, Bool.not_true, Bool.false_or, Bool.or_true]
  cases (Z3 s).1 == 2
  ·exact ⟨_, _, rfl, b3.up (by omega), rfl⟩
  ·exact ⟨_, _, rfl, bb.up (by omega), rfl⟩
 obtain ⟨c, s', hv, h1, h2⟩ := hv
 simp only [ZDg, nCPU, hv, okB, getO]
 exact ⟨trivial, h1, h2⟩
theorem ZhD (l : List Cell) : Stg.l (newG ZeC ZeD l) = l := rfl
theorem ZcY (t : Int) (b : List Int) : (ZbW t b).length ≤ b.length := by
 have := Zb4 (Zdx t b b.length)
 rw [Zdk] at this
 exact this
def runL : List Cyc → MacT → List Int × MacT
 | [], m => ([], m)
 | x :: r, m => ((doX x m).1 :: (runL r (doX x m).2).1, (runL r (doX x m).2).2)
theorem Zu9 {c : CpuT} {o : Int} {i : InsT} (hi : Zb c.1 o = i) (L : List Cyc) (hb : ∀ g, ZbF c false g i = L) :
  ∀ (n : Nat) (l : List Int) (m : MacT), L.length ≤ n + l.length → goX c 0 n (o :: l) m = ((o :: l) ++ (runL (L.drop l.length) m).1, (runL (L.drop l.length) m).2)
 | 0, l, m, h => by
  rw [List.drop_eq_nil_of_le (by omega)]
  simp [goX, runL]
 | n + 1, l, m, h => by
  by_cases hl : l.length < L.length
  ·have hn : Zj c 0 (o :: l) = (L[l.length], true) := by
    rw [ZIa c o l hi, hb]
    simp [pick, hl]
   rw [ZGR c n (o :: l) m hn, List.cons_append, Zu9 hi L hb n (l ++ [_]) _ (by simp; omega)]
   rw [List.drop_eq_getElem_cons hl]
   simp [runL]
  ·have hn : (Zj c 0 (o :: l)).2 = false := by
    rw [ZIa c o l hi, hb]
    simp [pick]; omega
   rw [ZGQ c (n + 1) (o :: l) m hn, List.drop_eq_nil_of_le (by omega)]
   simp [runL]
theorem ZbP {c : CpuT} {m : MacT} {o : Int} {i : InsT} (L : List Cyc) (h : ZaD m.1 m.2.1 (pcOf c) = o) (hi : Zb c.1 o = i) (hb : ∀ g, ZbF c false g i = L) (hL : L.length ≤ 5) :
  Zcm c 0 noL m = (finI c false (o :: (runL L m).1) noL i, (runL L m).2, o :: (runL L m).1) := by
 rw [ZFi c m noL h hi, Zu9 hi L hb 5 [] m (by simpa using hL)]
 simp
theorem Zbq (a : Int) (l l2 : List Cell) : flt a (l ++ l2) = flt a l ++ flt a l2 := by simp [flt]
theorem ZnQ (l : List Cell) {l2 : List Cell} (h : Vld l2) (a : Int) : getX (l ++ l2) a = if getX l2 a = 0 then getX l a else getX l2 a := by
 have e := h.flt a
 by_cases hz : getX l2 a = 0
 ·rw [if_pos hz] at e
  rw [if_pos hz, getX, Zbq, e, List.append_nil]; rfl
 ·rw [if_neg hz] at e
  rw [if_neg hz, getX, Zbq, e]; simp
theorem ZhW (t : Int) (b : List Int) (a : Int) (h : ∀ i : Nat, i < b.length → IntKind.wrap .u16 (t + IntKind.wrap .u16 (i : Int)) ≠ a) : getX (ZbW t b) a = 0 := by
 unfold ZbW
 rw [ZU]
 refine ZeK fun c hc => ?_
 unfold Zdx at hc
 simp only [List.mem_map, List.mem_range] at hc
 obtain ⟨i, hi, rfl⟩ := hc
 exact h i hi
def memC (t : Int) (b : List Int) : List Cell := ZbW t [201] ++ ZbW 256 b
theorem Zf0 (t : Int) (b : List Int) (hb : b.length ≤ 16) (ht : t < 255 ∨ 272 ≤ t) (h0 : 0 ≤ t) (h1 : t ≤ 65535) (i : Nat) (hi : i < b.length) : getX (memC t b) (256 + (i : Int)) = b.getD i 0 := by
 unfold memC
 rw [ZnQ _ (show Vld (ZbW 256 b) from Zbz _)]
 have e := ZuZ 256 b (by omega) i hi
 rw [ZaA, ZaA, show ((256 : Int) + (i : Int) % 65536) % 65536 = 256 + (i : Int) by omega] at e
 rw [e]
 split
 ·rename_i hz
  rw [hz, ZhW]
  intro j hj
  have hj : j = 0 := by simp at hj; omega
  subst hj
  rw [ZaA, ZaA]; omega
 ·rfl
theorem ZIc (t : Int) (b : List Int) (hb : b.length ≤ 16) (ht : t < 255 ∨ 272 ≤ t) (h0 : 0 ≤ t) (h1 : t ≤ 65535) : getX (memC t b) t = 201 := by
 unfold memC
 rw [ZnQ _ (show Vld (ZbW 256 b) from Zbz _)]
 have e := ZuZ t [201] (by simp) 0 (by simp)
 rw [ZaA, ZaA, show (t + ((0 : Nat) : Int) % 65536) % 65536 = t by omega] at e
 have e2 : getX (ZbW 256 b) t = 0 := ZhW _ _ _ fun j hj => by rw [ZaA, ZaA]; omega
 rw [if_pos e2, e]; rfl
theorem ZuT (t : Int) (b : List Int) (hb : b.length ≤ 16) (h0 : 0 ≤ t) (h1 : t ≤ 65535) (a : Int) (ha : 272 ≤ a) (ha1 : a ≤ 65535) (hta : t ≠ a) : getX (memC t b) a = 0 := by
 unfold memC
 rw [ZnQ _ (show Vld (ZbW 256 b) from Zbz _)]
 have e2 : getX (ZbW 256 b) a = 0 := ZhW _ _ _ fun j hj => by rw [ZaA, ZaA]; omega
 rw [if_pos e2]
 refine ZhW _ _ _ fun j hj => ?_
 have hj : j = 0 := by simp at hj; omega
 subst hj
 rw [ZaA, ZaA]; omega
theorem Zoy {m : List Cell} {t v q : Int} (h0 : 0 ≤ t) (h1 : t ≤ 65535) : getX (ZB ramX m t v) q = if t = q then v else getX m q := by
 rw [Zxl, ZtB h0 h1]
 have : (decide ((0 : Int) ≥ 0) && (R.get GR ramX 0).2.2.1) = true := by decide
 rw [this]
 simp
theorem jn (b c : Nat) (hb : b < 256) (hc : c < 256) : ZaH (b : Int) (c : Int) = ((256 * b + c : Nat) : Int) := by
 have h := ZAS (256 * b + c) (by omega)
 rw [show (256 * b + c) / 256 = b by omega, show (256 * b + c) % 256 = c by omega] at h
 exact h
theorem ZBb (b c : Nat) (hb : b < 256) (hc : c < 256) : IntKind.wrap .u8 (shrI .u16 (ZaH (b : Int) (c : Int)) 8) = (b : Int) := by
 rw [jn b c hb hc, ZIt _ (by omega), show (256 * b + c) / 256 = b by omega]
theorem ZAL (b c : Nat) (hb : b < 256) (hc : c < 256) : IntKind.wrap .u8 (ZaH (b : Int) (c : Int)) = (c : Int) := by
 rw [jn b c hb hc, ZIi, show (256 * b + c) % 256 = c by omega]
def cS (chip : Int) (r : RegT) (ie dl : Bool) (q : QT2) : CpuT := (chip, r, ie, dl, false, q)
theorem dcd : ∀ c, Zb c 205 = (25, 3, 0, 0, 0, 0, 11, 0) := Zkm (by kernel_rfl) (by kernel_rfl)
theorem dc9 : ∀ c, Zb c 201 = (26, 1, 0, 0, 0, 0, 11, 0) := Zkm (by kernel_rfl) (by kernel_rfl)
theorem dc5 : ∀ c, Zb c 197 = (30, 1, 0, 0, 0, 0, 0, 0) := Zkm (by kernel_rfl) (by kernel_rfl)
theorem dc1 : ∀ c, Zb c 193 = (31, 1, 0, 0, 0, 0, 0, 0) := Zkm (by kernel_rfl) (by kernel_rfl)
theorem df5 : ∀ c, Zb c 245 = (30, 1, 0, 0, 3, 0, 0, 0) := Zkm (by kernel_rfl) (by kernel_rfl)
theorem df1 : ∀ c, Zb c 241 = (31, 1, 0, 0, 3, 0, 0, 0) := Zkm (by kernel_rfl) (by kernel_rfl)
theorem de3 : ∀ c, Zb c 227 = (32, 1, 0, 0, 0, 0, 0, 0) := Zkm (by kernel_rfl) (by kernel_rfl)
theorem ZBa (f : FlgT) : Zde 11 f = true := by kernel_rfl
abbrev QT := QT2
variable (chip A B C D E H L : Int) (F : FlgT) (ie dl : Bool) (q : QT) (M : List Cell)
theorem ZHo (lo hi : Int) (h0 : getX M 256 = 205) (h1 : getX M 257 = lo) (h2 : getX M 258 = hi) :
  Zcm (cS chip (A, B, C, D, E, H, L, F, 32768, 256) ie dl q) 0 noL (ramX, M, [], []) =
   (cS chip (A, B, C, D, E, H, L, F, 32766, ZaH hi lo) ie false q, (ramX, ZB ramX (ZB ramX M 32767 1) 32766 3, [], []), [205, lo, hi, 1, 3]) := by
 have hb : ∀ g, ZbF (cS chip (A, B, C, D, E, H, L, F, 32768, 256) ie dl q) false g (25, 3, 0, 0, 0, 0, 11, 0) = [(2, 257, 0, 3), (2, 258, 0, 3), (5, 32767, 1, 3), (5, 32766, 3, 3)] := fun g => by
  have ht : Zah (cS chip (A, B, C, D, E, H, L, F, 32768, 256) ie dl q) (25, 3, 0, 0, 0, 0, 11, 0) = true := ZBa F
  have e : ZbF (cS chip (A, B, C, D, E, H, L, F, 32768, 256) ie dl q) false g (25, 3, 0, 0, 0, 0, 11, 0) = (bif chip == 2 && !Zah (cS chip (A, B, C, D, E, H, L, F, 32768, 256) ie dl q) (25, 3, 0, 0, 0, 0, 11, 0) then [(2, 257, 0, 3)] else [(2, 257, 0, 3), (2, 258, 0, 3)]) ++
   (bif Zah (cS chip (A, B, C, D, E, H, L, F, 32768, 256) ie dl q) (25, 3, 0, 0, 0, 0, 11, 0) then [(5, 32767, 1, 3), (5, 32766, 3, 3)] else []) := by kernel_rfl
  rw [e, ht, Bool.not_true, Bool.and_false]
  rfl
 have hop : ZaD (ramX, M, ([] : List Int), ([] : List (Int × Int))).1 (ramX, M, ([] : List Int), ([] : List (Int × Int))).2.1 (pcOf (cS chip (A, B, C, D, E, H, L, F, 32768, 256) ie dl q)) = 205 := by
  have hp : pcOf (cS chip (A, B, C, D, E, H, L, F, 32768, 256) ie dl q) = 256 := rfl
  rw [hp]
  exact (Zax (by decide) (by decide)).trans h0
 rw [ZbP [(2, 257, 0, 3), (2, 258, 0, 3), (5, 32767, 1, 3), (5, 32766, 3, 3)] hop (dcd _) hb (by decide)]
 have hr : runL [(2, 257, 0, 3), (2, 258, 0, 3), (5, 32767, 1, 3), (5, 32766, 3, 3)] (ramX, M, [], []) = ([ZaD ramX M 257, ZaD ramX M 258, 1, 3], (ramX, ZB ramX (ZB ramX M 32767 1) 32766 3, [], [])) := by kernel_rfl
 rw [hr, Zax (by decide) (by decide), Zax (by decide) (by decide), h1, h2]
 have hf : finI (cS chip (A, B, C, D, E, H, L, F, 32768, 256) ie dl q) false [205, lo, hi, 1, 3] noL (25, 3, 0, 0, 0, 0, 11, 0) = cS chip (A, B, C, D, E, H, L, F, 32766, ZaH hi lo) ie false q := by kernel_rfl
 rw [hf]
theorem s_ret (t lo hi : Int) (ht : 0 ≤ t) (ht2 : t ≤ 65535) (h0 : getX M t = 201) (h1 : getX M 32766 = lo) (h2 : getX M 32767 = hi) :
  Zcm (cS chip (A, B, C, D, E, H, L, F, 32766, t) ie dl q) 0 noL (ramX, M, [], []) =
   (cS chip (A, B, C, D, E, H, L, F, 32768, ZaH hi lo) ie false q, (ramX, M, [], []), [201, lo, hi]) := by
 have hb : ∀ g, ZbF (cS chip (A, B, C, D, E, H, L, F, 32766, t) ie dl q) false g (26, 1, 0, 0, 0, 0, 11, 0) = [(4, 32766, 0, 3), (4, 32767, 0, 3)] := fun g => by
  have ht : Zah (cS chip (A, B, C, D, E, H, L, F, 32766, t) ie dl q) (26, 1, 0, 0, 0, 0, 11, 0) = true := ZBa F
  have e : ZbF (cS chip (A, B, C, D, E, H, L, F, 32766, t) ie dl q) false g (26, 1, 0, 0, 0, 0, 11, 0) = bif Zah (cS chip (A, B, C, D, E, H, L, F, 32766, t) ie dl q) (26, 1, 0, 0, 0, 0, 11, 0) then [(4, 32766, 0, 3), (4, 32767, 0, 3)] else [] := by kernel_rfl
  rw [e, ht]
  rfl
 have hop : ZaD (ramX, M, ([] : List Int), ([] : List (Int × Int))).1 (ramX, M, ([] : List Int), ([] : List (Int × Int))).2.1 (pcOf (cS chip (A, B, C, D, E, H, L, F, 32766, t) ie dl q)) = 201 := by
  have hp : pcOf (cS chip (A, B, C, D, E, H, L, F, 32766, t) ie dl q) = t := rfl
  rw [hp]
  exact (Zax ht ht2).trans h0
 rw [ZbP [(4, 32766, 0, 3), (4, 32767, 0, 3)] hop (dc9 _) hb (by decide)]
 have hr : runL [(4, 32766, 0, 3), (4, 32767, 0, 3)] (ramX, M, [], []) = ([ZaD ramX M 32766, ZaD ramX M 32767], (ramX, M, [], [])) := by kernel_rfl
 rw [hr, Zax (by decide) (by decide), Zax (by decide) (by decide), h1, h2]
 have hf : finI (cS chip (A, B, C, D, E, H, L, F, 32766, t) ie dl q) false [201, lo, hi] noL (26, 1, 0, 0, 0, 0, 11, 0) = cS chip (A, B, C, D, E, H, L, F, 32768, ZaH hi lo) ie false q := by kernel_rfl
 rw [hf]
theorem ZHm (b c : Nat) (hb' : b < 256) (hc' : c < 256) (h0 : getX M 256 = 197) :
  Zcm (cS chip (A, (b : Int), (c : Int), D, E, H, L, F, 32768, 256) ie dl q) 0 noL (ramX, M, [], []) =
   (cS chip (A, (b : Int), (c : Int), D, E, H, L, F, 32766, 257) ie false q, (ramX, ZB ramX (ZB ramX M 32767 (b : Int)) 32766 (c : Int), [], []), [197, (b : Int), (c : Int)]) := by
 have hb : ∀ g, ZbF (cS chip (A, (b : Int), (c : Int), D, E, H, L, F, 32768, 256) ie dl q) false g (30, 1, 0, 0, 0, 0, 0, 0) = [(5, 32767, (b : Int), 3), (5, 32766, (c : Int), 3)] := fun g => by
  have : ZbF (cS chip (A, (b : Int), (c : Int), D, E, H, L, F, 32768, 256) ie dl q) false g (30, 1, 0, 0, 0, 0, 0, 0) = [(5, 32767, IntKind.wrap .u8 (shrI .u16 (ZaH (b : Int) (c : Int)) 8), 3), (5, 32766, IntKind.wrap .u8 (ZaH (b : Int) (c : Int)), 3)] := by kernel_rfl
  rw [this, ZBb b c hb' hc', ZAL b c hb' hc']
 have hop : ZaD (ramX, M, ([] : List Int), ([] : List (Int × Int))).1 (ramX, M, ([] : List Int), ([] : List (Int × Int))).2.1 (pcOf (cS chip (A, (b : Int), (c : Int), D, E, H, L, F, 32768, 256) ie dl q)) = 197 := by
  have hp : pcOf (cS chip (A, (b : Int), (c : Int), D, E, H, L, F, 32768, 256) ie dl q) = 256 := rfl
  rw [hp]
  exact (Zax (by decide) (by decide)).trans h0
 rw [ZbP [(5, 32767, (b : Int), 3), (5, 32766, (c : Int), 3)] hop (dc5 _) hb (by simp)]
 have hr : runL [(5, 32767, (b : Int), 3), (5, 32766, (c : Int), 3)] (ramX, M, [], []) = ([(b : Int), (c : Int)], (ramX, ZB ramX (ZB ramX M 32767 (b : Int)) 32766 (c : Int), [], [])) := by kernel_rfl
 rw [hr]
 have hf : finI (cS chip (A, (b : Int), (c : Int), D, E, H, L, F, 32768, 256) ie dl q) false [197, (b : Int), (c : Int)] noL (30, 1, 0, 0, 0, 0, 0, 0) = cS chip (A, (b : Int), (c : Int), D, E, H, L, F, 32766, 257) ie false q := by kernel_rfl
 rw [hf]
theorem s_pop (b c : Nat) (hb' : b < 256) (hc' : c < 256) (h0 : getX M 257 = 193) (h1 : getX M 32766 = (c : Int)) (h2 : getX M 32767 = (b : Int)) :
  Zcm (cS chip (A, B, C, D, E, H, L, F, 32766, 257) ie dl q) 0 noL (ramX, M, [], []) =
   (cS chip (A, (b : Int), (c : Int), D, E, H, L, F, 32768, 258) ie false q, (ramX, M, [], []), [193, (c : Int), (b : Int)]) := by
 have hb : ∀ g, ZbF (cS chip (A, B, C, D, E, H, L, F, 32766, 257) ie dl q) false g (31, 1, 0, 0, 0, 0, 0, 0) = [(4, 32766, 0, 3), (4, 32767, 0, 3)] := fun g => by kernel_rfl
 have hop : ZaD (ramX, M, ([] : List Int), ([] : List (Int × Int))).1 (ramX, M, ([] : List Int), ([] : List (Int × Int))).2.1 (pcOf (cS chip (A, B, C, D, E, H, L, F, 32766, 257) ie dl q)) = 193 := by
  have hp : pcOf (cS chip (A, B, C, D, E, H, L, F, 32766, 257) ie dl q) = 257 := rfl
  rw [hp]
  exact (Zax (by decide) (by decide)).trans h0
 rw [ZbP [(4, 32766, 0, 3), (4, 32767, 0, 3)] hop (dc1 _) hb (by decide)]
 have hr : runL [(4, 32766, 0, 3), (4, 32767, 0, 3)] (ramX, M, [], []) = ([ZaD ramX M 32766, ZaD ramX M 32767], (ramX, M, [], [])) := by kernel_rfl
 rw [hr, Zax (by decide) (by decide), Zax (by decide) (by decide), h1, h2]
 have hf : finI (cS chip (A, B, C, D, E, H, L, F, 32766, 257) ie dl q) false [193, (c : Int), (b : Int)] noL (31, 1, 0, 0, 0, 0, 0, 0) = cS chip (A, IntKind.wrap .u8 (shrI .u16 (ZaH (b : Int) (c : Int)) 8), IntKind.wrap .u8 (ZaH (b : Int) (c : Int)), D, E, H, L, F, 32768, 258) ie false q := by kernel_rfl
 rw [hf, ZBb b c hb' hc', ZAL b c hb' hc']
theorem ZFk (a p : Nat) (ha : a < 256) (hp : p < 256) (hP : Zis chip F = true ∧ Zhs chip F = (p : Int)) (h0 : getX M 256 = 245) :
  Zcm (cS chip ((a : Int), B, C, D, E, H, L, F, 32768, 256) ie dl q) 0 noL (ramX, M, [], []) =
   (cS chip ((a : Int), B, C, D, E, H, L, F, 32766, 257) ie false q, (ramX, ZB ramX (ZB ramX M 32767 (a : Int)) 32766 (p : Int), [], []), [245, (a : Int), (p : Int)]) := by
 have hw : rPSW chip ((a : Int), B, C, D, E, H, L, F, 32768, 256) = ZaH (a : Int) (p : Int) := by
  simp only [rPSW, ZFv, RT.val, hP.1, hP.2, cond_true, getO]
 have hb : ∀ g, ZbF (cS chip ((a : Int), B, C, D, E, H, L, F, 32768, 256) ie dl q) false g (30, 1, 0, 0, 3, 0, 0, 0) = [(5, 32767, (a : Int), 3), (5, 32766, (p : Int), 3)] := fun g => by
  have : ZbF (cS chip ((a : Int), B, C, D, E, H, L, F, 32768, 256) ie dl q) false g (30, 1, 0, 0, 3, 0, 0, 0) = [(5, 32767, IntKind.wrap .u8 (shrI .u16 (rPSW chip ((a : Int), B, C, D, E, H, L, F, 32768, 256)) 8), 3), (5, 32766, IntKind.wrap .u8 (rPSW chip ((a : Int), B, C, D, E, H, L, F, 32768, 256)), 3)] := by kernel_rfl
  rw [this, hw, ZBb a p ha hp, ZAL a p ha hp]
 have hop : ZaD (ramX, M, ([] : List Int), ([] : List (Int × Int))).1 (ramX, M, ([] : List Int), ([] : List (Int × Int))).2.1 (pcOf (cS chip ((a : Int), B, C, D, E, H, L, F, 32768, 256) ie dl q)) = 245 := by
  have hp : pcOf (cS chip ((a : Int), B, C, D, E, H, L, F, 32768, 256) ie dl q) = 256 := rfl
  rw [hp]
  exact (Zax (by decide) (by decide)).trans h0
 rw [ZbP [(5, 32767, (a : Int), 3), (5, 32766, (p : Int), 3)] hop (df5 _) hb (by simp)]
 have hr : runL [(5, 32767, (a : Int), 3), (5, 32766, (p : Int), 3)] (ramX, M, [], []) = ([(a : Int), (p : Int)], (ramX, ZB ramX (ZB ramX M 32767 (a : Int)) 32766 (p : Int), [], [])) := by kernel_rfl
 rw [hr]
 have hf : finI (cS chip ((a : Int), B, C, D, E, H, L, F, 32768, 256) ie dl q) false [245, (a : Int), (p : Int)] noL (30, 1, 0, 0, 3, 0, 0, 0) = cS chip ((a : Int), B, C, D, E, H, L, F, 32766, 257) ie false q := by kernel_rfl
 rw [hf]
theorem ZHn (a p : Nat) (ha : a < 256) (hp : p < 256) (hP : Zd5 chip (p : Int) = F) (h0 : getX M 257 = 241) (h1 : getX M 32766 = (p : Int)) (h2 : getX M 32767 = (a : Int)) (G : FlgT) :
  Zcm (cS chip (A, B, C, D, E, H, L, G, 32766, 257) ie dl q) 0 noL (ramX, M, [], []) =
   (cS chip ((a : Int), B, C, D, E, H, L, F, 32768, 258) ie false q, (ramX, M, [], []), [241, (p : Int), (a : Int)]) := by
 have hb : ∀ g, ZbF (cS chip (A, B, C, D, E, H, L, G, 32766, 257) ie dl q) false g (31, 1, 0, 0, 3, 0, 0, 0) = [(4, 32766, 0, 3), (4, 32767, 0, 3)] := fun g => by kernel_rfl
 have hop : ZaD (ramX, M, ([] : List Int), ([] : List (Int × Int))).1 (ramX, M, ([] : List Int), ([] : List (Int × Int))).2.1 (pcOf (cS chip (A, B, C, D, E, H, L, G, 32766, 257) ie dl q)) = 241 := by
  have hp : pcOf (cS chip (A, B, C, D, E, H, L, G, 32766, 257) ie dl q) = 257 := rfl
  rw [hp]
  exact (Zax (by decide) (by decide)).trans h0
 rw [ZbP [(4, 32766, 0, 3), (4, 32767, 0, 3)] hop (df1 _) hb (by decide)]
 have hr : runL [(4, 32766, 0, 3), (4, 32767, 0, 3)] (ramX, M, [], []) = ([ZaD ramX M 32766, ZaD ramX M 32767], (ramX, M, [], [])) := by kernel_rfl
 rw [hr, Zax (by decide) (by decide), Zax (by decide) (by decide), h1, h2]
 have hf : finI (cS chip (A, B, C, D, E, H, L, G, 32766, 257) ie dl q) false [241, (p : Int), (a : Int)] noL (31, 1, 0, 0, 3, 0, 0, 0) = cS chip (IntKind.wrap .u8 (shrI .u16 (ZaH (a : Int) (p : Int)) 8), B, C, D, E, H, L, Zd5 chip (IntKind.wrap .u8 (ZaH (a : Int) (p : Int))), 32768, 258) ie false q := by kernel_rfl
 rw [hf, ZBb a p ha hp, ZAL a p ha hp, hP]
theorem ZD7 (pc : Int) (x y h l : Nat) (hx : x < 256) (hy : y < 256) (hpc : pc = 256 ∨ pc = 257) (h0 : getX M pc = 227) (h1 : getX M 32768 = (y : Int)) (h2 : getX M 32769 = (x : Int)) :
  Zcm (cS chip (A, B, C, D, E, (h : Int), (l : Int), F, 32768, pc) ie dl q) 0 noL (ramX, M, [], []) =
   (cS chip (A, B, C, D, E, (x : Int), (y : Int), F, 32768, pc + 1) ie false q, (ramX, ZB ramX (ZB ramX M 32769 (h : Int)) 32768 (l : Int), [], []), [227, (y : Int), (x : Int), (h : Int), (l : Int)]) := by
 have hb : ∀ g, ZbF (cS chip (A, B, C, D, E, (h : Int), (l : Int), F, 32768, pc) ie dl q) false g (32, 1, 0, 0, 0, 0, 0, 0) = [(4, 32768, 0, 3), (4, 32769, 0, 3), (5, 32769, (h : Int), 3), (5, 32768, (l : Int), bif chip == 2 then 3 else 5)] := fun g => by kernel_rfl
 have hop : ZaD (ramX, M, ([] : List Int), ([] : List (Int × Int))).1 (ramX, M, ([] : List Int), ([] : List (Int × Int))).2.1 (pcOf (cS chip (A, B, C, D, E, (h : Int), (l : Int), F, 32768, pc) ie dl q)) = 227 := by
  have hp : pcOf (cS chip (A, B, C, D, E, (h : Int), (l : Int), F, 32768, pc) ie dl q) = pc := rfl
  rw [hp]
  exact (Zax (by rcases hpc with e | e <;> omega) (by rcases hpc with e | e <;> omega)).trans h0
 rw [ZbP _ hop (de3 _) hb (by simp)]
 have hr : runL [(4, 32768, 0, 3), (4, 32769, 0, 3), (5, 32769, (h : Int), 3), (5, 32768, (l : Int), bif chip == 2 then 3 else 5)] (ramX, M, [], []) = ([ZaD ramX M 32768, ZaD ramX M 32769, (h : Int), (l : Int)], (ramX, ZB ramX (ZB ramX M 32769 (h : Int)) 32768 (l : Int), [], [])) := by kernel_rfl
 rw [hr, Zax (by decide) (by decide), Zax (by decide) (by decide), h1, h2]
 have hf : finI (cS chip (A, B, C, D, E, (h : Int), (l : Int), F, 32768, pc) ie dl q) false [227, (y : Int), (x : Int), (h : Int), (l : Int)] noL (32, 1, 0, 0, 0, 0, 0, 0) = cS chip (A, B, C, D, E, IntKind.wrap .u8 (shrI .u16 (ZaH (x : Int) (y : Int)) 8), IntKind.wrap .u8 (ZaH (x : Int) (y : Int)), F, 32768, IntKind.wrap .u16 (pc + 1)) ie false q := by kernel_rfl
 rw [hf, ZBb x y hx hy, ZAL x y hx hy]
 have : IntKind.wrap .u16 (pc + 1) = pc + 1 := by rw [ZaA]; omega
 rw [this]
end
end Go.Proofs.YtghoimllhpjkjaaGreat
