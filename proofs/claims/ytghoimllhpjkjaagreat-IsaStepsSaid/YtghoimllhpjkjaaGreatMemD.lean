/-
  Memories: Load, Same and Find of the reference, the program's Valid and Find, Read and Write, as plain functions. Conditions: none.
-/
import Derived.Test.YtghoimllhpjkjaaGreatS3D
import Derived.Test.YtghoimllhpjkjaaGreatProg
import Derived.Test.YtghoimllhpjkjaaGreatMem1
open Go.IntKind (u8 u16 i64)
set_option linter.unusedSimpArgs false
open Go Go.S3 Go.Proofs
set_option linter.unusedVariables false
set_option maxRecDepth 100000
namespace Go.Proofs.YtghoimllhpjkjaaGreat
noncomputable section
abbrev ZoI : List Sh := [Sh.one rcCE]
abbrev Zi9 : Rs := Rs.one (Sh.one R.bool)
def ZEP : LS := { n := 34, slots := [(0, .code (Sh.one rcCE)), (2, .code (Sh.one R.bool)), (5, .code (Sh.one (R.int i64))), (6, .code (Sh.one (R.int i64)))], boxes := [], stgs := [] }
def Zdl (a : List (Int × Int) × Bool × Int × Int × PUnit) : RT (Option (Go1 (List (Int × Int) × Bool × Int × Int × PUnit))) :=
 let x1 := (R.get (R.pair (R.int u16) (R.int u8)) a.1 a.2.2.2.1).2 == 0
 let x2 := !Zf a.2.2.2.1 (List.length a.1) || (x1 || (!decide (a.2.2.2.1 > 0) || (!Zf a.2.2.2.1 (List.length a.1) || Zf (i64.wrap (a.2.2.2.1 - 1)) (List.length a.1))))
 let x3 := !x2
 let x4 := !Zf a.2.2.2.1 (List.length a.1) || (x1 || (!decide (a.2.2.2.1 > 0) || Zf a.2.2.2.1 (List.length a.1)))
 .br (decide (a.2.2.2.1 < a.2.2.1)) (.br (x3 || (!x4 || Zf a.2.2.2.1 (List.length a.1))) (.br (x3 || x4) (.br (x2) (.br (x1 || decide (a.2.2.2.1 > 0) && decide ((R.get (R.pair (R.int u16) (R.int u8)) a.1 a.2.2.2.1).1 ≤ (R.get (R.pair (R.int u16) (R.int u8)) a.1 (i64.wrap (a.2.2.2.1 - 1))).1)) (.leaf (some (Go1.ret (a.1, false, a.2.2.1, a.2.2.2.1, PUnit.unit)))) (.leaf (some (Go1.cont (a.1, a.2.1, a.2.2.1, i64.wrap (a.2.2.2.1 + 1), PUnit.unit))))) (.leaf none)) (.leaf none)) (.leaf none)) (.leaf (some (Go1.brk (a.1, a.2.1, a.2.2.1, a.2.2.2.1, PUnit.unit))))
def ZsC : Ora := Zbt true ZEP Zdl (fun a => 1000000000000)
theorem ZuT : Za3 (envX Tryz.prog [] [] 15 8) (.block 0 (.loop (Zab Tryz.f44.body 0))) ZsC :=
 ZB (ZI (l := []) trivial [] 15 8) (Zp (by kernel_rfl)) (fun a => by kernel_rfl)
def ZhL (m : List (Int × Int)) : RT (Option (Bool)) :=
 let x1 := runF true Zdl (fun a => 1000000000000) (m, false, iN (List.length m), 0, ())
 let x2 := getO (false, m, false, iN (List.length m), 0, ()) x1
 .br (okB x1) (.br x2.1 (.leaf (some x2.2.2.1)) (.leaf (some (true)))) (.leaf none)
def Zj2 (m : List (Int × Int)) : Bool := getO Zi9.dflt (ZhL m).val
def ZhM (m : List (Int × Int)) : Bool := okB (ZhL m).val
def ZoJ : Entry := Zk ZoI Zi9 (fun a => some (ZhM a)) (fun a => Zj2 a)
theorem Zj1 : Zc Tryz.prog 44 ZoJ :=
 pureP 15 [] [(0, ZsC)] ZoI Zi9 trivial Tryz.func44 Tryz.call44 ⟨ZuT, trivial⟩ (t := fun a => ZhL a) (fun a => by kernel_rfl)
abbrev ZvU : List Sh := [Sh.one rcCE, Sh.one (R.int u16)]
abbrev Zpf : Rs := Rs.one (Sh.one (R.int u8))
def ZKc : LS := { n := 25, slots := [(0, .code (Sh.one rcCE)), (1, .code (Sh.one (R.int u16))), (4, .code (Sh.one (R.int u8))), (5, .code (Sh.one (R.int i64)))], boxes := [], stgs := [] }
def ZfG (a : List (Int × Int) × Int × Int × Int × PUnit) : RT (Option (Go1 (List (Int × Int) × Int × Int × Int × PUnit))) :=
 let x1 := (R.get (R.pair (R.int u16) (R.int u8)) a.1 a.2.2.2.1).1 == a.2.1
 .br (decide (a.2.2.2.1 ≥ 0)) (.br (!Zf a.2.2.2.1 (List.length a.1) || (!x1 || Zf a.2.2.2.1 (List.length a.1))) (.br (Zf a.2.2.2.1 (List.length a.1)) (.br (x1) (.leaf (some (Go1.ret (a.1, a.2.1, (R.get (R.pair (R.int u16) (R.int u8)) a.1 a.2.2.2.1).2, a.2.2.2.1, PUnit.unit)))) (.leaf (some (Go1.cont (a.1, a.2.1, a.2.2.1, i64.wrap (a.2.2.2.1 - 1), PUnit.unit))))) (.leaf none)) (.leaf none)) (.leaf (some (Go1.brk (a.1, a.2.1, a.2.2.1, a.2.2.2.1, PUnit.unit))))
def Zzm : Ora := Zbt true ZKc ZfG (fun a => 1000000000000)
theorem ZBw : Za3 (envX Tryz.prog [] [] 63 8) (.block 0 (.loop (Zab Tryz.f35.body 0))) Zzm :=
 ZB (ZI (l := []) trivial [] 63 8) (Zp (by kernel_rfl)) (fun a => by kernel_rfl)
def ZnG (m : List (Int × Int)) (t : Int) : RT (Option (Int)) :=
 let x1 : List (Int × Int) × Int × Int × Int × PUnit := (m, t, 0, i64.wrap (iN (List.length m) - 1), ())
 let x2 := runF true ZfG (fun a => 1000000000000) x1
 let x3 := getO (false, x1) x2
 .br (okB x2) (.br x3.1 (.leaf (some x3.2.2.2.1)) (.leaf (some (0)))) (.leaf none)
def ZKd (m : List (Int × Int)) (t : Int) : Int := getO Zpf.dflt (ZnG m t).val
def Zzn (m : List (Int × Int)) (t : Int) : Bool := okB (ZnG m t).val
def ZMk : Entry := Zk ZvU Zpf (fun a => some (Zzn a.1 a.2)) (fun a => ZKd a.1 a.2)
theorem Zzl : Zc Tryz.prog 35 ZMk :=
 pureP 63 [] [(0, Zzm)] ZvU Zpf trivial Tryz.func35 Tryz.call35 ⟨ZBw, trivial⟩ (t := fun a => ZnG a.1 a.2) (fun a => by kernel_rfl)
abbrev ZE7 : List Sh := [Sh.one rcCE, Sh.agg (R.pair (R.int u16) (R.int u8))]
abbrev Zu4 : Rs := Rs.one (Sh.one rcCE)
def ZJ1 : LS := { n := 53, slots := [(3, .fix (A.loc 0 0)), (5, .tip 0), (6, .code (Sh.one R.bool)), (9, .code (Sh.one rcCE)), (10, .code (Sh.one (R.int i64))), (11, .code (Sh.one (R.int i64)))], boxes := [[.many (R.pair (R.int u16) (R.int u8))]], stgs := [⟨(R.pair (R.int u16) (R.int u8)), 106, true⟩] }
def ZgH (a : QT7) : RT (Option (Go1 (QT7))) :=
 let x1 : Int × Int := R.get (R.pair (R.int u16) (R.int u8)) a.2.1 a.2.2.2.1
 let x2 := x1.1
 let x3 := !a.1 && decide (x2 ≥ a.2.2.2.2.1.1)
 let x4 : List (Int × Int) := a.2.2.2.2.2.1 ++ [a.2.2.2.2.1]
 let x5 := !x3 || (!a.2.2.2.2.1.2 != 0 || Nat.ble (List.length x4) most)
 let x6 := x2 != a.2.2.2.2.1.1
 let x7 : List (Int × Int) := bif x3 then bif a.2.2.2.2.1.2 != 0 then x4 else a.2.2.2.2.2.1 else a.2.2.2.2.2.1
 let x8 : List (Int × Int) := x7 ++ [x1]
 .br (decide (a.2.2.2.1 < a.2.2.1)) (.br (!Zf a.2.2.2.1 (List.length a.2.1) || (!x5 || (!x6 || Nat.ble (List.length x8) most))) (.br (!Zf a.2.2.2.1 (List.length a.2.1) || x5) (.br (Zf a.2.2.2.1 (List.length a.2.1)) (.leaf (some (Go1.cont (x3 || a.1, a.2.1, a.2.2.1, i64.wrap (a.2.2.2.1 + 1), a.2.2.2.2.1, bif x6 then x8 else x7, PUnit.unit)))) (.leaf none)) (.leaf none)) (.leaf none)) (.leaf (some (Go1.brk (a.1, a.2.1, a.2.2.1, a.2.2.2.1, a.2.2.2.2.1, a.2.2.2.2.2.1, PUnit.unit))))
def Zy8 : Ora := Zbt false ZJ1 ZgH (fun a => 1000000000000)
theorem ZBf : Za3 (envX Tryz.prog [] [] 511 8) (.block 0 (.loop (Zab Tryz.f149.body 0))) Zy8 :=
 ZB (ZI (l := []) trivial [] 511 8) (Zp (by kernel_rfl)) (fun a => by kernel_rfl)
def Zny (m : List (Int × Int)) (c : Int × Int) : RT (Option (List (Int × Int))) :=
 let x1 : QT7 := (false, m, iN (List.length m), 0, c, [], ())
 let x2 := runF false ZgH (fun a => 1000000000000) x1
 let x3 : QT7 := (getO (false, x1) x2).2
 let x4 := x3.2.2.2.2
 let x5 := x4.1
 let x6 := !x3.1 && x5.2 != 0
 let x7 := x4.2.1
 let x8 : List (Int × Int) := x7 ++ [x5]
 .br (okB x2) (.br (!x6 || Nat.ble (List.length x8) most) (.leaf (some (bif x6 then x8 else x7))) (.leaf none)) (.leaf none)
def ZBg (m : List (Int × Int)) (c : Int × Int) : List (Int × Int) := getO Zu4.dflt (Zny m c).val
def Znz (m : List (Int × Int)) (c : Int × Int) : Bool := okB (Zny m c).val
def ZsR : Entry := Zk ZE7 Zu4 (fun a => some (Znz a.1 a.2)) (fun a => ZBg a.1 a.2)
theorem ZoV : Zc Tryz.prog 149 ZsR :=
 pureP 511 [] [(0, Zy8)] ZE7 Zu4 trivial Tryz.func149 Tryz.call149 ⟨ZBf, trivial⟩ (t := fun a => Zny a.1 a.2) (fun a => by kernel_rfl)
abbrev Zva : List Sh := [Sh.one rcCE]
abbrev ZoZ : Rs := Rs.one (Sh.one rcCE)
def ZJ8 : LS := { n := 21, slots := [(3, .code (Sh.one rcCE)), (10, .code (Sh.one rcCE)), (11, .code (Sh.one (R.int i64))), (12, .code (Sh.one (R.int i64)))], boxes := [], stgs := [] }
def ZgK (a : List (Int × Int) × List (Int × Int) × Int × Int × PUnit) : RT (Option (Go1 (List (Int × Int) × List (Int × Int) × Int × Int × PUnit))) :=
 let x1 : Int × Int := R.get (R.pair (R.int u16) (R.int u8)) a.2.1 a.2.2.2.1
 .br (decide (a.2.2.2.1 < a.2.2.1)) (.br (!Zf a.2.2.2.1 (List.length a.2.1) || Znz a.1 x1) (.br (Zf a.2.2.2.1 (List.length a.2.1)) (.leaf (some (Go1.cont (ZBg a.1 x1, a.2.1, a.2.2.1, i64.wrap (a.2.2.2.1 + 1), PUnit.unit)))) (.leaf none)) (.leaf none)) (.leaf (some (Go1.brk (a.1, a.2.1, a.2.2.1, a.2.2.2.1, PUnit.unit))))
def Zze : Ora := Zbt false ZJ8 ZgK (fun a => 1000000000000)
theorem ZBi : Za3 (envX Tryz.prog [(44, ZoJ), (149, ZsR)] [] 63 8) (.block 0 (.loop (Zab Tryz.f92.body 0))) Zze :=
 ZB (ZI (l := [(44, ZoJ), (149, ZsR)]) ⟨Zj1, ZoV, trivial⟩ [] 63 8) (Zp (by kernel_rfl)) (fun a => by kernel_rfl)
def ZnD (l : List (Int × Int)) : RT (Option (List (Int × Int))) :=
 let x1 := runF false ZgK (fun a => 1000000000000) ([], l, iN (List.length l), 0, ())
 .br (ZhM l) (.br (!Zj2 l || Nat.ble (List.length ([] ++ l)) most) (.br (Zj2 l) (.leaf (some ([] ++ l))) (.br (okB x1) (.leaf (some (getO (false, [], l, iN (List.length l), 0, ()) x1).2.1)) (.leaf none))) (.leaf none)) (.leaf none)
def Zvc (l : List (Int × Int)) : List (Int × Int) := getO ZoZ.dflt (ZnD l).val
def Zj8 (l : List (Int × Int)) : Bool := okB (ZnD l).val
def ZnE : Entry := Zk Zva ZoZ (fun a => some (Zj8 a)) (fun a => Zvc a)
theorem ZgJ : Zc Tryz.prog 92 ZnE :=
 pureP 63 [(44, ZoJ), (149, ZsR)] [(0, Zze)] Zva ZoZ ⟨Zj1, ZoV, trivial⟩ Tryz.func92 Tryz.call92 ⟨ZBi, trivial⟩ (t := fun a => ZnD a) (fun a => by kernel_rfl)
abbrev ZE6 : List Sh := [Sh.one rcCE, Sh.one (R.int u16), Sh.one (R.int u8)]
abbrev Zu3 : Rs := Rs.one (Sh.one rcCE)
def ZsQ (m : List (Int × Int)) (t : Int) (v : Int) : RT (Option (List (Int × Int))) :=
 .br (!Zj8 m || Znz (Zvc m) (t, v)) (.br (Zj8 m) (.leaf (some (ZBg (Zvc m) (t, v)))) (.leaf none)) (.leaf none)
def ZJ0 (m : List (Int × Int)) (t : Int) (v : Int) : List (Int × Int) := getO Zu3.dflt (ZsQ m t v).val
def Zy7 (m : List (Int × Int)) (t : Int) (v : Int) : Bool := okB (ZsQ m t v).val
def ZL6 : Entry := Zk ZE6 Zu3 (fun a => some (Zy7 a.1 a.2.1 a.2.2)) (fun a => ZJ0 a.1 a.2.1 a.2.2)
theorem ZJZ : Zc Tryz.prog 161 ZL6 :=
 pureP 127 [(92, ZnE), (149, ZsR)] [] ZE6 Zu3 ⟨ZgJ, ZoV, trivial⟩ Tryz.func161 Tryz.call161 trivial (t := fun a => ZsQ a.1 a.2.1 a.2.2) (fun a => by kernel_rfl)
abbrev ZvP : List Sh := [Sh.one (R.int u16), Sh.one (R.sl (R.int u8))]
abbrev Zpc : Rs := Rs.one (Sh.one rcCE)
def ZKb : LS := { n := 27, slots := [(0, .code (Sh.one (R.int u16))), (1, .code (Sh.one (R.sl (R.int u8)))), (5, .tip 0), (8, .code (Sh.one (R.int i64))), (9, .code (Sh.one (R.int i64)))], boxes := [], stgs := [⟨(R.pair (R.int u16) (R.int u8)), 106, true⟩] }
def ZgN (a : QT17) : RT (Option (Go1 (QT17))) :=
 let x1 : List (Int × Int) := a.2.2.2.2.1 ++ [(u16.wrap (a.1 + u16.wrap a.2.2.2.1), R.get (R.int u8) a.2.1 a.2.2.2.1)]
 let x2 := !Zf a.2.2.2.1 (List.length a.2.1) || Nat.ble (List.length x1) most
 .br (decide (a.2.2.2.1 < a.2.2.1)) (.br (!x2 || Zf a.2.2.2.1 (List.length a.2.1)) (.br (x2) (.leaf (some (Go1.cont (a.1, a.2.1, a.2.2.1, i64.wrap (a.2.2.2.1 + 1), x1, PUnit.unit)))) (.leaf none)) (.leaf none)) (.leaf (some (Go1.brk (a.1, a.2.1, a.2.2.1, a.2.2.2.1, a.2.2.2.2.1, PUnit.unit))))
def Zzh : Ora := Zbt false ZKb ZgN (fun a => 1000000000000)
theorem ZBv : Za3 (envX Tryz.prog [(92, ZnE)] [] 127 8) (.block 0 (.loop (Zab Tryz.f32.body 0))) Zzh :=
 ZB (ZI (l := [(92, ZnE)]) ⟨ZgJ, trivial⟩ [] 127 8) (Zp (by kernel_rfl)) (fun a => by kernel_rfl)
def Zs0 (t : Int) (b : List Int) : RT (Option (List (Int × Int))) :=
 let x1 := runF false ZgN (fun a => 1000000000000) (t, b, iN (List.length b), 0, [], ())
 let x2 : List (Int × Int) := (getO (false, t, b, iN (List.length b), 0, [], ()) x1).2.2.2.2.2.1
 .br (okB x1) (.br (Zj8 x2) (.leaf (some (Zvc x2))) (.leaf none)) (.leaf none)
def ZNN (t : Int) (b : List Int) : List (Int × Int) := getO Zpc.dflt (Zs0 t b).val
def ZFo (t : Int) (b : List Int) : Bool := okB (Zs0 t b).val
def ZQc : Entry := Zk ZvP Zpc (fun a => some (ZFo a.1 a.2)) (fun a => ZNN a.1 a.2)
theorem ZKa : Zc Tryz.prog 32 ZQc :=
 pureP 127 [(92, ZnE)] [(0, Zzh)] ZvP Zpc ⟨ZgJ, trivial⟩ Tryz.func32 Tryz.call32 ⟨ZBv, trivial⟩ (t := fun a => Zs0 a.1 a.2) (fun a => by kernel_rfl)
abbrev ZoP : List Sh := [Sh.one rcCE, Sh.one rcCE]
abbrev Zjd : Rs := Rs.one (Sh.one R.bool)
def ZES : LS := { n := 26, slots := [(0, .code (Sh.one rcCE)), (1, .code (Sh.one rcCE)), (4, .code (Sh.one R.bool)), (12, .code (Sh.one (R.int i64))), (13, .code (Sh.one (R.int i64)))], boxes := [], stgs := [] }
def Zd1 (a : List (Int × Int) × List (Int × Int) × Bool × Int × Int × PUnit) : RT (Option (Go1 (List (Int × Int) × List (Int × Int) × Bool × Int × Int × PUnit))) :=
 let x1 := !Zf a.2.2.2.2.1 (List.length a.1) || Zf a.2.2.2.2.1 (List.length a.2.1)
 let x2 : Int × Int := R.get (R.pair (R.int u16) (R.int u8)) a.1 a.2.2.2.2.1
 let x3 : Int × Int := R.get (R.pair (R.int u16) (R.int u8)) a.2.1 a.2.2.2.2.1
 let x4 : Int × Int × PUnit := (a.2.2.2.1, a.2.2.2.2.1, PUnit.unit)
 .br (decide (a.2.2.2.2.1 < a.2.2.2.1)) (.br (!x1 || Zf a.2.2.2.2.1 (List.length a.1)) (.br (x1) (.br (!(x2.1 == x3.1 && (x2.2 == x3.2 && true))) (.leaf (some (Go1.ret (a.1, a.2.1, false, x4)))) (.leaf (some (Go1.cont (a.1, a.2.1, a.2.2.1, a.2.2.2.1, i64.wrap (a.2.2.2.2.1 + 1), PUnit.unit))))) (.leaf none)) (.leaf none)) (.leaf (some (Go1.brk (a.1, a.2.1, a.2.2.1, x4))))
def ZsM : Ora := Zbt true ZES Zd1 (fun a => 1000000000000)
theorem ZuX : Za3 (envX Tryz.prog [] [] 63 8) (.block 0 (.loop (Zab Tryz.f39.body 0))) ZsM :=
 ZB (ZI (l := []) trivial [] 63 8) (Zp (by kernel_rfl)) (fun a => by kernel_rfl)
def Zgh (a : List (Int × Int)) (b : List (Int × Int)) : RT (Option (Bool)) :=
 let x1 := runF true Zd1 (fun a_1 => 1000000000000) (a, b, false, iN (List.length a), 0, ())
 let x2 := getO (false, a, b, false, iN (List.length a), 0, ()) x1
 .br (iN (List.length a) != iN (List.length b)) (.leaf (some (false))) (.br (okB x1) (.br x2.1 (.leaf (some x2.2.2.2.1)) (.leaf (some (true)))) (.leaf none))
def ZET (a : List (Int × Int)) (b : List (Int × Int)) : Bool := getO Zjd.dflt (Zgh a b).val
def ZuY (a : List (Int × Int)) (b : List (Int × Int)) : Bool := okB (Zgh a b).val
def ZNF : Entry := Zk ZoP Zjd (fun a => some (ZuY a.1 a.2)) (fun a => ZET a.1 a.2)
theorem ZER : Zc Tryz.prog 39 ZNF :=
 pureP 63 [] [(0, ZsM)] ZoP Zjd trivial Tryz.func39 Tryz.call39 ⟨ZuX, trivial⟩ (t := fun a => Zgh a.1 a.2) (fun a => by kernel_rfl)
abbrev ZFz : List Sh := [Sh.one rcRG, Sh.one (R.int u16)]
abbrev ZvW : Rs := Rs.one (Sh.one (R.int i64))
def ZKe : LS := { n := 26, slots := [(1, .code (Sh.one (R.int u16))), (4, .code (Sh.one (R.int i64))), (7, .code (Sh.one rcRG)), (8, .code (Sh.one (R.int i64))), (9, .code (Sh.one (R.int i64)))], boxes := [], stgs := [] }
def ZfH (a : QT16) : RT (Option (Go1 (QT16))) :=
 let x1 : QT4 := R.get (R.pair (R.int u16) (R.pair (R.int u16) (R.pair R.bool (R.int i64)))) a.2.2.1 a.2.2.2.2.1
 let x2 : List (QT4) × Int × Int × PUnit := (a.2.2.1, a.2.2.2.1, a.2.2.2.2.1, PUnit.unit)
 .br (decide (a.2.2.2.2.1 < a.2.2.2.1)) (.br (Zf a.2.2.2.2.1 (List.length a.2.2.1)) (.br (decide (x1.1 ≤ a.1) && decide (a.1 ≤ x1.2.1)) (.leaf (some (Go1.ret (a.1, a.2.2.2.2.1, x2)))) (.leaf (some (Go1.cont (a.1, a.2.1, a.2.2.1, a.2.2.2.1, i64.wrap (a.2.2.2.2.1 + 1), PUnit.unit))))) (.leaf none)) (.leaf (some (Go1.brk (a.1, a.2.1, x2))))
def Zzp : Ora := Zbt true ZKe ZfH (fun a => 1000000000000)
theorem ZBx : Za3 (envX Tryz.prog [] [] 127 8) (.block 0 (.loop (Zab Tryz.f43.body 0))) Zzp :=
 ZB (ZI (l := []) trivial [] 127 8) (Zp (by kernel_rfl)) (fun a => by kernel_rfl)
def ZkR (l : List (QT4)) (t : Int) : RT (Option (Int)) :=
 let x1 := runF true ZfH (fun a => 1000000000000) (t, 0, l, iN (List.length l), 0, ())
 let x2 := getO (false, t, 0, l, iN (List.length l), 0, ()) x1
 .br (okB x1) (.br x2.1 (.leaf (some x2.2.2.1)) (.leaf (some (-1)))) (.leaf none)
def Zph (l : List (QT4)) (t : Int) : Int := getO ZvW.dflt (ZkR l t).val
def ZnH (l : List (QT4)) (t : Int) : Bool := okB (ZkR l t).val
def ZFA : Entry := Zk ZFz ZvW (fun a => some (ZnH a.1 a.2)) (fun a => Zph a.1 a.2)
theorem Zzo : Zc Tryz.prog 43 ZFA :=
 pureP 127 [] [(0, Zzp)] ZFz ZvW trivial Tryz.func43 Tryz.call43 ⟨ZBx, trivial⟩ (t := fun a => ZkR a.1 a.2) (fun a => by kernel_rfl)
abbrev ZoR : List Sh := [Sh.one rcRG, Sh.one rcCE, Sh.one (R.int u16)]
abbrev Zje : Rs := Rs.one (Sh.one (R.int u8))
def Zj5 (l : List (QT4)) (m : List (Int × Int)) (t : Int) : RT (Option (Int)) :=
 .br (ZnH l t) (.br (decide (Zph l t < 0)) (.leaf (some (255))) (.br (Zzn m t) (.leaf (some (ZKd m t))) (.leaf none))) (.leaf none)
def ZE2 (l : List (QT4)) (m : List (Int × Int)) (t : Int) : Int := getO Zje.dflt (Zj5 l m t).val
def ZuZ (l : List (QT4)) (m : List (Int × Int)) (t : Int) : Bool := okB (Zj5 l m t).val
def ZNK : Entry := Zk ZoR Zje (fun a => some (ZuZ a.1 a.2.1 a.2.2)) (fun a => ZE2 a.1 a.2.1 a.2.2)
theorem ZE1 : Zc Tryz.prog 102 ZNK :=
 pureP 127 [(35, ZMk), (43, ZFA)] [] ZoR Zje ⟨Zzl, Zzo, trivial⟩ Tryz.func102 Tryz.call102 trivial (t := fun a => Zj5 a.1 a.2.1 a.2.2) (fun a => by kernel_rfl)
abbrev ZjZ : List Sh := [Sh.one rcRG, Sh.one rcCE, Sh.one (R.int u16), Sh.one (R.int u8)]
abbrev ZgF : Rs := Rs.one (Sh.one rcCE)
def ZgE (l : List (QT4)) (m : List (Int × Int)) (t : Int) (v : Int) : RT (Option (List (Int × Int))) :=
 let x1 := decide (Zph l t ≥ 0) && (R.get (R.pair (R.int u16) (R.pair (R.int u16) (R.pair R.bool (R.int i64)))) l (Zph l t)).2.2.1
 .br (ZnH l t) (.br (!decide (Zph l t ≥ 0) || Zf (Zph l t) (List.length l)) (.br (!x1 || Zy7 m t v) (.br (x1) (.leaf (some (ZJ0 m t v))) (.br (Zj8 m) (.leaf (some (Zvc m))) (.leaf none))) (.leaf none)) (.leaf none)) (.leaf none)
def ZuS (l : List (QT4)) (m : List (Int × Int)) (t : Int) (v : Int) : List (Int × Int) := getO ZgF.dflt (ZgE l m t v).val
def ZoG (l : List (QT4)) (m : List (Int × Int)) (t : Int) (v : Int) : Bool := okB (ZgE l m t v).val
def ZJR : Entry := Zk ZjZ ZgF (fun a => some (ZoG a.1 a.2.1 a.2.2.1 a.2.2.2)) (fun a => ZuS a.1 a.2.1 a.2.2.1 a.2.2.2)
theorem ZA8 : Zc Tryz.prog 101 ZJR :=
 pureP 1023 [(43, ZFA), (92, ZnE), (161, ZL6)] [] ZjZ ZgF ⟨Zzo, ZgJ, ZJZ, trivial⟩ Tryz.func101 Tryz.call101 trivial (t := fun a => ZgE a.1 a.2.1 a.2.2.1 a.2.2.2) (fun a => by kernel_rfl)
abbrev ZHc : List Sh := [Sh.one rcRG, Sh.one (R.int u16)]
abbrev Zxh : Rs := Rs.one (Sh.one (R.int i64))
def ZKO : LS := { n := 26, slots := [(1, .code (Sh.one (R.int u16))), (4, .code (Sh.one (R.int i64))), (7, .code (Sh.one rcRG)), (8, .code (Sh.one (R.int i64))), (9, .code (Sh.one (R.int i64)))], boxes := [], stgs := [] }
def Zz1 (a : QT16) : RT (Option (Go1 (QT16))) :=
 let x1 : QT4 := R.get (R.pair (R.int u16) (R.pair (R.int u16) (R.pair R.bool (R.int i64)))) a.2.2.1 a.2.2.2.2.1
 let x2 : List (QT4) × Int × Int × PUnit := (a.2.2.1, a.2.2.2.1, a.2.2.2.2.1, PUnit.unit)
 .br (decide (a.2.2.2.2.1 < a.2.2.2.1)) (.br (Zf a.2.2.2.2.1 (List.length a.2.2.1)) (.br (decide (x1.1 ≤ a.1) && decide (a.1 ≤ x1.2.1)) (.leaf (some (Go1.ret (a.1, a.2.2.2.2.1, x2)))) (.leaf (some (Go1.cont (a.1, a.2.1, a.2.2.1, a.2.2.2.1, i64.wrap (a.2.2.2.2.1 + 1), PUnit.unit))))) (.leaf none)) (.leaf (some (Go1.brk (a.1, a.2.1, x2))))
def Zz2 : Ora := Zbt true ZKO Zz1 (fun a => 1000000000000)
theorem ZCB : Za3 (envX Tryz.prog [] [] 127 8) (.block 0 (.loop (Zab Tryz.f245.body 0))) Zz2 :=
 ZB (ZI (l := []) trivial [] 127 8) (Zp (by kernel_rfl)) (fun a => by kernel_rfl)
def Zz0 (l : List (QT4)) (t : Int) : RT (Option (Int)) :=
 let x1 := runF true Zz1 (fun a => 1000000000000) (t, 0, l, iN (List.length l), 0, ())
 let x2 := getO (false, t, 0, l, iN (List.length l), 0, ()) x1
 .br (okB x1) (.br x2.1 (.leaf (some x2.2.2.1)) (.leaf (some (-1)))) (.leaf none)
def Zxi (l : List (QT4)) (t : Int) : Int := getO Zxh.dflt (Zz0 l t).val
def Zz3 (l : List (QT4)) (t : Int) : Bool := okB (Zz0 l t).val
def ZHd : Entry := Zk ZHc Zxh (fun a => some (Zz3 a.1 a.2)) (fun a => Zxi a.1 a.2)
theorem ZzZ : Zc Tryz.prog 245 ZHd :=
 pureP 127 [] [(0, Zz2)] ZHc Zxh trivial Tryz.func245 Tryz.call245 ⟨ZCB, trivial⟩ (t := fun a => Zz0 a.1 a.2) (fun a => by kernel_rfl)
end
end Go.Proofs.YtghoimllhpjkjaaGreat
namespace Go.Proofs.Cells
def getX (l : List Cell) (a : Int) : Int := ((flt a l).getLast?.map Prod.snd).getD 0
def Vld (m : List Cell) : Prop := m.Pairwise (fun a b => a.1 < b.1) ∧ ∀ c ∈ m, c.2 ≠ 0
theorem ZDB {l l' : List Cell} (h : Sm l l') (a : Int) : getX l a = getX l' a := by rw [getX, getX, h a]
theorem Vld.srt {m : List Cell} (h : Vld m) : Srt m := h.1.imp fun h => Int.le_of_lt h
theorem Vld.tail {c : Cell} {m : List Cell} (h : Vld (c :: m)) : Vld m := ⟨(List.pairwise_cons.1 h.1).2, fun x hx => h.2 x (List.mem_cons_of_mem _ hx)⟩
theorem ZAE (a : Int) : getX [] a = 0 := rfl
theorem Zjz (a : Int) (c : Cell) (l : List Cell) : flt a (c :: l) = if c.1 = a then c :: flt a l else flt a l := by
 by_cases h : c.1 = a <;> simp [flt, h]
theorem Zdz (c : Cell) (l : List Cell) (a : Int) : getX (c :: l) a = if c.1 = a ∧ flt a l = [] then c.2 else getX l a := by
 simp only [getX, Zjz]
 by_cases h : c.1 = a
 ·simp only [h, if_true, true_and]
  cases hf : flt a l with
  | nil => simp
  | cons x r => simp [List.getLast?_cons_cons]
 ·simp [h]
theorem Vld.flt {m : List Cell} (h : Vld m) (a : Int) : Cells.flt a m = if getX m a = 0 then [] else [(a, getX m a)] := by
 induction m with
 | nil => simp [Cells.flt, ZAE]
 | cons c m ih =>
  have ih := ih h.tail
  have h1 := List.pairwise_cons.1 h.1
  by_cases hc : c.1 = a
  ·have hn : Cells.flt a m = [] := ZdA fun x hx => by have := h1.1 x hx; omega
   have hz := h.2 c (by simp)
   rw [Zjz, Zdz]
   simp only [hc, hn, and_self, if_true, hz, if_false]
   rw [← hc]
  ·rw [Zjz, Zdz]
   simp only [hc, false_and, if_false, ih]
theorem ZNe {m m' : List Cell} (h : Vld m) (h' : Vld m') (e : ∀ a, getX m a = getX m' a) : m = m' :=
 uniq h.srt h'.srt fun k => by rw [h.flt, h'.flt, e k]
def dd : List Cell → List Cell
 | [] => []
 | x :: r => match r with
  | [] => if x.2 = 0 then [] else [x]
  | y :: _ => if x.1 = y.1 then dd r else if x.2 = 0 then dd r else x :: dd r
theorem Zoc : ∀ {l : List Cell} {c : Cell}, c ∈ dd l → c ∈ l ∧ c.2 ≠ 0
 | [], c, h => by simp [dd] at h
 | [x], c, h => by
  simp only [dd] at h
  split at h
  ·simp at h
  ·rename_i hz; simp at h; subst h; exact ⟨by simp, hz⟩
 | x :: y :: r, c, h => by
  rw [dd] at h
  split at h
  ·have := Zoc h; exact ⟨List.mem_cons_of_mem _ this.1, this.2⟩
  ·split at h
   ·have := Zoc h; exact ⟨List.mem_cons_of_mem _ this.1, this.2⟩
   ·rename_i hz
    rcases List.mem_cons.1 h with e | e
    ·subst e; exact ⟨by simp, hz⟩
    ·have := Zoc e; exact ⟨List.mem_cons_of_mem _ this.1, this.2⟩
theorem ZM7 : ∀ {l : List Cell}, Srt l → Vld (dd l)
 | [], _ => ⟨List.Pairwise.nil, fun c h => by simp [dd] at h⟩
 | [x], _ => by
  refine ⟨?_, fun c h => (Zoc h).2⟩
  simp only [dd]; split <;> simp
 | x :: y :: r, h => by
  have h1 := List.pairwise_cons.1 h
  have ih := ZM7 (l := y :: r) h1.2
  have h2 := List.pairwise_cons.1 h1.2
  rw [dd]
  split
  ·exact ih
  ·rename_i hne
   split
   ·exact ih
   ·rename_i hz
    refine ⟨List.pairwise_cons.2 ⟨fun c hc => ?_, ih.1⟩, fun c hc => ?_⟩
    ·have hxy := h1.1 y (by simp)
     rcases List.mem_cons.1 (Zoc hc).1 with e | e
     ·rw [e]; omega
     ·have := h2.1 c e; omega
    ·rcases List.mem_cons.1 hc with e | e
     ·rw [e]; exact hz
     ·exact ih.2 c e
theorem ZM8 : ∀ {l : List Cell}, Srt l → ∀ a, getX (dd l) a = getX l a
 | [], _, _ => rfl
 | [x], _, a => by
  simp only [dd]
  split
  ·rename_i hz; rw [Zdz]; simp [flt, getX, hz]
  ·rfl
 | x :: y :: r, h, a => by
  have h1 := List.pairwise_cons.1 h
  have ih := ZM8 (l := y :: r) h1.2 a
  have h2 := List.pairwise_cons.1 h1.2
  rw [dd, Zdz x (y :: r)]
  by_cases hxy : x.1 = y.1
  ·rw [if_pos hxy, ih]
   by_cases hc : x.1 = a ∧ flt a (y :: r) = []
   ·obtain ⟨e, e2⟩ := hc
    rw [Zjz, if_pos (by rw [← hxy]; exact e)] at e2; simp at e2
   ·rw [if_neg hc]
  ·rw [if_neg hxy]
   have hlt : ∀ c ∈ y :: r, x.1 < c.1 := fun c hc => by
    have := h1.1 y (by simp)
    rcases List.mem_cons.1 hc with e | e
    ·rw [e]; omega
    ·have := h2.1 c e; omega
   by_cases hc : x.1 = a
   ·have hn : flt a (y :: r) = [] := ZdA fun c hc' => by have := hlt c hc'; omega
    have hn2 : flt a (dd (y :: r)) = [] := ZdA fun c hc' => by have := hlt c (Zoc hc').1; omega
    by_cases hz : x.2 = 0
    ·rw [if_pos hz, if_pos ⟨hc, hn⟩, hz, getX, hn2]; rfl
    ·rw [if_neg hz, if_pos ⟨hc, hn⟩, Zdz, if_pos ⟨hc, hn2⟩]
   ·by_cases hz : x.2 = 0
    ·rw [if_pos hz, if_neg (fun h => hc h.1), ih]
    ·rw [if_neg hz, if_neg (fun h => hc h.1), Zdz, if_neg (fun h => hc h.1), ih]
def putX : List Cell → Cell → List Cell
 | [], c => if c.2 = 0 then [] else [c]
 | x :: r, c => if x.1 < c.1 then x :: putX r c else if c.2 = 0 then (if x.1 = c.1 then r else x :: r) else if x.1 = c.1 then c :: r else c :: x :: r
theorem Zp2 : ∀ {m : List Cell} {c x : Cell}, x ∈ putX m c → x = c ∨ x ∈ m
 | [], c, x, h => by
  simp only [putX] at h
  split at h
  ·simp at h
  ·left; simpa using h
 | y :: r, c, x, h => by
  simp only [putX] at h
  split at h
  ·rcases List.mem_cons.1 h with e | e
   ·right; simp [e]
   ·rcases Zp2 e with e | e
    ·exact .inl e
    ·right; simp [e]
  ·split at h
   ·split at h
    ·right; simp [h]
    ·right; exact h
   ·split at h
    ·rcases List.mem_cons.1 h with e | e
     ·exact .inl e
     ·right; simp [e]
    ·rcases List.mem_cons.1 h with e | e
     ·exact .inl e
     ·right; exact e
theorem Zp1 : ∀ {m : List Cell} {c : Cell}, Vld m → Vld (putX m c)
 | [], c, _ => by
  simp only [putX]
  split
  ·exact ⟨List.Pairwise.nil, fun c h => by simp at h⟩
  ·rename_i hz; exact ⟨by simp, fun x h => by simp at h; rw [h]; exact hz⟩
 | y :: r, c, h => by
  have h1 := List.pairwise_cons.1 h.1
  have hy := h.2 y (by simp)
  simp only [putX]
  split
  ·rename_i hlt
   have ih := Zp1 (c := c) h.tail
   refine ⟨List.pairwise_cons.2 ⟨fun x hx => ?_, ih.1⟩, fun x hx => ?_⟩
   ·rcases Zp2 hx with e | e
    ·rw [e]; exact hlt
    ·exact h1.1 x e
   ·rcases List.mem_cons.1 hx with e | e
    ·rw [e]; exact hy
    ·exact ih.2 x e
  ·rename_i hge
   split
   ·split
    ·exact h.tail
    ·exact h
   ·rename_i hz
    split
    ·rename_i he
     refine ⟨List.pairwise_cons.2 ⟨fun x hx => ?_, h1.2⟩, fun x hx => ?_⟩
     ·have := h1.1 x hx; omega
     ·rcases List.mem_cons.1 hx with e | e
      ·rw [e]; exact hz
      ·exact h.2 x (List.mem_cons_of_mem _ e)
    ·rename_i hne
     refine ⟨List.pairwise_cons.2 ⟨fun x hx => ?_, h.1⟩, fun x hx => ?_⟩
     ·rcases List.mem_cons.1 hx with e | e
      ·rw [e]; omega
      ·have := h1.1 x e; omega
     ·rcases List.mem_cons.1 hx with e | e
      ·rw [e]; exact hz
      ·exact h.2 x e
theorem Zhk {l : List Cell} {a : Int} (h : ∀ c ∈ l, c.1 ≠ a) : getX l a = 0 := by rw [getX, ZdA h]; rfl
theorem Zde {x : Cell} {r : List Cell} (h : ∀ c ∈ r, x.1 < c.1) (a : Int) : getX (x :: r) a = if x.1 = a then x.2 else getX r a := by
 rw [Zdz]
 by_cases hx : x.1 = a
 ·have : flt a r = [] := ZdA fun c hc => by have := h c hc; omega
  simp [hx, this]
 ·simp [hx]
theorem Zzz : ∀ {m : List Cell} {c : Cell}, Vld m → ∀ a, getX (putX m c) a = if c.1 = a then c.2 else getX m a
 | [], c, _, a => by
  simp only [putX]
  split
  ·rename_i hz; rw [ZAE, hz]; simp
  ·rw [Zde (by simp)]
 | y :: r, c, h, a => by
  have h1 := List.pairwise_cons.1 h.1
  simp only [putX]
  split
  ·rename_i hlt
   rw [Zde (fun x hx => by
    rcases Zp2 hx with e | e
    ·rw [e]; exact hlt
    ·exact h1.1 x e), Zde h1.1, Zzz h.tail a]
   by_cases e1 : y.1 = a
   ·simp only [e1, if_true]; rw [if_neg (by omega)]
   ·simp [e1]
  ·rename_i hge
   split
   ·rename_i hz
    split
    ·rename_i he
     rw [Zde h1.1]
     by_cases e : c.1 = a
     ·rw [if_pos e, hz]
      exact Zhk fun x hx => by have := h1.1 x hx; omega
     ·rw [if_neg e, if_neg (by omega)]
    ·rename_i hne
     by_cases e : c.1 = a
     ·rw [if_pos e, hz]
      exact Zhk fun x hx => by
       rcases List.mem_cons.1 hx with e' | e'
       ·rw [e']; omega
       ·have := h1.1 x e'; omega
     ·rw [if_neg e]
   ·split
    ·rename_i he
     rw [Zde (fun x hx => by have := h1.1 x hx; omega), Zde h1.1]
     by_cases e : c.1 = a
     ·simp [e]
     ·rw [if_neg e, if_neg e, if_neg (by omega)]
    ·rename_i hne
     rw [Zde (fun x hx => by
      rcases List.mem_cons.1 hx with e | e
      ·rw [e]; omega
      ·have := h1.1 x e; omega)]
def normX (l : List Cell) : List Cell := l.foldl putX []
theorem ZIP (l : List Cell) (c : Cell) (a : Int) : getX (l ++ [c]) a = if c.1 = a then c.2 else getX l a := by
 rw [getX, getX, ZcS]
 by_cases h : c.1 = a
 ·have : flt a [c] = [c] := by simp [flt, h]
  rw [this, List.getLast?_append]; simp [h]
 ·have : flt a [c] = [] := ZdA fun x hx => by simp at hx; rw [hx]; exact h
  rw [this]; simp [h]
theorem ZmE : ∀ (l : List Cell) {m : List Cell}, Vld m → Vld (l.foldl putX m) ∧ ∀ a, getX (l.foldl putX m) a = getX (m ++ l) a
 | [], m, h => ⟨h, fun a => by simp⟩
 | c :: l, m, h => by
  obtain ⟨h1, h2⟩ := ZmE l (Zp1 (c := c) h)
  refine ⟨h1, fun a => ?_⟩
  rw [List.foldl_cons, h2 a]
  have e : m ++ c :: l = (m ++ [c]) ++ l := by simp
  rw [e]
  have key : ∀ {p q : List Cell}, (∀ b, getX p b = getX q b) → ∀ l b, getX (p ++ l) b = getX (q ++ l) b := by
   intro p q hpq l b
   simp only [getX, ZcS, List.getLast?_append]
   cases hl : (flt b l).getLast? with
   | none => simpa [getX] using hpq b
   | some x => simp
  exact key (fun b => by rw [Zzz h, ZIP]) l a
theorem Zdp (l : List Cell) : Vld (normX l) := (ZmE l ⟨List.Pairwise.nil, fun c h => by simp at h⟩).1
theorem ZHJ (l : List Cell) (a : Int) : getX (normX l) a = getX l a := (ZmE l ⟨List.Pairwise.nil, fun c h => by simp at h⟩).2 a
theorem ZAc {l m : List Cell} (h : Vld m) (e : ∀ a, getX m a = getX l a) : normX l = m := ZNe (Zdp l) h fun a => by rw [ZHJ, e]
theorem ZhY {m : List Cell} (h : Vld m) : normX m = m := ZAc h fun _ => rfl
theorem ZDi (l : List Cell) : dd (isort l) = normX l :=
 (ZAc (ZM7 (Zbu l)) fun a => by rw [ZM8 (Zbu l), ZDB (Zeo l)]).symm
end Go.Proofs.Cells
open Go Go.S3 Go.Proofs Go.Proofs.Cells
namespace Go.Proofs.YtghoimllhpjkjaaGreat
noncomputable section
abbrev ZS := QT4
theorem ZrX (l : List Cell) (i : Nat) (h : i < l.length) : l.drop i = el l i :: l.drop (i + 1) := by
 rw [List.drop_eq_getElem_cons h]
 have := Zb0 l i h
 rw [List.getElem?_eq_getElem h, oinj] at this
 rw [this]
theorem ZuA (l : List Cell) (i : Nat) (h : i < l.length) : l.take (i + 1) = l.take i ++ [el l i] := by
 rw [List.take_add_one, Zb0 l i h]; rfl
theorem ZQ2 (l : List Cell) (i : Nat) (h : i < l.length) : el l i ∈ l := List.mem_iff_getElem?.2 ⟨i, Zb0 l i h⟩
def okAt (m : List Cell) (i : Nat) : Bool := !((el m i).2 == 0 || (decide ((i : Int) > 0) && decide ((el m i).1 ≤ (el m (i - 1)).1)))
def vldB (m : List Cell) : Bool := (List.range m.length).all (okAt m)
theorem Zm6 {m : List Cell} {i : Nat} (hi : i < m.length) (h : okAt m i = false) : vldB m = false := by
 rw [Bool.eq_false_iff]; intro he
 have := List.all_eq_true.1 he i (List.mem_range.2 hi)
 rw [h] at this; exact absurd this (by simp)
theorem ZjE {m : List Cell} (h : ∀ i, i < m.length → okAt m i = true) : vldB m = true := List.all_eq_true.2 fun i hi => h i (List.mem_range.1 hi)
theorem Zog {m : List Cell} : vldB m = true ↔ Vld m := by
 constructor
 ·intro h
  have ha : ∀ i, i < m.length → okAt m i = true := fun i hi => List.all_eq_true.1 h i (List.mem_range.2 hi)
  have hs : ∀ i, i + 1 < m.length → (el m i).1 < (el m (i + 1)).1 := fun i hi => by
   have := ha (i + 1) hi
   simp only [okAt, Bool.not_eq_true', Bool.or_eq_false_iff, Bool.and_eq_false_iff, decide_eq_false_iff_not, Nat.add_sub_cancel] at this
   rcases this.2 with e | e
   ·omega
   ·omega
  refine ⟨?_, fun c hc => ?_⟩
  ·rw [List.pairwise_iff_getElem]
   have key : ∀ d i, i + d + 1 < m.length → (el m i).1 < (el m (i + d + 1)).1 := by
    intro d
    induction d with
    | zero => intro i hi; exact hs i hi
    | succ d ih => intro i hi; have h1 := ih i (by omega); have h2 := hs (i + d + 1) (by omega); rw [show i + (d + 1) + 1 = i + d + 1 + 1 by omega]; omega
   intro i j hi hj hij
   have := key (j - i - 1) i (by omega)
   rw [show i + (j - i - 1) + 1 = j by omega] at this
   have e1 := Zb0 m i hi
   have e2 := Zb0 m j hj
   rw [List.getElem?_eq_getElem hi, oinj] at e1
   rw [List.getElem?_eq_getElem hj, oinj] at e2
   rw [e1, e2]; exact this
  ·obtain ⟨i, hi⟩ := List.mem_iff_getElem?.1 hc
   have hlt := (List.getElem?_eq_some_iff.1 hi).1
   rw [Zb0 m i hlt, oinj] at hi
   have := ha i hlt
   rw [← hi]
   simp only [okAt, Bool.not_eq_true', Bool.or_eq_false_iff, beq_eq_false_iff_ne] at this
   exact this.1
 ·intro h
  refine ZjE fun i hi => ?_
  simp only [okAt, Bool.not_eq_true', Bool.or_eq_false_iff, beq_eq_false_iff_ne, Bool.and_eq_false_iff, decide_eq_false_iff_not]
  refine ⟨h.2 _ (ZQ2 m i hi), ?_⟩
  by_cases h0 : i = 0
  ·left; omega
  ·right
   have := List.pairwise_iff_getElem.1 h.1 (i - 1) i (by omega) hi (by omega)
   have e1 := Zb0 m (i - 1) (by omega)
   have e2 := Zb0 m i hi
   rw [List.getElem?_eq_getElem (by omega), oinj] at e1
   rw [List.getElem?_eq_getElem hi, oinj] at e2
   rw [e1, e2] at this; omega
theorem ZPG (i : Nat) (h : 0 < i) (h2 : i ≤ 4611686018427387904) : IntKind.wrap .i64 ((i : Int) - 1) = ((i - 1 : Nat) : Int) := by rw [wrap_i64 _ (by omega) (by omega)]; omega
theorem ZHI (m : List Cell) (i : Nat) : ((el m i).2 == 0 || (decide ((i : Int) > 0) && decide ((el m i).1 ≤ (el m (i - 1)).1))) = !okAt m i := by simp only [okAt, Bool.not_not]
theorem ZDn (m : List Cell) (hm : m.length ≤ most) : (Zh3 m).val = some (vldB m) := by
 have hms := mst
 obtain ⟨r, hr, hR⟩ := ZZ (fl := true) (t := Zdu) (fuel := fun a => 1000000000000)
  (I := fun a => ∃ i : Nat, i ≤ m.length ∧ (∀ k, k < i → okAt m k = true) ∧ a = (m, false, m, (m.length : Int), (i : Int), ()))
  (m := fun a => Int.toNat (a.2.2.2.1 - a.2.2.2.2.1)) (R := fun r => (r.1 = false ∧ vldB m = true) ∨ (r.1 = true ∧ vldB m = false ∧ r.2.2.1 = false))
  (fun a hi => by
   obtain ⟨i, hi, hk, rfl⟩ := hi
   by_cases hlt : i < m.length
   ·have d : decide ((i : Int) < (m.length : Int)) = true := by simpa using hlt
    have r1 := Zal m i hlt
    have hw : decide ((i : Int) > 0) = true → Zf (IntKind.wrap .i64 ((i : Int) - 1)) m.length = true ∧ IntKind.wrap .i64 ((i : Int) - 1) = ((i - 1 : Nat) : Int) := fun h => by
     simp only [decide_eq_true_eq] at h
     have e := ZPG i (by omega) (by omega)
     exact ⟨by rw [e]; exact Zal m (i - 1) (by omega), e⟩
    have hck : ((el m i).2 == 0 || (!decide ((i : Int) > 0) || Zf (IntKind.wrap .i64 ((i : Int) - 1)) m.length)) = true := by
     cases h : decide ((i : Int) > 0) with
     | false => simp
     | true => rw [(hw h).1]; simp
    have hcd : ((el m i).2 == 0 || (decide ((i : Int) > 0) && decide ((el m i).1 ≤ (R.get CR m (IntKind.wrap .i64 ((i : Int) - 1))).1))) = !okAt m i := by
     rw [← ZHI]
     cases h : decide ((i : Int) > 0) with
     | false => simp
     | true => rw [(hw h).2, ZbP]
    cases ho : okAt m i with
    | true =>
     left
     refine ⟨(m, false, m, (m.length : Int), ((i + 1 : Nat) : Int), ()), ?_, ⟨i + 1, hlt, fun k hk' => ?_, rfl⟩, by simp only; omega⟩
     ·rw [ho] at hcd
      simp only [Zdu, RT.val, d, r1, ZbP, hck, hcd, Bool.not_true, Bool.false_or, cond_true, cond_false, ZeO i (by omega)]
     ·by_cases e : k = i
      ·subst e; exact ho
      ·exact hk k (by omega)
    | false =>
     right; right
     refine ⟨(m, false, m, (m.length : Int), (i : Int), ()), rfl, ?_, .inr ⟨rfl, Zm6 hlt ho, rfl⟩⟩
     rw [ho] at hcd
     simp only [Zdu, RT.val, d, r1, ZbP, hck, hcd, Bool.not_true, Bool.not_false, Bool.false_or, cond_true, cond_false]
   ·right; left
    have d : decide ((i : Int) < (m.length : Int)) = false := by simpa using hlt
    exact ⟨(m, false, m, (m.length : Int), (i : Int), ()), by simp only [Zdu, RT.val, d, cond_false], .inl ⟨rfl, ZjE fun k hk' => hk k (by omega)⟩⟩)
  (m, false, m, (m.length : Int), 0, ()) ⟨0, Nat.zero_le _, fun k h => by omega, rfl⟩ (by simp only; omega)
 have hr' : runF true Zdu (fun a => 1000000000000) (m, false, m, iN m.length, 0, ()) = some r := hr
 rcases hR with ⟨h1, h2⟩ | ⟨h1, h2, h3⟩
 ·simp only [Zh3, RT.val, hr', okB, getO, cond_true, h1, cond_false, h2]
 ·simp only [Zh3, RT.val, hr', okB, getO, cond_true, h1, h2, h3]
theorem Znk (m : List Cell) (hm : m.length ≤ most) : (ZhL m).val = some (vldB m) := by
 have hms := mst
 obtain ⟨r, hr, hR⟩ := ZZ (fl := true) (t := Zdl) (fuel := fun a => 1000000000000)
  (I := fun a => ∃ i : Nat, i ≤ m.length ∧ (∀ k, k < i → okAt m k = true) ∧ a = (m, false, (m.length : Int), (i : Int), ()))
  (m := fun a => Int.toNat (a.2.2.1 - a.2.2.2.1)) (R := fun r => (r.1 = false ∧ vldB m = true) ∨ (r.1 = true ∧ vldB m = false ∧ r.2.2.1 = false))
  (fun a hi => by
   obtain ⟨i, hi, hk, rfl⟩ := hi
   by_cases hlt : i < m.length
   ·have d : decide ((i : Int) < (m.length : Int)) = true := by simpa using hlt
    have r1 := Zal m i hlt
    have hw : decide ((i : Int) > 0) = true → Zf (IntKind.wrap .i64 ((i : Int) - 1)) m.length = true ∧ IntKind.wrap .i64 ((i : Int) - 1) = ((i - 1 : Nat) : Int) := fun h => by
     simp only [decide_eq_true_eq] at h
     have e := ZPG i (by omega) (by omega)
     exact ⟨by rw [e]; exact Zal m (i - 1) (by omega), e⟩
    have hck : ((el m i).2 == 0 || (!decide ((i : Int) > 0) || Zf (IntKind.wrap .i64 ((i : Int) - 1)) m.length)) = true := by
     cases h : decide ((i : Int) > 0) with
     | false => simp
     | true => rw [(hw h).1]; simp
    have hcd : ((el m i).2 == 0 || (decide ((i : Int) > 0) && decide ((el m i).1 ≤ (R.get CR m (IntKind.wrap .i64 ((i : Int) - 1))).1))) = !okAt m i := by
     rw [← ZHI]
     cases h : decide ((i : Int) > 0) with
     | false => simp
     | true => rw [(hw h).2, ZbP]
    cases ho : okAt m i with
    | true =>
     left
     refine ⟨(m, false, (m.length : Int), ((i + 1 : Nat) : Int), ()), ?_, ⟨i + 1, hlt, fun k hk' => ?_, rfl⟩, by simp only; omega⟩
     ·rw [ho] at hcd
      simp only [Zdl, RT.val, d, r1, ZbP, hck, hcd, Bool.not_true, Bool.false_or, Bool.or_true, cond_true, cond_false, ZeO i (by omega)]
     ·by_cases e : k = i
      ·subst e; exact ho
      ·exact hk k (by omega)
    | false =>
     right; right
     refine ⟨(m, false, (m.length : Int), (i : Int), ()), rfl, ?_, .inr ⟨rfl, Zm6 hlt ho, rfl⟩⟩
     rw [ho] at hcd
     simp only [Zdl, RT.val, d, r1, ZbP, hck, hcd, Bool.not_true, Bool.not_false, Bool.false_or, Bool.or_true, cond_true, cond_false]
   ·right; left
    have d : decide ((i : Int) < (m.length : Int)) = false := by simpa using hlt
    exact ⟨(m, false, (m.length : Int), (i : Int), ()), by simp only [Zdl, RT.val, d, cond_false], .inl ⟨rfl, ZjE fun k hk' => hk k (by omega)⟩⟩)
  (m, false, (m.length : Int), 0, ()) ⟨0, Nat.zero_le _, fun k h => by omega, rfl⟩ (by simp only; omega)
 have hr' : runF true Zdl (fun a => 1000000000000) (m, false, iN m.length, 0, ()) = some r := hr
 rcases hR with ⟨h1, h2⟩ | ⟨h1, h2, h3⟩
 ·simp only [ZhL, RT.val, hr', okB, getO, cond_true, h1, cond_false, h2]
 ·simp only [ZhL, RT.val, hr', okB, getO, cond_true, h1, h2, h3]
theorem ZIQ {m : List Cell} {t : Int} {i : Nat} (hi : i < m.length) (he : (el m i).1 = t) (hk : ∀ k, i < k → k < m.length → (el m k).1 ≠ t) : getX m t = (el m i).2 := by
 have e : m = m.take i ++ [el m i] ++ m.drop (i + 1) := by rw [List.append_assoc, List.singleton_append, ← ZrX m i hi, List.take_append_drop]
 have h0 : flt t (m.drop (i + 1)) = [] := ZdA fun c hc => by
  obtain ⟨k, h1, h2, rfl⟩ := Zhc hc
  exact hk k (by omega) h2
 have h1 : flt t [el m i] = [el m i] := by simp [flt, he]
 have h2 : flt t m = flt t (m.take i) ++ [el m i] := by
  conv => lhs; rw [e, ZcS, ZcS, h0, h1, List.append_nil]
 rw [getX, h2, List.getLast?_append]; simp
theorem ZJQ (m : List Cell) (t : Int) (hm : m.length ≤ most) : (ZnG m t).val = some (getX m t) := by
 have hms := mst
 obtain ⟨r, hr, hR⟩ := ZZ (fl := true) (t := ZfG) (fuel := fun a => 1000000000000)
  (I := fun a => ∃ i : Nat, i ≤ m.length ∧ (∀ k, i ≤ k → k < m.length → (el m k).1 ≠ t) ∧ a = (m, t, 0, (i : Int) - 1, ()))
  (m := fun a => Int.toNat (a.2.2.2.1 + 1)) (R := fun r => (r.1 = false ∧ getX m t = 0) ∨ (r.1 = true ∧ r.2.2.2.1 = getX m t))
  (fun a hi => by
   obtain ⟨i, hi, hk, rfl⟩ := hi
   cases i with
   | zero =>
    right; left
    refine ⟨(m, t, 0, ((0 : Nat) : Int) - 1, ()), by simp [ZfG, RT.val], .inl ⟨rfl, Zhk fun c hc => ?_⟩⟩
    obtain ⟨k, hk'⟩ := List.mem_iff_getElem?.1 hc
    have hlt := (List.getElem?_eq_some_iff.1 hk').1
    rw [Zb0 m k hlt, oinj] at hk'
    rw [← hk']; exact hk k (Nat.zero_le _) hlt
   | succ i =>
    have ei : ((i + 1 : Nat) : Int) - 1 = (i : Int) := by omega
    rw [ei]
    have d : decide ((i : Int) ≥ 0) = true := by simp
    have r1 := Zal m i (by omega)
    cases he : ((el m i).1 == t) with
    | true =>
     right; right
     refine ⟨(m, t, (el m i).2, (i : Int), ()), rfl, by simp only [ZfG, RT.val, d, r1, ZbP, he, cond_true, Bool.not_true, Bool.false_or], .inr ⟨rfl, ?_⟩⟩
     exact (ZIQ (by omega) (by simpa using he) fun k h1 h2 => hk k (by omega) h2).symm
    | false =>
     left
     refine ⟨(m, t, 0, (i : Int) - 1, ()), ?_, ⟨i, by omega, fun k h1 h2 => ?_, rfl⟩, by simp only; omega⟩
     ·have w : IntKind.wrap .i64 ((i : Int) - 1) = (i : Int) - 1 := wrap_i64 _ (by omega) (by omega)
      simp only [ZfG, RT.val, d, r1, ZbP, he, cond_true, cond_false, Bool.not_true, Bool.not_false, Bool.true_or, Bool.false_or, w]
     ·by_cases e : k = i
      ·subst e; simpa using he
      ·exact hk k (by omega) h2)
  (m, t, 0, (m.length : Int) - 1, ()) ⟨m.length, Nat.le_refl _, fun k h1 h2 => by omega, rfl⟩ (by simp only; omega)
 have w : IntKind.wrap .i64 (iN m.length - 1) = (m.length : Int) - 1 := wrap_i64 _ (by simp only [iN]; omega) (by simp only [iN]; omega)
 rcases hR with ⟨h1, h2⟩ | ⟨h1, h2⟩
 ·simp only [ZnG, RT.val, w, hr, okB, getO, cond_true, h1, cond_false, h2]
 ·simp only [ZnG, RT.val, w, hr, okB, getO, cond_true, h1, h2]
def pst (c : Cell) (s : Bool × List Cell) (x : Cell) : Bool × List Cell :=
 let t := !s.1 && decide (x.1 ≥ c.1)
 let o := bif t then (bif c.2 != 0 then s.2 ++ [c] else s.2) else s.2
 (t || s.1, bif x.1 != c.1 then o ++ [x] else o)
def pfin (c : Cell) (s : Bool × List Cell) : List Cell := bif !s.1 && c.2 != 0 then s.2 ++ [c] else s.2
theorem ZzD (c : Cell) : ∀ (m : List Cell) (o : List Cell), (∀ x ∈ m, x.1 ≠ c.1) → m.foldl (pst c) (true, o) = (true, o ++ m)
 | [], o, _ => by simp
 | x :: m, o, h => by
  have hx : (x.1 != c.1) = true := by simpa using h x (by simp)
  simp only [List.foldl_cons, pst, Bool.not_true, Bool.false_and, cond_false, Bool.or_true, hx, cond_true]
  rw [ZzD c m (o ++ [x]) fun y hy => h y (List.mem_cons_of_mem _ hy)]
  simp
theorem ZGd (c : Cell) : ∀ (m : List Cell) (o : List Cell), m.Pairwise (fun a b => a.1 < b.1) → pfin c (m.foldl (pst c) (false, o)) = o ++ putX m c
 | [], o, _ => by
  simp only [List.foldl_nil, pfin, putX, Bool.not_false, Bool.true_and]
  by_cases h : c.2 = 0
  ·simp [h]
  ·have : (c.2 != 0) = true := by simpa using h
   simp [h, this]
 | x :: m, o, h => by
  have h1 := List.pairwise_cons.1 h
  by_cases hx : x.1 < c.1
  ·have e1 : decide (x.1 ≥ c.1) = false := by simp; omega
   have e2 : (x.1 != c.1) = true := by simp; omega
   simp only [List.foldl_cons, pst, e1, Bool.and_false, cond_false, Bool.or_false, e2, cond_true]
   rw [ZGd c m (o ++ [x]) h1.2, putX, if_pos hx]; simp
  ·have e1 : decide (x.1 ≥ c.1) = true := by simp; omega
   have hne : ∀ y ∈ m, y.1 ≠ c.1 := fun y hy => by have := h1.1 y hy; omega
   simp only [List.foldl_cons, pst, e1, Bool.not_false, Bool.and_self, cond_true, Bool.true_or]
   rw [ZzD c m _ hne, putX, if_neg hx]
   simp only [pfin, Bool.not_true, Bool.false_and, cond_false]
   by_cases hz : c.2 = 0
   ·by_cases hk : x.1 = c.1
    ·simp [hz, hk]
    ·have : (x.1 != c.1) = true := by simpa using hk
     simp [hz, hk, this]
   ·have hz1 : (c.2 != 0) = true := by simpa using hz
    by_cases hk : x.1 = c.1
    ·simp [hz, hk, hz1]
    ·have : (x.1 != c.1) = true := by simpa using hk
     simp [hz, hk, this, hz1]
theorem Zwe (c : Cell) : ∀ (m : List Cell) (s : Bool × List Cell), (m.foldl (pst c) s).2.length + (bif (m.foldl (pst c) s).1 then 0 else 1) ≤ s.2.length + (bif s.1 then 0 else 1) + m.length
 | [], s => by simp
 | x :: m, s => by
  rw [List.foldl_cons]
  have ih := Zwe c m (pst c s x)
  have : (pst c s x).2.length + (bif (pst c s x).1 then 0 else 1) ≤ s.2.length + (bif s.1 then 0 else 1) + 1 := by
   obtain ⟨d, o⟩ := s
   simp only [pst]
   generalize decide (x.1 ≥ c.1) = b1
   generalize (c.2 != 0) = b2
   generalize (x.1 != c.1) = b3
   cases d <;> cases b1 <;> cases b2 <;> cases b3 <;> simp <;> omega
  simp only [List.length_cons]; omega
theorem ZjU (m : List Cell) (c : Cell) (hv : Vld m) (hm : m.length + 1 ≤ most) : Znz m c = true ∧ ZBg m c = putX m c := by
 have hms := mst
 obtain ⟨r, hr, h1, i, hR⟩ := ZZ (fl := false) (t := ZgH) (fuel := fun a => 1000000000000)
  (fun a => ∃ i : Nat, i ≤ m.length ∧ a = (((m.take i).foldl (pst c) (false, [])).1, m, (m.length : Int), (i : Int), c, ((m.take i).foldl (pst c) (false, [])).2, ()))
  (fun a => Int.toNat (a.2.2.1 - a.2.2.2.1)) (fun r => r.1 = false ∧ ∃ i : Nat, r.2 = ((m.foldl (pst c) (false, [])).1, m, (m.length : Int), (i : Int), c, (m.foldl (pst c) (false, [])).2, ()))
  (by
   rintro a ⟨i, hi, rfl⟩
   by_cases hlt : i < m.length
   ·left
    have d : decide ((i : Int) < (m.length : Int)) = true := by simpa using hlt
    have r1 := Zal m i hlt
    have hl := Zwe c (m.take i) (false, [])
    have hs : (m.take (i + 1)).foldl (pst c) (false, []) = pst c ((m.take i).foldl (pst c) (false, [])) (el m i) := by
     rw [ZuA m i hlt, List.foldl_append]; rfl
    rw [List.length_take, Nat.min_eq_left (by omega)] at hl
    refine ⟨_, ?_, ⟨i + 1, hlt, rfl⟩, by simp only; omega⟩
    rw [hs]
    generalize (m.take i).foldl (pst c) (false, []) = s at hl ⊢
    obtain ⟨dn, o⟩ := s
    simp only [List.length_nil, cond_false] at hl
    simp only [ZgH, RT.val, d, r1, ZbP, cond_true, Bool.not_true, Bool.false_or, pst, ZeO i (by omega)]
    generalize decide ((el m i).1 ≥ c.1) = b1
    generalize hb2 : (c.2 != 0) = b2
    generalize hb3 : ((el m i).1 != c.1) = b3
    have l1 : Nat.ble (o ++ [c]).length most = true ∨ dn = true := by
     cases dn with
     | true => exact .inr rfl
     | false => left; rw [Nat.ble_eq]; simp only [cond_false] at hl; simp only [List.length_append, List.length_singleton]; omega
    have l2 : Nat.ble (o ++ [el m i]).length most = true := by
     rw [Nat.ble_eq]; simp only [List.length_append, List.length_singleton]
     cases dn <;> simp only [cond_true, cond_false] at hl <;> omega
    have l3 : Nat.ble (o ++ [c] ++ [el m i]).length most = true ∨ dn = true := by
     cases dn with
     | true => exact .inr rfl
     | false => left; rw [Nat.ble_eq]; simp only [cond_false] at hl; simp only [List.length_append, List.length_singleton]; omega
    cases dn with
    | true =>
     cases b3 <;> simp only [l2, Bool.not_true, Bool.not_false, Bool.false_and, Bool.true_or, Bool.false_or, Bool.or_true, cond_true, cond_false]
    | false =>
     have l1 : Nat.ble (o ++ [c]).length most = true := by simpa using l1
     have l3 : Nat.ble (o ++ [c] ++ [el m i]).length most = true := by simpa using l3
     cases b1 <;> cases b2 <;> cases b3 <;> simp only [l1, l2, l3, Bool.not_true, Bool.not_false, Bool.false_and, Bool.true_and, Bool.true_or, Bool.false_or, Bool.or_true, Bool.or_false, Bool.and_self, cond_true, cond_false]
   ·right; left
    have d : decide ((i : Int) < (m.length : Int)) = false := by simpa using hlt
    have e : m.take i = m := List.take_of_length_le (by omega)
    rw [e]
    exact ⟨_, by simp only [ZgH, RT.val, d, cond_false], rfl, i, rfl⟩)
  (false, m, iN m.length, 0, c, [], ()) ⟨0, Nat.zero_le _, rfl⟩ (by simp only [iN]; omega)
 have hl := Zwe c m (false, [])
 have hp := ZGd c m [] hv.1
 simp only [List.nil_append] at hp
 obtain ⟨r1, r2⟩ := r
 simp only at h1 hR
 subst h1 hR
 generalize m.foldl (pst c) (false, []) = s at hl hp hr
 obtain ⟨dn, o⟩ := s
 have hb : (!(!dn && c.2 != 0) || Nat.ble (o ++ [c]).length most) = true := by
  cases dn with
  | true => rfl
  | false =>
   have : Nat.ble (o ++ [c]).length most = true := by rw [Nat.ble_eq]; simp only [cond_false, List.length_nil] at hl; simp only [List.length_append, List.length_singleton]; omega
   rw [this]; simp
 have hv : (Zny m c).val = some (putX m c) := by
  simp only [Zny, RT.val, hr, okB, getO, cond_true, hb, ← hp, pfin]
 exact ⟨by simp only [Znz, hv]; rfl, by simp only [ZBg, hv, getO]⟩
theorem Zp3 (c : Cell) : ∀ m : List Cell, (putX m c).length ≤ m.length + 1
 | [] => by simp only [putX]; split <;> simp
 | x :: m => by
  have := Zp3 c m
  simp only [putX]
  repeat' split
  all_goals simp only [List.length_cons]; omega
theorem ZhX (l : List Cell) (c : Cell) : normX (l ++ [c]) = putX (normX l) c := by simp [normX, List.foldl_append]
theorem ZAI : ∀ (l m : List Cell), (l.foldl putX m).length ≤ m.length + l.length
 | [], m => by simp
 | x :: l, m => by
  have := ZAI l (putX m x)
  have := Zp3 x m
  simp only [List.foldl_cons, List.length_cons]; omega
theorem Zb7 (l : List Cell) : (normX l).length ≤ l.length := by
 have := ZAI l []
 simpa [normX] using this
theorem ZgC (l : List Cell) (hl : l.length + 1 ≤ most) : Zj8 l = true ∧ Zvc l = normX l := by
 have hms := mst
 have h1 := Znk l (by omega)
 have hc : ZhM l = true := by simp only [ZhM, h1]; rfl
 have hv0 : Zj2 l = vldB l := by simp only [Zj2, h1, getO]
 have hv : (ZnD l).val = some (normX l) := by
  cases hb : vldB l with
  | true =>
   have e : Nat.ble l.length most = true := by rw [Nat.ble_eq]; omega
   simp only [ZnD, RT.val, hc, hv0, hb, List.nil_append, e, cond_true, Bool.not_true, Bool.false_or, ZhY (Zog.1 hb)]
  | false =>
   obtain ⟨r, hr, h1, i, hR⟩ := ZZ (fl := false) (t := ZgK) (fuel := fun a => 1000000000000)
    (fun a => ∃ i : Nat, i ≤ l.length ∧ a = (normX (l.take i), l, (l.length : Int), (i : Int), ()))
    (fun a => Int.toNat (a.2.2.1 - a.2.2.2.1)) (fun r => r.1 = false ∧ ∃ i : Nat, r.2 = (normX l, l, (l.length : Int), (i : Int), ()))
    (by
     rintro a ⟨i, hi, rfl⟩
     by_cases hlt : i < l.length
     ·left
      have d : decide ((i : Int) < (l.length : Int)) = true := by simpa using hlt
      have r1 := Zal l i hlt
      have hlen := Zb7 (l.take i)
      rw [List.length_take] at hlen
      have hp := ZjU (normX (l.take i)) (el l i) (Zdp _) (by omega)
      refine ⟨_, ?_, ⟨i + 1, hlt, rfl⟩, by simp only; omega⟩
      rw [ZuA l i hlt, ZhX]
      simp only [ZgK, RT.val, d, r1, ZbP, hp.1, hp.2, cond_true, Bool.or_true, ZeO i (by omega)]
     ·right; left
      have d : decide ((i : Int) < (l.length : Int)) = false := by simpa using hlt
      have e : l.take i = l := List.take_of_length_le (by omega)
      rw [e]
      exact ⟨_, by simp only [ZgK, RT.val, d, cond_false], rfl, i, rfl⟩)
    ([], l, iN l.length, 0, ()) ⟨0, Nat.zero_le _, rfl⟩ (by simp only [iN]; omega)
   obtain ⟨r1, r2⟩ := r
   simp only at h1 hR
   subst h1 hR
   simp only [ZnD, RT.val, hc, hv0, hb, hr, okB, getO, cond_true, cond_false, Bool.not_false, Bool.true_or]
 exact ⟨by simp only [Zj8, hv]; rfl, by simp only [Zvc, hv, getO]⟩
theorem ZJO (m : List Cell) (t v : Int) (hm : m.length + 1 ≤ most) : Zy7 m t v = true ∧ ZJ0 m t v = putX (normX m) (t, v) := by
 have h1 := ZgC m hm
 have h2 := ZjU (normX m) (t, v) (Zdp m) (by have := Zb7 m; omega)
 have hv : (ZsQ m t v).val = some (putX (normX m) (t, v)) := by
  simp only [ZsQ, RT.val, h1.1, h1.2, h2.1, h2.2, cond_true, Bool.or_true]
 exact ⟨by simp only [Zy7, hv]; rfl, by simp only [ZJ0, hv, getO]⟩
def Zx8 (s : List Cell) (i : Nat) : Bool := (el s i).2 != 0 && (decide (i + 1 = s.length) || (el s (i + 1)).1 != (el s i).1)
theorem ZPz (s : List Cell) (i : Nat) (h : i < s.length) : dd (s.drop i) = (bif Zx8 s i then [el s i] else []) ++ dd (s.drop (i + 1)) := by
 rw [ZrX s i h]
 by_cases hl : i + 1 < s.length
 ·rw [ZrX s (i + 1) hl, dd]
  have e : decide (i + 1 = s.length) = false := by simp; omega
  simp only [Zx8, e, Bool.false_or]
  by_cases h1 : (el s i).1 = (el s (i + 1)).1
  ·have : ((el s (i + 1)).1 != (el s i).1) = false := by simp [h1]
   simp only [this, Bool.and_false, cond_false, List.nil_append, if_pos h1]
  ·have : ((el s (i + 1)).1 != (el s i).1) = true := by simpa using fun e => h1 e.symm
   simp only [this, Bool.and_true, if_neg h1]
   by_cases h2 : (el s i).2 = 0
   ·have : ((el s i).2 != 0) = false := by simp [h2]
    simp only [this, if_pos h2, cond_false, List.nil_append]
   ·have : ((el s i).2 != 0) = true := by simpa using h2
    simp only [this, if_neg h2, cond_true, List.singleton_append]
 ·have hn : s.drop (i + 1) = [] := List.drop_eq_nil_of_le (by omega)
  have e : decide (i + 1 = s.length) = true := by simp; omega
  rw [hn]
  simp only [Zx8, e, Bool.true_or, Bool.and_true, dd, List.append_nil]
  by_cases h2 : (el s i).2 = 0
  ·have : ((el s i).2 != 0) = false := by simp [h2]
   simp only [this, if_pos h2, cond_false]
  ·have : ((el s i).2 != 0) = true := by simpa using h2
   simp only [this, if_neg h2, cond_true]
theorem ZDQ (l : List Cell) (hl : l.length ≤ most) : ZyG l = true ∧ Zuy l = isort l := by
 have hs : ZjO l (iN l.length) = true := by simp [ZjO, iN]; omega
 have hv : (Zsg l).val = some (isort l) := by
  simp only [Zsg, RT.val, ZcO, hs, cond_true]
 exact ⟨by simp only [ZyG, hv]; rfl, by simp only [Zuy, hv, getO]⟩
theorem Zl8 (l : List Cell) (hl : l.length ≤ most) : ZtU l = true ∧ ZIg l = normX l := by
 have hms := mst
 have h1 := ZDQ l hl
 have hlen := Zdw l
 generalize hs : isort l = s at hlen h1
 obtain ⟨r, hr, h2, i, hR⟩ := ZZ (fl := false) (t := Zhd) (fuel := fun a => Int.toNat (a.1 - a.2.1) + 1)
  (fun a => ∃ (i : Nat) (o : List Cell), i ≤ s.length ∧ o.length ≤ i ∧ o ++ dd (s.drop i) = dd s ∧ a = ((s.length : Int), (i : Int), s, o, ()))
  (fun a => Int.toNat (a.1 - a.2.1)) (fun r => r.1 = false ∧ ∃ i : Nat, r.2 = ((s.length : Int), (i : Int), s, dd s, ()))
  (by
   rintro a ⟨i, o, hi, ho, hd, rfl⟩
   by_cases hlt : i < s.length
   ·left
    have d : decide ((i : Int) < (s.length : Int)) = true := by simpa using hlt
    have r1 := Zal s i hlt
    have w := ZeO i (by omega)
    have e1 : (((i + 1 : Nat) : Int) == iN s.length) = decide (i + 1 = s.length) := by
     rw [Bool.eq_iff_iff]; simp [iN]; omega
    have hst := ZPz s i hlt
    have hle : ∀ x : Cell, Nat.ble (o ++ [x]).length most = true := fun x => by rw [Nat.ble_eq]; simp only [List.length_append, List.length_singleton]; omega
    refine ⟨((s.length : Int), ((i + 1 : Nat) : Int), s, o ++ (bif Zx8 s i then [el s i] else []), ()), ?_, ⟨i + 1, _, hlt, ?_, ?_, rfl⟩, by simp only; omega⟩
    ·have e3 : (!((el s i).2 != 0) || (decide (i + 1 = s.length) || Zf ((i + 1 : Nat) : Int) s.length)) = true := by
      by_cases hq : i + 1 = s.length
      ·simp [hq]
      ·rw [Zal s (i + 1) (by omega)]; simp
     have e4 : ((el s i).2 != 0 && (decide (i + 1 = s.length) || (el s (i + 1)).1 != (el s i).1)) = Zx8 s i := rfl
     have g1 := ZbP s i
     have g2 := ZbP s (i + 1)
     simp only [Zhd, RT.val, d, r1, w, g1, g2, e1, e3, e4, hle, cond_true, Bool.not_true, Bool.false_or, Bool.or_true]
     cases Zx8 s i <;> simp
    ·cases Zx8 s i <;> simp only [cond_true, cond_false, List.append_nil, List.length_append, List.length_singleton] <;> omega
    ·rw [List.append_assoc, ← hst, hd]
   ·right; left
    have d : decide ((i : Int) < (s.length : Int)) = false := by simpa using hlt
    have e : s.drop i = [] := List.drop_eq_nil_of_le (by omega)
    rw [e] at hd
    simp only [dd, List.append_nil] at hd
    subst hd
    exact ⟨_, by simp only [Zhd, RT.val, d, cond_false], rfl, i, rfl⟩)
  (iN s.length, 0, s, [], ()) ⟨0, [], Nat.zero_le _, by simp, by simp, rfl⟩ (by simp only [iN]; omega)
 obtain ⟨r1, r2⟩ := r
 simp only at h2 hR
 subst h2 hR
 have hb : Nat.ble l.length most = true := by rw [Nat.ble_eq]; exact hl
 have hv : (ZtT l).val = some (normX l) := by
  simp only [ZtT, RT.val, hb, h1.1, h1.2, hr, okB, getO, cond_true]
  rw [← hs, ZDi]
 exact ⟨by simp only [ZtU, hv]; rfl, by simp only [ZIg, hv, getO]⟩
abbrev BR : R := R.int u8
theorem ZQ1 (l : List Int) (i : Nat) : R.get BR l (i : Int) = l.getD i 0 := by simp [R.get, R.dflt]
def Zgo (t : Int) (b : List Int) (n : Nat) : List Cell := (List.range n).map fun i : Nat => (IntKind.wrap .u16 (t + IntKind.wrap .u16 (i : Int)), b.getD i 0)
theorem Zn2 (t : Int) (b : List Int) (n : Nat) : Zgo t b (n + 1) = Zgo t b n ++ [(IntKind.wrap .u16 (t + IntKind.wrap .u16 (n : Int)), b.getD n 0)] := by simp [Zgo, List.range_succ]
theorem Zfj (t : Int) (b : List Int) (n : Nat) : (Zgo t b n).length = n := by simp [Zgo]
def Zd8 (t : Int) (b : List Int) : List Cell := normX (Zgo t b b.length)
theorem ZEJ (t : Int) (b : List Int) (hb : b.length + 1 ≤ most) : ZFo t b = true ∧ ZNN t b = Zd8 t b := by
 have hms := mst
 obtain ⟨r, hr, h1, hR⟩ := ZZ (fl := false) (t := ZgN) (fuel := fun a => 1000000000000)
  (fun a => ∃ i : Nat, i ≤ b.length ∧ a = (t, b, (b.length : Int), (i : Int), Zgo t b i, ()))
  (fun a => Int.toNat (a.2.2.1 - a.2.2.2.1)) (fun r => r.1 = false ∧ r.2 = (t, b, (b.length : Int), (b.length : Int), Zgo t b b.length, ()))
  (by
   rintro a ⟨i, hi, rfl⟩
   by_cases hlt : i < b.length
   ·left
    have d : decide ((i : Int) < (b.length : Int)) = true := by simpa using hlt
    have r1 := Zal b i hlt
    have hl : ∀ x : Cell, Nat.ble (Zgo t b i ++ [x]).length most = true := fun x => by rw [Nat.ble_eq, List.length_append, Zfj]; simp only [List.length_singleton]; omega
    refine ⟨_, ?_, ⟨i + 1, hlt, rfl⟩, by simp only; omega⟩
    rw [Zn2]
    have g := ZQ1 b i
    simp only [ZgN, RT.val, d, r1, g, hl, cond_true, Bool.not_true, Bool.false_or, ZeO i (by omega)]
   ·right; left
    have d : decide ((i : Int) < (b.length : Int)) = false := by simpa using hlt
    have e : i = b.length := by omega
    subst e
    exact ⟨_, by simp only [ZgN, RT.val, d, cond_false], rfl, rfl⟩)
  (t, b, iN b.length, 0, [], ()) ⟨0, Nat.zero_le _, rfl⟩ (by simp only [iN]; omega)
 obtain ⟨r1, r2⟩ := r
 simp only at h1 hR
 subst h1 hR
 have hn := ZgC (Zgo t b b.length) (by rw [Zfj]; exact hb)
 have hv : (Zs0 t b).val = some (Zd8 t b) := by
  simp only [Zs0, RT.val, hr, okB, getO, cond_true, hn.1, hn.2, Zd8]
 exact ⟨by simp only [ZFo, hv]; rfl, by simp only [ZNN, hv, getO]⟩
theorem ZED (a b : List Cell) (ha : a.length ≤ most) : ZuY a b = true ∧ ZET a b = decide (a = b) := by
 have hms := mst
 have hv : (Zgh a b).val = some (decide (a = b)) := by
  by_cases hl : a.length = b.length
  ·have hn : (iN a.length != iN b.length) = false := by simp [iN, hl]
   obtain ⟨r, hr, hR⟩ := ZZ (fl := true) (t := Zd1) (fuel := fun _ => 1000000000000)
    (fun x => ∃ i : Nat, i ≤ a.length ∧ (∀ k, k < i → el a k = el b k) ∧ x = (a, b, false, (a.length : Int), (i : Int), ()))
    (fun x => Int.toNat (x.2.2.2.1 - x.2.2.2.2.1)) (fun r => (r.1 = false ∧ a = b) ∨ (r.1 = true ∧ a ≠ b ∧ r.2.2.2.1 = false))
    (by
     rintro x ⟨i, hi, hk, rfl⟩
     by_cases hlt : i < a.length
     ·have d : decide ((i : Int) < (a.length : Int)) = true := by simpa using hlt
      have r1 := Zal a i hlt
      have r2 := Zal b i (by omega)
      have g1 := ZbP a i
      have g2 := ZbP b i
      by_cases he : el a i = el b i
      ·left
       refine ⟨(a, b, false, (a.length : Int), ((i + 1 : Nat) : Int), ()), ?_, ⟨i + 1, hlt, fun k hk' => ?_, rfl⟩, by simp only; omega⟩
       ·simp only [Zd1, RT.val, d, r1, r2, g1, g2, he, beq_self_eq_true, Bool.and_self, Bool.not_true, Bool.or_true, cond_true, cond_false, ZeO i (by omega)]
       ·by_cases e : k = i
        ·subst e; exact he
        ·exact hk k (by omega)
      ·right; right
       have hne : ((el a i).1 == (el b i).1 && ((el a i).2 == (el b i).2 && true)) = false := by
        rw [Bool.eq_false_iff]; intro h
        simp only [Bool.and_eq_true, beq_iff_eq, and_true] at h
        exact he (Prod.ext h.1 h.2)
       refine ⟨(a, b, false, (a.length : Int), (i : Int), ()), rfl, ?_, .inr ⟨rfl, fun h => he (by rw [h]), rfl⟩⟩
       simp only [Zd1, RT.val, d, r1, r2, g1, g2, hne, Bool.not_true, Bool.not_false, Bool.or_true, cond_true]
     ·right; left
      have d : decide ((i : Int) < (a.length : Int)) = false := by simpa using hlt
      refine ⟨_, by simp only [Zd1, RT.val, d, cond_false]; rfl, .inl ⟨rfl, List.ext_getElem? fun k => ?_⟩⟩
      by_cases hk' : k < a.length
      ·rw [Zb0 a k hk', Zb0 b k (by omega), hk k (by omega)]
      ·rw [List.getElem?_eq_none (by omega), List.getElem?_eq_none (by omega)])
    (a, b, false, iN a.length, 0, ()) ⟨0, Nat.zero_le _, fun k h => by omega, rfl⟩ (by simp only [iN]; omega)
   rcases hR with ⟨h1, h2⟩ | ⟨h1, h2, h3⟩
   ·have hd : decide (a = b) = true := decide_eq_true h2
    simp only [Zgh, RT.val, hn, hr, okB, getO, cond_true, cond_false, h1, hd]
   ·have hd : decide (a = b) = false := decide_eq_false h2
    simp only [Zgh, RT.val, hn, hr, okB, getO, cond_true, cond_false, h1, h3, hd]
  ·have hn : (iN a.length != iN b.length) = true := by simp only [iN, bne_iff_ne, ne_eq]; omega
   have hne : a ≠ b := fun h => hl (by rw [h])
   simp only [Zgh, RT.val, hn, cond_true, hne, decide_false]
 exact ⟨by simp only [ZuY, hv]; rfl, by simp only [ZET, hv, getO]⟩
theorem ZH4 (m : List Cell) (hm : m.length ≤ most) : Zrz m = true ∧ Zmd m = vldB m := by
 have h := ZDn m hm
 exact ⟨by simp only [Zrz, h]; rfl, by simp only [Zmd, h, getO]⟩
theorem ZEA (m : List Cell) (hm : m.length ≤ most) : ZhM m = true ∧ Zj2 m = vldB m := by
 have h := Znk m hm
 exact ⟨by simp only [ZhM, h]; rfl, by simp only [Zj2, h, getO]⟩
theorem ZEK (m : List Cell) (t : Int) (hm : m.length ≤ most) : Zzn m t = true ∧ ZKd m t = getX m t := by
 have h := ZJQ m t hm
 exact ⟨by simp only [Zzn, h]; rfl, by simp only [ZKd, h, getO]⟩
abbrev GR : R := R.pair (R.int u16) (R.pair (R.int u16) (R.pair R.bool (R.int i64)))
def hitB (t : Int) (r : ZS) : Bool := decide (r.1 ≤ t) && decide (t ≤ r.2.1)
def Zbk (l : List ZS) (t : Int) : Int := if l.findIdx (hitB t) < l.length then (l.findIdx (hitB t) : Int) else -1
def rg (l : List ZS) (i : Nat) : ZS := l.getD i (0, 0, false, 0)
theorem ZQZ (l : List ZS) (i : Nat) : R.get GR l (i : Int) = rg l i := by simp [R.get, R.dflt, rg]
theorem ZEL (l : List ZS) (i : Nat) (h : i < l.length) : l[i] = rg l i := by simp [rg, h]
theorem ZPu {l : List ZS} {t : Int} {i : Nat} (hi : i < l.length) (h : hitB t (rg l i) = true) (hk : ∀ k, k < i → hitB t (rg l k) = false) : Zbk l t = i := by
 have : l.findIdx (hitB t) = i := (List.findIdx_eq hi).2 ⟨by rw [ZEL l i hi]; exact h, fun j hj => by rw [ZEL l j (by omega)]; exact hk j hj⟩
 simp only [Zbk, this, hi, if_true]
theorem ZPt {l : List ZS} {t : Int} (hk : ∀ k, k < l.length → hitB t (rg l k) = false) : Zbk l t = -1 := by
 have : ¬ l.findIdx (hitB t) < l.length := by
  rw [List.findIdx_lt_length]
  rintro ⟨x, hx, hp⟩
  obtain ⟨i, hi, rfl⟩ := List.mem_iff_getElem.1 hx
  rw [ZEL l i hi, hk i hi] at hp
  exact absurd hp (by simp)
 simp only [Zbk, this, if_false]
theorem ZjX (l : List ZS) (t : Int) (hl : l.length ≤ most) : ZnH l t = true ∧ Zph l t = Zbk l t := by
 have hms := mst
 obtain ⟨r, hr, hR⟩ := ZZ (fl := true) (t := ZfH) (fuel := fun _ => 1000000000000)
  (fun x => ∃ i : Nat, i ≤ l.length ∧ (∀ k, k < i → hitB t (rg l k) = false) ∧ x = (t, 0, l, (l.length : Int), (i : Int), ()))
  (fun x => Int.toNat (x.2.2.2.1 - x.2.2.2.2.1)) (fun r => (r.1 = false ∧ Zbk l t = -1) ∨ (r.1 = true ∧ r.2.2.1 = Zbk l t))
  (by
   rintro x ⟨i, hi, hk, rfl⟩
   by_cases hlt : i < l.length
   ·have d : decide ((i : Int) < (l.length : Int)) = true := by simpa using hlt
    have r1 := Zal l i hlt
    have g1 := ZQZ l i
    cases hh : hitB t (rg l i) with
    | false =>
     left
     refine ⟨(t, 0, l, (l.length : Int), ((i + 1 : Nat) : Int), ()), ?_, ⟨i + 1, hlt, fun k hk' => ?_, rfl⟩, by simp only; omega⟩
     ·simp only [hitB] at hh
      simp only [ZfH, RT.val, d, r1, g1, hh, cond_true, cond_false, ZeO i (by omega)]
     ·by_cases e : k = i
      ·subst e; exact hh
      ·exact hk k (by omega)
    | true =>
     right; right
     refine ⟨(t, (i : Int), l, (l.length : Int), (i : Int), ()), rfl, ?_, .inr ⟨rfl, (ZPu hlt hh hk).symm⟩⟩
     simp only [hitB] at hh
     simp only [ZfH, RT.val, d, r1, g1, hh, cond_true]
   ·right; left
    have d : decide ((i : Int) < (l.length : Int)) = false := by simpa using hlt
    exact ⟨_, by simp only [ZfH, RT.val, d, cond_false]; rfl, .inl ⟨rfl, ZPt fun k h => hk k (by omega)⟩⟩)
  (t, 0, l, iN l.length, 0, ()) ⟨0, Nat.zero_le _, fun k h => by omega, rfl⟩ (by simp only [iN]; omega)
 have hv : (ZkR l t).val = some (Zbk l t) := by
  rcases hR with ⟨h1, h2⟩ | ⟨h1, h2⟩
  ·simp only [ZkR, RT.val, hr, okB, getO, cond_true, h1, cond_false, h2]
  ·simp only [ZkR, RT.val, hr, okB, getO, cond_true, h1, h2]
 exact ⟨by simp only [ZnH, hv]; rfl, by simp only [Zph, hv, getO]⟩
theorem Ztb (l : List ZS) (t : Int) (hl : l.length ≤ most) : Zz3 l t = true ∧ Zxi l t = Zbk l t := by
 have h := ZjX l t hl
 have e : Zz0 l t = ZkR l t := rfl
 simp only [ZnH, Zph, ← e] at h
 exact h
def ZeB (l : List ZS) (m : List Cell) (t : Int) : Int := bif decide (Zbk l t < 0) then 255 else getX m t
theorem ZEE (l : List ZS) (m : List Cell) (t : Int) (hl : l.length ≤ most) (hm : m.length ≤ most) : ZuZ l m t = true ∧ ZE2 l m t = ZeB l m t := by
 have h1 := ZjX l t hl
 have h2 := ZEK m t hm
 have hv : (Zj5 l m t).val = some (ZeB l m t) := by
  simp only [Zj5, RT.val, h1.1, h1.2, h2.1, h2.2, cond_true, ZeB]
  cases decide (Zbk l t < 0) <;> rfl
 exact ⟨by simp only [ZuZ, hv]; rfl, by simp only [ZE2, hv, getO]⟩
end
end Go.Proofs.YtghoimllhpjkjaaGreat
