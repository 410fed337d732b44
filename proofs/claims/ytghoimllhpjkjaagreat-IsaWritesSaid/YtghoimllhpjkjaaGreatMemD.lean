/-
  Memories: Load, Same and Find of the reference, the program's Valid and Find, Read and Write, as plain functions. Conditions: none.
-/
import Derived.Test.YtghoimllhpjkjaaGreatS3D
import Derived.Test.YtghoimllhpjkjaaGreatProg
import Derived.Test.YtghoimllhpjkjaaGreatCloneC
import Derived.Test.YtghoimllhpjkjaaGreatSortA
open Go.IntKind (u8 u16 i64)
set_option linter.unusedSimpArgs false
open Go Go.S3 Go.Proofs
set_option linter.unusedVariables false
set_option maxRecDepth 100000
namespace Go.Proofs.YtghoimllhpjkjaaGreat
noncomputable section
abbrev ZiS : R := R.pair (R.int u16) (R.int u8)
abbrev ZiT : Nat := 106
abbrev ZAF : List Sh := []
def Zqi (s : List (Int × Int)) : RT (Option (List (Int × Int))) :=
 .br (Zi0 (Stg.l (Zct ZiS ZiT s)) (iN (List.length (Stg.l (Zct ZiS ZiT s))))) (.leaf (some (Cells.isort (Stg.l (Zct ZiS ZiT s))))) (.leaf none)
def Zsn (s : List (Int × Int)) : List (Int × Int) := getO [] (Zqi s).val
def Zv7 (s : List (Int × Int)) : Bool := okB (Zqi s).val
def Zv6 : Entry := stE ZiS ZiT 185 ZAF (fun a => some (Zv7 a.1 )) (fun a => Zsn a.1 )
theorem Zv5 : Zb Tryz.prog 184 Zv6 :=
 Zi1 (P := Tryz.prog) (n := 15) (k := 8) (l := [(243, ZAE), (185, Zak)]) (ol := []) ⟨ZAD, Zaj, trivial⟩ Tryz.func184 rfl (by kernel_rfl) Tryz.call184 trivial (r := ZiS) (T := ZiT) (g0 := 185) (ts := ZAF) (t := fun a => Zqi a.1 ) (fun a => by kernel_rfl)
abbrev Zvw : List Sh := [Sh.one rcCE]
abbrev ZpI : Rs := Rs.one (Sh.one rcCE)
def ZHb : LS := { n := 45, slots := [(3, .tip 0), (4, .tip 1), (11, .tip 0), (12, .code (Sh.one (R.int i64))), (13, .code (Sh.one (R.int i64)))], boxes := [], stgs := [⟨R.pair (R.int u16) (R.int u8), 106, true⟩, ⟨(R.pair (R.int u16) (R.int u8)), 106, true⟩] }
def ZgC (a : QT26) : RT (Option (Go1 (QT26))) :=
 let x1 := (R.get (R.pair (R.int u16) (R.int u8)) a.2.2.1 a.2.1).2 != 0
 let x2 := i64.wrap (a.2.1 + 1) == iN (List.length a.2.2.1)
 let x3 := !x1 || (x2 || Zf (i64.wrap (a.2.1 + 1)) (List.length a.2.2.1))
 let x4 := x1 && (x2 || (R.get (R.pair (R.int u16) (R.int u8)) a.2.2.1 (i64.wrap (a.2.1 + 1))).1 != (R.get (R.pair (R.int u16) (R.int u8)) a.2.2.1 a.2.1).1)
 let x5 : List (Int × Int) := a.2.2.2.1 ++ [R.get (R.pair (R.int u16) (R.int u8)) a.2.2.1 a.2.1]
 .br (decide (a.2.1 < a.1)) (.br (!Zf a.2.1 (List.length a.2.2.1) || (!x3 || (!x4 || Nat.ble (List.length x5) most))) (.br (!Zf a.2.1 (List.length a.2.2.1) || x3) (.br (Zf a.2.1 (List.length a.2.2.1)) (.leaf (some (Go1.cont (a.1, i64.wrap (a.2.1 + 1), a.2.2.1, bif x4 then x5 else a.2.2.2.1, PUnit.unit)))) (.leaf none)) (.leaf none)) (.leaf none)) (.leaf (some (Go1.brk (a.1, a.2.1, a.2.2.1, a.2.2.2.1, PUnit.unit))))
def ZxK : Ora := Zbq false ZHb ZgC (fun a => (a.1 - a.2.1).toNat + 1)
theorem ZzZ : Za5 (envX Tryz.prog [(183, ZlV), (184, Zv6), (185, Zak)] [] 127 8) (.block 0 (.loop (Z5 Tryz.f117.body 0))) ZxK :=
 Zw (ZB (l := [(183, ZlV), (184, Zv6), (185, Zak)]) ⟨ZlU, Zv5, Zaj, trivial⟩ [] 127 8) (Zn (by kernel_rfl)) (fun a => by kernel_rfl)
def ZrH (l : List (Int × Int)) : RT (Option (List (Int × Int))) :=
 let x1 := runF false ZgC (fun a => Int.toNat (a.1 - a.2.1) + 1) (iN (List.length (Zsn l)), 0, Zsn l, [], ())
 .br (Nat.ble (List.length l) most) (.br (Zv7 l) (.br (okB x1) (.leaf (some (getO (false, iN (List.length (Zsn l)), 0, Zsn l, [], ()) x1).2.2.2.2.1)) (.leaf none)) (.leaf none)) (.leaf none)
def ZEr (l : List (Int × Int)) : List (Int × Int) := getO ZpI.dflt (ZrH l).val
def ZrI (l : List (Int × Int)) : Bool := okB (ZrH l).val
def ZEp : Entry := Zm Zvw ZpI (fun a => some (ZrI a)) (fun a => ZEr a)
theorem ZpH : Zb Tryz.prog 117 ZEp :=
 pureP 127 [(183, ZlV), (184, Zv6), (185, Zak)] [(0, ZxK)] Zvw ZpI ⟨ZlU, Zv5, Zaj, trivial⟩ Tryz.func117 Tryz.call117 ⟨ZzZ, trivial⟩ (t := fun a => ZrH a) (fun a => by kernel_rfl)
abbrev ZxE : List Sh := [Sh.one rcCE]
abbrev ZpC : Rs := Rs.one (Sh.one R.bool)
def ZEi : LS := { n := 31, slots := [(0, .code (Sh.one rcCE)), (2, .code (Sh.one R.bool)), (5, .code (Sh.one rcCE)), (6, .code (Sh.one (R.int i64))), (7, .code (Sh.one (R.int i64)))], boxes := [], stgs := [] }
def Zdb (a : List (Int × Int) × Bool × List (Int × Int) × Int × Int × PUnit) : RT (Option (Go1 (List (Int × Int) × Bool × List (Int × Int) × Int × Int × PUnit))) :=
 let x1 : Int × Int := R.get (R.pair (R.int u16) (R.int u8)) a.2.2.1 a.2.2.2.2.1
 let x2 := x1.2 == 0
 let x3 : List (Int × Int) × Int × Int × PUnit := (a.2.2.1, a.2.2.2.1, a.2.2.2.2.1, PUnit.unit)
 .br (decide (a.2.2.2.2.1 < a.2.2.2.1)) (.br (!Zf a.2.2.2.2.1 (List.length a.2.2.1) || (x2 || (!decide (a.2.2.2.2.1 > 0) || Zf (i64.wrap (a.2.2.2.2.1 - 1)) (List.length a.1)))) (.br (Zf a.2.2.2.2.1 (List.length a.2.2.1)) (.br (x2 || decide (a.2.2.2.2.1 > 0) && decide (x1.1 ≤ (R.get (R.pair (R.int u16) (R.int u8)) a.1 (i64.wrap (a.2.2.2.2.1 - 1))).1)) (.leaf (some (Go1.ret (a.1, false, x3)))) (.leaf (some (Go1.cont (a.1, a.2.1, a.2.2.1, a.2.2.2.1, i64.wrap (a.2.2.2.2.1 + 1), PUnit.unit))))) (.leaf none)) (.leaf none)) (.leaf (some (Go1.brk (a.1, a.2.1, x3))))
def ZrF : Ora := Zbq true ZEi Zdb (fun a => 1000000000000)
theorem Zvv : Za5 (envX Tryz.prog [] [] 31 8) (.block 0 (.loop (Z5 Tryz.f294.body 0))) ZrF :=
 Zw (ZB (l := []) trivial [] 31 8) (Zn (by kernel_rfl)) (fun a => by kernel_rfl)
def Zhr (m : List (Int × Int)) : RT (Option (Bool)) :=
 let x1 := runF true Zdb (fun a => 1000000000000) (m, false, m, iN (List.length m), 0, ())
 let x2 := getO (false, m, false, m, iN (List.length m), 0, ()) x1
 .br (okB x1) (.br x2.1 (.leaf (some x2.2.2.1)) (.leaf (some (true)))) (.leaf none)
def Zli (m : List (Int × Int)) : Bool := getO ZpC.dflt (Zhr m).val
def ZpD (m : List (Int × Int)) : Bool := okB (Zhr m).val
def ZEj : Entry := Zm ZxE ZpC (fun a => some (ZpD a)) (fun a => Zli a)
theorem ZEh : Zb Tryz.prog 294 ZEj :=
 pureP 31 [] [(0, ZrF)] ZxE ZpC trivial Tryz.func294 Tryz.call294 ⟨Zvv, trivial⟩ (t := fun a => Zhr a) (fun a => by kernel_rfl)
abbrev ZnB : List Sh := [Sh.one rcCE]
abbrev Zis : Rs := Rs.one (Sh.one R.bool)
def ZBp : LS := { n := 34, slots := [(0, .code (Sh.one rcCE)), (2, .code (Sh.one R.bool)), (5, .code (Sh.one (R.int i64))), (6, .code (Sh.one (R.int i64)))], boxes := [], stgs := [] }
def Zc1 (a : List (Int × Int) × Bool × Int × Int × PUnit) : RT (Option (Go1 (List (Int × Int) × Bool × Int × Int × PUnit))) :=
 let x1 := (R.get (R.pair (R.int u16) (R.int u8)) a.1 a.2.2.2.1).2 == 0
 let x2 := !Zf a.2.2.2.1 (List.length a.1) || (x1 || (!decide (a.2.2.2.1 > 0) || (!Zf a.2.2.2.1 (List.length a.1) || Zf (i64.wrap (a.2.2.2.1 - 1)) (List.length a.1))))
 let x3 := !x2
 let x4 := !Zf a.2.2.2.1 (List.length a.1) || (x1 || (!decide (a.2.2.2.1 > 0) || Zf a.2.2.2.1 (List.length a.1)))
 .br (decide (a.2.2.2.1 < a.2.2.1)) (.br (x3 || (!x4 || Zf a.2.2.2.1 (List.length a.1))) (.br (x3 || x4) (.br (x2) (.br (x1 || decide (a.2.2.2.1 > 0) && decide ((R.get (R.pair (R.int u16) (R.int u8)) a.1 a.2.2.2.1).1 ≤ (R.get (R.pair (R.int u16) (R.int u8)) a.1 (i64.wrap (a.2.2.2.1 - 1))).1)) (.leaf (some (Go1.ret (a.1, false, a.2.2.1, a.2.2.2.1, PUnit.unit)))) (.leaf (some (Go1.cont (a.1, a.2.1, a.2.2.1, i64.wrap (a.2.2.2.1 + 1), PUnit.unit))))) (.leaf none)) (.leaf none)) (.leaf none)) (.leaf (some (Go1.brk (a.1, a.2.1, a.2.2.1, a.2.2.2.1, PUnit.unit))))
def ZqA : Ora := Zbq true ZBp Zc1 (fun a => 1000000000000)
theorem ZsI : Za5 (envX Tryz.prog [] [] 15 8) (.block 0 (.loop (Z5 Tryz.f44.body 0))) ZqA :=
 Zw (ZB (l := []) trivial [] 15 8) (Zn (by kernel_rfl)) (fun a => by kernel_rfl)
def Zha (m : List (Int × Int)) : RT (Option (Bool)) :=
 let x1 := runF true Zc1 (fun a => 1000000000000) (m, false, iN (List.length m), 0, ())
 let x2 := getO (false, m, false, iN (List.length m), 0, ()) x1
 .br (okB x1) (.br x2.1 (.leaf (some x2.2.2.1)) (.leaf (some (true)))) (.leaf none)
def Zjb (m : List (Int × Int)) : Bool := getO Zis.dflt (Zha m).val
def Zhb (m : List (Int × Int)) : Bool := okB (Zha m).val
def ZnC : Entry := Zm ZnB Zis (fun a => some (Zhb a)) (fun a => Zjb a)
theorem Zja : Zb Tryz.prog 44 ZnC :=
 pureP 15 [] [(0, ZqA)] ZnB Zis trivial Tryz.func44 Tryz.call44 ⟨ZsI, trivial⟩ (t := fun a => Zha a) (fun a => by kernel_rfl)
abbrev ZtB : List Sh := [Sh.one rcCE, Sh.one (R.int u16)]
abbrev ZnX : Rs := Rs.one (Sh.one (R.int u8))
def ZF8 : LS := { n := 25, slots := [(0, .code (Sh.one rcCE)), (1, .code (Sh.one (R.int u16))), (4, .code (Sh.one (R.int u8))), (5, .code (Sh.one (R.int i64)))], boxes := [], stgs := [] }
def Ze7 (a : List (Int × Int) × Int × Int × Int × PUnit) : RT (Option (Go1 (List (Int × Int) × Int × Int × Int × PUnit))) :=
 let x1 := (R.get (R.pair (R.int u16) (R.int u8)) a.1 a.2.2.2.1).1 == a.2.1
 .br (decide (a.2.2.2.1 ≥ 0)) (.br (!Zf a.2.2.2.1 (List.length a.1) || (!x1 || Zf a.2.2.2.1 (List.length a.1))) (.br (Zf a.2.2.2.1 (List.length a.1)) (.br (x1) (.leaf (some (Go1.ret (a.1, a.2.1, (R.get (R.pair (R.int u16) (R.int u8)) a.1 a.2.2.2.1).2, a.2.2.2.1, PUnit.unit)))) (.leaf (some (Go1.cont (a.1, a.2.1, a.2.2.1, i64.wrap (a.2.2.2.1 - 1), PUnit.unit))))) (.leaf none)) (.leaf none)) (.leaf (some (Go1.brk (a.1, a.2.1, a.2.2.1, a.2.2.2.1, PUnit.unit))))
def ZwM : Ora := Zbq true ZF8 Ze7 (fun a => 1000000000000)
theorem ZyF : Za5 (envX Tryz.prog [] [] 63 8) (.block 0 (.loop (Z5 Tryz.f35.body 0))) ZwM :=
 Zw (ZB (l := []) trivial [] 63 8) (Zn (by kernel_rfl)) (fun a => by kernel_rfl)
def ZmB (m : List (Int × Int)) (t : Int) : RT (Option (Int)) :=
 let x1 : List (Int × Int) × Int × Int × Int × PUnit := (m, t, 0, i64.wrap (iN (List.length m) - 1), ())
 let x2 := runF true Ze7 (fun a => 1000000000000) x1
 let x3 := getO (false, x1) x2
 .br (okB x2) (.br x3.1 (.leaf (some x3.2.2.2.1)) (.leaf (some (0)))) (.leaf none)
def ZJH (m : List (Int × Int)) (t : Int) : Int := getO ZnX.dflt (ZmB m t).val
def ZBZ (m : List (Int × Int)) (t : Int) : Bool := okB (ZmB m t).val
def ZLP : Entry := Zm ZtB ZnX (fun a => some (ZBZ a.1 a.2)) (fun a => ZJH a.1 a.2)
theorem ZF7 : Zb Tryz.prog 35 ZLP :=
 pureP 63 [] [(0, ZwM)] ZtB ZnX trivial Tryz.func35 Tryz.call35 ⟨ZyF, trivial⟩ (t := fun a => ZmB a.1 a.2) (fun a => by kernel_rfl)
abbrev ZBs : List Sh := [Sh.one rcCE, Sh.agg (R.pair (R.int u16) (R.int u8))]
abbrev ZsN : Rs := Rs.one (Sh.one rcCE)
def ZFW : LS := { n := 53, slots := [(3, .fix (A.loc 0 0)), (5, .tip 0), (6, .code (Sh.one R.bool)), (9, .code (Sh.one rcCE)), (10, .code (Sh.one (R.int i64))), (11, .code (Sh.one (R.int i64)))], boxes := [[.many (R.pair (R.int u16) (R.int u8))]], stgs := [⟨(R.pair (R.int u16) (R.int u8)), 106, true⟩] }
def Zf7 (a : QT7) : RT (Option (Go1 (QT7))) :=
 let x1 : Int × Int := R.get (R.pair (R.int u16) (R.int u8)) a.2.1 a.2.2.2.1
 let x2 := x1.1
 let x3 := !a.1 && decide (x2 ≥ a.2.2.2.2.1.1)
 let x4 : List (Int × Int) := a.2.2.2.2.2.1 ++ [a.2.2.2.2.1]
 let x5 := !x3 || (!a.2.2.2.2.1.2 != 0 || Nat.ble (List.length x4) most)
 let x6 := x2 != a.2.2.2.2.1.1
 let x7 : List (Int × Int) := bif x3 then bif a.2.2.2.2.1.2 != 0 then x4 else a.2.2.2.2.2.1 else a.2.2.2.2.2.1
 let x8 : List (Int × Int) := x7 ++ [x1]
 .br (decide (a.2.2.2.1 < a.2.2.1)) (.br (!Zf a.2.2.2.1 (List.length a.2.1) || (!x5 || (!x6 || Nat.ble (List.length x8) most))) (.br (!Zf a.2.2.2.1 (List.length a.2.1) || x5) (.br (Zf a.2.2.2.1 (List.length a.2.1)) (.leaf (some (Go1.cont (x3 || a.1, a.2.1, a.2.2.1, i64.wrap (a.2.2.2.1 + 1), a.2.2.2.2.1, bif x6 then x8 else x7, PUnit.unit)))) (.leaf none)) (.leaf none)) (.leaf none)) (.leaf (some (Go1.brk (a.1, a.2.1, a.2.2.1, a.2.2.2.1, a.2.2.2.2.1, a.2.2.2.2.2.1, PUnit.unit))))
def Zwu : Ora := Zbq false ZFW Zf7 (fun a => 1000000000000)
theorem Zyp : Za5 (envX Tryz.prog [] [] 511 8) (.block 0 (.loop (Z5 Tryz.f149.body 0))) Zwu :=
 Zw (ZB (l := []) trivial [] 511 8) (Zn (by kernel_rfl)) (fun a => by kernel_rfl)
def Zmv (m : List (Int × Int)) (c : Int × Int) : RT (Option (List (Int × Int))) :=
 let x1 : QT7 := (false, m, iN (List.length m), 0, c, [], ())
 let x2 := runF false Zf7 (fun a => 1000000000000) x1
 let x3 : QT7 := (getO (false, x1) x2).2
 let x4 := x3.2.2.2.2
 let x5 := x4.1
 let x6 := !x3.1 && x5.2 != 0
 let x7 := x4.2.1
 let x8 : List (Int × Int) := x7 ++ [x5]
 .br (okB x2) (.br (!x6 || Nat.ble (List.length x8) most) (.leaf (some (bif x6 then x8 else x7))) (.leaf none)) (.leaf none)
def ZBt (m : List (Int × Int)) (c : Int × Int) : List (Int × Int) := getO ZsN.dflt (Zmv m c).val
def ZqH (m : List (Int × Int)) (c : Int × Int) : Bool := okB (Zmv m c).val
def Zwv : Entry := Zm ZBs ZsN (fun a => some (ZqH a.1 a.2)) (fun a => ZBt a.1 a.2)
theorem Zwt : Zb Tryz.prog 149 Zwv :=
 pureP 511 [] [(0, Zwu)] ZBs ZsN trivial Tryz.func149 Tryz.call149 ⟨Zyp, trivial⟩ (t := fun a => Zmv a.1 a.2) (fun a => by kernel_rfl)
abbrev ZBJ : List Sh := [Sh.one rcCE]
abbrev ZsT : Rs := Rs.one (Sh.one rcCE)
def ZF2 : LS := { n := 21, slots := [(3, .code (Sh.one rcCE)), (10, .code (Sh.one rcCE)), (11, .code (Sh.one (R.int i64))), (12, .code (Sh.one (R.int i64)))], boxes := [], stgs := [] }
def Zf8 (a : List (Int × Int) × List (Int × Int) × Int × Int × PUnit) : RT (Option (Go1 (List (Int × Int) × List (Int × Int) × Int × Int × PUnit))) :=
 let x1 : Int × Int := R.get (R.pair (R.int u16) (R.int u8)) a.2.1 a.2.2.2.1
 .br (decide (a.2.2.2.1 < a.2.2.1)) (.br (!Zf a.2.2.2.1 (List.length a.2.1) || ZqH a.1 x1) (.br (Zf a.2.2.2.1 (List.length a.2.1)) (.leaf (some (Go1.cont (ZBt a.1 x1, a.2.1, a.2.2.1, i64.wrap (a.2.2.2.1 + 1), PUnit.unit)))) (.leaf none)) (.leaf none)) (.leaf (some (Go1.brk (a.1, a.2.1, a.2.2.1, a.2.2.2.1, PUnit.unit))))
def ZwD : Ora := Zbq false ZF2 Zf8 (fun a => 1000000000000)
theorem Zys : Za5 (envX Tryz.prog [(44, ZnC), (149, Zwv)] [] 63 8) (.block 0 (.loop (Z5 Tryz.f92.body 0))) ZwD :=
 Zw (ZB (l := [(44, ZnC), (149, Zwv)]) ⟨Zja, Zwt, trivial⟩ [] 63 8) (Zn (by kernel_rfl)) (fun a => by kernel_rfl)
def Zmx (l : List (Int × Int)) : RT (Option (List (Int × Int))) :=
 let x1 := runF false Zf8 (fun a => 1000000000000) ([], l, iN (List.length l), 0, ())
 .br (Zhb l) (.br (!Zjb l || Nat.ble (List.length ([] ++ l)) most) (.br (Zjb l) (.leaf (some ([] ++ l))) (.br (okB x1) (.leaf (some (getO (false, [], l, iN (List.length l), 0, ()) x1).2.1)) (.leaf none))) (.leaf none)) (.leaf none)
def ZF3 (l : List (Int × Int)) : List (Int × Int) := getO ZsT.dflt (Zmx l).val
def ZwF (l : List (Int × Int)) : Bool := okB (Zmx l).val
def ZwE : Entry := Zm ZBJ ZsT (fun a => some (ZwF a)) (fun a => ZF3 a)
theorem ZwC : Zb Tryz.prog 92 ZwE :=
 pureP 63 [(44, ZnC), (149, Zwv)] [(0, ZwD)] ZBJ ZsT ⟨Zja, Zwt, trivial⟩ Tryz.func92 Tryz.call92 ⟨Zys, trivial⟩ (t := fun a => Zmx a) (fun a => by kernel_rfl)
abbrev Ztx : List Sh := [Sh.one (R.int u16), Sh.one (R.sl (R.int u8))]
abbrev ZnU : Rs := Rs.one (Sh.one rcCE)
def ZF6 : LS := { n := 27, slots := [(0, .code (Sh.one (R.int u16))), (1, .code (Sh.one (R.sl (R.int u8)))), (5, .tip 0), (8, .code (Sh.one (R.int i64))), (9, .code (Sh.one (R.int i64)))], boxes := [], stgs := [⟨(R.pair (R.int u16) (R.int u8)), 106, true⟩] }
def Zgb (a : QT17) : RT (Option (Go1 (QT17))) :=
 let x1 : List (Int × Int) := a.2.2.2.2.1 ++ [(u16.wrap (a.1 + u16.wrap a.2.2.2.1), R.get (R.int u8) a.2.1 a.2.2.2.1)]
 let x2 := !Zf a.2.2.2.1 (List.length a.2.1) || Nat.ble (List.length x1) most
 .br (decide (a.2.2.2.1 < a.2.2.1)) (.br (!x2 || Zf a.2.2.2.1 (List.length a.2.1)) (.br (x2) (.leaf (some (Go1.cont (a.1, a.2.1, a.2.2.1, i64.wrap (a.2.2.2.1 + 1), x1, PUnit.unit)))) (.leaf none)) (.leaf none)) (.leaf (some (Go1.brk (a.1, a.2.1, a.2.2.1, a.2.2.2.1, a.2.2.2.2.1, PUnit.unit))))
def ZwI : Ora := Zbq false ZF6 Zgb (fun a => 1000000000000)
theorem ZyE : Za5 (envX Tryz.prog [(92, ZwE)] [] 127 8) (.block 0 (.loop (Z5 Tryz.f32.body 0))) ZwI :=
 Zw (ZB (l := [(92, ZwE)]) ⟨ZwC, trivial⟩ [] 127 8) (Zn (by kernel_rfl)) (fun a => by kernel_rfl)
def ZqQ (t : Int) (b : List Int) : RT (Option (List (Int × Int))) :=
 let x1 := runF false Zgb (fun a => 1000000000000) (t, b, iN (List.length b), 0, [], ())
 let x2 : List (Int × Int) := (getO (false, t, b, iN (List.length b), 0, [], ()) x1).2.2.2.2.2.1
 .br (okB x1) (.br (ZwF x2) (.leaf (some (ZF3 x2))) (.leaf none)) (.leaf none)
def ZJE (t : Int) (b : List Int) : List (Int × Int) := getO ZnU.dflt (ZqQ t b).val
def ZBP (t : Int) (b : List Int) : Bool := okB (ZqQ t b).val
def ZLM : Entry := Zm Ztx ZnU (fun a => some (ZBP a.1 a.2)) (fun a => ZJE a.1 a.2)
theorem ZF5 : Zb Tryz.prog 32 ZLM :=
 pureP 127 [(92, ZwE)] [(0, ZwI)] Ztx ZnU ⟨ZwC, trivial⟩ Tryz.func32 Tryz.call32 ⟨ZyE, trivial⟩ (t := fun a => ZqQ a.1 a.2) (fun a => by kernel_rfl)
abbrev ZtC : List Sh := [Sh.one rcRG, Sh.one (R.int u16)]
abbrev ZnY : Rs := Rs.one (Sh.one (R.int i64))
def ZGb : LS := { n := 26, slots := [(1, .code (Sh.one (R.int u16))), (4, .code (Sh.one (R.int i64))), (7, .code (Sh.one rcRG)), (8, .code (Sh.one (R.int i64))), (9, .code (Sh.one (R.int i64)))], boxes := [], stgs := [] }
def Ze8 (a : QT16) : RT (Option (Go1 (QT16))) :=
 let x1 : QT8 := R.get (R.pair (R.int u16) (R.pair (R.int u16) (R.pair R.bool (R.int i64)))) a.2.2.1 a.2.2.2.2.1
 let x2 : List (QT8) × Int × Int × PUnit := (a.2.2.1, a.2.2.2.1, a.2.2.2.2.1, PUnit.unit)
 .br (decide (a.2.2.2.2.1 < a.2.2.2.1)) (.br (Zf a.2.2.2.2.1 (List.length a.2.2.1)) (.br (decide (x1.1 ≤ a.1) && decide (a.1 ≤ x1.2.1)) (.leaf (some (Go1.ret (a.1, a.2.2.2.2.1, x2)))) (.leaf (some (Go1.cont (a.1, a.2.1, a.2.2.1, a.2.2.2.1, i64.wrap (a.2.2.2.2.1 + 1), PUnit.unit))))) (.leaf none)) (.leaf (some (Go1.brk (a.1, a.2.1, x2))))
def ZwN : Ora := Zbq true ZGb Ze8 (fun a => 1000000000000)
theorem ZyH : Za5 (envX Tryz.prog [] [] 127 8) (.block 0 (.loop (Z5 Tryz.f43.body 0))) ZwN :=
 Zw (ZB (l := []) trivial [] 127 8) (Zn (by kernel_rfl)) (fun a => by kernel_rfl)
def ZjX (l : List (QT8)) (t : Int) : RT (Option (Int)) :=
 let x1 := runF true Ze8 (fun a => 1000000000000) (t, 0, l, iN (List.length l), 0, ())
 let x2 := getO (false, t, 0, l, iN (List.length l), 0, ()) x1
 .br (okB x1) (.br x2.1 (.leaf (some x2.2.2.1)) (.leaf (some (-1)))) (.leaf none)
def ZGc (l : List (QT8)) (t : Int) : Int := getO ZnY.dflt (ZjX l t).val
def ZwO (l : List (QT8)) (t : Int) : Bool := okB (ZjX l t).val
def ZLR : Entry := Zm ZtC ZnY (fun a => some (ZwO a.1 a.2)) (fun a => ZGc a.1 a.2)
theorem ZGa : Zb Tryz.prog 43 ZLR :=
 pureP 127 [] [(0, ZwN)] ZtC ZnY trivial Tryz.func43 Tryz.call43 ⟨ZyH, trivial⟩ (t := fun a => ZjX a.1 a.2) (fun a => by kernel_rfl)
abbrev ZDk : List Sh := [Sh.one rcRG, Sh.one (R.int u16)]
abbrev ZuL : Rs := Rs.one (Sh.one (R.int i64))
def ZGL : LS := { n := 26, slots := [(1, .code (Sh.one (R.int u16))), (4, .code (Sh.one (R.int i64))), (7, .code (Sh.one rcRG)), (8, .code (Sh.one (R.int i64))), (9, .code (Sh.one (R.int i64)))], boxes := [], stgs := [] }
def Zxl (a : QT16) : RT (Option (Go1 (QT16))) :=
 let x1 : QT8 := R.get (R.pair (R.int u16) (R.pair (R.int u16) (R.pair R.bool (R.int i64)))) a.2.2.1 a.2.2.2.2.1
 let x2 : List (QT8) × Int × Int × PUnit := (a.2.2.1, a.2.2.2.1, a.2.2.2.2.1, PUnit.unit)
 .br (decide (a.2.2.2.2.1 < a.2.2.2.1)) (.br (Zf a.2.2.2.2.1 (List.length a.2.2.1)) (.br (decide (x1.1 ≤ a.1) && decide (a.1 ≤ x1.2.1)) (.leaf (some (Go1.ret (a.1, a.2.2.2.2.1, x2)))) (.leaf (some (Go1.cont (a.1, a.2.1, a.2.2.1, a.2.2.2.1, i64.wrap (a.2.2.2.2.1 + 1), PUnit.unit))))) (.leaf none)) (.leaf (some (Go1.brk (a.1, a.2.1, x2))))
def Zxm : Ora := Zbq true ZGL Zxl (fun a => 1000000000000)
theorem Zy9 : Za5 (envX Tryz.prog [] [] 127 8) (.block 0 (.loop (Z5 Tryz.f245.body 0))) Zxm :=
 Zw (ZB (l := []) trivial [] 127 8) (Zn (by kernel_rfl)) (fun a => by kernel_rfl)
def Zxk (l : List (QT8)) (t : Int) : RT (Option (Int)) :=
 let x1 := runF true Zxl (fun a => 1000000000000) (t, 0, l, iN (List.length l), 0, ())
 let x2 := getO (false, t, 0, l, iN (List.length l), 0, ()) x1
 .br (okB x1) (.br x2.1 (.leaf (some x2.2.2.1)) (.leaf (some (-1)))) (.leaf none)
def ZuM (l : List (QT8)) (t : Int) : Int := getO ZuL.dflt (Zxk l t).val
def Zxn (l : List (QT8)) (t : Int) : Bool := okB (Zxk l t).val
def ZDl : Entry := Zm ZDk ZuL (fun a => some (Zxn a.1 a.2)) (fun a => ZuM a.1 a.2)
theorem Zxj : Zb Tryz.prog 245 ZDl :=
 pureP 127 [] [(0, Zxm)] ZDk ZuL trivial Tryz.func245 Tryz.call245 ⟨Zy9, trivial⟩ (t := fun a => Zxk a.1 a.2) (fun a => by kernel_rfl)
end
end Go.Proofs.YtghoimllhpjkjaaGreat
namespace Go.Proofs.Cells
def getX (l : List Cell) (a : Int) : Int := ((flt a l).getLast?.map Prod.snd).getD 0
def Vld (m : List Cell) : Prop := m.Pairwise (fun a b => a.1 < b.1) ∧ ∀ c ∈ m, c.2 ≠ 0
theorem Zz9 {l l' : List Cell} (h : Sm l l') (a : Int) : getX l a = getX l' a := by rw [getX, getX, h a]
theorem Vld.srt {m : List Cell} (h : Vld m) : Srt m := h.1.imp fun h => Int.le_of_lt h
theorem Vld.tail {c : Cell} {m : List Cell} (h : Vld (c :: m)) : Vld m := ⟨(List.pairwise_cons.1 h.1).2, fun x hx => h.2 x (List.mem_cons_of_mem _ hx)⟩
theorem ZxV (a : Int) : getX [] a = 0 := rfl
theorem ZiL (a : Int) (c : Cell) (l : List Cell) : flt a (c :: l) = if c.1 = a then c :: flt a l else flt a l := by
 by_cases h : c.1 = a <;> simp [flt, h]
theorem Zdg (c : Cell) (l : List Cell) (a : Int) : getX (c :: l) a = if c.1 = a ∧ flt a l = [] then c.2 else getX l a := by
 simp only [getX, ZiL]
 by_cases h : c.1 = a
 ·simp only [h, if_true, true_and]
  cases hf : flt a l with
  | nil => simp
  | cons x r => simp [List.getLast?_cons_cons]
 ·simp [h]
theorem Vld.flt {m : List Cell} (h : Vld m) (a : Int) : Cells.flt a m = if getX m a = 0 then [] else [(a, getX m a)] := by
 induction m with
 | nil => simp [Cells.flt, ZxV]
 | cons c m ih =>
  have ih := ih h.tail
  have h1 := List.pairwise_cons.1 h.1
  by_cases hc : c.1 = a
  ·have hn : Cells.flt a m = [] := Zdh fun x hx => by have := h1.1 x hx; omega
   have hz := h.2 c (by simp)
   rw [ZiL, Zdg]
   simp only [hc, hn, and_self, if_true, hz, if_false]
   rw [← hc]
  ·rw [ZiL, Zdg]
   simp only [hc, false_and, if_false, ih]
theorem ZJb {m m' : List Cell} (h : Vld m) (h' : Vld m') (e : ∀ a, getX m a = getX m' a) : m = m' :=
 uniq h.srt h'.srt fun k => by rw [h.flt, h'.flt, e k]
def dd : List Cell → List Cell
 | [] => []
 | x :: r => match r with
  | [] => if x.2 = 0 then [] else [x]
  | y :: _ => if x.1 = y.1 then dd r else if x.2 = 0 then dd r else x :: dd r
theorem Zm7 : ∀ {l : List Cell} {c : Cell}, c ∈ dd l → c ∈ l ∧ c.2 ≠ 0
 | [], c, h => by simp [dd] at h
 | [x], c, h => by
  simp only [dd] at h
  split at h
  ·simp at h
  ·rename_i hz; simp at h; subst h; exact ⟨by simp, hz⟩
 | x :: y :: r, c, h => by
  rw [dd] at h
  split at h
  ·have := Zm7 h; exact ⟨List.mem_cons_of_mem _ this.1, this.2⟩
  ·split at h
   ·have := Zm7 h; exact ⟨List.mem_cons_of_mem _ this.1, this.2⟩
   ·rename_i hz
    rcases List.mem_cons.1 h with e | e
    ·subst e; exact ⟨by simp, hz⟩
    ·have := Zm7 e; exact ⟨List.mem_cons_of_mem _ this.1, this.2⟩
theorem ZI3 : ∀ {l : List Cell}, Srt l → Vld (dd l)
 | [], _ => ⟨List.Pairwise.nil, fun c h => by simp [dd] at h⟩
 | [x], _ => by
  refine ⟨?_, fun c h => (Zm7 h).2⟩
  simp only [dd]; split <;> simp
 | x :: y :: r, h => by
  have h1 := List.pairwise_cons.1 h
  have ih := ZI3 (l := y :: r) h1.2
  have h2 := List.pairwise_cons.1 h1.2
  rw [dd]
  split
  ·exact ih
  ·rename_i hne
   split
   ·exact ih
   ·rename_i hz
    refine ⟨List.pairwise_cons.2 ⟨fun c hc => ?_, ih.1⟩, fun c hc => ?_⟩
    ·have hxy := h1.1 y (by simp)
     rcases List.mem_cons.1 (Zm7 hc).1 with e | e
     ·rw [e]; omega
     ·have := h2.1 c e; omega
    ·rcases List.mem_cons.1 hc with e | e
     ·rw [e]; exact hz
     ·exact ih.2 c e
theorem ZI4 : ∀ {l : List Cell}, Srt l → ∀ a, getX (dd l) a = getX l a
 | [], _, _ => rfl
 | [x], _, a => by
  simp only [dd]
  split
  ·rename_i hz; rw [Zdg]; simp [flt, getX, hz]
  ·rfl
 | x :: y :: r, h, a => by
  have h1 := List.pairwise_cons.1 h
  have ih := ZI4 (l := y :: r) h1.2 a
  have h2 := List.pairwise_cons.1 h1.2
  rw [dd, Zdg x (y :: r)]
  by_cases hxy : x.1 = y.1
  ·rw [if_pos hxy, ih]
   by_cases hc : x.1 = a ∧ flt a (y :: r) = []
   ·obtain ⟨e, e2⟩ := hc
    rw [ZiL, if_pos (by rw [← hxy]; exact e)] at e2; simp at e2
   ·rw [if_neg hc]
  ·rw [if_neg hxy]
   have hlt : ∀ c ∈ y :: r, x.1 < c.1 := fun c hc => by
    have := h1.1 y (by simp)
    rcases List.mem_cons.1 hc with e | e
    ·rw [e]; omega
    ·have := h2.1 c e; omega
   by_cases hc : x.1 = a
   ·have hn : flt a (y :: r) = [] := Zdh fun c hc' => by have := hlt c hc'; omega
    have hn2 : flt a (dd (y :: r)) = [] := Zdh fun c hc' => by have := hlt c (Zm7 hc').1; omega
    by_cases hz : x.2 = 0
    ·rw [if_pos hz, if_pos ⟨hc, hn⟩, hz, getX, hn2]; rfl
    ·rw [if_neg hz, if_pos ⟨hc, hn⟩, Zdg, if_pos ⟨hc, hn2⟩]
   ·by_cases hz : x.2 = 0
    ·rw [if_pos hz, if_neg (fun h => hc h.1), ih]
    ·rw [if_neg hz, if_neg (fun h => hc h.1), Zdg, if_neg (fun h => hc h.1), ih]
def putX : List Cell → Cell → List Cell
 | [], c => if c.2 = 0 then [] else [c]
 | x :: r, c => if x.1 < c.1 then x :: putX r c else if c.2 = 0 then (if x.1 = c.1 then r else x :: r) else if x.1 = c.1 then c :: r else c :: x :: r
theorem Zn6 : ∀ {m : List Cell} {c x : Cell}, x ∈ putX m c → x = c ∨ x ∈ m
 | [], c, x, h => by
  simp only [putX] at h
  split at h
  ·simp at h
  ·left; simpa using h
 | y :: r, c, x, h => by
  simp only [putX] at h
  split at h
  ·rcases List.mem_cons.1 h with e | e
   ·right; simp [e]
   ·rcases Zn6 e with e | e
    ·exact .inl e
    ·right; simp [e]
  ·split at h
   ·split at h
    ·right; simp [h]
    ·right; exact h
   ·split at h
    ·rcases List.mem_cons.1 h with e | e
     ·exact .inl e
     ·right; simp [e]
    ·rcases List.mem_cons.1 h with e | e
     ·exact .inl e
     ·right; exact e
theorem Zn5 : ∀ {m : List Cell} {c : Cell}, Vld m → Vld (putX m c)
 | [], c, _ => by
  simp only [putX]
  split
  ·exact ⟨List.Pairwise.nil, fun c h => by simp at h⟩
  ·rename_i hz; exact ⟨by simp, fun x h => by simp at h; rw [h]; exact hz⟩
 | y :: r, c, h => by
  have h1 := List.pairwise_cons.1 h.1
  have hy := h.2 y (by simp)
  simp only [putX]
  split
  ·rename_i hlt
   have ih := Zn5 (c := c) h.tail
   refine ⟨List.pairwise_cons.2 ⟨fun x hx => ?_, ih.1⟩, fun x hx => ?_⟩
   ·rcases Zn6 hx with e | e
    ·rw [e]; exact hlt
    ·exact h1.1 x e
   ·rcases List.mem_cons.1 hx with e | e
    ·rw [e]; exact hy
    ·exact ih.2 x e
  ·rename_i hge
   split
   ·split
    ·exact h.tail
    ·exact h
   ·rename_i hz
    split
    ·rename_i he
     refine ⟨List.pairwise_cons.2 ⟨fun x hx => ?_, h1.2⟩, fun x hx => ?_⟩
     ·have := h1.1 x hx; omega
     ·rcases List.mem_cons.1 hx with e | e
      ·rw [e]; exact hz
      ·exact h.2 x (List.mem_cons_of_mem _ e)
    ·rename_i hne
     refine ⟨List.pairwise_cons.2 ⟨fun x hx => ?_, h.1⟩, fun x hx => ?_⟩
     ·rcases List.mem_cons.1 hx with e | e
      ·rw [e]; omega
      ·have := h1.1 x e; omega
     ·rcases List.mem_cons.1 hx with e | e
      ·rw [e]; exact hz
      ·exact h.2 x e
theorem ZgJ {l : List Cell} {a : Int} (h : ∀ c ∈ l, c.1 ≠ a) : getX l a = 0 := by rw [getX, Zdh h]; rfl
theorem ZcW {x : Cell} {r : List Cell} (h : ∀ c ∈ r, x.1 < c.1) (a : Int) : getX (x :: r) a = if x.1 = a then x.2 else getX r a := by
 rw [Zdg]
 by_cases hx : x.1 = a
 ·have : flt a r = [] := Zdh fun c hc => by have := h c hc; omega
  simp [hx, this]
 ·simp [hx]
theorem Zn8 : ∀ {m : List Cell} {c : Cell}, Vld m → ∀ a, getX (putX m c) a = if c.1 = a then c.2 else getX m a
 | [], c, _, a => by
  simp only [putX]
  split
  ·rename_i hz; rw [ZxV, hz]; simp
  ·rw [ZcW (by simp)]
 | y :: r, c, h, a => by
  have h1 := List.pairwise_cons.1 h.1
  simp only [putX]
  split
  ·rename_i hlt
   rw [ZcW (fun x hx => by
    rcases Zn6 hx with e | e
    ·rw [e]; exact hlt
    ·exact h1.1 x e), ZcW h1.1, Zn8 h.tail a]
   by_cases e1 : y.1 = a
   ·simp only [e1, if_true]; rw [if_neg (by omega)]
   ·simp [e1]
  ·rename_i hge
   split
   ·rename_i hz
    split
    ·rename_i he
     rw [ZcW h1.1]
     by_cases e : c.1 = a
     ·rw [if_pos e, hz]
      exact ZgJ fun x hx => by have := h1.1 x hx; omega
     ·rw [if_neg e, if_neg (by omega)]
    ·rename_i hne
     by_cases e : c.1 = a
     ·rw [if_pos e, hz]
      exact ZgJ fun x hx => by
       rcases List.mem_cons.1 hx with e' | e'
       ·rw [e']; omega
       ·have := h1.1 x e'; omega
     ·rw [if_neg e]
   ·split
    ·rename_i he
     rw [ZcW (fun x hx => by have := h1.1 x hx; omega), ZcW h1.1]
     by_cases e : c.1 = a
     ·simp [e]
     ·rw [if_neg e, if_neg e, if_neg (by omega)]
    ·rename_i hne
     rw [ZcW (fun x hx => by
      rcases List.mem_cons.1 hx with e | e
      ·rw [e]; omega
      ·have := h1.1 x e; omega)]
def normX (l : List Cell) : List Cell := l.foldl putX []
theorem ZER (l : List Cell) (c : Cell) (a : Int) : getX (l ++ [c]) a = if c.1 = a then c.2 else getX l a := by
 rw [getX, getX, Zcx]
 by_cases h : c.1 = a
 ·have : flt a [c] = [c] := by simp [flt, h]
  rw [this, List.getLast?_append]; simp [h]
 ·have : flt a [c] = [] := Zdh fun x hx => by simp at hx; rw [hx]; exact h
  rw [this]; simp [h]
theorem ZlJ : ∀ (l : List Cell) {m : List Cell}, Vld m → Vld (l.foldl putX m) ∧ ∀ a, getX (l.foldl putX m) a = getX (m ++ l) a
 | [], m, h => ⟨h, fun a => by simp⟩
 | c :: l, m, h => by
  obtain ⟨h1, h2⟩ := ZlJ l (Zn5 (c := c) h)
  refine ⟨h1, fun a => ?_⟩
  rw [List.foldl_cons, h2 a]
  have e : m ++ c :: l = (m ++ [c]) ++ l := by simp
  rw [e]
  have key : ∀ {p q : List Cell}, (∀ b, getX p b = getX q b) → ∀ l b, getX (p ++ l) b = getX (q ++ l) b := by
   intro p q hpq l b
   simp only [getX, Zcx, List.getLast?_append]
   cases hl : (flt b l).getLast? with
   | none => simpa [getX] using hpq b
   | some x => simp
  exact key (fun b => by rw [Zn8 h, ZER]) l a
theorem Zc5 (l : List Cell) : Vld (normX l) := (ZlJ l ⟨List.Pairwise.nil, fun c h => by simp at h⟩).1
theorem Zgu (l : List Cell) (a : Int) : getX (normX l) a = getX l a := (ZlJ l ⟨List.Pairwise.nil, fun c h => by simp at h⟩).2 a
theorem Zxw {l m : List Cell} (h : Vld m) (e : ∀ a, getX m a = getX l a) : normX l = m := ZJb (Zc5 l) h fun a => by rw [Zgu, e]
theorem Zhm {m : List Cell} (h : Vld m) : normX m = m := Zxw h fun _ => rfl
theorem ZzQ (l : List Cell) : dd (isort l) = normX l :=
 (Zxw (ZI3 (Zbg l)) fun a => by rw [ZI4 (Zbg l), Zz9 (Zd1 l)]).symm
end Go.Proofs.Cells
open Go Go.S3 Go.Proofs Go.Proofs.Cells
namespace Go.Proofs.YtghoimllhpjkjaaGreat
noncomputable section
abbrev ZK := QT8
theorem ZpZ (l : List Cell) (i : Nat) (h : i < l.length) : l.drop i = el l i :: l.drop (i + 1) := by
 rw [List.drop_eq_getElem_cons h]
 have := Zb4 l i h
 rw [List.getElem?_eq_getElem h, oinj] at this
 rw [this]
theorem Zsp (l : List Cell) (i : Nat) (h : i < l.length) : l.take (i + 1) = l.take i ++ [el l i] := by
 rw [List.take_add_one, Zb4 l i h]; rfl
theorem ZMD (l : List Cell) (i : Nat) (h : i < l.length) : el l i ∈ l := List.mem_iff_getElem?.2 ⟨i, Zb4 l i h⟩
def okAt (m : List Cell) (i : Nat) : Bool := !((el m i).2 == 0 || (decide ((i : Int) > 0) && decide ((el m i).1 ≤ (el m (i - 1)).1)))
def vldB (m : List Cell) : Bool := (List.range m.length).all (okAt m)
theorem Zl8 {m : List Cell} {i : Nat} (hi : i < m.length) (h : okAt m i = false) : vldB m = false := by
 rw [Bool.eq_false_iff]; intro he
 have := List.all_eq_true.1 he i (List.mem_range.2 hi)
 rw [h] at this; exact absurd this (by simp)
theorem ZiQ {m : List Cell} (h : ∀ i, i < m.length → okAt m i = true) : vldB m = true := List.all_eq_true.2 fun i hi => h i (List.mem_range.1 hi)
theorem Zil {m : List Cell} : vldB m = true ↔ Vld m := by
 constructor
 ·intro h
  have ha : ∀ i, i < m.length → okAt m i = true := fun i hi => List.all_eq_true.1 h i (List.mem_range.2 hi)
  have hs : ∀ i, i + 1 < m.length → (el m i).1 < (el m (i + 1)).1 := fun i hi => by
   have := ha (i + 1) hi
   simp only [okAt, Bool.not_eq_true', Bool.or_eq_false_iff, Bool.and_eq_false_iff, decide_eq_false_iff_not, Nat.add_sub_cancel] at this
   rcases this.2 with e | e
   ·omega
   ·omega
  refine ⟨?_, fun c hc => ?_⟩
  ·rw [List.pairwise_iff_getElem]
   have key : ∀ d i, i + d + 1 < m.length → (el m i).1 < (el m (i + d + 1)).1 := by
    intro d
    induction d with
    | zero => intro i hi; exact hs i hi
    | succ d ih => intro i hi; have h1 := ih i (by omega); have h2 := hs (i + d + 1) (by omega); rw [show i + (d + 1) + 1 = i + d + 1 + 1 by omega]; omega
   intro i j hi hj hij
   have := key (j - i - 1) i (by omega)
   rw [show i + (j - i - 1) + 1 = j by omega] at this
   have e1 := Zb4 m i hi
   have e2 := Zb4 m j hj
   rw [List.getElem?_eq_getElem hi, oinj] at e1
   rw [List.getElem?_eq_getElem hj, oinj] at e2
   rw [e1, e2]; exact this
  ·obtain ⟨i, hi⟩ := List.mem_iff_getElem?.1 hc
   have hlt := (List.getElem?_eq_some_iff.1 hi).1
   rw [Zb4 m i hlt, oinj] at hi
   have := ha i hlt
   rw [← hi]
   simp only [okAt, Bool.not_eq_true', Bool.or_eq_false_iff, beq_eq_false_iff_ne] at this
   exact this.1
 ·intro h
  refine ZiQ fun i hi => ?_
  simp only [okAt, Bool.not_eq_true', Bool.or_eq_false_iff, beq_eq_false_iff_ne, Bool.and_eq_false_iff, decide_eq_false_iff_not]
  refine ⟨h.2 _ (ZMD m i hi), ?_⟩
  by_cases h0 : i = 0
  ·left; omega
  ·right
   have := List.pairwise_iff_getElem.1 h.1 (i - 1) i (by omega) hi (by omega)
   have e1 := Zb4 m (i - 1) (by omega)
   have e2 := Zb4 m i hi
   rw [List.getElem?_eq_getElem (by omega), oinj] at e1
   rw [List.getElem?_eq_getElem hi, oinj] at e2
   rw [e1, e2] at this; omega
theorem ZLe (i : Nat) (h : 0 < i) (h2 : i ≤ 4611686018427387904) : IntKind.wrap .i64 ((i : Int) - 1) = ((i - 1 : Nat) : Int) := by rw [wrap_i64 _ (by omega) (by omega)]; omega
theorem ZDQ (m : List Cell) (i : Nat) : ((el m i).2 == 0 || (decide ((i : Int) > 0) && decide ((el m i).1 ≤ (el m (i - 1)).1))) = !okAt m i := by simp only [okAt, Bool.not_not]
theorem ZzV (m : List Cell) (hm : m.length ≤ most) : (Zhr m).val = some (vldB m) := by
 have hms := mst
 obtain ⟨r, hr, hR⟩ := ZX (fl := true) (t := Zdb) (fuel := fun a => 1000000000000)
  (I := fun a => ∃ i : Nat, i ≤ m.length ∧ (∀ k, k < i → okAt m k = true) ∧ a = (m, false, m, (m.length : Int), (i : Int), ()))
  (m := fun a => Int.toNat (a.2.2.2.1 - a.2.2.2.2.1)) (R := fun r => (r.1 = false ∧ vldB m = true) ∨ (r.1 = true ∧ vldB m = false ∧ r.2.2.1 = false))
  (fun a hi => by
   obtain ⟨i, hi, hk, rfl⟩ := hi
   by_cases hlt : i < m.length
   ·have d : decide ((i : Int) < (m.length : Int)) = true := by simpa using hlt
    have r1 := Zax m i hlt
    have hw : decide ((i : Int) > 0) = true → Zf (IntKind.wrap .i64 ((i : Int) - 1)) m.length = true ∧ IntKind.wrap .i64 ((i : Int) - 1) = ((i - 1 : Nat) : Int) := fun h => by
     simp only [decide_eq_true_eq] at h
     have e := ZLe i (by omega) (by omega)
     exact ⟨by rw [e]; exact Zax m (i - 1) (by omega), e⟩
    have hck : ((el m i).2 == 0 || (!decide ((i : Int) > 0) || Zf (IntKind.wrap .i64 ((i : Int) - 1)) m.length)) = true := by
     cases h : decide ((i : Int) > 0) with
     | false => simp
     | true => rw [(hw h).1]; simp
    have hcd : ((el m i).2 == 0 || (decide ((i : Int) > 0) && decide ((el m i).1 ≤ (R.get CR m (IntKind.wrap .i64 ((i : Int) - 1))).1))) = !okAt m i := by
     rw [← ZDQ]
     cases h : decide ((i : Int) > 0) with
     | false => simp
     | true => rw [(hw h).2, ZbU]
    cases ho : okAt m i with
    | true =>
     left
     refine ⟨(m, false, m, (m.length : Int), ((i + 1 : Nat) : Int), ()), ?_, ⟨i + 1, hlt, fun k hk' => ?_, rfl⟩, by simp only; omega⟩
     ·rw [ho] at hcd
      simp only [Zdb, RT.val, d, r1, ZbU, hck, hcd, Bool.not_true, Bool.false_or, cond_true, cond_false, Zfk i (by omega)]
     ·by_cases e : k = i
      ·subst e; exact ho
      ·exact hk k (by omega)
    | false =>
     right; right
     refine ⟨(m, false, m, (m.length : Int), (i : Int), ()), rfl, ?_, .inr ⟨rfl, Zl8 hlt ho, rfl⟩⟩
     rw [ho] at hcd
     simp only [Zdb, RT.val, d, r1, ZbU, hck, hcd, Bool.not_true, Bool.not_false, Bool.false_or, cond_true, cond_false]
   ·right; left
    have d : decide ((i : Int) < (m.length : Int)) = false := by simpa using hlt
    exact ⟨(m, false, m, (m.length : Int), (i : Int), ()), by simp only [Zdb, RT.val, d, cond_false], .inl ⟨rfl, ZiQ fun k hk' => hk k (by omega)⟩⟩)
  (m, false, m, (m.length : Int), 0, ()) ⟨0, Nat.zero_le _, fun k h => by omega, rfl⟩ (by simp only; omega)
 have hr' : runF true Zdb (fun a => 1000000000000) (m, false, m, iN m.length, 0, ()) = some r := hr
 rcases hR with ⟨h1, h2⟩ | ⟨h1, h2, h3⟩
 ·simp only [Zhr, RT.val, hr', okB, getO, cond_true, h1, cond_false, h2]
 ·simp only [Zhr, RT.val, hr', okB, getO, cond_true, h1, h2, h3]
theorem Zmm (m : List Cell) (hm : m.length ≤ most) : (Zha m).val = some (vldB m) := by
 have hms := mst
 obtain ⟨r, hr, hR⟩ := ZX (fl := true) (t := Zc1) (fuel := fun a => 1000000000000)
  (I := fun a => ∃ i : Nat, i ≤ m.length ∧ (∀ k, k < i → okAt m k = true) ∧ a = (m, false, (m.length : Int), (i : Int), ()))
  (m := fun a => Int.toNat (a.2.2.1 - a.2.2.2.1)) (R := fun r => (r.1 = false ∧ vldB m = true) ∨ (r.1 = true ∧ vldB m = false ∧ r.2.2.1 = false))
  (fun a hi => by
   obtain ⟨i, hi, hk, rfl⟩ := hi
   by_cases hlt : i < m.length
   ·have d : decide ((i : Int) < (m.length : Int)) = true := by simpa using hlt
    have r1 := Zax m i hlt
    have hw : decide ((i : Int) > 0) = true → Zf (IntKind.wrap .i64 ((i : Int) - 1)) m.length = true ∧ IntKind.wrap .i64 ((i : Int) - 1) = ((i - 1 : Nat) : Int) := fun h => by
     simp only [decide_eq_true_eq] at h
     have e := ZLe i (by omega) (by omega)
     exact ⟨by rw [e]; exact Zax m (i - 1) (by omega), e⟩
    have hck : ((el m i).2 == 0 || (!decide ((i : Int) > 0) || Zf (IntKind.wrap .i64 ((i : Int) - 1)) m.length)) = true := by
     cases h : decide ((i : Int) > 0) with
     | false => simp
     | true => rw [(hw h).1]; simp
    have hcd : ((el m i).2 == 0 || (decide ((i : Int) > 0) && decide ((el m i).1 ≤ (R.get CR m (IntKind.wrap .i64 ((i : Int) - 1))).1))) = !okAt m i := by
     rw [← ZDQ]
     cases h : decide ((i : Int) > 0) with
     | false => simp
     | true => rw [(hw h).2, ZbU]
    cases ho : okAt m i with
    | true =>
     left
     refine ⟨(m, false, (m.length : Int), ((i + 1 : Nat) : Int), ()), ?_, ⟨i + 1, hlt, fun k hk' => ?_, rfl⟩, by simp only; omega⟩
     ·rw [ho] at hcd
      simp only [Zc1, RT.val, d, r1, ZbU, hck, hcd, Bool.not_true, Bool.false_or, Bool.or_true, cond_true, cond_false, Zfk i (by omega)]
     ·by_cases e : k = i
      ·subst e; exact ho
      ·exact hk k (by omega)
    | false =>
     right; right
     refine ⟨(m, false, (m.length : Int), (i : Int), ()), rfl, ?_, .inr ⟨rfl, Zl8 hlt ho, rfl⟩⟩
     rw [ho] at hcd
     simp only [Zc1, RT.val, d, r1, ZbU, hck, hcd, Bool.not_true, Bool.not_false, Bool.false_or, Bool.or_true, cond_true, cond_false]
   ·right; left
    have d : decide ((i : Int) < (m.length : Int)) = false := by simpa using hlt
    exact ⟨(m, false, (m.length : Int), (i : Int), ()), by simp only [Zc1, RT.val, d, cond_false], .inl ⟨rfl, ZiQ fun k hk' => hk k (by omega)⟩⟩)
  (m, false, (m.length : Int), 0, ()) ⟨0, Nat.zero_le _, fun k h => by omega, rfl⟩ (by simp only; omega)
 have hr' : runF true Zc1 (fun a => 1000000000000) (m, false, iN m.length, 0, ()) = some r := hr
 rcases hR with ⟨h1, h2⟩ | ⟨h1, h2, h3⟩
 ·simp only [Zha, RT.val, hr', okB, getO, cond_true, h1, cond_false, h2]
 ·simp only [Zha, RT.val, hr', okB, getO, cond_true, h1, h2, h3]
theorem ZES {m : List Cell} {t : Int} {i : Nat} (hi : i < m.length) (he : (el m i).1 = t) (hk : ∀ k, i < k → k < m.length → (el m k).1 ≠ t) : getX m t = (el m i).2 := by
 have e : m = m.take i ++ [el m i] ++ m.drop (i + 1) := by rw [List.append_assoc, List.singleton_append, ← ZpZ m i hi, List.take_append_drop]
 have h0 : flt t (m.drop (i + 1)) = [] := Zdh fun c hc => by
  obtain ⟨k, h1, h2, rfl⟩ := ZgB hc
  exact hk k (by omega) h2
 have h1 : flt t [el m i] = [el m i] := by simp [flt, he]
 have h2 : flt t m = flt t (m.take i) ++ [el m i] := by
  conv => lhs; rw [e, Zcx, Zcx, h0, h1, List.append_nil]
 rw [getX, h2, List.getLast?_append]; simp
theorem ZFQ (m : List Cell) (t : Int) (hm : m.length ≤ most) : (ZmB m t).val = some (getX m t) := by
 have hms := mst
 obtain ⟨r, hr, hR⟩ := ZX (fl := true) (t := Ze7) (fuel := fun a => 1000000000000)
  (I := fun a => ∃ i : Nat, i ≤ m.length ∧ (∀ k, i ≤ k → k < m.length → (el m k).1 ≠ t) ∧ a = (m, t, 0, (i : Int) - 1, ()))
  (m := fun a => Int.toNat (a.2.2.2.1 + 1)) (R := fun r => (r.1 = false ∧ getX m t = 0) ∨ (r.1 = true ∧ r.2.2.2.1 = getX m t))
  (fun a hi => by
   obtain ⟨i, hi, hk, rfl⟩ := hi
   cases i with
   | zero =>
    right; left
    refine ⟨(m, t, 0, ((0 : Nat) : Int) - 1, ()), by simp [Ze7, RT.val], .inl ⟨rfl, ZgJ fun c hc => ?_⟩⟩
    obtain ⟨k, hk'⟩ := List.mem_iff_getElem?.1 hc
    have hlt := (List.getElem?_eq_some_iff.1 hk').1
    rw [Zb4 m k hlt, oinj] at hk'
    rw [← hk']; exact hk k (Nat.zero_le _) hlt
   | succ i =>
    have ei : ((i + 1 : Nat) : Int) - 1 = (i : Int) := by omega
    rw [ei]
    have d : decide ((i : Int) ≥ 0) = true := by simp
    have r1 := Zax m i (by omega)
    cases he : ((el m i).1 == t) with
    | true =>
     right; right
     refine ⟨(m, t, (el m i).2, (i : Int), ()), rfl, by simp only [Ze7, RT.val, d, r1, ZbU, he, cond_true, Bool.not_true, Bool.false_or], .inr ⟨rfl, ?_⟩⟩
     exact (ZES (by omega) (by simpa using he) fun k h1 h2 => hk k (by omega) h2).symm
    | false =>
     left
     refine ⟨(m, t, 0, (i : Int) - 1, ()), ?_, ⟨i, by omega, fun k h1 h2 => ?_, rfl⟩, by simp only; omega⟩
     ·have w : IntKind.wrap .i64 ((i : Int) - 1) = (i : Int) - 1 := wrap_i64 _ (by omega) (by omega)
      simp only [Ze7, RT.val, d, r1, ZbU, he, cond_true, cond_false, Bool.not_true, Bool.not_false, Bool.true_or, Bool.false_or, w]
     ·by_cases e : k = i
      ·subst e; simpa using he
      ·exact hk k (by omega) h2)
  (m, t, 0, (m.length : Int) - 1, ()) ⟨m.length, Nat.le_refl _, fun k h1 h2 => by omega, rfl⟩ (by simp only; omega)
 have w : IntKind.wrap .i64 (iN m.length - 1) = (m.length : Int) - 1 := wrap_i64 _ (by simp only [iN]; omega) (by simp only [iN]; omega)
 rcases hR with ⟨h1, h2⟩ | ⟨h1, h2⟩
 ·simp only [ZmB, RT.val, w, hr, okB, getO, cond_true, h1, cond_false, h2]
 ·simp only [ZmB, RT.val, w, hr, okB, getO, cond_true, h1, h2]
def pst (c : Cell) (s : Bool × List Cell) (x : Cell) : Bool × List Cell :=
 let t := !s.1 && decide (x.1 ≥ c.1)
 let o := bif t then (bif c.2 != 0 then s.2 ++ [c] else s.2) else s.2
 (t || s.1, bif x.1 != c.1 then o ++ [x] else o)
def pfin (c : Cell) (s : Bool × List Cell) : List Cell := bif !s.1 && c.2 != 0 then s.2 ++ [c] else s.2
theorem ZwY (c : Cell) : ∀ (m : List Cell) (o : List Cell), (∀ x ∈ m, x.1 ≠ c.1) → m.foldl (pst c) (true, o) = (true, o ++ m)
 | [], o, _ => by simp
 | x :: m, o, h => by
  have hx : (x.1 != c.1) = true := by simpa using h x (by simp)
  simp only [List.foldl_cons, pst, Bool.not_true, Bool.false_and, cond_false, Bool.or_true, hx, cond_true]
  rw [ZwY c m (o ++ [x]) fun y hy => h y (List.mem_cons_of_mem _ hy)]
  simp
theorem ZCl (c : Cell) : ∀ (m : List Cell) (o : List Cell), m.Pairwise (fun a b => a.1 < b.1) → pfin c (m.foldl (pst c) (false, o)) = o ++ putX m c
 | [], o, _ => by
  simp only [List.foldl_nil, pfin, putX, Bool.not_false, Bool.true_and]
  by_cases h : c.2 = 0
  ·simp [h]
  ·have : (c.2 != 0) = true := by simpa using h
   simp [h, this]
 | x :: m, o, h => by
  have h1 := List.pairwise_cons.1 h
  by_cases hx : x.1 < c.1
  ·have e1 : decide (x.1 ≥ c.1) = false := by simp; omega
   have e2 : (x.1 != c.1) = true := by simp; omega
   simp only [List.foldl_cons, pst, e1, Bool.and_false, cond_false, Bool.or_false, e2, cond_true]
   rw [ZCl c m (o ++ [x]) h1.2, putX, if_pos hx]; simp
  ·have e1 : decide (x.1 ≥ c.1) = true := by simp; omega
   have hne : ∀ y ∈ m, y.1 ≠ c.1 := fun y hy => by have := h1.1 y hy; omega
   simp only [List.foldl_cons, pst, e1, Bool.not_false, Bool.and_self, cond_true, Bool.true_or]
   rw [ZwY c m _ hne, putX, if_neg hx]
   simp only [pfin, Bool.not_true, Bool.false_and, cond_false]
   by_cases hz : c.2 = 0
   ·by_cases hk : x.1 = c.1
    ·simp [hz, hk]
    ·have : (x.1 != c.1) = true := by simpa using hk
     simp [hz, hk, this]
   ·have hz1 : (c.2 != 0) = true := by simpa using hz
    by_cases hk : x.1 = c.1
    ·simp [hz, hk, hz1]
    ·have : (x.1 != c.1) = true := by simpa using hk
     simp [hz, hk, this, hz1]
theorem ZtJ (c : Cell) : ∀ (m : List Cell) (s : Bool × List Cell), (m.foldl (pst c) s).2.length + (bif (m.foldl (pst c) s).1 then 0 else 1) ≤ s.2.length + (bif s.1 then 0 else 1) + m.length
 | [], s => by simp
 | x :: m, s => by
  rw [List.foldl_cons]
  have ih := ZtJ c m (pst c s x)
  have : (pst c s x).2.length + (bif (pst c s x).1 then 0 else 1) ≤ s.2.length + (bif s.1 then 0 else 1) + 1 := by
   obtain ⟨d, o⟩ := s
   simp only [pst]
   generalize decide (x.1 ≥ c.1) = b1
   generalize (c.2 != 0) = b2
   generalize (x.1 != c.1) = b3
   cases d <;> cases b1 <;> cases b2 <;> cases b3 <;> simp <;> omega
  simp only [List.length_cons]; omega
theorem Zqu (m : List Cell) (c : Cell) (hv : Vld m) (hm : m.length + 1 ≤ most) : ZqH m c = true ∧ ZBt m c = putX m c := by
 have hms := mst
 obtain ⟨r, hr, h1, i, hR⟩ := ZX (fl := false) (t := Zf7) (fuel := fun a => 1000000000000)
  (fun a => ∃ i : Nat, i ≤ m.length ∧ a = (((m.take i).foldl (pst c) (false, [])).1, m, (m.length : Int), (i : Int), c, ((m.take i).foldl (pst c) (false, [])).2, ()))
  (fun a => Int.toNat (a.2.2.1 - a.2.2.2.1)) (fun r => r.1 = false ∧ ∃ i : Nat, r.2 = ((m.foldl (pst c) (false, [])).1, m, (m.length : Int), (i : Int), c, (m.foldl (pst c) (false, [])).2, ()))
  (by
   rintro a ⟨i, hi, rfl⟩
   by_cases hlt : i < m.length
   ·left
    have d : decide ((i : Int) < (m.length : Int)) = true := by simpa using hlt
    have r1 := Zax m i hlt
    have hl := ZtJ c (m.take i) (false, [])
    have hs : (m.take (i + 1)).foldl (pst c) (false, []) = pst c ((m.take i).foldl (pst c) (false, [])) (el m i) := by
     rw [Zsp m i hlt, List.foldl_append]; rfl
    rw [List.length_take, Nat.min_eq_left (by omega)] at hl
    refine ⟨_, ?_, ⟨i + 1, hlt, rfl⟩, by simp only; omega⟩
    rw [hs]
    generalize (m.take i).foldl (pst c) (false, []) = s at hl ⊢
    obtain ⟨dn, o⟩ := s
    simp only [List.length_nil, cond_false] at hl
    simp only [Zf7, RT.val, d, r1, ZbU, cond_true, Bool.not_true, Bool.false_or, pst, Zfk i (by omega)]
    generalize decide ((el m i).1 ≥ c.1) = b1
    generalize hb2 : (c.2 != 0) = b2
    generalize hb3 : ((el m i).1 != c.1) = b3
    have l1 : Nat.ble (o ++ [c]).length most = true ∨ dn = true := by
     cases dn with
     | true => exact .inr rfl
     | false => left; rw [Nat.ble_eq]; simp only [cond_false] at hl; simp only [List.length_append, List.length_singleton]; omega
    have l2 : Nat.ble (o ++ [el m i]).length most = true := by
     rw [Nat.ble_eq]; simp only [List.length_append, List.length_singleton]
     cases dn <;> simp only [cond_true, cond_false] at hl <;> omega
    have l3 : Nat.ble (o ++ [c] ++ [el m i]).length most = true ∨ dn = true := by
     cases dn with
     | true => exact .inr rfl
     | false => left; rw [Nat.ble_eq]; simp only [cond_false] at hl; simp only [List.length_append, List.length_singleton]; omega
    cases dn with
    | true =>
     cases b3 <;> simp only [l2, Bool.not_true, Bool.not_false, Bool.false_and, Bool.true_or, Bool.false_or, Bool.or_true, cond_true, cond_false]
    | false =>
     have l1 : Nat.ble (o ++ [c]).length most = true := by simpa using l1
     have l3 : Nat.ble (o ++ [c] ++ [el m i]).length most = true := by simpa using l3
     cases b1 <;> cases b2 <;> cases b3 <;> simp only [l1, l2, l3, Bool.not_true, Bool.not_false, Bool.false_and, Bool.true_and, Bool.true_or, Bool.false_or, Bool.or_true, Bool.or_false, Bool.and_self, cond_true, cond_false]
   ·right; left
    have d : decide ((i : Int) < (m.length : Int)) = false := by simpa using hlt
    have e : m.take i = m := List.take_of_length_le (by omega)
    rw [e]
    exact ⟨_, by simp only [Zf7, RT.val, d, cond_false], rfl, i, rfl⟩)
  (false, m, iN m.length, 0, c, [], ()) ⟨0, Nat.zero_le _, rfl⟩ (by simp only [iN]; omega)
 have hl := ZtJ c m (false, [])
 have hp := ZCl c m [] hv.1
 simp only [List.nil_append] at hp
 obtain ⟨r1, r2⟩ := r
 simp only at h1 hR
 subst h1 hR
 generalize m.foldl (pst c) (false, []) = s at hl hp hr
 obtain ⟨dn, o⟩ := s
 have hb : (!(!dn && c.2 != 0) || Nat.ble (o ++ [c]).length most) = true := by
  cases dn with
  | true => rfl
  | false =>
   have : Nat.ble (o ++ [c]).length most = true := by rw [Nat.ble_eq]; simp only [cond_false, List.length_nil] at hl; simp only [List.length_append, List.length_singleton]; omega
   rw [this]; simp
 have hv : (Zmv m c).val = some (putX m c) := by
  simp only [Zmv, RT.val, hr, okB, getO, cond_true, hb, ← hp, pfin]
 exact ⟨by simp only [ZqH, hv]; rfl, by simp only [ZBt, hv, getO]⟩
theorem Zn7 (c : Cell) : ∀ m : List Cell, (putX m c).length ≤ m.length + 1
 | [] => by simp only [putX]; split <;> simp
 | x :: m => by
  have := Zn7 c m
  simp only [putX]
  repeat' split
  all_goals simp only [List.length_cons]; omega
theorem Zhl (l : List Cell) (c : Cell) : normX (l ++ [c]) = putX (normX l) c := by simp [normX, List.foldl_append]
theorem ZxZ : ∀ (l m : List Cell), (l.foldl putX m).length ≤ m.length + l.length
 | [], m => by simp
 | x :: l, m => by
  have := ZxZ l (putX m x)
  have := Zn7 x m
  simp only [List.foldl_cons, List.length_cons]; omega
theorem Zc6 (l : List Cell) : (normX l).length ≤ l.length := by
 have := ZxZ l []
 simpa [normX] using this
theorem ZBk (l : List Cell) (hl : l.length + 1 ≤ most) : ZwF l = true ∧ ZF3 l = normX l := by
 have hms := mst
 have h1 := Zmm l (by omega)
 have hc : Zhb l = true := by simp only [Zhb, h1]; rfl
 have hv0 : Zjb l = vldB l := by simp only [Zjb, h1, getO]
 have hv : (Zmx l).val = some (normX l) := by
  cases hb : vldB l with
  | true =>
   have e : Nat.ble l.length most = true := by rw [Nat.ble_eq]; omega
   simp only [Zmx, RT.val, hc, hv0, hb, List.nil_append, e, cond_true, Bool.not_true, Bool.false_or, Zhm (Zil.1 hb)]
  | false =>
   obtain ⟨r, hr, h1, i, hR⟩ := ZX (fl := false) (t := Zf8) (fuel := fun a => 1000000000000)
    (fun a => ∃ i : Nat, i ≤ l.length ∧ a = (normX (l.take i), l, (l.length : Int), (i : Int), ()))
    (fun a => Int.toNat (a.2.2.1 - a.2.2.2.1)) (fun r => r.1 = false ∧ ∃ i : Nat, r.2 = (normX l, l, (l.length : Int), (i : Int), ()))
    (by
     rintro a ⟨i, hi, rfl⟩
     by_cases hlt : i < l.length
     ·left
      have d : decide ((i : Int) < (l.length : Int)) = true := by simpa using hlt
      have r1 := Zax l i hlt
      have hlen := Zc6 (l.take i)
      rw [List.length_take] at hlen
      have hp := Zqu (normX (l.take i)) (el l i) (Zc5 _) (by omega)
      refine ⟨_, ?_, ⟨i + 1, hlt, rfl⟩, by simp only; omega⟩
      rw [Zsp l i hlt, Zhl]
      simp only [Zf8, RT.val, d, r1, ZbU, hp.1, hp.2, cond_true, Bool.or_true, Zfk i (by omega)]
     ·right; left
      have d : decide ((i : Int) < (l.length : Int)) = false := by simpa using hlt
      have e : l.take i = l := List.take_of_length_le (by omega)
      rw [e]
      exact ⟨_, by simp only [Zf8, RT.val, d, cond_false], rfl, i, rfl⟩)
    ([], l, iN l.length, 0, ()) ⟨0, Nat.zero_le _, rfl⟩ (by simp only [iN]; omega)
   obtain ⟨r1, r2⟩ := r
   simp only at h1 hR
   subst h1 hR
   simp only [Zmx, RT.val, hc, hv0, hb, hr, okB, getO, cond_true, cond_false, Bool.not_false, Bool.true_or]
 exact ⟨by simp only [ZwF, hv]; rfl, by simp only [ZF3, hv, getO]⟩
def ZvC (s : List Cell) (i : Nat) : Bool := (el s i).2 != 0 && (decide (i + 1 = s.length) || (el s (i + 1)).1 != (el s i).1)
theorem ZK8 (s : List Cell) (i : Nat) (h : i < s.length) : dd (s.drop i) = (bif ZvC s i then [el s i] else []) ++ dd (s.drop (i + 1)) := by
 rw [ZpZ s i h]
 by_cases hl : i + 1 < s.length
 ·rw [ZpZ s (i + 1) hl, dd]
  have e : decide (i + 1 = s.length) = false := by simp; omega
  simp only [ZvC, e, Bool.false_or]
  by_cases h1 : (el s i).1 = (el s (i + 1)).1
  ·have : ((el s (i + 1)).1 != (el s i).1) = false := by simp [h1]
   simp only [this, Bool.and_false, cond_false, List.nil_append, if_pos h1]
  ·have : ((el s (i + 1)).1 != (el s i).1) = true := by simpa using fun e => h1 e.symm
   simp only [this, Bool.and_true, if_neg h1]
   by_cases h2 : (el s i).2 = 0
   ·have : ((el s i).2 != 0) = false := by simp [h2]
    simp only [this, if_pos h2, cond_false, List.nil_append]
   ·have : ((el s i).2 != 0) = true := by simpa using h2
    simp only [this, if_neg h2, cond_true, List.singleton_append]
 ·have hn : s.drop (i + 1) = [] := List.drop_eq_nil_of_le (by omega)
  have e : decide (i + 1 = s.length) = true := by simp; omega
  rw [hn]
  simp only [ZvC, e, Bool.true_or, Bool.and_true, dd, List.append_nil]
  by_cases h2 : (el s i).2 = 0
  ·have : ((el s i).2 != 0) = false := by simp [h2]
   simp only [this, if_pos h2, cond_false]
  ·have : ((el s i).2 != 0) = true := by simpa using h2
   simp only [this, if_neg h2, cond_true]
theorem ZAp (l : List Cell) (hl : l.length ≤ most) : Zv7 l = true ∧ Zsn l = isort l := by
 have hs : Zi0 l (iN l.length) = true := by simp [Zi0, iN]; omega
 have hv : (Zqi l).val = some (isort l) := by
  simp only [Zqi, RT.val, Zct, hs, cond_true]
 exact ⟨by simp only [Zv7, hv]; rfl, by simp only [Zsn, hv, getO]⟩
theorem Zle (l : List Cell) (hl : l.length ≤ most) : ZrI l = true ∧ ZEr l = normX l := by
 have hms := mst
 have h1 := ZAp l hl
 have hlen := Zdd l
 generalize hs : isort l = s at hlen h1
 obtain ⟨r, hr, h2, i, hR⟩ := ZX (fl := false) (t := ZgC) (fuel := fun a => Int.toNat (a.1 - a.2.1) + 1)
  (fun a => ∃ (i : Nat) (o : List Cell), i ≤ s.length ∧ o.length ≤ i ∧ o ++ dd (s.drop i) = dd s ∧ a = ((s.length : Int), (i : Int), s, o, ()))
  (fun a => Int.toNat (a.1 - a.2.1)) (fun r => r.1 = false ∧ ∃ i : Nat, r.2 = ((s.length : Int), (i : Int), s, dd s, ()))
  (by
   rintro a ⟨i, o, hi, ho, hd, rfl⟩
   by_cases hlt : i < s.length
   ·left
    have d : decide ((i : Int) < (s.length : Int)) = true := by simpa using hlt
    have r1 := Zax s i hlt
    have w := Zfk i (by omega)
    have e1 : (((i + 1 : Nat) : Int) == iN s.length) = decide (i + 1 = s.length) := by
     rw [Bool.eq_iff_iff]; simp [iN]; omega
    have hst := ZK8 s i hlt
    have hle : ∀ x : Cell, Nat.ble (o ++ [x]).length most = true := fun x => by rw [Nat.ble_eq]; simp only [List.length_append, List.length_singleton]; omega
    refine ⟨((s.length : Int), ((i + 1 : Nat) : Int), s, o ++ (bif ZvC s i then [el s i] else []), ()), ?_, ⟨i + 1, _, hlt, ?_, ?_, rfl⟩, by simp only; omega⟩
    ·have e3 : (!((el s i).2 != 0) || (decide (i + 1 = s.length) || Zf ((i + 1 : Nat) : Int) s.length)) = true := by
      by_cases hq : i + 1 = s.length
      ·simp [hq]
      ·rw [Zax s (i + 1) (by omega)]; simp
     have e4 : ((el s i).2 != 0 && (decide (i + 1 = s.length) || (el s (i + 1)).1 != (el s i).1)) = ZvC s i := rfl
     have g1 := ZbU s i
     have g2 := ZbU s (i + 1)
     simp only [ZgC, RT.val, d, r1, w, g1, g2, e1, e3, e4, hle, cond_true, Bool.not_true, Bool.false_or, Bool.or_true]
     cases ZvC s i <;> simp
    ·cases ZvC s i <;> simp only [cond_true, cond_false, List.append_nil, List.length_append, List.length_singleton] <;> omega
    ·rw [List.append_assoc, ← hst, hd]
   ·right; left
    have d : decide ((i : Int) < (s.length : Int)) = false := by simpa using hlt
    have e : s.drop i = [] := List.drop_eq_nil_of_le (by omega)
    rw [e] at hd
    simp only [dd, List.append_nil] at hd
    subst hd
    exact ⟨_, by simp only [ZgC, RT.val, d, cond_false], rfl, i, rfl⟩)
  (iN s.length, 0, s, [], ()) ⟨0, [], Nat.zero_le _, by simp, by simp, rfl⟩ (by simp only [iN]; omega)
 obtain ⟨r1, r2⟩ := r
 simp only at h2 hR
 subst h2 hR
 have hb : Nat.ble l.length most = true := by rw [Nat.ble_eq]; exact hl
 have hv : (ZrH l).val = some (normX l) := by
  simp only [ZrH, RT.val, hb, h1.1, h1.2, hr, okB, getO, cond_true]
  rw [← hs, ZzQ]
 exact ⟨by simp only [ZrI, hv]; rfl, by simp only [ZEr, hv, getO]⟩
abbrev BR : R := R.int u8
theorem ZMC (l : List Int) (i : Nat) : R.get BR l (i : Int) = l.getD i 0 := by simp [R.get, R.dflt]
def ZfO (t : Int) (b : List Int) (n : Nat) : List Cell := (List.range n).map fun i : Nat => (IntKind.wrap .u16 (t + IntKind.wrap .u16 (i : Int)), b.getD i 0)
theorem ZmV (t : Int) (b : List Int) (n : Nat) : ZfO t b (n + 1) = ZfO t b n ++ [(IntKind.wrap .u16 (t + IntKind.wrap .u16 (n : Int)), b.getD n 0)] := by simp [ZfO, List.range_succ]
theorem ZeM (t : Int) (b : List Int) (n : Nat) : (ZfO t b n).length = n := by simp [ZfO]
def ZfN (t : Int) (b : List Int) : List Cell := normX (ZfO t b b.length)
theorem ZBl (t : Int) (b : List Int) (hb : b.length + 1 ≤ most) : ZBP t b = true ∧ ZJE t b = ZfN t b := by
 have hms := mst
 obtain ⟨r, hr, h1, hR⟩ := ZX (fl := false) (t := Zgb) (fuel := fun a => 1000000000000)
  (fun a => ∃ i : Nat, i ≤ b.length ∧ a = (t, b, (b.length : Int), (i : Int), ZfO t b i, ()))
  (fun a => Int.toNat (a.2.2.1 - a.2.2.2.1)) (fun r => r.1 = false ∧ r.2 = (t, b, (b.length : Int), (b.length : Int), ZfO t b b.length, ()))
  (by
   rintro a ⟨i, hi, rfl⟩
   by_cases hlt : i < b.length
   ·left
    have d : decide ((i : Int) < (b.length : Int)) = true := by simpa using hlt
    have r1 := Zax b i hlt
    have hl : ∀ x : Cell, Nat.ble (ZfO t b i ++ [x]).length most = true := fun x => by rw [Nat.ble_eq, List.length_append, ZeM]; simp only [List.length_singleton]; omega
    refine ⟨_, ?_, ⟨i + 1, hlt, rfl⟩, by simp only; omega⟩
    rw [ZmV]
    have g := ZMC b i
    simp only [Zgb, RT.val, d, r1, g, hl, cond_true, Bool.not_true, Bool.false_or, Zfk i (by omega)]
   ·right; left
    have d : decide ((i : Int) < (b.length : Int)) = false := by simpa using hlt
    have e : i = b.length := by omega
    subst e
    exact ⟨_, by simp only [Zgb, RT.val, d, cond_false], rfl, rfl⟩)
  (t, b, iN b.length, 0, [], ()) ⟨0, Nat.zero_le _, rfl⟩ (by simp only [iN]; omega)
 obtain ⟨r1, r2⟩ := r
 simp only at h1 hR
 subst h1 hR
 have hn := ZBk (ZfO t b b.length) (by rw [ZeM]; exact hb)
 have hv : (ZqQ t b).val = some (ZfN t b) := by
  simp only [ZqQ, RT.val, hr, okB, getO, cond_true, hn.1, hn.2, ZfN]
 exact ⟨by simp only [ZBP, hv]; rfl, by simp only [ZJE, hv, getO]⟩
theorem ZEb (m : List Cell) (hm : m.length ≤ most) : ZpD m = true ∧ Zli m = vldB m := by
 have h := ZzV m hm
 exact ⟨by simp only [ZpD, h]; rfl, by simp only [Zli, h, getO]⟩
theorem ZBd (m : List Cell) (hm : m.length ≤ most) : Zhb m = true ∧ Zjb m = vldB m := by
 have h := Zmm m hm
 exact ⟨by simp only [Zhb, h]; rfl, by simp only [Zjb, h, getO]⟩
theorem ZJv (m : List Cell) (t : Int) (hm : m.length ≤ most) : ZBZ m t = true ∧ ZJH m t = getX m t := by
 have h := ZFQ m t hm
 exact ⟨by simp only [ZBZ, h]; rfl, by simp only [ZJH, h, getO]⟩
abbrev GR : R := R.pair (R.int u16) (R.pair (R.int u16) (R.pair R.bool (R.int i64)))
def hitB (t : Int) (r : ZK) : Bool := decide (r.1 ≤ t) && decide (t ≤ r.2.1)
def Zaq (l : List ZK) (t : Int) : Int := if l.findIdx (hitB t) < l.length then (l.findIdx (hitB t) : Int) else -1
def rg (l : List ZK) (i : Nat) : ZK := l.getD i (0, 0, false, 0)
theorem ZMA (l : List ZK) (i : Nat) : R.get GR l (i : Int) = rg l i := by simp [R.get, R.dflt, rg]
theorem ZBm (l : List ZK) (i : Nat) (h : i < l.length) : l[i] = rg l i := by simp [rg, h]
theorem ZK3 {l : List ZK} {t : Int} {i : Nat} (hi : i < l.length) (h : hitB t (rg l i) = true) (hk : ∀ k, k < i → hitB t (rg l k) = false) : Zaq l t = i := by
 have : l.findIdx (hitB t) = i := (List.findIdx_eq hi).2 ⟨by rw [ZBm l i hi]; exact h, fun j hj => by rw [ZBm l j (by omega)]; exact hk j hj⟩
 simp only [Zaq, this, hi, if_true]
theorem ZK2 {l : List ZK} {t : Int} (hk : ∀ k, k < l.length → hitB t (rg l k) = false) : Zaq l t = -1 := by
 have : ¬ l.findIdx (hitB t) < l.length := by
  rw [List.findIdx_lt_length]
  rintro ⟨x, hx, hp⟩
  obtain ⟨i, hi, rfl⟩ := List.mem_iff_getElem.1 hx
  rw [ZBm l i hi, hk i hi] at hp
  exact absurd hp (by simp)
 simp only [Zaq, this, if_false]
theorem Zqv (l : List ZK) (t : Int) (hl : l.length ≤ most) : ZwO l t = true ∧ ZGc l t = Zaq l t := by
 have hms := mst
 obtain ⟨r, hr, hR⟩ := ZX (fl := true) (t := Ze8) (fuel := fun _ => 1000000000000)
  (fun x => ∃ i : Nat, i ≤ l.length ∧ (∀ k, k < i → hitB t (rg l k) = false) ∧ x = (t, 0, l, (l.length : Int), (i : Int), ()))
  (fun x => Int.toNat (x.2.2.2.1 - x.2.2.2.2.1)) (fun r => (r.1 = false ∧ Zaq l t = -1) ∨ (r.1 = true ∧ r.2.2.1 = Zaq l t))
  (by
   rintro x ⟨i, hi, hk, rfl⟩
   by_cases hlt : i < l.length
   ·have d : decide ((i : Int) < (l.length : Int)) = true := by simpa using hlt
    have r1 := Zax l i hlt
    have g1 := ZMA l i
    cases hh : hitB t (rg l i) with
    | false =>
     left
     refine ⟨(t, 0, l, (l.length : Int), ((i + 1 : Nat) : Int), ()), ?_, ⟨i + 1, hlt, fun k hk' => ?_, rfl⟩, by simp only; omega⟩
     ·simp only [hitB] at hh
      simp only [Ze8, RT.val, d, r1, g1, hh, cond_true, cond_false, Zfk i (by omega)]
     ·by_cases e : k = i
      ·subst e; exact hh
      ·exact hk k (by omega)
    | true =>
     right; right
     refine ⟨(t, (i : Int), l, (l.length : Int), (i : Int), ()), rfl, ?_, .inr ⟨rfl, (ZK3 hlt hh hk).symm⟩⟩
     simp only [hitB] at hh
     simp only [Ze8, RT.val, d, r1, g1, hh, cond_true]
   ·right; left
    have d : decide ((i : Int) < (l.length : Int)) = false := by simpa using hlt
    exact ⟨_, by simp only [Ze8, RT.val, d, cond_false]; rfl, .inl ⟨rfl, ZK2 fun k h => hk k (by omega)⟩⟩)
  (t, 0, l, iN l.length, 0, ()) ⟨0, Nat.zero_le _, fun k h => by omega, rfl⟩ (by simp only [iN]; omega)
 have hv : (ZjX l t).val = some (Zaq l t) := by
  rcases hR with ⟨h1, h2⟩ | ⟨h1, h2⟩
  ·simp only [ZjX, RT.val, hr, okB, getO, cond_true, h1, cond_false, h2]
  ·simp only [ZjX, RT.val, hr, okB, getO, cond_true, h1, h2]
 exact ⟨by simp only [ZwO, hv]; rfl, by simp only [ZGc, hv, getO]⟩
theorem Zq0 (l : List ZK) (t : Int) (hl : l.length ≤ most) : Zxn l t = true ∧ ZuM l t = Zaq l t := by
 have h := Zqv l t hl
 have e : Zxk l t = ZjX l t := rfl
 simp only [ZwO, ZGc, ← e] at h
 exact h
def Zi9 (l : List ZK) (m : List Cell) (t : Int) : Int := bif decide (Zaq l t < 0) then 255 else getX m t
end
end Go.Proofs.YtghoimllhpjkjaaGreat
