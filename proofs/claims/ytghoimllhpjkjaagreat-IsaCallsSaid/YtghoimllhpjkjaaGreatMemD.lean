/-
  Memories: Load, Same and Find of the reference, the program's Valid and Find, Read and Write, as plain functions. Conditions: none.
-/
import Derived.Test.YtghoimllhpjkjaaGreatS3D
import Derived.Test.YtghoimllhpjkjaaGreatProg
import Derived.Test.YtghoimllhpjkjaaGreatCloneC
import Derived.Test.YtghoimllhpjkjaaGreatSortA
open Go.IntKind (u8 u16 i64)
set_option linter.unusedSimpArgs false
open Go Go.S3 Go.Proofs
set_option linter.unusedVariables false
set_option maxRecDepth 100000
namespace Go.Proofs.YtghoimllhpjkjaaGreat
noncomputable section
abbrev Zh5 : R := R.pair (R.int u16) (R.int u8)
abbrev Zh6 : Nat := 106
abbrev ZxC : List Sh := []
def Zoh (s : List (Int × Int)) : RT (Option (List (Int × Int))) :=
 .br (Zid (Stg.l (Zca Zh5 Zh6 s)) (iN (List.length (Stg.l (Zca Zh5 Zh6 s))))) (.leaf (some (Cells.isort (Stg.l (Zca Zh5 Zh6 s))))) (.leaf none)
def ZqD (s : List (Int × Int)) : List (Int × Int) := getO [] (Zoh s).val
def Zto (s : List (Int × Int)) : Bool := okB (Zoh s).val
def Ztn : Entry := stE Zh5 Zh6 185 ZxC (fun a => some (Zto a.1 )) (fun a => ZqD a.1 )
theorem Ztm : Zc Tryz.prog 184 Ztn :=
 Zie (P := Tryz.prog) (n := 15) (k := 8) (l := [(243, ZxB), (185, Z9)]) (ol := []) ⟨ZxA, Z8, trivial⟩ Tryz.func184 rfl (by kernel_rfl) Tryz.call184 trivial (r := Zh5) (T := Zh6) (g0 := 185) (ts := ZxC) (t := fun a => Zoh a.1 ) (fun a => by kernel_rfl)
abbrev ZsQ : List Sh := [Sh.one rcCE]
abbrev ZnI : Rs := Rs.one (Sh.one rcCE)
def ZDl : LS := { n := 45, slots := [(3, .tip 0), (4, .tip 1), (11, .tip 0), (12, .code (Sh.one (R.int i64))), (13, .code (Sh.one (R.int i64)))], boxes := [], stgs := [⟨R.pair (R.int u16) (R.int u8), 106, true⟩, ⟨(R.pair (R.int u16) (R.int u8)), 106, true⟩] }
def Zf3 (a : QT20) : RT (Option (Go1 (QT20))) :=
 let x1 := (R.get (R.pair (R.int u16) (R.int u8)) a.2.2.1 a.2.1).2 != 0
 let x2 := i64.wrap (a.2.1 + 1) == iN (List.length a.2.2.1)
 let x3 := !x1 || (x2 || Ze (i64.wrap (a.2.1 + 1)) (List.length a.2.2.1))
 let x4 := x1 && (x2 || (R.get (R.pair (R.int u16) (R.int u8)) a.2.2.1 (i64.wrap (a.2.1 + 1))).1 != (R.get (R.pair (R.int u16) (R.int u8)) a.2.2.1 a.2.1).1)
 let x5 : List (Int × Int) := a.2.2.2.1 ++ [R.get (R.pair (R.int u16) (R.int u8)) a.2.2.1 a.2.1]
 .br (decide (a.2.1 < a.1)) (.br (!Ze a.2.1 (List.length a.2.2.1) || (!x3 || (!x4 || Nat.ble (List.length x5) most))) (.br (!Ze a.2.1 (List.length a.2.2.1) || x3) (.br (Ze a.2.1 (List.length a.2.2.1)) (.leaf (some (Go1.cont (a.1, i64.wrap (a.2.1 + 1), a.2.2.1, bif x4 then x5 else a.2.2.2.1, PUnit.unit)))) (.leaf none)) (.leaf none)) (.leaf none)) (.leaf (some (Go1.brk (a.1, a.2.1, a.2.2.1, a.2.2.2.1, PUnit.unit))))
def ZuW : Ora := ZbH false ZDl Zf3 (fun a => (a.1 - a.2.1).toNat + 1)
theorem ZwZ : Zbe (envX Tryz.prog [(183, Zkp), (184, Ztn), (185, Z9)] [] 127 8) (.block 0 (.loop (Zae Tryz.f117.body 0))) ZuW :=
 ZC (ZF (l := [(183, Zkp), (184, Ztn), (185, Z9)]) ⟨Zko, Ztm, Z8, trivial⟩ [] 127 8) (Zl (by kernel_rfl)) (fun a => by kernel_rfl)
def Zp5 (l : List (Int × Int)) : RT (Option (List (Int × Int))) :=
 let x1 := runF false Zf3 (fun a => Int.toNat (a.1 - a.2.1) + 1) (iN (List.length (ZqD l)), 0, ZqD l, [], ())
 .br (Nat.ble (List.length l) most) (.br (Zto l) (.br (okB x1) (.leaf (some (getO (false, iN (List.length (ZqD l)), 0, ZqD l, [], ()) x1).2.2.2.2.1)) (.leaf none)) (.leaf none)) (.leaf none)
def ZAI (l : List (Int × Int)) : List (Int × Int) := getO ZnI.dflt (Zp5 l).val
def Zp6 (l : List (Int × Int)) : Bool := okB (Zp5 l).val
def ZAG : Entry := Zm ZsQ ZnI (fun a => some (Zp6 a)) (fun a => ZAI a)
theorem ZnH : Zc Tryz.prog 117 ZAG :=
 pureP 127 [(183, Zkp), (184, Ztn), (185, Z9)] [(0, ZuW)] ZsQ ZnI ⟨Zko, Ztm, Z8, trivial⟩ Tryz.func117 Tryz.call117 ⟨ZwZ, trivial⟩ (t := fun a => Zp5 a) (fun a => by kernel_rfl)
abbrev ZuU : List Sh := [Sh.one rcCE]
abbrev ZnD : Rs := Rs.one (Sh.one R.bool)
def ZAD : LS := { n := 31, slots := [(0, .code (Sh.one rcCE)), (2, .code (Sh.one R.bool)), (5, .code (Sh.one rcCE)), (6, .code (Sh.one (R.int i64))), (7, .code (Sh.one (R.int i64)))], boxes := [], stgs := [] }
def ZcJ (a : List (Int × Int) × Bool × List (Int × Int) × Int × Int × PUnit) : RT (Option (Go1 (List (Int × Int) × Bool × List (Int × Int) × Int × Int × PUnit))) :=
 let x1 : Int × Int := R.get (R.pair (R.int u16) (R.int u8)) a.2.2.1 a.2.2.2.2.1
 let x2 := x1.2 == 0
 let x3 : List (Int × Int) × Int × Int × PUnit := (a.2.2.1, a.2.2.2.1, a.2.2.2.2.1, PUnit.unit)
 .br (decide (a.2.2.2.2.1 < a.2.2.2.1)) (.br (!Ze a.2.2.2.2.1 (List.length a.2.2.1) || (x2 || (!decide (a.2.2.2.2.1 > 0) || Ze (i64.wrap (a.2.2.2.2.1 - 1)) (List.length a.1)))) (.br (Ze a.2.2.2.2.1 (List.length a.2.2.1)) (.br (x2 || decide (a.2.2.2.2.1 > 0) && decide (x1.1 ≤ (R.get (R.pair (R.int u16) (R.int u8)) a.1 (i64.wrap (a.2.2.2.2.1 - 1))).1)) (.leaf (some (Go1.ret (a.1, false, x3)))) (.leaf (some (Go1.cont (a.1, a.2.1, a.2.2.1, a.2.2.2.1, i64.wrap (a.2.2.2.2.1 + 1), PUnit.unit))))) (.leaf none)) (.leaf none)) (.leaf (some (Go1.brk (a.1, a.2.1, x3))))
def Zp2 : Ora := ZbH true ZAD ZcJ (fun a => 1000000000000)
theorem ZsO : Zbe (envX Tryz.prog [] [] 31 8) (.block 0 (.loop (Zae Tryz.f294.body 0))) Zp2 :=
 ZC (ZF (l := []) trivial [] 31 8) (Zl (by kernel_rfl)) (fun a => by kernel_rfl)
def ZgJ (m : List (Int × Int)) : RT (Option (Bool)) :=
 let x1 := runF true ZcJ (fun a => 1000000000000) (m, false, m, iN (List.length m), 0, ())
 let x2 := getO (false, m, false, m, iN (List.length m), 0, ()) x1
 .br (okB x1) (.br x2.1 (.leaf (some x2.2.2.1)) (.leaf (some (true)))) (.leaf none)
def ZjM (m : List (Int × Int)) : Bool := getO ZnD.dflt (ZgJ m).val
def ZnE (m : List (Int × Int)) : Bool := okB (ZgJ m).val
def ZAE : Entry := Zm ZuU ZnD (fun a => some (ZnE a)) (fun a => ZjM a)
theorem ZAC : Zc Tryz.prog 294 ZAE :=
 pureP 31 [] [(0, Zp2)] ZuU ZnD trivial Tryz.func294 Tryz.call294 ⟨ZsO, trivial⟩ (t := fun a => ZgJ a) (fun a => by kernel_rfl)
abbrev ZlV : List Sh := [Sh.one rcCE]
abbrev ZhI : Rs := Rs.one (Sh.one R.bool)
def Zyj : LS := { n := 34, slots := [(0, .code (Sh.one rcCE)), (2, .code (Sh.one R.bool)), (5, .code (Sh.one (R.int i64))), (6, .code (Sh.one (R.int i64)))], boxes := [], stgs := [] }
def ZcC (a : List (Int × Int) × Bool × Int × Int × PUnit) : RT (Option (Go1 (List (Int × Int) × Bool × Int × Int × PUnit))) :=
 let x1 := (R.get (R.pair (R.int u16) (R.int u8)) a.1 a.2.2.2.1).2 == 0
 let x2 := !Ze a.2.2.2.1 (List.length a.1) || (x1 || (!decide (a.2.2.2.1 > 0) || (!Ze a.2.2.2.1 (List.length a.1) || Ze (i64.wrap (a.2.2.2.1 - 1)) (List.length a.1))))
 let x3 := !x2
 let x4 := !Ze a.2.2.2.1 (List.length a.1) || (x1 || (!decide (a.2.2.2.1 > 0) || Ze a.2.2.2.1 (List.length a.1)))
 .br (decide (a.2.2.2.1 < a.2.2.1)) (.br (x3 || (!x4 || Ze a.2.2.2.1 (List.length a.1))) (.br (x3 || x4) (.br (x2) (.br (x1 || decide (a.2.2.2.1 > 0) && decide ((R.get (R.pair (R.int u16) (R.int u8)) a.1 a.2.2.2.1).1 ≤ (R.get (R.pair (R.int u16) (R.int u8)) a.1 (i64.wrap (a.2.2.2.1 - 1))).1)) (.leaf (some (Go1.ret (a.1, false, a.2.2.1, a.2.2.2.1, PUnit.unit)))) (.leaf (some (Go1.cont (a.1, a.2.1, a.2.2.1, i64.wrap (a.2.2.2.1 + 1), PUnit.unit))))) (.leaf none)) (.leaf none)) (.leaf none)) (.leaf (some (Go1.brk (a.1, a.2.1, a.2.2.1, a.2.2.2.1, PUnit.unit))))
def Zoz : Ora := ZbH true Zyj ZcC (fun a => 1000000000000)
theorem ZqX : Zbe (envX Tryz.prog [] [] 15 8) (.block 0 (.loop (Zae Tryz.f44.body 0))) Zoz :=
 ZC (ZF (l := []) trivial [] 15 8) (Zl (by kernel_rfl)) (fun a => by kernel_rfl)
def Zgw (m : List (Int × Int)) : RT (Option (Bool)) :=
 let x1 := runF true ZcC (fun a => 1000000000000) (m, false, iN (List.length m), 0, ())
 let x2 := getO (false, m, false, iN (List.length m), 0, ()) x1
 .br (okB x1) (.br x2.1 (.leaf (some x2.2.2.1)) (.leaf (some (true)))) (.leaf none)
def Ziq (m : List (Int × Int)) : Bool := getO ZhI.dflt (Zgw m).val
def Zgx (m : List (Int × Int)) : Bool := okB (Zgw m).val
def ZlW : Entry := Zm ZlV ZhI (fun a => some (Zgx a)) (fun a => Ziq a)
theorem Zip : Zc Tryz.prog 44 ZlW :=
 pureP 15 [] [(0, Zoz)] ZlV ZhI trivial Tryz.func44 Tryz.call44 ⟨ZqX, trivial⟩ (t := fun a => Zgw a) (fun a => by kernel_rfl)
abbrev Zq5 : List Sh := [Sh.one rcCE, Sh.one (R.int u16)]
abbrev Zl7 : Rs := Rs.one (Sh.one (R.int u8))
def ZCq : LS := { n := 25, slots := [(0, .code (Sh.one rcCE)), (1, .code (Sh.one (R.int u16))), (4, .code (Sh.one (R.int u8))), (5, .code (Sh.one (R.int i64)))], boxes := [], stgs := [] }
def ZeE (a : List (Int × Int) × Int × Int × Int × PUnit) : RT (Option (Go1 (List (Int × Int) × Int × Int × Int × PUnit))) :=
 let x1 := (R.get (R.pair (R.int u16) (R.int u8)) a.1 a.2.2.2.1).1 == a.2.1
 .br (decide (a.2.2.2.1 ≥ 0)) (.br (!Ze a.2.2.2.1 (List.length a.1) || (!x1 || Ze a.2.2.2.1 (List.length a.1))) (.br (Ze a.2.2.2.1 (List.length a.1)) (.br (x1) (.leaf (some (Go1.ret (a.1, a.2.1, (R.get (R.pair (R.int u16) (R.int u8)) a.1 a.2.2.2.1).2, a.2.2.2.1, PUnit.unit)))) (.leaf (some (Go1.cont (a.1, a.2.1, a.2.2.1, i64.wrap (a.2.2.2.1 - 1), PUnit.unit))))) (.leaf none)) (.leaf none)) (.leaf (some (Go1.brk (a.1, a.2.1, a.2.2.1, a.2.2.2.1, PUnit.unit))))
def Zt5 : Ora := ZbH true ZCq ZeE (fun a => 1000000000000)
theorem ZvM : Zbe (envX Tryz.prog [] [] 63 8) (.block 0 (.loop (Zae Tryz.f35.body 0))) Zt5 :=
 ZC (ZF (l := []) trivial [] 63 8) (Zl (by kernel_rfl)) (fun a => by kernel_rfl)
def ZkW (m : List (Int × Int)) (t : Int) : RT (Option (Int)) :=
 let x1 : List (Int × Int) × Int × Int × Int × PUnit := (m, t, 0, i64.wrap (iN (List.length m) - 1), ())
 let x2 := runF true ZeE (fun a => 1000000000000) x1
 let x3 := getO (false, x1) x2
 .br (okB x2) (.br x3.1 (.leaf (some x3.2.2.2.1)) (.leaf (some (0)))) (.leaf none)
def ZFz (m : List (Int × Int)) (t : Int) : Int := getO Zl7.dflt (ZkW m t).val
def Zyz (m : List (Int × Int)) (t : Int) : Bool := okB (ZkW m t).val
def ZHH : Entry := Zm Zq5 Zl7 (fun a => some (Zyz a.1 a.2)) (fun a => ZFz a.1 a.2)
theorem ZCp : Zc Tryz.prog 35 ZHH :=
 pureP 63 [] [(0, Zt5)] Zq5 Zl7 trivial Tryz.func35 Tryz.call35 ⟨ZvM, trivial⟩ (t := fun a => ZkW a.1 a.2) (fun a => by kernel_rfl)
abbrev Zyo : List Sh := [Sh.one rcCE, Sh.agg (R.pair (R.int u16) (R.int u8))]
abbrev ZqZ : Rs := Rs.one (Sh.one rcCE)
def ZCh : LS := { n := 53, slots := [(3, .fix (A.loc 0 0)), (5, .tip 0), (6, .code (Sh.one R.bool)), (9, .code (Sh.one rcCE)), (10, .code (Sh.one (R.int i64))), (11, .code (Sh.one (R.int i64)))], boxes := [[.many (R.pair (R.int u16) (R.int u8))]], stgs := [⟨(R.pair (R.int u16) (R.int u8)), 106, true⟩] }
def ZfC (a : QT6) : RT (Option (Go1 (QT6))) :=
 let x1 : Int × Int := R.get (R.pair (R.int u16) (R.int u8)) a.2.1 a.2.2.2.1
 let x2 := x1.1
 let x3 := !a.1 && decide (x2 ≥ a.2.2.2.2.1.1)
 let x4 : List (Int × Int) := a.2.2.2.2.2.1 ++ [a.2.2.2.2.1]
 let x5 := !x3 || (!a.2.2.2.2.1.2 != 0 || Nat.ble (List.length x4) most)
 let x6 := x2 != a.2.2.2.2.1.1
 let x7 : List (Int × Int) := bif x3 then bif a.2.2.2.2.1.2 != 0 then x4 else a.2.2.2.2.2.1 else a.2.2.2.2.2.1
 let x8 : List (Int × Int) := x7 ++ [x1]
 .br (decide (a.2.2.2.1 < a.2.2.1)) (.br (!Ze a.2.2.2.1 (List.length a.2.1) || (!x5 || (!x6 || Nat.ble (List.length x8) most))) (.br (!Ze a.2.2.2.1 (List.length a.2.1) || x5) (.br (Ze a.2.2.2.1 (List.length a.2.1)) (.leaf (some (Go1.cont (x3 || a.1, a.2.1, a.2.2.1, i64.wrap (a.2.2.2.1 + 1), a.2.2.2.2.1, bif x6 then x8 else x7, PUnit.unit)))) (.leaf none)) (.leaf none)) (.leaf none)) (.leaf (some (Go1.brk (a.1, a.2.1, a.2.2.1, a.2.2.2.1, a.2.2.2.2.1, a.2.2.2.2.2.1, PUnit.unit))))
def ZtN : Ora := ZbH false ZCh ZfC (fun a => 1000000000000)
theorem ZvF : Zbe (envX Tryz.prog [] [] 511 8) (.block 0 (.loop (Zae Tryz.f149.body 0))) ZtN :=
 ZC (ZF (l := []) trivial [] 511 8) (Zl (by kernel_rfl)) (fun a => by kernel_rfl)
def ZkU (m : List (Int × Int)) (c : Int × Int) : RT (Option (List (Int × Int))) :=
 let x1 : QT6 := (false, m, iN (List.length m), 0, c, [], ())
 let x2 := runF false ZfC (fun a => 1000000000000) x1
 let x3 : QT6 := (getO (false, x1) x2).2
 let x4 := x3.2.2.2.2
 let x5 := x4.1
 let x6 := !x3.1 && x5.2 != 0
 let x7 := x4.2.1
 let x8 : List (Int × Int) := x7 ++ [x5]
 .br (okB x2) (.br (!x6 || Nat.ble (List.length x8) most) (.leaf (some (bif x6 then x8 else x7))) (.leaf none)) (.leaf none)
def Zyp (m : List (Int × Int)) (c : Int × Int) : List (Int × Int) := getO ZqZ.dflt (ZkU m c).val
def ZoB (m : List (Int × Int)) (c : Int × Int) : Bool := okB (ZkU m c).val
def ZtO : Entry := Zm Zyo ZqZ (fun a => some (ZoB a.1 a.2)) (fun a => Zyp a.1 a.2)
theorem ZtM : Zc Tryz.prog 149 ZtO :=
 pureP 511 [] [(0, ZtN)] Zyo ZqZ trivial Tryz.func149 Tryz.call149 ⟨ZvF, trivial⟩ (t := fun a => ZkU a.1 a.2) (fun a => by kernel_rfl)
abbrev Zyr : List Sh := [Sh.one rcCE]
abbrev Zq0 : Rs := Rs.one (Sh.one rcCE)
def ZCk : LS := { n := 21, slots := [(3, .code (Sh.one rcCE)), (10, .code (Sh.one rcCE)), (11, .code (Sh.one (R.int i64))), (12, .code (Sh.one (R.int i64)))], boxes := [], stgs := [] }
def ZfD (a : List (Int × Int) × List (Int × Int) × Int × Int × PUnit) : RT (Option (Go1 (List (Int × Int) × List (Int × Int) × Int × Int × PUnit))) :=
 let x1 : Int × Int := R.get (R.pair (R.int u16) (R.int u8)) a.2.1 a.2.2.2.1
 .br (decide (a.2.2.2.1 < a.2.2.1)) (.br (!Ze a.2.2.2.1 (List.length a.2.1) || ZoB a.1 x1) (.br (Ze a.2.2.2.1 (List.length a.2.1)) (.leaf (some (Go1.cont (Zyp a.1 x1, a.2.1, a.2.2.1, i64.wrap (a.2.2.2.1 + 1), PUnit.unit)))) (.leaf none)) (.leaf none)) (.leaf (some (Go1.brk (a.1, a.2.1, a.2.2.1, a.2.2.2.1, PUnit.unit))))
def ZtR : Ora := ZbH false ZCk ZfD (fun a => 1000000000000)
theorem ZvH : Zbe (envX Tryz.prog [(44, ZlW), (149, ZtO)] [] 63 8) (.block 0 (.loop (Zae Tryz.f92.body 0))) ZtR :=
 ZC (ZF (l := [(44, ZlW), (149, ZtO)]) ⟨Zip, ZtM, trivial⟩ [] 63 8) (Zl (by kernel_rfl)) (fun a => by kernel_rfl)
def ZkV (l : List (Int × Int)) : RT (Option (List (Int × Int))) :=
 let x1 := runF false ZfD (fun a => 1000000000000) ([], l, iN (List.length l), 0, ())
 .br (Zgx l) (.br (!Ziq l || Nat.ble (List.length ([] ++ l)) most) (.br (Ziq l) (.leaf (some ([] ++ l))) (.br (okB x1) (.leaf (some (getO (false, [], l, iN (List.length l), 0, ()) x1).2.1)) (.leaf none))) (.leaf none)) (.leaf none)
def ZCl (l : List (Int × Int)) : List (Int × Int) := getO Zq0.dflt (ZkV l).val
def ZtT (l : List (Int × Int)) : Bool := okB (ZkV l).val
def ZtS : Entry := Zm Zyr Zq0 (fun a => some (ZtT a)) (fun a => ZCl a)
theorem ZtQ : Zc Tryz.prog 92 ZtS :=
 pureP 63 [(44, ZlW), (149, ZtO)] [(0, ZtR)] Zyr Zq0 ⟨Zip, ZtM, trivial⟩ Tryz.func92 Tryz.call92 ⟨ZvH, trivial⟩ (t := fun a => ZkV a) (fun a => by kernel_rfl)
abbrev Zq2 : List Sh := [Sh.one (R.int u16), Sh.one (R.sl (R.int u8))]
abbrev Zl5 : Rs := Rs.one (Sh.one rcCE)
def ZCn : LS := { n := 27, slots := [(0, .code (Sh.one (R.int u16))), (1, .code (Sh.one (R.sl (R.int u8)))), (5, .tip 0), (8, .code (Sh.one (R.int i64))), (9, .code (Sh.one (R.int i64)))], boxes := [], stgs := [⟨(R.pair (R.int u16) (R.int u8)), 106, true⟩] }
def ZfE (a : QT15) : RT (Option (Go1 (QT15))) :=
 let x1 : List (Int × Int) := a.2.2.2.2.1 ++ [(u16.wrap (a.1 + u16.wrap a.2.2.2.1), R.get (R.int u8) a.2.1 a.2.2.2.1)]
 let x2 := !Ze a.2.2.2.1 (List.length a.2.1) || Nat.ble (List.length x1) most
 .br (decide (a.2.2.2.1 < a.2.2.1)) (.br (!x2 || Ze a.2.2.2.1 (List.length a.2.1)) (.br (x2) (.leaf (some (Go1.cont (a.1, a.2.1, a.2.2.1, i64.wrap (a.2.2.2.1 + 1), x1, PUnit.unit)))) (.leaf none)) (.leaf none)) (.leaf (some (Go1.brk (a.1, a.2.1, a.2.2.1, a.2.2.2.1, a.2.2.2.2.1, PUnit.unit))))
def Zt4 : Ora := ZbH false ZCn ZfE (fun a => 1000000000000)
theorem ZvK : Zbe (envX Tryz.prog [(92, ZtS)] [] 127 8) (.block 0 (.loop (Zae Tryz.f32.body 0))) Zt4 :=
 ZC (ZF (l := [(92, ZtS)]) ⟨ZtQ, trivial⟩ [] 127 8) (Zl (by kernel_rfl)) (fun a => by kernel_rfl)
def Zpi (t : Int) (b : List Int) : RT (Option (List (Int × Int))) :=
 let x1 := runF false ZfE (fun a => 1000000000000) (t, b, iN (List.length b), 0, [], ())
 let x2 : List (Int × Int) := (getO (false, t, b, iN (List.length b), 0, [], ()) x1).2.2.2.2.2.1
 .br (okB x1) (.br (ZtT x2) (.leaf (some (ZCl x2))) (.leaf none)) (.leaf none)
def ZFy (t : Int) (b : List Int) : List (Int × Int) := getO Zl5.dflt (Zpi t b).val
def Zyv (t : Int) (b : List Int) : Bool := okB (Zpi t b).val
def ZHC : Entry := Zm Zq2 Zl5 (fun a => some (Zyv a.1 a.2)) (fun a => ZFy a.1 a.2)
theorem ZCm : Zc Tryz.prog 32 ZHC :=
 pureP 127 [(92, ZtS)] [(0, Zt4)] Zq2 Zl5 ⟨ZtQ, trivial⟩ Tryz.func32 Tryz.call32 ⟨ZvK, trivial⟩ (t := fun a => Zpi a.1 a.2) (fun a => by kernel_rfl)
abbrev ZFA : Rs := Rs.one (Sh.one (R.int i64))
def ZfF (a : QT14) : RT (Option (Go1 (QT14))) :=
 let x1 : QT10 := R.get (R.pair (R.int u16) (R.pair (R.int u16) (R.pair R.bool (R.int i64)))) a.2.2.1 a.2.2.2.2.1
 let x2 : List (QT10) × Int × Int × PUnit := (a.2.2.1, a.2.2.2.1, a.2.2.2.2.1, PUnit.unit)
 .br (decide (a.2.2.2.2.1 < a.2.2.2.1)) (.br (Ze a.2.2.2.2.1 (List.length a.2.2.1)) (.br (decide (x1.1 ≤ a.1) && decide (a.1 ≤ x1.2.1)) (.leaf (some (Go1.ret (a.1, a.2.2.2.2.1, x2)))) (.leaf (some (Go1.cont (a.1, a.2.1, a.2.2.1, a.2.2.2.1, i64.wrap (a.2.2.2.2.1 + 1), PUnit.unit))))) (.leaf none)) (.leaf (some (Go1.brk (a.1, a.2.1, x2))))
def ZkX (l : List (QT10)) (t : Int) : RT (Option (Int)) :=
 let x1 := runF true ZfF (fun a => 1000000000000) (t, 0, l, iN (List.length l), 0, ())
 let x2 := getO (false, t, 0, l, iN (List.length l), 0, ()) x1
 .br (okB x1) (.br x2.1 (.leaf (some x2.2.2.1)) (.leaf (some (-1)))) (.leaf none)
def ZFB (l : List (QT10)) (t : Int) : Int := getO ZFA.dflt (ZkX l t).val
def ZyB (l : List (QT10)) (t : Int) : Bool := okB (ZkX l t).val
abbrev ZzQ : List Sh := [Sh.one rcRG, Sh.one (R.int u16)]
abbrev Zsd : Rs := Rs.one (Sh.one (R.int i64))
def ZCW : LS := { n := 26, slots := [(1, .code (Sh.one (R.int u16))), (4, .code (Sh.one (R.int i64))), (7, .code (Sh.one rcRG)), (8, .code (Sh.one (R.int i64))), (9, .code (Sh.one (R.int i64)))], boxes := [], stgs := [] }
def ZuB (a : QT14) : RT (Option (Go1 (QT14))) :=
 let x1 : QT10 := R.get (R.pair (R.int u16) (R.pair (R.int u16) (R.pair R.bool (R.int i64)))) a.2.2.1 a.2.2.2.2.1
 let x2 : List (QT10) × Int × Int × PUnit := (a.2.2.1, a.2.2.2.1, a.2.2.2.2.1, PUnit.unit)
 .br (decide (a.2.2.2.2.1 < a.2.2.2.1)) (.br (Ze a.2.2.2.2.1 (List.length a.2.2.1)) (.br (decide (x1.1 ≤ a.1) && decide (a.1 ≤ x1.2.1)) (.leaf (some (Go1.ret (a.1, a.2.2.2.2.1, x2)))) (.leaf (some (Go1.cont (a.1, a.2.1, a.2.2.1, a.2.2.2.1, i64.wrap (a.2.2.2.2.1 + 1), PUnit.unit))))) (.leaf none)) (.leaf (some (Go1.brk (a.1, a.2.1, x2))))
def ZuC : Ora := ZbH true ZCW ZuB (fun a => 1000000000000)
theorem Zwd : Zbe (envX Tryz.prog [] [] 127 8) (.block 0 (.loop (Zae Tryz.f245.body 0))) ZuC :=
 ZC (ZF (l := []) trivial [] 127 8) (Zl (by kernel_rfl)) (fun a => by kernel_rfl)
def ZuA (l : List (QT10)) (t : Int) : RT (Option (Int)) :=
 let x1 := runF true ZuB (fun a => 1000000000000) (t, 0, l, iN (List.length l), 0, ())
 let x2 := getO (false, t, 0, l, iN (List.length l), 0, ()) x1
 .br (okB x1) (.br x2.1 (.leaf (some x2.2.2.1)) (.leaf (some (-1)))) (.leaf none)
def Zse (l : List (QT10)) (t : Int) : Int := getO Zsd.dflt (ZuA l t).val
def ZuD (l : List (QT10)) (t : Int) : Bool := okB (ZuA l t).val
def ZzR : Entry := Zm ZzQ Zsd (fun a => some (ZuD a.1 a.2)) (fun a => Zse a.1 a.2)
theorem Zuz : Zc Tryz.prog 245 ZzR :=
 pureP 127 [] [(0, ZuC)] ZzQ Zsd trivial Tryz.func245 Tryz.call245 ⟨Zwd, trivial⟩ (t := fun a => ZuA a.1 a.2) (fun a => by kernel_rfl)
end
end Go.Proofs.YtghoimllhpjkjaaGreat
namespace Go.Proofs.Cells
def getX (l : List Cell) (a : Int) : Int := ((flt a l).getLast?.map Prod.snd).getD 0
def Vld (m : List Cell) : Prop := m.Pairwise (fun a b => a.1 < b.1) ∧ ∀ c ∈ m, c.2 ≠ 0
theorem Zw7 {l l' : List Cell} (h : Sm l l') (a : Int) : getX l a = getX l' a := by rw [getX, getX, h a]
theorem Vld.srt {m : List Cell} (h : Vld m) : Srt m := h.1.imp fun h => Int.le_of_lt h
theorem Vld.tail {c : Cell} {m : List Cell} (h : Vld (c :: m)) : Vld m := ⟨(List.pairwise_cons.1 h.1).2, fun x hx => h.2 x (List.mem_cons_of_mem _ hx)⟩
theorem Zvb (a : Int) : getX [] a = 0 := rfl
theorem ZhY (a : Int) (c : Cell) (l : List Cell) : flt a (c :: l) = if c.1 = a then c :: flt a l else flt a l := by
 by_cases h : c.1 = a <;> simp [flt, h]
theorem ZcN (c : Cell) (l : List Cell) (a : Int) : getX (c :: l) a = if c.1 = a ∧ flt a l = [] then c.2 else getX l a := by
 simp only [getX, ZhY]
 by_cases h : c.1 = a
 ·simp only [h, if_true, true_and]
  cases hf : flt a l with
  | nil => simp
  | cons x r => simp [List.getLast?_cons_cons]
 ·simp [h]
theorem Vld.flt {m : List Cell} (h : Vld m) (a : Int) : Cells.flt a m = if getX m a = 0 then [] else [(a, getX m a)] := by
 induction m with
 | nil => simp [Cells.flt, Zvb]
 | cons c m ih =>
  have ih := ih h.tail
  have h1 := List.pairwise_cons.1 h.1
  by_cases hc : c.1 = a
  ·have hn : Cells.flt a m = [] := ZcO fun x hx => by have := h1.1 x hx; omega
   have hz := h.2 c (by simp)
   rw [ZhY, ZcN]
   simp only [hc, hn, and_self, if_true, hz, if_false]
   rw [← hc]
  ·rw [ZhY, ZcN]
   simp only [hc, false_and, if_false, ih]
theorem ZE0 {m m' : List Cell} (h : Vld m) (h' : Vld m') (e : ∀ a, getX m a = getX m' a) : m = m' :=
 uniq h.srt h'.srt fun k => by rw [h.flt, h'.flt, e k]
def dd : List Cell → List Cell
 | [] => []
 | x :: r => match r with
  | [] => if x.2 = 0 then [] else [x]
  | y :: _ => if x.1 = y.1 then dd r else if x.2 = 0 then dd r else x :: dd r
theorem Zlp : ∀ {l : List Cell} {c : Cell}, c ∈ dd l → c ∈ l ∧ c.2 ≠ 0
 | [], c, h => by simp [dd] at h
 | [x], c, h => by
  simp only [dd] at h
  split at h
  ·simp at h
  ·rename_i hz; simp at h; subst h; exact ⟨by simp, hz⟩
 | x :: y :: r, c, h => by
  rw [dd] at h
  split at h
  ·have := Zlp h; exact ⟨List.mem_cons_of_mem _ this.1, this.2⟩
  ·split at h
   ·have := Zlp h; exact ⟨List.mem_cons_of_mem _ this.1, this.2⟩
   ·rename_i hz
    rcases List.mem_cons.1 h with e | e
    ·subst e; exact ⟨by simp, hz⟩
    ·have := Zlp e; exact ⟨List.mem_cons_of_mem _ this.1, this.2⟩
theorem ZET : ∀ {l : List Cell}, Srt l → Vld (dd l)
 | [], _ => ⟨List.Pairwise.nil, fun c h => by simp [dd] at h⟩
 | [x], _ => by
  refine ⟨?_, fun c h => (Zlp h).2⟩
  simp only [dd]; split <;> simp
 | x :: y :: r, h => by
  have h1 := List.pairwise_cons.1 h
  have ih := ZET (l := y :: r) h1.2
  have h2 := List.pairwise_cons.1 h1.2
  rw [dd]
  split
  ·exact ih
  ·rename_i hne
   split
   ·exact ih
   ·rename_i hz
    refine ⟨List.pairwise_cons.2 ⟨fun c hc => ?_, ih.1⟩, fun c hc => ?_⟩
    ·have hxy := h1.1 y (by simp)
     rcases List.mem_cons.1 (Zlp hc).1 with e | e
     ·rw [e]; omega
     ·have := h2.1 c e; omega
    ·rcases List.mem_cons.1 hc with e | e
     ·rw [e]; exact hz
     ·exact ih.2 c e
theorem ZEU : ∀ {l : List Cell}, Srt l → ∀ a, getX (dd l) a = getX l a
 | [], _, _ => rfl
 | [x], _, a => by
  simp only [dd]
  split
  ·rename_i hz; rw [ZcN]; simp [flt, getX, hz]
  ·rfl
 | x :: y :: r, h, a => by
  have h1 := List.pairwise_cons.1 h
  have ih := ZEU (l := y :: r) h1.2 a
  have h2 := List.pairwise_cons.1 h1.2
  rw [dd, ZcN x (y :: r)]
  by_cases hxy : x.1 = y.1
  ·rw [if_pos hxy, ih]
   by_cases hc : x.1 = a ∧ flt a (y :: r) = []
   ·obtain ⟨e, e2⟩ := hc
    rw [ZhY, if_pos (by rw [← hxy]; exact e)] at e2; simp at e2
   ·rw [if_neg hc]
  ·rw [if_neg hxy]
   have hlt : ∀ c ∈ y :: r, x.1 < c.1 := fun c hc => by
    have := h1.1 y (by simp)
    rcases List.mem_cons.1 hc with e | e
    ·rw [e]; omega
    ·have := h2.1 c e; omega
   by_cases hc : x.1 = a
   ·have hn : flt a (y :: r) = [] := ZcO fun c hc' => by have := hlt c hc'; omega
    have hn2 : flt a (dd (y :: r)) = [] := ZcO fun c hc' => by have := hlt c (Zlp hc').1; omega
    by_cases hz : x.2 = 0
    ·rw [if_pos hz, if_pos ⟨hc, hn⟩, hz, getX, hn2]; rfl
    ·rw [if_neg hz, if_pos ⟨hc, hn⟩, ZcN, if_pos ⟨hc, hn2⟩]
   ·by_cases hz : x.2 = 0
    ·rw [if_pos hz, if_neg (fun h => hc h.1), ih]
    ·rw [if_neg hz, if_neg (fun h => hc h.1), ZcN, if_neg (fun h => hc h.1), ih]
def putX : List Cell → Cell → List Cell
 | [], c => if c.2 = 0 then [] else [c]
 | x :: r, c => if x.1 < c.1 then x :: putX r c else if c.2 = 0 then (if x.1 = c.1 then r else x :: r) else if x.1 = c.1 then c :: r else c :: x :: r
theorem Zmf : ∀ {m : List Cell} {c x : Cell}, x ∈ putX m c → x = c ∨ x ∈ m
 | [], c, x, h => by
  simp only [putX] at h
  split at h
  ·simp at h
  ·left; simpa using h
 | y :: r, c, x, h => by
  simp only [putX] at h
  split at h
  ·rcases List.mem_cons.1 h with e | e
   ·right; simp [e]
   ·rcases Zmf e with e | e
    ·exact .inl e
    ·right; simp [e]
  ·split at h
   ·split at h
    ·right; simp [h]
    ·right; exact h
   ·split at h
    ·rcases List.mem_cons.1 h with e | e
     ·exact .inl e
     ·right; simp [e]
    ·rcases List.mem_cons.1 h with e | e
     ·exact .inl e
     ·right; exact e
theorem Zme : ∀ {m : List Cell} {c : Cell}, Vld m → Vld (putX m c)
 | [], c, _ => by
  simp only [putX]
  split
  ·exact ⟨List.Pairwise.nil, fun c h => by simp at h⟩
  ·rename_i hz; exact ⟨by simp, fun x h => by simp at h; rw [h]; exact hz⟩
 | y :: r, c, h => by
  have h1 := List.pairwise_cons.1 h.1
  have hy := h.2 y (by simp)
  simp only [putX]
  split
  ·rename_i hlt
   have ih := Zme (c := c) h.tail
   refine ⟨List.pairwise_cons.2 ⟨fun x hx => ?_, ih.1⟩, fun x hx => ?_⟩
   ·rcases Zmf hx with e | e
    ·rw [e]; exact hlt
    ·exact h1.1 x e
   ·rcases List.mem_cons.1 hx with e | e
    ·rw [e]; exact hy
    ·exact ih.2 x e
  ·rename_i hge
   split
   ·split
    ·exact h.tail
    ·exact h
   ·rename_i hz
    split
    ·rename_i he
     refine ⟨List.pairwise_cons.2 ⟨fun x hx => ?_, h1.2⟩, fun x hx => ?_⟩
     ·have := h1.1 x hx; omega
     ·rcases List.mem_cons.1 hx with e | e
      ·rw [e]; exact hz
      ·exact h.2 x (List.mem_cons_of_mem _ e)
    ·rename_i hne
     refine ⟨List.pairwise_cons.2 ⟨fun x hx => ?_, h.1⟩, fun x hx => ?_⟩
     ·rcases List.mem_cons.1 hx with e | e
      ·rw [e]; omega
      ·have := h1.1 x e; omega
     ·rcases List.mem_cons.1 hx with e | e
      ·rw [e]; exact hz
      ·exact h.2 x e
theorem ZeK {l : List Cell} {a : Int} (h : ∀ c ∈ l, c.1 ≠ a) : getX l a = 0 := by rw [getX, ZcO h]; rfl
theorem Zcx {x : Cell} {r : List Cell} (h : ∀ c ∈ r, x.1 < c.1) (a : Int) : getX (x :: r) a = if x.1 = a then x.2 else getX r a := by
 rw [ZcN]
 by_cases hx : x.1 = a
 ·have : flt a r = [] := ZcO fun c hc => by have := h c hc; omega
  simp [hx, this]
 ·simp [hx]
theorem Zmh : ∀ {m : List Cell} {c : Cell}, Vld m → ∀ a, getX (putX m c) a = if c.1 = a then c.2 else getX m a
 | [], c, _, a => by
  simp only [putX]
  split
  ·rename_i hz; rw [Zvb, hz]; simp
  ·rw [Zcx (by simp)]
 | y :: r, c, h, a => by
  have h1 := List.pairwise_cons.1 h.1
  simp only [putX]
  split
  ·rename_i hlt
   rw [Zcx (fun x hx => by
    rcases Zmf hx with e | e
    ·rw [e]; exact hlt
    ·exact h1.1 x e), Zcx h1.1, Zmh h.tail a]
   by_cases e1 : y.1 = a
   ·simp only [e1, if_true]; rw [if_neg (by omega)]
   ·simp [e1]
  ·rename_i hge
   split
   ·rename_i hz
    split
    ·rename_i he
     rw [Zcx h1.1]
     by_cases e : c.1 = a
     ·rw [if_pos e, hz]
      exact ZeK fun x hx => by have := h1.1 x hx; omega
     ·rw [if_neg e, if_neg (by omega)]
    ·rename_i hne
     by_cases e : c.1 = a
     ·rw [if_pos e, hz]
      exact ZeK fun x hx => by
       rcases List.mem_cons.1 hx with e' | e'
       ·rw [e']; omega
       ·have := h1.1 x e'; omega
     ·rw [if_neg e]
   ·split
    ·rename_i he
     rw [Zcx (fun x hx => by have := h1.1 x hx; omega), Zcx h1.1]
     by_cases e : c.1 = a
     ·simp [e]
     ·rw [if_neg e, if_neg e, if_neg (by omega)]
    ·rename_i hne
     rw [Zcx (fun x hx => by
      rcases List.mem_cons.1 hx with e | e
      ·rw [e]; omega
      ·have := h1.1 x e; omega)]
def normX (l : List Cell) : List Cell := l.foldl putX []
theorem ZBf (l : List Cell) (c : Cell) (a : Int) : getX (l ++ [c]) a = if c.1 = a then c.2 else getX l a := by
 rw [getX, getX, Zbq]
 by_cases h : c.1 = a
 ·have : flt a [c] = [c] := by simp [flt, h]
  rw [this, List.getLast?_append]; simp [h]
 ·have : flt a [c] = [] := ZcO fun x hx => by simp at hx; rw [hx]; exact h
  rw [this]; simp [h]
theorem Zkc : ∀ (l : List Cell) {m : List Cell}, Vld m → Vld (l.foldl putX m) ∧ ∀ a, getX (l.foldl putX m) a = getX (m ++ l) a
 | [], m, h => ⟨h, fun a => by simp⟩
 | c :: l, m, h => by
  obtain ⟨h1, h2⟩ := Zkc l (Zme (c := c) h)
  refine ⟨h1, fun a => ?_⟩
  rw [List.foldl_cons, h2 a]
  have e : m ++ c :: l = (m ++ [c]) ++ l := by simp
  rw [e]
  have key : ∀ {p q : List Cell}, (∀ b, getX p b = getX q b) → ∀ l b, getX (p ++ l) b = getX (q ++ l) b := by
   intro p q hpq l b
   simp only [getX, Zbq, List.getLast?_append]
   cases hl : (flt b l).getLast? with
   | none => simpa [getX] using hpq b
   | some x => simp
  exact key (fun b => by rw [Zmh h, ZBf]) l a
theorem Zbz (l : List Cell) : Vld (normX l) := (Zkc l ⟨List.Pairwise.nil, fun c h => by simp at h⟩).1
theorem ZU (l : List Cell) (a : Int) : getX (normX l) a = getX l a := (Zkc l ⟨List.Pairwise.nil, fun c h => by simp at h⟩).2 a
theorem ZuM {l m : List Cell} (h : Vld m) (e : ∀ a, getX m a = getX l a) : normX l = m := ZE0 (Zbz l) h fun a => by rw [ZU, e]
theorem ZgI {m : List Cell} (h : Vld m) : normX m = m := ZuM h fun _ => rfl
theorem ZwT (l : List Cell) : dd (isort l) = normX l :=
 (ZuM (ZET (ZaW l)) fun a => by rw [ZEU (ZaW l), Zw7 (Zdy l)]).symm
end Go.Proofs.Cells
open Go Go.S3 Go.Proofs Go.Proofs.Cells
namespace Go.Proofs.YtghoimllhpjkjaaGreat
noncomputable section
abbrev Z0 := QT10
theorem ZnY (l : List Cell) (i : Nat) (h : i < l.length) : l.drop i = el l i :: l.drop (i + 1) := by
 rw [List.drop_eq_getElem_cons h]
 have := ZbN l i h
 rw [List.getElem?_eq_getElem h, oinj] at this
 rw [this]
theorem ZqG (l : List Cell) (i : Nat) (h : i < l.length) : l.take (i + 1) = l.take i ++ [el l i] := by
 rw [List.take_add_one, ZbN l i h]; rfl
theorem ZIx (l : List Cell) (i : Nat) (h : i < l.length) : el l i ∈ l := List.mem_iff_getElem?.2 ⟨i, ZbN l i h⟩
def okAt (m : List Cell) (i : Nat) : Bool := !((el m i).2 == 0 || (decide ((i : Int) > 0) && decide ((el m i).1 ≤ (el m (i - 1)).1)))
def vldB (m : List Cell) : Bool := (List.range m.length).all (okAt m)
theorem ZkB {m : List Cell} {i : Nat} (hi : i < m.length) (h : okAt m i = false) : vldB m = false := by
 rw [Bool.eq_false_iff]; intro he
 have := List.all_eq_true.1 he i (List.mem_range.2 hi)
 rw [h] at this; exact absurd this (by simp)
theorem Zh3 {m : List Cell} (h : ∀ i, i < m.length → okAt m i = true) : vldB m = true := List.all_eq_true.2 fun i hi => h i (List.mem_range.1 hi)
theorem Zlt {m : List Cell} : vldB m = true ↔ Vld m := by
 constructor
 ·intro h
  have ha : ∀ i, i < m.length → okAt m i = true := fun i hi => List.all_eq_true.1 h i (List.mem_range.2 hi)
  have hs : ∀ i, i + 1 < m.length → (el m i).1 < (el m (i + 1)).1 := fun i hi => by
   have := ha (i + 1) hi
   simp only [okAt, Bool.not_eq_true', Bool.or_eq_false_iff, Bool.and_eq_false_iff, decide_eq_false_iff_not, Nat.add_sub_cancel] at this
   rcases this.2 with e | e
   ·omega
   ·omega
  refine ⟨?_, fun c hc => ?_⟩
  ·rw [List.pairwise_iff_getElem]
   have key : ∀ d i, i + d + 1 < m.length → (el m i).1 < (el m (i + d + 1)).1 := by
    intro d
    induction d with
    | zero => intro i hi; exact hs i hi
    | succ d ih => intro i hi; have h1 := ih i (by omega); have h2 := hs (i + d + 1) (by omega); rw [show i + (d + 1) + 1 = i + d + 1 + 1 by omega]; omega
   intro i j hi hj hij
   have := key (j - i - 1) i (by omega)
   rw [show i + (j - i - 1) + 1 = j by omega] at this
   have e1 := ZbN m i hi
   have e2 := ZbN m j hj
   rw [List.getElem?_eq_getElem hi, oinj] at e1
   rw [List.getElem?_eq_getElem hj, oinj] at e2
   rw [e1, e2]; exact this
  ·obtain ⟨i, hi⟩ := List.mem_iff_getElem?.1 hc
   have hlt := (List.getElem?_eq_some_iff.1 hi).1
   rw [ZbN m i hlt, oinj] at hi
   have := ha i hlt
   rw [← hi]
   simp only [okAt, Bool.not_eq_true', Bool.or_eq_false_iff, beq_eq_false_iff_ne] at this
   exact this.1
 ·intro h
  refine Zh3 fun i hi => ?_
  simp only [okAt, Bool.not_eq_true', Bool.or_eq_false_iff, beq_eq_false_iff_ne, Bool.and_eq_false_iff, decide_eq_false_iff_not]
  refine ⟨h.2 _ (ZIx m i hi), ?_⟩
  by_cases h0 : i = 0
  ·left; omega
  ·right
   have := List.pairwise_iff_getElem.1 h.1 (i - 1) i (by omega) hi (by omega)
   have e1 := ZbN m (i - 1) (by omega)
   have e2 := ZbN m i hi
   rw [List.getElem?_eq_getElem (by omega), oinj] at e1
   rw [List.getElem?_eq_getElem hi, oinj] at e2
   rw [e1, e2] at this; omega
theorem ZG7 (i : Nat) (h : 0 < i) (h2 : i ≤ 4611686018427387904) : IntKind.wrap .i64 ((i : Int) - 1) = ((i - 1 : Nat) : Int) := by rw [wrap_i64 _ (by omega) (by omega)]; omega
theorem ZAm (m : List Cell) (i : Nat) : ((el m i).2 == 0 || (decide ((i : Int) > 0) && decide ((el m i).1 ≤ (el m (i - 1)).1))) = !okAt m i := by simp only [okAt, Bool.not_not]
theorem ZwV (m : List Cell) (hm : m.length ≤ most) : (ZgJ m).val = some (vldB m) := by
 have hms := mst
 obtain ⟨r, hr, hR⟩ := ZW (fl := true) (t := ZcJ) (fuel := fun a => 1000000000000)
  (I := fun a => ∃ i : Nat, i ≤ m.length ∧ (∀ k, k < i → okAt m k = true) ∧ a = (m, false, m, (m.length : Int), (i : Int), ()))
  (m := fun a => Int.toNat (a.2.2.2.1 - a.2.2.2.2.1)) (R := fun r => (r.1 = false ∧ vldB m = true) ∨ (r.1 = true ∧ vldB m = false ∧ r.2.2.1 = false))
  (fun a hi => by
   obtain ⟨i, hi, hk, rfl⟩ := hi
   by_cases hlt : i < m.length
   ·have d : decide ((i : Int) < (m.length : Int)) = true := by simpa using hlt
    have r1 := Zam m i hlt
    have hw : decide ((i : Int) > 0) = true → Ze (IntKind.wrap .i64 ((i : Int) - 1)) m.length = true ∧ IntKind.wrap .i64 ((i : Int) - 1) = ((i - 1 : Nat) : Int) := fun h => by
     simp only [decide_eq_true_eq] at h
     have e := ZG7 i (by omega) (by omega)
     exact ⟨by rw [e]; exact Zam m (i - 1) (by omega), e⟩
    have hck : ((el m i).2 == 0 || (!decide ((i : Int) > 0) || Ze (IntKind.wrap .i64 ((i : Int) - 1)) m.length)) = true := by
     cases h : decide ((i : Int) > 0) with
     | false => simp
     | true => rw [(hw h).1]; simp
    have hcd : ((el m i).2 == 0 || (decide ((i : Int) > 0) && decide ((el m i).1 ≤ (R.get CR m (IntKind.wrap .i64 ((i : Int) - 1))).1))) = !okAt m i := by
     rw [← ZAm]
     cases h : decide ((i : Int) > 0) with
     | false => simp
     | true => rw [(hw h).2, ZbC]
    cases ho : okAt m i with
    | true =>
     left
     refine ⟨(m, false, m, (m.length : Int), ((i + 1 : Nat) : Int), ()), ?_, ⟨i + 1, hlt, fun k hk' => ?_, rfl⟩, by simp only; omega⟩
     ·rw [ho] at hcd
      simp only [ZcJ, RT.val, d, r1, ZbC, hck, hcd, Bool.not_true, Bool.false_or, cond_true, cond_false, Ze5 i (by omega)]
     ·by_cases e : k = i
      ·subst e; exact ho
      ·exact hk k (by omega)
    | false =>
     right; right
     refine ⟨(m, false, m, (m.length : Int), (i : Int), ()), rfl, ?_, .inr ⟨rfl, ZkB hlt ho, rfl⟩⟩
     rw [ho] at hcd
     simp only [ZcJ, RT.val, d, r1, ZbC, hck, hcd, Bool.not_true, Bool.not_false, Bool.false_or, cond_true, cond_false]
   ·right; left
    have d : decide ((i : Int) < (m.length : Int)) = false := by simpa using hlt
    exact ⟨(m, false, m, (m.length : Int), (i : Int), ()), by simp only [ZcJ, RT.val, d, cond_false], .inl ⟨rfl, Zh3 fun k hk' => hk k (by omega)⟩⟩)
  (m, false, m, (m.length : Int), 0, ()) ⟨0, Nat.zero_le _, fun k h => by omega, rfl⟩ (by simp only; omega)
 have hr' : runF true ZcJ (fun a => 1000000000000) (m, false, m, iN m.length, 0, ()) = some r := hr
 rcases hR with ⟨h1, h2⟩ | ⟨h1, h2, h3⟩
 ·simp only [ZgJ, RT.val, hr', okB, getO, cond_true, h1, cond_false, h2]
 ·simp only [ZgJ, RT.val, hr', okB, getO, cond_true, h1, h2, h3]
theorem ZkP (m : List Cell) (hm : m.length ≤ most) : (Zgw m).val = some (vldB m) := by
 have hms := mst
 obtain ⟨r, hr, hR⟩ := ZW (fl := true) (t := ZcC) (fuel := fun a => 1000000000000)
  (I := fun a => ∃ i : Nat, i ≤ m.length ∧ (∀ k, k < i → okAt m k = true) ∧ a = (m, false, (m.length : Int), (i : Int), ()))
  (m := fun a => Int.toNat (a.2.2.1 - a.2.2.2.1)) (R := fun r => (r.1 = false ∧ vldB m = true) ∨ (r.1 = true ∧ vldB m = false ∧ r.2.2.1 = false))
  (fun a hi => by
   obtain ⟨i, hi, hk, rfl⟩ := hi
   by_cases hlt : i < m.length
   ·have d : decide ((i : Int) < (m.length : Int)) = true := by simpa using hlt
    have r1 := Zam m i hlt
    have hw : decide ((i : Int) > 0) = true → Ze (IntKind.wrap .i64 ((i : Int) - 1)) m.length = true ∧ IntKind.wrap .i64 ((i : Int) - 1) = ((i - 1 : Nat) : Int) := fun h => by
     simp only [decide_eq_true_eq] at h
     have e := ZG7 i (by omega) (by omega)
     exact ⟨by rw [e]; exact Zam m (i - 1) (by omega), e⟩
    have hck : ((el m i).2 == 0 || (!decide ((i : Int) > 0) || Ze (IntKind.wrap .i64 ((i : Int) - 1)) m.length)) = true := by
     cases h : decide ((i : Int) > 0) with
     | false => simp
     | true => rw [(hw h).1]; simp
    have hcd : ((el m i).2 == 0 || (decide ((i : Int) > 0) && decide ((el m i).1 ≤ (R.get CR m (IntKind.wrap .i64 ((i : Int) - 1))).1))) = !okAt m i := by
     rw [← ZAm]
     cases h : decide ((i : Int) > 0) with
     | false => simp
     | true => rw [(hw h).2, ZbC]
    cases ho : okAt m i with
    | true =>
     left
     refine ⟨(m, false, (m.length : Int), ((i + 1 : Nat) : Int), ()), ?_, ⟨i + 1, hlt, fun k hk' => ?_, rfl⟩, by simp only; omega⟩
     ·rw [ho] at hcd
      simp only [ZcC, RT.val, d, r1, ZbC, hck, hcd, Bool.not_true, Bool.false_or, Bool.or_true, cond_true, cond_false, Ze5 i (by omega)]
     ·by_cases e : k = i
      ·subst e; exact ho
      ·exact hk k (by omega)
    | false =>
     right; right
     refine ⟨(m, false, (m.length : Int), (i : Int), ()), rfl, ?_, .inr ⟨rfl, ZkB hlt ho, rfl⟩⟩
     rw [ho] at hcd
     simp only [ZcC, RT.val, d, r1, ZbC, hck, hcd, Bool.not_true, Bool.not_false, Bool.false_or, Bool.or_true, cond_true, cond_false]
   ·right; left
    have d : decide ((i : Int) < (m.length : Int)) = false := by simpa using hlt
    exact ⟨(m, false, (m.length : Int), (i : Int), ()), by simp only [ZcC, RT.val, d, cond_false], .inl ⟨rfl, Zh3 fun k hk' => hk k (by omega)⟩⟩)
  (m, false, (m.length : Int), 0, ()) ⟨0, Nat.zero_le _, fun k h => by omega, rfl⟩ (by simp only; omega)
 have hr' : runF true ZcC (fun a => 1000000000000) (m, false, iN m.length, 0, ()) = some r := hr
 rcases hR with ⟨h1, h2⟩ | ⟨h1, h2, h3⟩
 ·simp only [Zgw, RT.val, hr', okB, getO, cond_true, h1, cond_false, h2]
 ·simp only [Zgw, RT.val, hr', okB, getO, cond_true, h1, h2, h3]
theorem Zs2 {m : List Cell} {t : Int} {i : Nat} (hi : i < m.length) (he : (el m i).1 = t) (hk : ∀ k, i < k → k < m.length → (el m k).1 ≠ t) : getX m t = (el m i).2 := by
 have e : m = m.take i ++ [el m i] ++ m.drop (i + 1) := by rw [List.append_assoc, List.singleton_append, ← ZnY m i hi, List.take_append_drop]
 have h0 : flt t (m.drop (i + 1)) = [] := ZcO fun c hc => by
  obtain ⟨k, h1, h2, rfl⟩ := ZfZ hc
  exact hk k (by omega) h2
 have h1 : flt t [el m i] = [el m i] := by simp [flt, he]
 have h2 : flt t m = flt t (m.take i) ++ [el m i] := by
  conv => lhs; rw [e, Zbq, Zbq, h0, h1, List.append_nil]
 rw [getX, h2, List.getLast?_append]; simp
theorem ZCd (m : List Cell) (t : Int) (hm : m.length ≤ most) : (ZkW m t).val = some (getX m t) := by
 have hms := mst
 obtain ⟨r, hr, hR⟩ := ZW (fl := true) (t := ZeE) (fuel := fun a => 1000000000000)
  (I := fun a => ∃ i : Nat, i ≤ m.length ∧ (∀ k, i ≤ k → k < m.length → (el m k).1 ≠ t) ∧ a = (m, t, 0, (i : Int) - 1, ()))
  (m := fun a => Int.toNat (a.2.2.2.1 + 1)) (R := fun r => (r.1 = false ∧ getX m t = 0) ∨ (r.1 = true ∧ r.2.2.2.1 = getX m t))
  (fun a hi => by
   obtain ⟨i, hi, hk, rfl⟩ := hi
   cases i with
   | zero =>
    right; left
    refine ⟨(m, t, 0, ((0 : Nat) : Int) - 1, ()), by simp [ZeE, RT.val], .inl ⟨rfl, ZeK fun c hc => ?_⟩⟩
    obtain ⟨k, hk'⟩ := List.mem_iff_getElem?.1 hc
    have hlt := (List.getElem?_eq_some_iff.1 hk').1
    rw [ZbN m k hlt, oinj] at hk'
    rw [← hk']; exact hk k (Nat.zero_le _) hlt
   | succ i =>
    have ei : ((i + 1 : Nat) : Int) - 1 = (i : Int) := by omega
    rw [ei]
    have d : decide ((i : Int) ≥ 0) = true := by simp
    have r1 := Zam m i (by omega)
    cases he : ((el m i).1 == t) with
    | true =>
     right; right
     refine ⟨(m, t, (el m i).2, (i : Int), ()), rfl, by simp only [ZeE, RT.val, d, r1, ZbC, he, cond_true, Bool.not_true, Bool.false_or], .inr ⟨rfl, ?_⟩⟩
     exact (Zs2 (by omega) (by simpa using he) fun k h1 h2 => hk k (by omega) h2).symm
    | false =>
     left
     refine ⟨(m, t, 0, (i : Int) - 1, ()), ?_, ⟨i, by omega, fun k h1 h2 => ?_, rfl⟩, by simp only; omega⟩
     ·have w : IntKind.wrap .i64 ((i : Int) - 1) = (i : Int) - 1 := wrap_i64 _ (by omega) (by omega)
      simp only [ZeE, RT.val, d, r1, ZbC, he, cond_true, cond_false, Bool.not_true, Bool.not_false, Bool.true_or, Bool.false_or, w]
     ·by_cases e : k = i
      ·subst e; simpa using he
      ·exact hk k (by omega) h2)
  (m, t, 0, (m.length : Int) - 1, ()) ⟨m.length, Nat.le_refl _, fun k h1 h2 => by omega, rfl⟩ (by simp only; omega)
 have w : IntKind.wrap .i64 (iN m.length - 1) = (m.length : Int) - 1 := wrap_i64 _ (by simp only [iN]; omega) (by simp only [iN]; omega)
 rcases hR with ⟨h1, h2⟩ | ⟨h1, h2⟩
 ·simp only [ZkW, RT.val, w, hr, okB, getO, cond_true, h1, cond_false, h2]
 ·simp only [ZkW, RT.val, w, hr, okB, getO, cond_true, h1, h2]
def pst (c : Cell) (s : Bool × List Cell) (x : Cell) : Bool × List Cell :=
 let t := !s.1 && decide (x.1 ≥ c.1)
 let o := bif t then (bif c.2 != 0 then s.2 ++ [c] else s.2) else s.2
 (t || s.1, bif x.1 != c.1 then o ++ [x] else o)
def pfin (c : Cell) (s : Bool × List Cell) : List Cell := bif !s.1 && c.2 != 0 then s.2 ++ [c] else s.2
theorem Zud (c : Cell) : ∀ (m : List Cell) (o : List Cell), (∀ x ∈ m, x.1 ≠ c.1) → m.foldl (pst c) (true, o) = (true, o ++ m)
 | [], o, _ => by simp
 | x :: m, o, h => by
  have hx : (x.1 != c.1) = true := by simpa using h x (by simp)
  simp only [List.foldl_cons, pst, Bool.not_true, Bool.false_and, cond_false, Bool.or_true, hx, cond_true]
  rw [Zud c m (o ++ [x]) fun y hy => h y (List.mem_cons_of_mem _ hy)]
  simp
theorem ZyR (c : Cell) : ∀ (m : List Cell) (o : List Cell), m.Pairwise (fun a b => a.1 < b.1) → pfin c (m.foldl (pst c) (false, o)) = o ++ putX m c
 | [], o, _ => by
  simp only [List.foldl_nil, pfin, putX, Bool.not_false, Bool.true_and]
  by_cases h : c.2 = 0
  ·simp [h]
  ·have : (c.2 != 0) = true := by simpa using h
   simp [h, this]
 | x :: m, o, h => by
  have h1 := List.pairwise_cons.1 h
  by_cases hx : x.1 < c.1
  ·have e1 : decide (x.1 ≥ c.1) = false := by simp; omega
   have e2 : (x.1 != c.1) = true := by simp; omega
   simp only [List.foldl_cons, pst, e1, Bool.and_false, cond_false, Bool.or_false, e2, cond_true]
   rw [ZyR c m (o ++ [x]) h1.2, putX, if_pos hx]; simp
  ·have e1 : decide (x.1 ≥ c.1) = true := by simp; omega
   have hne : ∀ y ∈ m, y.1 ≠ c.1 := fun y hy => by have := h1.1 y hy; omega
   simp only [List.foldl_cons, pst, e1, Bool.not_false, Bool.and_self, cond_true, Bool.true_or]
   rw [Zud c m _ hne, putX, if_neg hx]
   simp only [pfin, Bool.not_true, Bool.false_and, cond_false]
   by_cases hz : c.2 = 0
   ·by_cases hk : x.1 = c.1
    ·simp [hz, hk]
    ·have : (x.1 != c.1) = true := by simpa using hk
     simp [hz, hk, this]
   ·have hz1 : (c.2 != 0) = true := by simpa using hz
    by_cases hk : x.1 = c.1
    ·simp [hz, hk, hz1]
    ·have : (x.1 != c.1) = true := by simpa using hk
     simp [hz, hk, this, hz1]
theorem Zrb (c : Cell) : ∀ (m : List Cell) (s : Bool × List Cell), (m.foldl (pst c) s).2.length + (bif (m.foldl (pst c) s).1 then 0 else 1) ≤ s.2.length + (bif s.1 then 0 else 1) + m.length
 | [], s => by simp
 | x :: m, s => by
  rw [List.foldl_cons]
  have ih := Zrb c m (pst c s x)
  have : (pst c s x).2.length + (bif (pst c s x).1 then 0 else 1) ≤ s.2.length + (bif s.1 then 0 else 1) + 1 := by
   obtain ⟨d, o⟩ := s
   simp only [pst]
   generalize decide (x.1 ≥ c.1) = b1
   generalize (c.2 != 0) = b2
   generalize (x.1 != c.1) = b3
   cases d <;> cases b1 <;> cases b2 <;> cases b3 <;> simp <;> omega
  simp only [List.length_cons]; omega
theorem Zot (m : List Cell) (c : Cell) (hv : Vld m) (hm : m.length + 1 ≤ most) : ZoB m c = true ∧ Zyp m c = putX m c := by
 have hms := mst
 obtain ⟨r, hr, h1, i, hR⟩ := ZW (fl := false) (t := ZfC) (fuel := fun a => 1000000000000)
  (fun a => ∃ i : Nat, i ≤ m.length ∧ a = (((m.take i).foldl (pst c) (false, [])).1, m, (m.length : Int), (i : Int), c, ((m.take i).foldl (pst c) (false, [])).2, ()))
  (fun a => Int.toNat (a.2.2.1 - a.2.2.2.1)) (fun r => r.1 = false ∧ ∃ i : Nat, r.2 = ((m.foldl (pst c) (false, [])).1, m, (m.length : Int), (i : Int), c, (m.foldl (pst c) (false, [])).2, ()))
  (by
   rintro a ⟨i, hi, rfl⟩
   by_cases hlt : i < m.length
   ·left
    have d : decide ((i : Int) < (m.length : Int)) = true := by simpa using hlt
    have r1 := Zam m i hlt
    have hl := Zrb c (m.take i) (false, [])
    have hs : (m.take (i + 1)).foldl (pst c) (false, []) = pst c ((m.take i).foldl (pst c) (false, [])) (el m i) := by
     rw [ZqG m i hlt, List.foldl_append]; rfl
    rw [List.length_take, Nat.min_eq_left (by omega)] at hl
    refine ⟨_, ?_, ⟨i + 1, hlt, rfl⟩, by simp only; omega⟩
    rw [hs]
    generalize (m.take i).foldl (pst c) (false, []) = s at hl ⊢
    obtain ⟨dn, o⟩ := s
    simp only [List.length_nil, cond_false] at hl
    simp only [ZfC, RT.val, d, r1, ZbC, cond_true, Bool.not_true, Bool.false_or, pst, Ze5 i (by omega)]
    generalize decide ((el m i).1 ≥ c.1) = b1
    generalize hb2 : (c.2 != 0) = b2
    generalize hb3 : ((el m i).1 != c.1) = b3
    have l1 : Nat.ble (o ++ [c]).length most = true ∨ dn = true := by
     cases dn with
     | true => exact .inr rfl
     | false => left; rw [Nat.ble_eq]; simp only [cond_false] at hl; simp only [List.length_append, List.length_singleton]; omega
    have l2 : Nat.ble (o ++ [el m i]).length most = true := by
     rw [Nat.ble_eq]; simp only [List.length_append, List.length_singleton]
     cases dn <;> simp only [cond_true, cond_false] at hl <;> omega
    have l3 : Nat.ble (o ++ [c] ++ [el m i]).length most = true ∨ dn = true := by
     cases dn with
     | true => exact .inr rfl
     | false => left; rw [Nat.ble_eq]; simp only [cond_false] at hl; simp only [List.length_append, List.length_singleton]; omega
    cases dn with
    | true =>
     cases b3 <;> simp only [l2, Bool.not_true, Bool.not_false, Bool.false_and, Bool.true_or, Bool.false_or, Bool.or_true, cond_true, cond_false]
    | false =>
     have l1 : Nat.ble (o ++ [c]).length most = true := by simpa using l1
     have l3 : Nat.ble (o ++ [c] ++ [el m i]).length most = true := by simpa using l3
     cases b1 <;> cases b2 <;> cases b3 <;> simp only [l1, l2, l3, Bool.not_true, Bool.not_false, Bool.false_and, Bool.true_and, Bool.true_or, Bool.false_or, Bool.or_true, Bool.or_false, Bool.and_self, cond_true, cond_false]
   ·right; left
    have d : decide ((i : Int) < (m.length : Int)) = false := by simpa using hlt
    have e : m.take i = m := List.take_of_length_le (by omega)
    rw [e]
    exact ⟨_, by simp only [ZfC, RT.val, d, cond_false], rfl, i, rfl⟩)
  (false, m, iN m.length, 0, c, [], ()) ⟨0, Nat.zero_le _, rfl⟩ (by simp only [iN]; omega)
 have hl := Zrb c m (false, [])
 have hp := ZyR c m [] hv.1
 simp only [List.nil_append] at hp
 obtain ⟨r1, r2⟩ := r
 simp only at h1 hR
 subst h1 hR
 generalize m.foldl (pst c) (false, []) = s at hl hp hr
 obtain ⟨dn, o⟩ := s
 have hb : (!(!dn && c.2 != 0) || Nat.ble (o ++ [c]).length most) = true := by
  cases dn with
  | true => rfl
  | false =>
   have : Nat.ble (o ++ [c]).length most = true := by rw [Nat.ble_eq]; simp only [cond_false, List.length_nil] at hl; simp only [List.length_append, List.length_singleton]; omega
   rw [this]; simp
 have hv : (ZkU m c).val = some (putX m c) := by
  simp only [ZkU, RT.val, hr, okB, getO, cond_true, hb, ← hp, pfin]
 exact ⟨by simp only [ZoB, hv]; rfl, by simp only [Zyp, hv, getO]⟩
theorem Zmg (c : Cell) : ∀ m : List Cell, (putX m c).length ≤ m.length + 1
 | [] => by simp only [putX]; split <;> simp
 | x :: m => by
  have := Zmg c m
  simp only [putX]
  repeat' split
  all_goals simp only [List.length_cons]; omega
theorem ZgH (l : List Cell) (c : Cell) : normX (l ++ [c]) = putX (normX l) c := by simp [normX, List.foldl_append]
theorem Zve : ∀ (l m : List Cell), (l.foldl putX m).length ≤ m.length + l.length
 | [], m => by simp
 | x :: l, m => by
  have := Zve l (putX m x)
  have := Zmg x m
  simp only [List.foldl_cons, List.length_cons]; omega
theorem Zb4 (l : List Cell) : (normX l).length ≤ l.length := by
 have := Zve l []
 simpa [normX] using this
theorem Zyd (l : List Cell) (hl : l.length + 1 ≤ most) : ZtT l = true ∧ ZCl l = normX l := by
 have hms := mst
 have h1 := ZkP l (by omega)
 have hc : Zgx l = true := by simp only [Zgx, h1]; rfl
 have hv0 : Ziq l = vldB l := by simp only [Ziq, h1, getO]
 have hv : (ZkV l).val = some (normX l) := by
  cases hb : vldB l with
  | true =>
   have e : Nat.ble l.length most = true := by rw [Nat.ble_eq]; omega
   simp only [ZkV, RT.val, hc, hv0, hb, List.nil_append, e, cond_true, Bool.not_true, Bool.false_or, ZgI (Zlt.1 hb)]
  | false =>
   obtain ⟨r, hr, h1, i, hR⟩ := ZW (fl := false) (t := ZfD) (fuel := fun a => 1000000000000)
    (fun a => ∃ i : Nat, i ≤ l.length ∧ a = (normX (l.take i), l, (l.length : Int), (i : Int), ()))
    (fun a => Int.toNat (a.2.2.1 - a.2.2.2.1)) (fun r => r.1 = false ∧ ∃ i : Nat, r.2 = (normX l, l, (l.length : Int), (i : Int), ()))
    (by
     rintro a ⟨i, hi, rfl⟩
     by_cases hlt : i < l.length
     ·left
      have d : decide ((i : Int) < (l.length : Int)) = true := by simpa using hlt
      have r1 := Zam l i hlt
      have hlen := Zb4 (l.take i)
      rw [List.length_take] at hlen
      have hp := Zot (normX (l.take i)) (el l i) (Zbz _) (by omega)
      refine ⟨_, ?_, ⟨i + 1, hlt, rfl⟩, by simp only; omega⟩
      rw [ZqG l i hlt, ZgH]
      simp only [ZfD, RT.val, d, r1, ZbC, hp.1, hp.2, cond_true, Bool.or_true, Ze5 i (by omega)]
     ·right; left
      have d : decide ((i : Int) < (l.length : Int)) = false := by simpa using hlt
      have e : l.take i = l := List.take_of_length_le (by omega)
      rw [e]
      exact ⟨_, by simp only [ZfD, RT.val, d, cond_false], rfl, i, rfl⟩)
    ([], l, iN l.length, 0, ()) ⟨0, Nat.zero_le _, rfl⟩ (by simp only [iN]; omega)
   obtain ⟨r1, r2⟩ := r
   simp only at h1 hR
   subst h1 hR
   simp only [ZkV, RT.val, hc, hv0, hb, hr, okB, getO, cond_true, cond_false, Bool.not_false, Bool.true_or]
 exact ⟨by simp only [ZtT, hv]; rfl, by simp only [ZCl, hv, getO]⟩
def ZsU (s : List Cell) (i : Nat) : Bool := (el s i).2 != 0 && (decide (i + 1 = s.length) || (el s (i + 1)).1 != (el s i).1)
theorem ZG1 (s : List Cell) (i : Nat) (h : i < s.length) : dd (s.drop i) = (bif ZsU s i then [el s i] else []) ++ dd (s.drop (i + 1)) := by
 rw [ZnY s i h]
 by_cases hl : i + 1 < s.length
 ·rw [ZnY s (i + 1) hl, dd]
  have e : decide (i + 1 = s.length) = false := by simp; omega
  simp only [ZsU, e, Bool.false_or]
  by_cases h1 : (el s i).1 = (el s (i + 1)).1
  ·have : ((el s (i + 1)).1 != (el s i).1) = false := by simp [h1]
   simp only [this, Bool.and_false, cond_false, List.nil_append, if_pos h1]
  ·have : ((el s (i + 1)).1 != (el s i).1) = true := by simpa using fun e => h1 e.symm
   simp only [this, Bool.and_true, if_neg h1]
   by_cases h2 : (el s i).2 = 0
   ·have : ((el s i).2 != 0) = false := by simp [h2]
    simp only [this, if_pos h2, cond_false, List.nil_append]
   ·have : ((el s i).2 != 0) = true := by simpa using h2
    simp only [this, if_neg h2, cond_true, List.singleton_append]
 ·have hn : s.drop (i + 1) = [] := List.drop_eq_nil_of_le (by omega)
  have e : decide (i + 1 = s.length) = true := by simp; omega
  rw [hn]
  simp only [ZsU, e, Bool.true_or, Bool.and_true, dd, List.append_nil]
  by_cases h2 : (el s i).2 = 0
  ·have : ((el s i).2 != 0) = false := by simp [h2]
   simp only [this, if_pos h2, cond_false]
  ·have : ((el s i).2 != 0) = true := by simpa using h2
   simp only [this, if_neg h2, cond_true]
theorem Zxm (l : List Cell) (hl : l.length ≤ most) : Zto l = true ∧ ZqD l = isort l := by
 have hs : Zid l (iN l.length) = true := by simp [Zid, iN]; omega
 have hv : (Zoh l).val = some (isort l) := by
  simp only [Zoh, RT.val, Zca, hs, cond_true]
 exact ⟨by simp only [Zto, hv]; rfl, by simp only [ZqD, hv, getO]⟩
theorem ZjI (l : List Cell) (hl : l.length ≤ most) : Zp6 l = true ∧ ZAI l = normX l := by
 have hms := mst
 have h1 := Zxm l hl
 have hlen := ZcL l
 generalize hs : isort l = s at hlen h1
 obtain ⟨r, hr, h2, i, hR⟩ := ZW (fl := false) (t := Zf3) (fuel := fun a => Int.toNat (a.1 - a.2.1) + 1)
  (fun a => ∃ (i : Nat) (o : List Cell), i ≤ s.length ∧ o.length ≤ i ∧ o ++ dd (s.drop i) = dd s ∧ a = ((s.length : Int), (i : Int), s, o, ()))
  (fun a => Int.toNat (a.1 - a.2.1)) (fun r => r.1 = false ∧ ∃ i : Nat, r.2 = ((s.length : Int), (i : Int), s, dd s, ()))
  (by
   rintro a ⟨i, o, hi, ho, hd, rfl⟩
   by_cases hlt : i < s.length
   ·left
    have d : decide ((i : Int) < (s.length : Int)) = true := by simpa using hlt
    have r1 := Zam s i hlt
    have w := Ze5 i (by omega)
    have e1 : (((i + 1 : Nat) : Int) == iN s.length) = decide (i + 1 = s.length) := by
     rw [Bool.eq_iff_iff]; simp [iN]; omega
    have hst := ZG1 s i hlt
    have hle : ∀ x : Cell, Nat.ble (o ++ [x]).length most = true := fun x => by rw [Nat.ble_eq]; simp only [List.length_append, List.length_singleton]; omega
    refine ⟨((s.length : Int), ((i + 1 : Nat) : Int), s, o ++ (bif ZsU s i then [el s i] else []), ()), ?_, ⟨i + 1, _, hlt, ?_, ?_, rfl⟩, by simp only; omega⟩
    ·have e3 : (!((el s i).2 != 0) || (decide (i + 1 = s.length) || Ze ((i + 1 : Nat) : Int) s.length)) = true := by
      by_cases hq : i + 1 = s.length
      ·simp [hq]
      ·rw [Zam s (i + 1) (by omega)]; simp
     have e4 : ((el s i).2 != 0 && (decide (i + 1 = s.length) || (el s (i + 1)).1 != (el s i).1)) = ZsU s i := rfl
     have g1 := ZbC s i
     have g2 := ZbC s (i + 1)
     simp only [Zf3, RT.val, d, r1, w, g1, g2, e1, e3, e4, hle, cond_true, Bool.not_true, Bool.false_or, Bool.or_true]
     cases ZsU s i <;> simp
    ·cases ZsU s i <;> simp only [cond_true, cond_false, List.append_nil, List.length_append, List.length_singleton] <;> omega
    ·rw [List.append_assoc, ← hst, hd]
   ·right; left
    have d : decide ((i : Int) < (s.length : Int)) = false := by simpa using hlt
    have e : s.drop i = [] := List.drop_eq_nil_of_le (by omega)
    rw [e] at hd
    simp only [dd, List.append_nil] at hd
    subst hd
    exact ⟨_, by simp only [Zf3, RT.val, d, cond_false], rfl, i, rfl⟩)
  (iN s.length, 0, s, [], ()) ⟨0, [], Nat.zero_le _, by simp, by simp, rfl⟩ (by simp only [iN]; omega)
 obtain ⟨r1, r2⟩ := r
 simp only at h2 hR
 subst h2 hR
 have hb : Nat.ble l.length most = true := by rw [Nat.ble_eq]; exact hl
 have hv : (Zp5 l).val = some (normX l) := by
  simp only [Zp5, RT.val, hb, h1.1, h1.2, hr, okB, getO, cond_true]
  rw [← hs, ZwT]
 exact ⟨by simp only [Zp6, hv]; rfl, by simp only [ZAI, hv, getO]⟩
abbrev BR : R := R.int u8
theorem ZIw (l : List Int) (i : Nat) : R.get BR l (i : Int) = l.getD i 0 := by simp [R.get, R.dflt]
def Zdx (t : Int) (b : List Int) (n : Nat) : List Cell := (List.range n).map fun i : Nat => (IntKind.wrap .u16 (t + IntKind.wrap .u16 (i : Int)), b.getD i 0)
theorem Zlf (t : Int) (b : List Int) (n : Nat) : Zdx t b (n + 1) = Zdx t b n ++ [(IntKind.wrap .u16 (t + IntKind.wrap .u16 (n : Int)), b.getD n 0)] := by simp [Zdx, List.range_succ]
theorem Zdk (t : Int) (b : List Int) (n : Nat) : (Zdx t b n).length = n := by simp [Zdx]
def ZbW (t : Int) (b : List Int) : List Cell := normX (Zdx t b b.length)
theorem Zye (t : Int) (b : List Int) (hb : b.length + 1 ≤ most) : Zyv t b = true ∧ ZFy t b = ZbW t b := by
 have hms := mst
 obtain ⟨r, hr, h1, hR⟩ := ZW (fl := false) (t := ZfE) (fuel := fun a => 1000000000000)
  (fun a => ∃ i : Nat, i ≤ b.length ∧ a = (t, b, (b.length : Int), (i : Int), Zdx t b i, ()))
  (fun a => Int.toNat (a.2.2.1 - a.2.2.2.1)) (fun r => r.1 = false ∧ r.2 = (t, b, (b.length : Int), (b.length : Int), Zdx t b b.length, ()))
  (by
   rintro a ⟨i, hi, rfl⟩
   by_cases hlt : i < b.length
   ·left
    have d : decide ((i : Int) < (b.length : Int)) = true := by simpa using hlt
    have r1 := Zam b i hlt
    have hl : ∀ x : Cell, Nat.ble (Zdx t b i ++ [x]).length most = true := fun x => by rw [Nat.ble_eq, List.length_append, Zdk]; simp only [List.length_singleton]; omega
    refine ⟨_, ?_, ⟨i + 1, hlt, rfl⟩, by simp only; omega⟩
    rw [Zlf]
    have g := ZIw b i
    simp only [ZfE, RT.val, d, r1, g, hl, cond_true, Bool.not_true, Bool.false_or, Ze5 i (by omega)]
   ·right; left
    have d : decide ((i : Int) < (b.length : Int)) = false := by simpa using hlt
    have e : i = b.length := by omega
    subst e
    exact ⟨_, by simp only [ZfE, RT.val, d, cond_false], rfl, rfl⟩)
  (t, b, iN b.length, 0, [], ()) ⟨0, Nat.zero_le _, rfl⟩ (by simp only [iN]; omega)
 obtain ⟨r1, r2⟩ := r
 simp only at h1 hR
 subst h1 hR
 have hn := Zyd (Zdx t b b.length) (by rw [Zdk]; exact hb)
 have hv : (Zpi t b).val = some (ZbW t b) := by
  simp only [Zpi, RT.val, hr, okB, getO, cond_true, hn.1, hn.2, ZbW]
 exact ⟨by simp only [Zyv, hv]; rfl, by simp only [ZFy, hv, getO]⟩
theorem ZAy (m : List Cell) (hm : m.length ≤ most) : ZnE m = true ∧ ZjM m = vldB m := by
 have h := ZwV m hm
 exact ⟨by simp only [ZnE, h]; rfl, by simp only [ZjM, h, getO]⟩
theorem Zx7 (m : List Cell) (hm : m.length ≤ most) : Zgx m = true ∧ Ziq m = vldB m := by
 have h := ZkP m hm
 exact ⟨by simp only [Zgx, h]; rfl, by simp only [Ziq, h, getO]⟩
theorem ZFn (m : List Cell) (t : Int) (hm : m.length ≤ most) : Zyz m t = true ∧ ZFz m t = getX m t := by
 have h := ZCd m t hm
 exact ⟨by simp only [Zyz, h]; rfl, by simp only [ZFz, h, getO]⟩
abbrev GR : R := R.pair (R.int u16) (R.pair (R.int u16) (R.pair R.bool (R.int i64)))
def hitB (t : Int) (r : Z0) : Bool := decide (r.1 ≤ t) && decide (t ≤ r.2.1)
def ZaZ (l : List Z0) (t : Int) : Int := if l.findIdx (hitB t) < l.length then (l.findIdx (hitB t) : Int) else -1
def rg (l : List Z0) (i : Nat) : Z0 := l.getD i (0, 0, false, 0)
theorem ZIu (l : List Z0) (i : Nat) : R.get GR l (i : Int) = rg l i := by simp [R.get, R.dflt, rg]
theorem Zyf (l : List Z0) (i : Nat) (h : i < l.length) : l[i] = rg l i := by simp [rg, h]
theorem ZGW {l : List Z0} {t : Int} {i : Nat} (hi : i < l.length) (h : hitB t (rg l i) = true) (hk : ∀ k, k < i → hitB t (rg l k) = false) : ZaZ l t = i := by
 have : l.findIdx (hitB t) = i := (List.findIdx_eq hi).2 ⟨by rw [Zyf l i hi]; exact h, fun j hj => by rw [Zyf l j (by omega)]; exact hk j hj⟩
 simp only [ZaZ, this, hi, if_true]
theorem ZGV {l : List Z0} {t : Int} (hk : ∀ k, k < l.length → hitB t (rg l k) = false) : ZaZ l t = -1 := by
 have : ¬ l.findIdx (hitB t) < l.length := by
  rw [List.findIdx_lt_length]
  rintro ⟨x, hx, hp⟩
  obtain ⟨i, hi, rfl⟩ := List.mem_iff_getElem.1 hx
  rw [Zyf l i hi, hk i hi] at hp
  exact absurd hp (by simp)
 simp only [ZaZ, this, if_false]
theorem Zyg (l : List Z0) (t : Int) (hl : l.length ≤ most) : ZyB l t = true ∧ ZFB l t = ZaZ l t := by
 have hms := mst
 obtain ⟨r, hr, hR⟩ := ZW (fl := true) (t := ZfF) (fuel := fun _ => 1000000000000)
  (fun x => ∃ i : Nat, i ≤ l.length ∧ (∀ k, k < i → hitB t (rg l k) = false) ∧ x = (t, 0, l, (l.length : Int), (i : Int), ()))
  (fun x => Int.toNat (x.2.2.2.1 - x.2.2.2.2.1)) (fun r => (r.1 = false ∧ ZaZ l t = -1) ∨ (r.1 = true ∧ r.2.2.1 = ZaZ l t))
  (by
   rintro x ⟨i, hi, hk, rfl⟩
   by_cases hlt : i < l.length
   ·have d : decide ((i : Int) < (l.length : Int)) = true := by simpa using hlt
    have r1 := Zam l i hlt
    have g1 := ZIu l i
    cases hh : hitB t (rg l i) with
    | false =>
     left
     refine ⟨(t, 0, l, (l.length : Int), ((i + 1 : Nat) : Int), ()), ?_, ⟨i + 1, hlt, fun k hk' => ?_, rfl⟩, by simp only; omega⟩
     ·simp only [hitB] at hh
      simp only [ZfF, RT.val, d, r1, g1, hh, cond_true, cond_false, Ze5 i (by omega)]
     ·by_cases e : k = i
      ·subst e; exact hh
      ·exact hk k (by omega)
    | true =>
     right; right
     refine ⟨(t, (i : Int), l, (l.length : Int), (i : Int), ()), rfl, ?_, .inr ⟨rfl, (ZGW hlt hh hk).symm⟩⟩
     simp only [hitB] at hh
     simp only [ZfF, RT.val, d, r1, g1, hh, cond_true]
   ·right; left
    have d : decide ((i : Int) < (l.length : Int)) = false := by simpa using hlt
    exact ⟨_, by simp only [ZfF, RT.val, d, cond_false]; rfl, .inl ⟨rfl, ZGV fun k h => hk k (by omega)⟩⟩)
  (t, 0, l, iN l.length, 0, ()) ⟨0, Nat.zero_le _, fun k h => by omega, rfl⟩ (by simp only [iN]; omega)
 have hv : (ZkX l t).val = some (ZaZ l t) := by
  rcases hR with ⟨h1, h2⟩ | ⟨h1, h2⟩
  ·simp only [ZkX, RT.val, hr, okB, getO, cond_true, h1, cond_false, h2]
  ·simp only [ZkX, RT.val, hr, okB, getO, cond_true, h1, h2]
 exact ⟨by simp only [ZyB, hv]; rfl, by simp only [ZFB, hv, getO]⟩
theorem Zpr (l : List Z0) (t : Int) (hl : l.length ≤ most) : ZuD l t = true ∧ Zse l t = ZaZ l t := by
 have h := Zyg l t hl
 have e : ZuA l t = ZkX l t := rfl
 simp only [ZyB, ZFB, ← e] at h
 exact h
def ZaD (l : List Z0) (m : List Cell) (t : Int) : Int := bif decide (ZaZ l t < 0) then 255 else getX m t
end
end Go.Proofs.YtghoimllhpjkjaaGreat
