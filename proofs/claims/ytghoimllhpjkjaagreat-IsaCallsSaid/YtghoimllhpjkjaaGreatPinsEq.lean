/-
  The pins of a state: the program's are the reference's. Conditions: none.
-/
import Derived.Test.YtghoimllhpjkjaaGreatS3D
import Derived.Test.YtghoimllhpjkjaaGreatProg
import Derived.Test.YtghoimllhpjkjaaGreatKinds
open Go.IntKind (u8 u16 i64)
set_option linter.unusedSimpArgs false
open Go Go.S3 Go.Proofs
set_option linter.unusedVariables false
set_option maxRecDepth 100000
namespace Go.Proofs.YtghoimllhpjkjaaGreat
noncomputable section
abbrev Zjt : List Sh := [Sh.one (R.int i64)]
abbrev Zju : Rs := Rs.one (Sh.one R.bool)
def Zk7 (s : Int) : RT (Bool) :=
 .leaf (decide (s ≥ 1) && decide (s ≤ 4))
def Zd (s : Int) : Bool := (Zk7 s).val
def ZgE : Entry := Zm Zjt Zju (fun _ => none) (fun a => Zd a)
theorem Zha : Zc Tryz.prog 176 ZgE :=
 pureQ 7 [] [] Zjt Zju trivial Tryz.func176 Tryz.call176 trivial (t := fun a => Zk7 a) (fun a => by kernel_rfl)
abbrev ZHQ : R := R.pair ZbQ (R.pair R.bool (R.pair (R.sl (R.int u8)) (R.pair (R.pair (R.int i64) (R.pair (R.int i64) (R.pair (R.int i64) (R.pair (R.int i64) (R.pair (R.int i64) (R.pair (R.int i64) (R.pair (R.int i64) (R.int i64)))))))) (R.sl (RY)))))
abbrev ZHP : List Sh := [Sh.one (R.int i64)]
abbrev ZFD : Rs := Rs.one (Sh.one (R.int u8))
def qAtT (s : QT0) (n : Int) : RT (Option (Int)) :=
 .br (!decide (n < ↑(List.length s.2.2.1)) || Ze n (List.length s.2.2.1)) (.br (decide (n < ↑(List.length s.2.2.1))) (.leaf (some (R.get (R.int u8) s.2.2.1 n))) (.leaf (some (0)))) (.leaf none)
def qAt (s : QT0) (n : Int) : Int := getO ZFD.dflt (qAtT s n).val
def qAtC (s : QT0) (n : Int) : Bool := okB (qAtT s n).val
def qAtE : Entry := Zim ZHQ ZHP ZFD (fun a => some (qAtC a.1 a.2)) (fun a => qAt a.1 a.2)
theorem ZfM : Zc Tryz.prog 222 qAtE :=
 Zfz (P := Tryz.prog) (n := 31) (k := 8) (l := []) (ol := []) trivial Tryz.func222 rfl (by kernel_rfl) Tryz.call222 trivial (rb := ZHQ) (ts := ZHP) (rs := ZFD) (by kernel_rfl) (t := fun a => qAtT a.1 a.2) (fun a => by kernel_rfl)
abbrev ZyM : R := R.pair ZbQ (R.pair R.bool (R.pair (R.sl (R.int u8)) (R.pair (R.pair (R.int i64) (R.pair (R.int i64) (R.pair (R.int i64) (R.pair (R.int i64) (R.pair (R.int i64) (R.pair (R.int i64) (R.pair (R.int i64) (R.int i64)))))))) (R.sl (RY)))))
abbrev ZyL : List Sh := [Sh.one (R.int i64)]
abbrev Zq9 : Rs := Rs.one (Sh.one (R.int u16))
def Zpn (s : QT0) (n : Int) : RT (Option (Int)) :=
 .br (!qAtC s (i64.wrap (n + 1)) || qAtC s n) (.br (qAtC s (i64.wrap (n + 1))) (.leaf (some (ZaH (qAt s (i64.wrap (n + 1))) (qAt s n)))) (.leaf none)) (.leaf none)
def Zea (s : QT0) (n : Int) : Int := getO Zq9.dflt (Zpn s n).val
def ZbI (s : QT0) (n : Int) : Bool := okB (Zpn s n).val
def Ziy : Entry := Zim ZyM ZyL Zq9 (fun a => some (ZbI a.1 a.2)) (fun a => Zea a.1 a.2)
theorem Zmc : Zc Tryz.prog 270 Ziy :=
 Zfz (P := Tryz.prog) (n := 31) (k := 8) (l := [(222, qAtE), (236, ZmL)]) (ol := []) ⟨ZfM, ZpH, trivial⟩ Tryz.func270 rfl (by kernel_rfl) Tryz.call270 trivial (rb := ZyM) (ts := ZyL) (rs := Zq9) (by kernel_rfl) (t := fun a => Zpn a.1 a.2) (fun a => by kernel_rfl)
abbrev Zpq : R := R.pair ZbQ (R.pair R.bool (R.pair (R.sl (R.int u8)) (R.pair (R.pair (R.int i64) (R.pair (R.int i64) (R.pair (R.int i64) (R.pair (R.int i64) (R.pair (R.int i64) (R.pair (R.int i64) (R.pair (R.int i64) (R.int i64)))))))) (R.sl (RY)))))
abbrev Zpo : List Sh := []
abbrev Zpp : Rs := Rs.one (Sh.one (R.int u16))
def Zt9 (s : QT0) : RT (Int) :=
 .br s.2.1 (.leaf s.1.2.1.2.2.2.2.2.2.2.2.2) (.leaf (u16.wrap (s.1.2.1.2.2.2.2.2.2.2.2.2 + u16.wrap s.2.2.2.1.2.1)))
def Zr (s : QT0) : Int := (Zt9 s).val
def ZfL : Entry := Zim Zpq Zpo Zpp (fun _ => none) (fun a => Zr a.1 )
theorem Zk2 : Zc Tryz.prog 223 ZfL :=
 ZhH (P := Tryz.prog) (n := 7) (k := 8) (l := []) (ol := []) trivial Tryz.func223 rfl (by kernel_rfl) Tryz.call223 trivial (rb := Zpq) (ts := Zpo) (rs := Zpp) (by kernel_rfl) (t := fun a => Zt9 a.1 ) (fun a => by kernel_rfl)
abbrev Zt8 : R := R.pair ZbQ (R.pair R.bool (R.pair (R.sl (R.int u8)) (R.pair (R.pair (R.int i64) (R.pair (R.int i64) (R.pair (R.int i64) (R.pair (R.int i64) (R.pair (R.int i64) (R.pair (R.int i64) (R.pair (R.int i64) (R.int i64)))))))) (R.sl (RY)))))
abbrev Zt6 : List Sh := []
abbrev Zt7 : Rs := Rs.one (Sh.one R.bool)
def ZyG (s : QT0) : RT (Bool) :=
 .leaf (Zde s.2.2.2.1.2.2.2.2.2.2.1 s.1.2.1.2.2.2.2.2.2.2.1)
def ZeY (s : QT0) : Bool := (ZyG s).val
def Zfc : Entry := Zim Zt8 Zt6 Zt7 (fun _ => none) (fun a => ZeY a.1 )
theorem Ziv : Zc Tryz.prog 280 Zfc :=
 ZhH (P := Tryz.prog) (n := 7) (k := 8) (l := [(322, Zuy)]) (ol := []) ⟨Zwc, trivial⟩ Tryz.func280 rfl (by kernel_rfl) Tryz.call280 trivial (rb := Zt8) (ts := Zt6) (rs := Zt7) (by kernel_rfl) (t := fun a => ZyG a.1 ) (fun a => by kernel_rfl)
abbrev ZEe : R := R.pair ZbQ (R.pair R.bool (R.pair (R.sl (R.int u8)) (R.pair (R.pair (R.int i64) (R.pair (R.int i64) (R.pair (R.int i64) (R.pair (R.int i64) (R.pair (R.int i64) (R.pair (R.int i64) (R.pair (R.int i64) (R.int i64)))))))) (R.sl (RY)))))
abbrev ZEc : List Sh := [Sh.one (R.int i64)]
abbrev ZEd : Rs := Rs.one (Sh.one (R.int u8))
def ZHO (s : QT0) (n : Int) : RT (Int) :=
 .leaf (rGet s.1.2.1 n)
def qReg (s : QT0) (n : Int) : Int := (ZHO s n).val
def Zpm : Entry := Zim ZEe ZEc ZEd (fun _ => none) (fun a => qReg a.1 a.2)
theorem Zmb : Zc Tryz.prog 232 Zpm :=
 ZhH (P := Tryz.prog) (n := 31) (k := 8) (l := [(287, ZEw)]) (ol := []) ⟨ZCV, trivial⟩ Tryz.func232 rfl (by kernel_rfl) Tryz.call232 trivial (rb := ZEe) (ts := ZEc) (rs := ZEd) (by kernel_rfl) (t := fun a => ZHO a.1 a.2) (fun a => by kernel_rfl)
abbrev ZyK : R := R.pair ZbQ (R.pair R.bool (R.pair (R.sl (R.int u8)) (R.pair (R.pair (R.int i64) (R.pair (R.int i64) (R.pair (R.int i64) (R.pair (R.int i64) (R.pair (R.int i64) (R.pair (R.int i64) (R.pair (R.int i64) (R.int i64)))))))) (R.sl (RY)))))
abbrev ZyI : List Sh := [Sh.one (R.int i64)]
abbrev ZyJ : Rs := Rs.one (Sh.one (R.int u16))
def ZEf (s : QT0) (n : Int) : RT (Int) :=
 .leaf (ZaN s.1.2.1 n)
def ZcE (s : QT0) (n : Int) : Int := (ZEf s n).val
def Zd8 : Entry := Zim ZyK ZyI ZyJ (fun _ => none) (fun a => ZcE a.1 a.2)
theorem ZfG : Zc Tryz.prog 231 Zd8 :=
 ZhH (P := Tryz.prog) (n := 31) (k := 8) (l := [(286, Zzo)]) (ol := []) ⟨Zzn, trivial⟩ Tryz.func231 rfl (by kernel_rfl) Tryz.call231 trivial (rb := ZyK) (ts := ZyI) (rs := ZyJ) (by kernel_rfl) (t := fun a => ZEf a.1 a.2) (fun a => by kernel_rfl)
abbrev Zk1 : R := R.pair ZbQ (R.pair R.bool (R.pair (R.sl (R.int u8)) (R.pair (R.pair (R.int i64) (R.pair (R.int i64) (R.pair (R.int i64) (R.pair (R.int i64) (R.pair (R.int i64) (R.pair (R.int i64) (R.pair (R.int i64) (R.int i64)))))))) (R.sl (RY)))))
abbrev Zk0 : List Sh := []
abbrev ZgA : Rs := Rs.one (Sh.one (R.int u8))
def ZfJ (s : QT0) : RT (Option (Int)) :=
 .br (qAtC s 1) (.leaf (some (bif s.2.2.2.1.1 == 14 then (rInr s.1.1 (qAt s 1) s.1.2.1.2.2.2.2.2.2.2.1).1 else (rDcr s.1.1 (qAt s 1) s.1.2.1.2.2.2.2.2.2.2.1).1))) (.leaf none)
def ZfK (s : QT0) : Int := getO ZgA.dflt (ZfJ s).val
def Zeb (s : QT0) : Bool := okB (ZfJ s).val
def Ziz : Entry := Zim Zk1 Zk0 ZgA (fun a => some (Zeb a.1 )) (fun a => ZfK a.1 )
theorem Zra : Zc Tryz.prog 234 Ziz :=
 Zfz (P := Tryz.prog) (n := 15) (k := 8) (l := [(222, qAtE), (273, Zux), (274, ZuJ)]) (ol := []) ⟨ZfM, Zuw, ZuI, trivial⟩ Tryz.func234 rfl (by kernel_rfl) Tryz.call234 trivial (rb := Zk1) (ts := Zk0) (rs := ZgA) (by kernel_rfl) (t := fun a => ZfJ a.1 ) (fun a => by kernel_rfl)
abbrev ZkZ : R := R.pair ZbQ (R.pair R.bool (R.pair (R.sl (R.int u8)) (R.pair (R.pair (R.int i64) (R.pair (R.int i64) (R.pair (R.int i64) (R.pair (R.int i64) (R.pair (R.int i64) (R.pair (R.int i64) (R.pair (R.int i64) (R.int i64)))))))) (R.sl (RY)))))
abbrev ZkY : List Sh := []
abbrev Zgz : Rs := Rs.one (Sh.one (R.int u8))
def ZfH (s : QT0) : RT (Option (Int)) :=
 let x1 := s.2.2.2.1.1 == 13 || s.2.2.2.1.2.2.2.1 == 6
 .br (!x1 || qAtC s 1) (.br (x1) (.leaf (some (qAt s 1))) (.leaf (some (qReg s s.2.2.2.1.2.2.2.1)))) (.leaf none)
def ZfI (s : QT0) : Int := getO Zgz.dflt (ZfH s).val
def Zd9 (s : QT0) : Bool := okB (ZfH s).val
def Zix : Entry := Zim ZkZ ZkY Zgz (fun a => some (Zd9 a.1 )) (fun a => ZfI a.1 )
theorem Zq8 : Zc Tryz.prog 272 Zix :=
 Zfz (P := Tryz.prog) (n := 7) (k := 8) (l := [(222, qAtE), (232, Zpm)]) (ol := []) ⟨ZfM, Zmb, trivial⟩ Tryz.func272 rfl (by kernel_rfl) Tryz.call272 trivial (rb := ZkZ) (ts := ZkY) (rs := Zgz) (by kernel_rfl) (t := fun a => ZfH a.1 ) (fun a => by kernel_rfl)
abbrev mAtRs : Rs := Rs.one (Sh.one (R.int u8))
def mAtT (s : QT3) (n : Int) : RT (Option (Int)) :=
 .br (!decide (n < ↑(List.length s.2.2.1)) || Ze n (List.length s.2.2.1)) (.br (decide (n < ↑(List.length s.2.2.1))) (.leaf (some (R.get (R.int u8) s.2.2.1 n))) (.leaf (some (0)))) (.leaf none)
def mAt (s : QT3) (n : Int) : Int := getO mAtRs.dflt (mAtT s n).val
def mAtC (s : QT3) (n : Int) : Bool := okB (mAtT s n).val
abbrev ZGu : Rs := Rs.one (Sh.one (R.int u16))
def ZAB (s : QT3) (n : Int) : RT (Option (Int)) :=
 .br (!mAtC s (i64.wrap (n + 1)) || mAtC s n) (.br (mAtC s (i64.wrap (n + 1))) (.leaf (some (ZaH (mAt s (i64.wrap (n + 1))) (mAt s n)))) (.leaf none)) (.leaf none)
def Zf1 (s : QT3) (n : Int) : Int := getO ZGu.dflt (ZAB s n).val
def ZcW (s : QT3) (n : Int) : Bool := okB (ZAB s n).val
def ZDm (s : QT3) (n : Int) : RT (Int) :=
 .br s.2.1 (.leaf s.1.2.1.2.2.2.2.2.2.2.2.2) (.leaf (u16.wrap (s.1.2.1.2.2.2.2.2.2.2.2.2 + u16.wrap n)))
def Zfi (s : QT3) (n : Int) : Int := (ZDm s n).val
def ZGv (s : QT3) (i : QT4) : RT (Bool) :=
 .leaf (Zde i.2.2.2.2.2.2.1 s.1.2.1.2.2.2.2.2.2.2.1)
def Zf2 (s : QT3) (i : QT4) : Bool := (ZGv s i).val
def Zyk (c : TC) (i : QT4) (v : Int) : RT (QT2) :=
 .br (i.1 == 14) (.leaf (rInr c.1 v c.2.1.2.2.2.2.2.2.2.1)) (.leaf (rDcr c.1 v c.2.1.2.2.2.2.2.2.2.1))
def ZlX (c : TC) (i : QT4) (v : Int) : QT2 := (Zyk c i v).val
abbrev Zjw : List Sh := [Sh.agg ZbQ, Sh.one (R.int i64)]
abbrev Zjx : Rs := Rs.one (Sh.agg ZbQ)
def ZhS (c : TC) (s : Int) : RT TC :=
 .br (decide (s < 1) || decide (s > 5))
 (.leaf (c))
 (.leaf ((c.1, c.2.1, false, false, false, c.2.2.2.2.2.1, !s == 1 && c.2.2.2.2.2.2.1, bif s == 1 then c.2.2.2.2.2.2.2.1 else !s == 2 && c.2.2.2.2.2.2.2.1, c.2.2.2.2.2.2.2.2.1, c.2.2.2.2.2.2.2.2.2.1, s == 1 || c.2.2.2.2.2.2.2.2.2.2.1, bif s == 1 then c.2.2.1 else c.2.2.2.2.2.2.2.2.2.2.2.1, c.2.2.2.2.2.2.2.2.2.2.2.2)))
def Zns (c : TC) (s : Int) : TC := (ZhS c s).val
def ZC8 : Entry := Zm Zjw Zjx (fun _ => none) (fun a => Zns a.1 a.2)
theorem ZwR : Zc Tryz.prog 110 ZC8 :=
 pureQ 1056799 [] [] Zjw Zjx trivial Tryz.func110 Tryz.call110 trivial (t := fun a => ZhS a.1 a.2) (fun a => by kernel_rfl)
def Zl9 (c : TC) (s : Int) : RT TC :=
 .br (decide (s < 1) || decide (s > 5))
 (.leaf (c))
 (.leaf ((c.1, c.2.1, false, false, false, c.2.2.2.2.2.1, !s == 1 && c.2.2.2.2.2.2.1, !s == 2 && c.2.2.2.2.2.2.2.1, c.2.2.2.2.2.2.2.2.1, c.2.2.2.2.2.2.2.2.2.1, s == 1 || c.2.2.2.2.2.2.2.2.2.2.1, bif s == 1 then c.2.2.1 else c.2.2.2.2.2.2.2.2.2.2.2.1, c.2.2.2.2.2.2.2.2.2.2.2.2)))
def Zb9 (c : TC) (s : Int) : TC := (Zl9 c s).val
theorem ZBT (c) (s : Int) : Zns c s = Zb9 c s := by
 by_cases h : s = 1
 ·subst h; simp [Zns, ZhS, Zb9, Zl9, RT.val]
 ·have h' : (s == 1) = false := by simpa using h
  simp [Zns, ZhS, Zb9, Zl9, RT.val, h']
def Zee : Entry := Zm Zjw Zjx (fun _ => none) (fun a => Zb9 a.1 a.2)
theorem Zjy : Zc Tryz.prog 110 Zee := ZwR.tot (fun a h => by simp) (fun a h => ZBT _ _)
end
end Go.Proofs.YtghoimllhpjkjaaGreat
