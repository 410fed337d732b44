import Derived.Test.YtpnjbfjomebppaaGreatKinds
open Go.Proofs.Tryz (prog)
open Go.IntKind (u8 u16 i64)
set_option linter.unusedSimpArgs false
open Go Go.S3 Go.Proofs
set_option linter.unusedVariables false
set_option maxRecDepth 100000
namespace Go.Proofs.YtpnjbfjomebppaaGreat
noncomputable section
def Zrr (s:Int):RT (Bool):=
 .Lf (decide (s>=1)&&decide (s<=4))
def Ze (s:Int):Bool:=(Zrr s).val
def ZkB:En:=Zi ZxT Zn6 (λ_=>none) (λa=>Ze a)
theorem Zlm:Zb prog 151 ZkB:=
 pureQ 7 [] [] _ _ trivial Tryz.func151 Tryz.call151 trivial
abbrev ZYQ:R:=R.Pq Z8 (R.Pq R.bool (R.Pq (R.sl Ka) (R.Pq (R.Pq Kc (R.Pq Kc (R.Pq Kc (R.Pq Kc (R.Pq Kc (R.Pq Kc (R.Pq Kc Kc))))))) (R.sl (RY)))))
def qAtT (s:QT0) (n:Int):RT (Option (Int)):=
 .br (!decide (n< ↑(Le s.2.2.1))||Zf n (Le s.2.2.1)) (.br (decide (n< ↑(Le s.2.2.1))) (Ls (R.get Ka s.2.2.1 n)) (Ls (0))) Ln
def qAt (s:QT0) (n:Int):Int:=getO ZN3.Df (qAtT s n).val
def qAtC (s:QT0) (n:Int):Bool:=okB (qAtT s n).val
def qAtE:En:=Znh ZYQ ZxT ZN3 (λa=>some (qAtC a.1 a.2)) (λa=>qAt a.1 a.2)
theorem Zjd:Zb prog 213 qAtE:=
 Zi0 (P:=prog) (n:=31) (k:=8) (l:=[]) (ol:=[]) trivial Tryz.func213 rfl (by kernel_rfl) Tryz.call213 trivial (rb:=ZYQ) (ts:=ZxT) (rs:=ZN3) (by kernel_rfl) (t:=λa=>qAtT a.1 a.2) (λa=>by kernel_rfl)
def Zxv (s:QT0) (n:Int):RT (Option (Int)):=
 .br (!qAtC s (i64.wrap (n+1))||qAtC s n) (.br (qAtC s (i64.wrap (n+1))) (Ls (ZfO (qAt s (i64.wrap (n+1))) (qAt s n))) Ln) Ln
def ZgN (s:QT0) (n:Int):Int:=getO ZB2.Df (Zxv s n).val
def Zc8 (s:QT0) (n:Int):Bool:=okB (Zxv s n).val
def Znw:En:=Znh ZYQ ZxT ZB2 (λa=>some (Zc8 a.1 a.2)) (λa=>ZgN a.1 a.2)
theorem Zs2:Zb prog 284 Znw:=
 Zi0 (P:=prog) (n:=31) (k:=8) (l:=[(213,qAtE),(220,Zt0)]) (ol:=[]) ⟨Zjd,Zx4,Tv⟩ Tryz.func284 rfl (by kernel_rfl) Tryz.call284 trivial (rb:=ZYQ) (ts:=ZxT) (rs:=ZB2) (by kernel_rfl) (t:=λa=>Zxv a.1 a.2) (λa=>by kernel_rfl)
abbrev Zxw:List Sh:=[]
def ZEF (s:QT0):RT (Int):=
 .br s.2.1 (.Lf s.1.2.1.2.2.2.2.2.2.2.2.2) (.Lf (u16.wrap (s.1.2.1.2.2.2.2.2.2.2.2.2+u16.wrap s.2.2.2.1.2.1)))
def Zz (s:QT0):Int:=(ZEF s).val
def Zjc:En:=Znh ZYQ Zxw ZB2 (λ_=>none) (λa=>Zz a.1)
theorem Zre:Zb prog 227 Zjc:=
 Zl0 (P:=prog) (n:=7) (k:=8) (l:=[]) (ol:=[]) trivial Tryz.func227 rfl (by kernel_rfl) Tryz.call227 trivial (rb:=ZYQ) (ts:=Zxw) (rs:=ZB2) (by kernel_rfl) (t:=λa=>ZEF a.1) (λa=>by kernel_rfl)
def ZLE (s:QT0):RT (Bool):=
 .Lf (Zgf s.2.2.2.1.2.2.2.2.2.2.1 s.1.2.1.2.2.2.2.2.2.2.1)
def ZhZ (s:QT0):Bool:=(ZLE s).val
def Zim:En:=Znh ZYQ Zxw Zn6 (λ_=>none) (λa=>ZhZ a.1)
theorem Znt:Zb prog 286 Zim:=
 Zl0 (P:=prog) (n:=7) (k:=8) (l:=[(353,ZFw)]) (ol:=[]) ⟨ZHK,Tv⟩ Tryz.func286 rfl (by kernel_rfl) Tryz.call286 trivial (rb:=ZYQ) (ts:=Zxw) (rs:=Zn6) (by kernel_rfl) (t:=λa=>ZLE a.1) (λa=>by kernel_rfl)
def ZYO (s:QT0) (n:Int):RT (Int):=
 .Lf (rGet s.1.2.1 n)
def qReg (s:QT0) (n:Int):Int:=(ZYO s n).val
def Zxu:En:=Znh ZYQ ZxT ZN3 (λ_=>none) (λa=>qReg a.1 a.2)
theorem Zs1:Zb prog 216 Zxu:=
 Zl0 (P:=prog) (n:=31) (k:=8) (l:=[(281,ZUk)]) (ol:=[]) ⟨ZSg,Tv⟩ Tryz.func216 rfl (by kernel_rfl) Tryz.call216 trivial (rb:=ZYQ) (ts:=ZxT) (rs:=ZN3) (by kernel_rfl) (t:=λa=>ZYO a.1 a.2) (λa=>by kernel_rfl)
def ZTZ (s:QT0) (n:Int):RT (Int):=
 .Lf (ZbJ s.1.2.1 n)
def Zen (s:QT0) (n:Int):Int:=(ZTZ s n).val
def ZgL:En:=Znh ZYQ ZxT ZB2 (λ_=>none) (λa=>Zen a.1 a.2)
theorem Zi7:Zb prog 215 ZgL:=
 Zl0 (P:=prog) (n:=31) (k:=8) (l:=[(280,ZMY)]) (ol:=[]) ⟨ZMX,Tv⟩ Tryz.func215 rfl (by kernel_rfl) Tryz.call215 trivial (rb:=ZYQ) (ts:=ZxT) (rs:=ZB2) (by kernel_rfl) (t:=λa=>ZTZ a.1 a.2) (λa=>by kernel_rfl)
def Zja (s:QT0):RT (Option (Int)):=
 .br (qAtC s 1) (Ls (bif s.2.2.2.1.1==14 then (rInr s.1.1 (qAt s 1) s.1.2.1.2.2.2.2.2.2.2.1).1 else (rDcr s.1.1 (qAt s 1) s.1.2.1.2.2.2.2.2.2.2.1).1)) Ln
def Zjb (s:QT0):Int:=getO ZN3.Df (Zja s).val
def ZgO (s:QT0):Bool:=okB (Zja s).val
def Znx:En:=Znh ZYQ Zxw ZN3 (λa=>some (ZgO a.1)) (λa=>Zjb a.1)
theorem ZAw:Zb prog 218 Znx:=
 Zi0 (P:=prog) (n:=15) (k:=8) (l:=[(213,qAtE),(282,ZFt),(283,ZFG)]) (ol:=[]) ⟨Zjd,ZFs,ZFF,Tv⟩ Tryz.func218 rfl (by kernel_rfl) Tryz.call218 trivial (rb:=ZYQ) (ts:=Zxw) (rs:=ZN3) (by kernel_rfl) (t:=λa=>Zja a.1) (λa=>by kernel_rfl)
def Zi8 (s:QT0):RT (Option (Int)):=
 let x1:=s.2.2.2.1.1==13||s.2.2.2.1.2.2.2.1==6
 .br (!x1||qAtC s 1) (.br (x1) (Ls (qAt s 1)) (Ls (qReg s s.2.2.2.1.2.2.2.1))) Ln
def Zi9 (s:QT0):Int:=getO ZN3.Df (Zi8 s).val
def ZgM (s:QT0):Bool:=okB (Zi8 s).val
def Znv:En:=Znh ZYQ Zxw ZN3 (λa=>some (ZgM a.1)) (λa=>Zi9 a.1)
theorem ZAu:Zb prog 293 Znv:=
 Zi0 (P:=prog) (n:=7) (k:=8) (l:=[(213,qAtE),(216,Zxu)]) (ol:=[]) ⟨Zjd,Zs1,Tv⟩ Tryz.func293 rfl (by kernel_rfl) Tryz.call293 trivial (rb:=ZYQ) (ts:=Zxw) (rs:=ZN3) (by kernel_rfl) (t:=λa=>Zi8 a.1) (λa=>by kernel_rfl)
abbrev mAtRs:Rs:=Rs.one (So Ka)
def mAtT (s:QT6) (n:Int):RT (Option (Int)):=
 .br (!decide (n< ↑(Le s.2.2.1))||Zf n (Le s.2.2.1)) (.br (decide (n< ↑(Le s.2.2.1))) (Ls (R.get Ka s.2.2.1 n)) (Ls (0))) Ln
def mAt (s:QT6) (n:Int):Int:=getO mAtRs.Df (mAtT s n).val
def mAtC (s:QT6) (n:Int):Bool:=okB (mAtT s n).val
def ZOC (s:QT6) (n:Int):RT (Option (Int)):=
 .br (!mAtC s (i64.wrap (n+1))||mAtC s n) (.br (mAtC s (i64.wrap (n+1))) (Ls (ZfO (mAt s (i64.wrap (n+1))) (mAt s n))) Ln) Ln
def Zjz (s:QT6) (n:Int):Int:=getO ZB2.Df (ZOC s n).val
def ZeW (s:QT6) (n:Int):Bool:=okB (ZOC s n).val
def ZSH (s:QT6) (n:Int):RT (Int):=
 .br s.2.1 (.Lf s.1.2.1.2.2.2.2.2.2.2.2.2) (.Lf (u16.wrap (s.1.2.1.2.2.2.2.2.2.2.2.2+u16.wrap n)))
def Zit (s:QT6) (n:Int):Int:=(ZSH s n).val
def ZXb (s:QT6) (i:QT7):RT (Bool):=
 .Lf (Zgf i.2.2.2.2.2.2.1 s.1.2.1.2.2.2.2.2.2.2.1)
def ZjA (s:QT6) (i:QT7):Bool:=(ZXb s i).val
def ZK8 (c:TC) (i:QT7) (v:Int):RT (QT2):=
 .br (i.1==14) (.Lf (rInr c.1 v c.2.1.2.2.2.2.2.2.2.1)) (.Lf (rDcr c.1 v c.2.1.2.2.2.2.2.2.2.1))
def ZsN (c:TC) (i:QT7) (v:Int):QT2:=(ZK8 c i v).val
def ZB4 (chip:Int) (op:Int):RT (Int):=
 .br ((Zc chip op).1==2) (.br (!chip==2&&((Zc chip op).2.2.1 !=6&&(Zc chip op).2.2.2.1 !=6)) (.Lf (5)) (.Lf (4))) (.br (bif (Zc chip op).1==14 then (Zc chip op).1==14 else (Zc chip op).1==15) (.br (!chip==2&&(Zc chip op).2.2.1 !=6) (.Lf (5)) (.Lf (4))) (.br ((Zc chip op).1==37) (.br (chip==2) (.Lf (5)) (.Lf (4))) (.br ((Zc chip op).1==26) (.br ((Zc chip op).2.2.2.2.2.2.1==11) (.Lf (4)) (.br (chip==2) (.Lf (6)) (.Lf (5)))) (.br (bif (Zc chip op).1==16 then (Zc chip op).1==16 else bif (Zc chip op).1==17 then (Zc chip op).1==17 else bif (Zc chip op).1==28 then (Zc chip op).1==28 else bif (Zc chip op).1==29 then (Zc chip op).1==29 else bif (Zc chip op).1==25 then (Zc chip op).1==25 else bif (Zc chip op).1==27 then (Zc chip op).1==27 else bif (Zc chip op).1==45 then (Zc chip op).1==45 else (Zc chip op).1==30) (.br (chip==2) (.Lf (6)) (.Lf (5))) (.Lf (4))))))
def Zrs (chip:Int) (op:Int):Int:=(ZB4 chip op).val
def ZWH:En:=Zi ZxR ZUd (λ_=>none) (λa=>Zrs a.1 a.2)
theorem ZNz:Zb prog 84 ZWH:=
 pureQ 72842913792127 [(154,Zx9)] [] _ _ ⟨ZoQ,Tv⟩ Tryz.func84 Tryz.call84 trivial
def ZLw (chip:Int) (op:Int):RT (Int):=
 let x1:=bif (Zc chip op).1==14 then (Zc chip op).1==14 else (Zc chip op).1==15
 let x2:= !(Zc chip op).1==2&&(!x1&&((bif (Zc chip op).1==16 then (Zc chip op).1==16 else bif (Zc chip op).1==17 then (Zc chip op).1==17 else bif (Zc chip op).1==28 then (Zc chip op).1==28 else bif (Zc chip op).1==29 then (Zc chip op).1==29 else bif (Zc chip op).1==25 then (Zc chip op).1==25 else bif (Zc chip op).1==27 then (Zc chip op).1==27 else bif (Zc chip op).1==30 then (Zc chip op).1==30 else (Zc chip op).1==45)||(Zc chip op).1==26&&(Zc chip op).2.2.2.2.2.2.1 !=11))
 .br (rOn chip&&x2) (.Lf (6)) (.br (rOn chip&&(Zc chip op).1==37) (.Lf (5)) (.br (!rOn chip&&(x2||bif (Zc chip op).1==2 then (Zc chip op).2.2.1 !=6&&(Zc chip op).2.2.2.1 !=6 else x1&&(Zc chip op).2.2.1 !=6)) (.Lf (5)) (.Lf (4))))
def ZgK (chip:Int) (op:Int):Int:=(ZLw chip op).val
def ZB0 (c:TC) (l:QT1):RT TC:=
 .br (c.1 !=2)
 (.Lf (c))
 (.Lf ((c.1,c.2.1,c.2.2.1,c.2.2.2.1,c.2.2.2.2.1,c.2.2.2.2.2.1,l.2.2.2.2.1&&(c.2.2.2.2.2.2.1|| !c.2.2.2.2.2.2.2.2.1),c.2.2.2.2.2.2.2.1||l.2.2.2.2.2.1&& !c.2.2.2.2.2.2.2.2.2.1,l.2.2.2.2.1,l.2.2.2.2.2.1,c.2.2.2.2.2.2.2.2.2.2)))
def ZNl (c:TC) (l:QT1):TC:=(ZB0 c l).val
def ZWA:En:=Zi ZMH ZMx (λ_=>none) (λa=>ZNl a.1 a.2)
theorem ZNk:Zb prog 191 ZWA:=
 pureQ 31 [] [] _ _ trivial Tryz.func191 Tryz.call191 trivial
def Zns (c:TC) (l:QT1):RT TC:=
 .br (!rOn c.1)
 (.Lf (c))
 (.Lf ((c.1,c.2.1,c.2.2.1,c.2.2.2.1,c.2.2.2.2.1,c.2.2.2.2.2.1,l.2.2.2.2.1&&(c.2.2.2.2.2.2.1|| !c.2.2.2.2.2.2.2.2.1),c.2.2.2.2.2.2.2.1||l.2.2.2.2.2.1&& !c.2.2.2.2.2.2.2.2.2.1,l.2.2.2.2.1,l.2.2.2.2.2.1,c.2.2.2.2.2.2.2.2.2.2)))
def Zg (c:TC) (l:QT1):TC:=(Zns c l).val
def ZMV (c:TC) (l:QT1):RT (Int):=
 .br (c.1==2&&c.2.2.2.2.2.2.1)
 (.Lf (1))
 (.br (!c.2.2.1||c.2.2.2.1)
  (.Lf (0))
  (.br (c.1==2&&(c.2.2.2.2.2.2.2.1&&andI u8 c.2.2.2.2.2.1 4==0))
  (.Lf (2))
  (.br (c.1==2&&(l.2.2.2.2.2.2.1&&andI u8 c.2.2.2.2.2.1 2==0))
   (.Lf (3))
   (.br (c.1==2&&(l.2.2.2.2.2.2.2.1&&andI u8 c.2.2.2.2.2.1 1==0))
   (.Lf (4))
   (.br l.2.2.2.2.2.2.2.2
    (.Lf (5))
    (.Lf (0)))))))
def ZWr (c:TC) (l:QT1):Int:=(ZMV c l).val
def ZYY:En:=Zi ZMH ZUd (λ_=>none) (λa=>ZWr a.1 a.2)
theorem ZR4:Zb prog 194 ZYY:=
 pureQ 576601524159939135 [] [] _ _ trivial Tryz.func194 Tryz.call194 trivial
def ZwJ (c:TC) (l:QT1):RT (Int):=
 .br (rOn c.1&&c.2.2.2.2.2.2.1)
 (.Lf (1))
 (.br (!c.2.2.1||c.2.2.2.1)
  (.Lf (0))
  (.br (rOn c.1&&(c.2.2.2.2.2.2.2.1&&andI u8 c.2.2.2.2.2.1 4==0))
  (.Lf (2))
  (.br (rOn c.1&&(l.2.2.2.2.2.2.1&&andI u8 c.2.2.2.2.2.1 2==0))
   (.Lf (3))
   (.br (rOn c.1&&(l.2.2.2.2.2.2.2.1&&andI u8 c.2.2.2.2.2.1 1==0))
   (.Lf (4))
   (.br l.2.2.2.2.2.2.2.2
    (.Lf (5))
    (.Lf (0)))))))
def ZbI (c:TC) (l:QT1):Int:=(ZwJ c l).val
abbrev ZoT:List Sh:=[Sh.agg Z8,So Kc]
def Zmi (c:TC) (s:Int):RT TC:=
 .br (decide (s<1)||decide (s>5))
 (.Lf (c))
 (.Lf ((c.1,c.2.1,false,false,false,c.2.2.2.2.2.1,!s==1&&c.2.2.2.2.2.2.1,bif s==1 then c.2.2.2.2.2.2.2.1 else !s==2&&c.2.2.2.2.2.2.2.1,c.2.2.2.2.2.2.2.2.1,c.2.2.2.2.2.2.2.2.2.1,s==1||c.2.2.2.2.2.2.2.2.2.2.1,bif s==1 then c.2.2.1 else c.2.2.2.2.2.2.2.2.2.2.2.1,c.2.2.2.2.2.2.2.2.2.2.2.2)))
def ZuP (c:TC) (s:Int):TC:=(Zmi c s).val
def ZSu:En:=Zi ZoT ZMx (λ_=>none) (λa=>ZuP a.1 a.2)
theorem ZIq:Zb prog 81 ZSu:=
 pureQ 1056799 [] [] _ _ trivial Tryz.func81 Tryz.call81 trivial
def Zi6 (c:TC) (s:Int):RT TC:=
 .br (decide (s<1)||decide (s>5))
 (.Lf (c))
 (.Lf ((c.1,c.2.1,false,false,false,c.2.2.2.2.2.1,!s==1&&c.2.2.2.2.2.2.1,!s==2&&c.2.2.2.2.2.2.2.1,c.2.2.2.2.2.2.2.2.1,c.2.2.2.2.2.2.2.2.2.1,s==1||c.2.2.2.2.2.2.2.2.2.2.1,bif s==1 then c.2.2.1 else c.2.2.2.2.2.2.2.2.2.2.2.1,c.2.2.2.2.2.2.2.2.2.2.2.2)))
def Zj (c:TC) (s:Int):TC:=(Zi6 c s).val
abbrev ZtD:List Sh:=[Sh.agg Z8]
def ZA6 (c:TC):RT TC:=
 .Lf ((c.1,(c.2.1.1,c.2.1.2.1,c.2.1.2.2.1,c.2.1.2.2.2.1,c.2.1.2.2.2.2.1,c.2.1.2.2.2.2.2.1,c.2.1.2.2.2.2.2.2.1,c.2.1.2.2.2.2.2.2.2.1,c.2.1.2.2.2.2.2.2.2.2.1,0),false,false,false,bif c.1==2 then 7 else 0,false,false,false,false,false,false,false))
def ZMK (c:TC):TC:=(ZA6 c).val
def ZWn:En:=Zi ZtD ZMx (λ_=>none) (λa=>ZMK a)
theorem ZMJ:Zb prog 80 ZWn:=
 pureQ 15 [] [] _ _ trivial Tryz.func80 Tryz.call80 trivial
def Zno (c:TC):RT TC:=
 .Lf ((c.1,(c.2.1.1,c.2.1.2.1,c.2.1.2.2.1,c.2.1.2.2.2.1,c.2.1.2.2.2.2.1,c.2.1.2.2.2.2.2.1,c.2.1.2.2.2.2.2.2.1,c.2.1.2.2.2.2.2.2.2.1,c.2.1.2.2.2.2.2.2.2.2.1,0),false,false,false,bif rOn c.1 then 7 else 0,false,false,false,false,false,false,false))
def ZC (c:TC):TC:=(Zno c).val
def ZAi (k:Int):RT (Bool):=
 .Lf (k==1||(k==2||(k==4||(k==6||(k==8||k==9)))))
def ZaS (k:Int):Bool:=(ZAi k).val
def ZA7 (k:Int):RT (Bool):=
 .br (bif k==1 then k==1 else bif k==2 then k==2 else bif k==4 then k==4 else bif k==6 then k==6 else bif k==8 then k==8 else k==9)
 (.Lf (true))
 (.Lf (false))
def ZMM (k:Int):Bool:=(ZA7 k).val
def ZWo:En:=Zi ZxT Zn6 (λ_=>none) (λa=>ZMM a)
theorem ZML:Zb prog 83 ZWo:=
 pureQ 23 [] [] _ _ trivial Tryz.func83 Tryz.call83 trivial
def ZEc (k:Int):RT (Bool):=
 .Lf (k==3||(k==5||k==7))
def ZbY (k:Int):Bool:=(ZEc k).val
def Ztr (k:Int):RT (Bool):=
 .Lf (k==3||(k==5||k==7))
def ZAR (k:Int):Bool:=(Ztr k).val
def ZRO:En:=Zi ZxT Zn6 (λ_=>none) (λa=>ZAR a)
theorem ZHn:Zb prog 139 ZRO:=
 pureQ 7 [] [] _ _ trivial Tryz.func139 Tryz.call139 trivial
def Ztx (k:Int):RT (Int):=
 .br (k==1)
 (.Lf (162))
 (.br (k==2)
  (.Lf (130))
  (.br (k==4)
  (.Lf (134))
  (.br (k==5)
   (.Lf (4))
   (.br (k==6)
   (.Lf (66))
   (.br (k==7)
    (.Lf (16))
    (.br (k==8)
    (.Lf (35))
    (.br (k==9)
     (.Lf (3))
     (.br (k==10)
     (.Lf (138))
     (.Lf (0))))))))))
def ZA1 (k:Int):Int:=(Ztx k).val
def ZRU:En:=Zi ZxT ZN3 (λ_=>none) (λa=>ZA1 a)
theorem ZHu:Zb prog 212 ZRU:=
 pureQ 1398103 [] [] _ _ trivial Tryz.func212 Tryz.call212 trivial
def ZEf (k:Int):RT (Int):=
 .br (k==1)
 (.Lf (162))
 (.br (k==2)
  (.Lf (130))
  (.br (k==4)
  (.Lf (134))
  (.br (k==5)
   (.Lf (4))
   (.br (k==6)
   (.Lf (66))
   (.br (k==7)
    (.Lf (16))
    (.br (k==8)
    (.Lf (35))
    (.br (k==9)
     (.Lf (3))
     (.br (k==10)
     (.Lf (138))
     (.Lf (0))))))))))
def Znm (k:Int):Int:=(ZEf k).val
abbrev ZoM:Rs:=Rs.tup [So R.bool,So R.bool,So R.bool]
def ZtX (k:Int):RT (QT36):=
 .br (k==1)
 (.Lf ((false,true,true)))
 (.br (bif k==2 then k==2 else bif k==4 then k==4 else k==11)
  (.Lf ((false,true,false)))
  (.br (bif k==3 then k==3 else k==5)
  (.Lf ((false,false,true)))
  (.br (k==6)
   (.Lf ((true,true,false)))
   (.br (k==7)
   (.Lf ((true,false,true)))
   (.br (bif k==8 then k==8 else bif k==9 then k==9 else k==12)
    (.Lf ((true,true,true)))
    (.Lf ((false,false,false))))))))
def ZBZ (k:Int):QT36:=(ZtX k).val
def ZSd:En:=Zi ZxT ZoM (λ_=>none) (λa=>ZBZ a)
theorem ZHI:Zb prog 211 ZSd:=
 pureQ 692575 [] [] _ _ trivial Tryz.func211 Tryz.call211 trivial
def ZEA (k:Int):RT (QT36):=
 .br (k==1)
 (.Lf ((false,true,true)))
 (.br (bif k==2 then k==2 else bif k==4 then k==4 else k==11)
  (.Lf ((false,true,false)))
  (.br (bif k==3 then k==3 else k==5)
  (.Lf ((false,false,true)))
  (.br (k==6)
   (.Lf ((true,true,false)))
   (.br (k==7)
   (.Lf ((true,false,true)))
   (.br (bif k==8 then k==8 else bif k==9 then k==9 else k==12)
    (.Lf ((true,true,true)))
    (.Lf ((false,false,false))))))))
def ZfN (k:Int):QT36:=(ZEA k).val
def ZoS (k:Int):RT (Bool):=
 .Lf (k !=10&&(k !=11&&k !=12))
def ZuO (k:Int):Bool:=(ZoS k).val
def ZOb:En:=Zi ZxT Zn6 (λ_=>none) (λa=>ZuO a)
theorem ZCo:Zb prog 189 ZOb:=
 pureQ 7 [] [] _ _ trivial Tryz.func189 Tryz.call189 trivial
def Zxs (k:Int):RT (Bool):=
 .Lf (k !=10&&(k !=11&&k !=12))
def Zq (k:Int):Bool:=(Zxs k).val
theorem ZSI (c l):ZNl c l=Zg c l:=by simp only[ZNl,ZB0,Zg,Zns,RT.val,Zby,bne]
theorem ZWb (c l):ZWr c l=ZbI c l:=by simp[ZWr,ZMV,ZbI,ZwJ,RT.val,Zby]
theorem ZQn (c) (s:Int):ZuP c s=Zj c s:=by
 by_cases h:s=1
 ·subst h;simp[ZuP,Zmi,Zj,Zi6,RT.val]
 ·have h':(s==1)=false:=by simpa using h
  simp[ZuP,Zmi,Zj,Zi6,RT.val,h']
theorem ZRb (c):ZMK c=ZC c:=by simp[ZMK,ZA6,ZC,Zno,RT.val,Zby]
theorem ZRc (k):ZMM k=ZaS k:=by simp[ZMM,ZA7,ZaS,ZAi,RT.val]
theorem ZJk (k):ZAR k=ZbY k:=by simp[ZAR,Ztr,ZbY,ZEc,RT.val]
theorem ZKu (k):ZA1 k=Znm k:=by simp[ZA1,Ztx,Znm,ZEf,RT.val]
theorem ZON (k):ZBZ k=ZfN k:=by simp[ZBZ,ZtX,ZfN,ZEA,RT.val]
theorem ZJf (k):ZuO k=Zq k:=by simp[ZuO,ZoS,Zq,Zxs,RT.val]
def ZFp:En:=Zi ZMH ZMx (λ_=>none) (λa=>Zg a.1 a.2)
theorem ZHJ:Zb prog 191 ZFp:=ZNk.tot (λa h=>by simp) (λa h=>ZSI _ _)
def ZtI:En:=Zi ZMH ZUd (λ_=>none) (λa=>ZbI a.1 a.2)
theorem Zx0:Zb prog 194 ZtI:=ZR4.tot (λa h=>by simp) (λa h=>ZWb _ _)
def ZdA:En:=Zi ZoT ZMx (λ_=>none) (λa=>Zj a.1 a.2)
theorem Zdi:Zb prog 81 ZdA:=ZIq.tot (λa h=>by simp) (λa h=>ZQn _ _)
def Zjo:En:=Zi ZtD ZMx (λ_=>none) (λa=>ZC a)
theorem Zhw:Zb prog 80 Zjo:=ZMJ.tot (λa h=>by simp) (λa h=>ZRb _)
def ZcV:En:=Zi ZxT Zn6 (λ_=>none) (λa=>ZaS a)
theorem Zdh:Zb prog 83 ZcV:=ZML.tot (λa h=>by simp) (λa h=>ZRc _)
def Zdz:En:=Zi ZxT Zn6 (λ_=>none) (λa=>ZbY a)
theorem ZfQ:Zb prog 139 Zdz:=ZHn.tot (λa h=>by simp) (λa h=>ZJk _)
def ZnV:En:=Zi ZxT ZN3 (λ_=>none) (λa=>Znm a)
theorem ZA0:Zb prog 212 ZnV:=ZHu.tot (λa h=>by simp) (λa h=>ZKu _)
def ZoN:En:=Zi ZxT ZoM (λ_=>none) (λa=>ZfN a)
theorem ZBY:Zb prog 211 ZoN:=ZHI.tot (λa h=>by simp) (λa h=>ZON _)
def Zrv:En:=Zi ZxT Zn6 (λ_=>none) (λa=>Zq a)
theorem Zyd:Zb prog 189 Zrv:=ZCo.tot (λa h=>by simp) (λa h=>ZJf _)
def Zcl:En:=.tree (Zx (envX prog [] [] 7 8) Tryz.f146)
theorem ZeD:Zb prog 146 Zcl:=Z5 trivial Tryz.func146 rfl (by kernel_rfl) Tryz.call146 trivial
def Zbv:En:=.tree (Zx (envX prog [] [] 7 8) Tryz.f147)
theorem Zdr:Zb prog 147 Zbv:=Z5 trivial Tryz.func147 rfl (by kernel_rfl) Tryz.call147 trivial
def Zhb:En:=.tree (Zx (envX prog [(83,ZcV),(139,Zdz),(146,Zcl),(147,Zbv),(211,ZoN)] [] 63 8) Tryz.f148)
theorem Zlb:Zb prog 148 Zhb:=Z5 ⟨Zdh,ZfQ,ZeD,Zdr,ZBY,Tv⟩ Tryz.func148 rfl (by kernel_rfl) Tryz.call148 trivial
def Zfw:En:=.tree (Zx (envX prog [(83,ZcV),(139,Zdz),(147,Zbv),(212,ZnV)] [] 63 8) Tryz.f149)
theorem Ziy:Zb prog 149 Zfw:=Z5 ⟨Zdh,ZfQ,Zdr,ZA0,Tv⟩ Tryz.func149 rfl (by kernel_rfl) Tryz.call149 trivial
abbrev ZMR:List Sh:=[So Kc,Sh.agg (R.Pq Kc (R.Pq (RY) (R.Pq Ka (R.Pq Kb (R.Pq R.bool R.bool)))))]
abbrev ZMT:Rs:=Rs.one (Sh.agg (R.Pq Kc (R.Pq Kb (R.Pq Ka (R.Pq R.bool (R.Pq R.bool (R.Pq R.bool (R.Pq R.bool (R.Pq R.bool (R.Pq R.bool (R.Pq R.bool rcF7)))))))))))
def ZMS (chip:Int) (s:Int×TY×Int×Int×Bool×Bool):RT (QT10):=
 let x1:Int:=bif decide (s.1>=1)&&decide (s.1<=7) then s.2.1.2.1 else 0
 let x2:=s.1==2||(s.1==7||s.1==3)
 let x3:=x2&&ZbY s.2.1.1
 let x4:Int:=bif s.1==3&&ZaS s.2.1.1 then s.2.2.1 else bif x3 then s.2.1.2.2.1 else 0
 let x5:=s.1==1&&(s.2.1.1 !=11&&s.2.1.1 !=12)
 .br (chip==2)
 (.Lf ((s.1,x1,bif s.1==1 then u8.wrap s.2.1.2.1 else x4,false,false,false,false,s.1==1,decide (s.1>=1)&&decide (s.1<=7)&&(ZfN s.2.1.1).1,decide (s.1>=1)&&decide (s.1<=7)&&(ZfN s.2.1.1).2.1,decide (s.1>=1)&&decide (s.1<=7)&&(ZfN s.2.1.1).2.2,x2&&(ZaS s.2.1.1&& !(s.2.1.1==8||s.2.1.1==9)),x2&&(s.2.1.1==8||s.2.1.1==9),s.2.2.2.2.2,x3,s.1==8,s.1==8||(s.1==9||s.1==10))))
 (.Lf ((s.1,bif s.1==9 then s.2.2.2.1 else x1,bif x5 then Znm s.2.1.1 else x4,x5,x2&&ZaS s.2.1.1,s.1==7||s.1==9,s.2.2.2.2.1,false,false,false,false,false,false,false,bif s.1==7 then ZbY s.2.1.1 else s.1==3&&ZbY s.2.1.1,s.1==8,s.1==8)))
def ZMU (chip:Int) (s:Int×TY×Int×Int×Bool×Bool):QT10:=(ZMS chip s).val
def ZUa:En:=Zi ZMR ZMT (λ_=>none) (λa=>ZMU a.1 a.2)
theorem ZR3:Zb prog 79 ZUa:=
 pureQ 63 [(83,ZcV),(139,Zdz),(146,Zcl),(147,Zbv),(148,Zhb),(149,Zfw)] [] _ _ ⟨Zdh,ZfQ,ZeD,Zdr,Zlb,Ziy,Tv⟩ Tryz.func79 Tryz.call79 trivial
def ZwI (chip:Int) (t:Int) (x:QT18) (d:Int) (i:Bool) (o:Bool):RT (QT10):=
 let x1:Bool×Bool×Bool×Bool×Bool×Bool×Bool×Bool×Bool×Bool×Bool:=(!rOn chip&&bif rOn chip then i else i,false,false,false,false,false,false,bif !rOn chip then rOn chip&&o else rOn chip&&o,false,false,rOn chip)
 let x2:=(t==2||(t==7||t==3))&&ZbY x.1
 let x3:Int:=bif t==3&&ZaS x.1 then d else bif x2 then x.2.2.1 else 0
 .br (t==8)
 (.Lf ((t,0,0,false,false,false,!rOn chip&&bif rOn chip then i else i,false,false,false,false,false,false,bif !rOn chip then rOn chip&&o else rOn chip&&o,false,true,true)))
 (.br (t==9)
  (.Lf ((t,bif !rOn chip then x.2.1 else 0,0,false,false,!rOn chip,x1)))
  (.br (t==10)
  (.Lf ((t,0,0,false,false,false,x1)))
  (.br (rOn chip)
   (.Lf ((t,x.2.1,bif t==1 then u8.wrap x.2.1 else x3,false,false,false,!rOn chip&&bif rOn chip then i else i,t==1,(ZfN x.1).1,(ZfN x.1).2.1,(ZfN x.1).2.2,(t==2||(t==7||t==3))&&(ZaS x.1&& !(x.1==8||x.1==9)),(t==2||(t==7||t==3))&&(x.1==8||x.1==9),bif !rOn chip then rOn chip&&o else rOn chip&&o,x2,false,false)))
   (.Lf ((t,x.2.1,bif t==1&&(x.1 !=11&&x.1 !=12) then Znm x.1 else x3,t==1&&(x.1 !=11&&x.1 !=12),(t==2||(t==7||t==3))&&ZaS x.1,t==7,!rOn chip&&bif rOn chip then i else i,false,false,false,false,false,false,bif !rOn chip then rOn chip&&o else rOn chip&&o,ZbY x.1&&(t==7||t==3),false,false))))))
def Znp (chip:Int) (t:Int) (x:QT18) (d:Int) (i:Bool) (o:Bool):QT10:=(ZwI chip t x d i o).val
abbrev ZN1:List Sh:=[Sh.agg (R.Pq Z8 (R.Pq Kc (R.Pq (R.sl Ka) (R.Pq (RY) (R.Pq Kc R.bool)))))]
def ZUm (c:QT5):RT (Bool):=
 let x1:=decide (iN (Le c.2.2.1)>0)||c.2.1 !=0
 .Lf (bif decide (c.2.2.2.2.1>=2) then decide (c.2.2.2.2.1<=7)||x1 else x1)
def ZuN (c:QT5):Bool:=(ZUm c).val
def Zyb:En:=Zi ZN1 Zn6 (λ_=>none) (λa=>ZuN a)
theorem ZFI:Zb prog 144 Zyb:=
 pureQ 7 [] [] _ _ trivial Tryz.func144 Tryz.call144 trivial
def ZLC (c:QT5):RT (Bool):=
 let x1:=decide (iN (Le c.2.2.1)>0)||c.2.1 !=0
 .Lf (bif decide (c.2.2.2.2.1>=2) then decide (c.2.2.2.2.1<=7)||x1 else x1)
def Zdx (c:QT5):Bool:=(ZLC c).val
theorem ZMj (chip t:Int) (h1:1<=t) (h2:t<=10) (x:QT18) (d d' pc:Int) (i o:Bool) (hd:t≠10->d'=d):
  ZMU chip (t,x,d,pc,i,o)=Znp chip t (bif t==9 then (0,pc,0,0) else x) d' i o:=by
 obtain⟨x1,x2,x3,x4⟩:=x;simp only[ZMU,ZMS,Znp,ZwI,RT.val,Zby];generalize (chip==2)=b;have:t=1\/t=2\/t=3\/t=4\/t=5\/t=6\/t=7\/t=8\/t=9\/t=10:=by omega
 by_cases h:t=10
 ·subst h;cases b<;>simp
 ·rw[hd h];rcases this with rfl|rfl|rfl|rfl|rfl|rfl|rfl|rfl|rfl|rfl<;>cases b<;>simp<;>(try cases ZbY x1)<;>(try cases ZaS x1)<;>simp
