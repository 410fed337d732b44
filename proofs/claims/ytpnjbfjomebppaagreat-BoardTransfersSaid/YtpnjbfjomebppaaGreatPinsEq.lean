import Derived.Test.YtpnjbfjomebppaaGreatKinds
open Go.Proofs.Tryz (prog)
open Go.IntKind (u8 u16 i64)
set_option linter.unusedSimpArgs false
open Go Go.S3 Go.Proofs
set_option linter.unusedVariables false
set_option maxRecDepth 100000
namespace Go.Proofs.YtpnjbfjomebppaaGreat
noncomputable section
def Zre (s:Int):RT (Bool):=
 .Lf (decide (s>=1)&&decide (s<=4))
def Ze (s:Int):Bool:=(Zre s).val
def Zky:En:=Zi ZxE ZnX (λ_=>none) (λa=>Ze a)
theorem Zli:Zb prog 151 Zky:=
 pureQ 7 [] [] _ _ trivial Tryz.func151 Tryz.call151 trivial
abbrev ZXW:R:=R.Pq Z8 (R.Pq R.bool (R.Pq (R.sl Ka) (R.Pq (R.Pq Kc (R.Pq Kc (R.Pq Kc (R.Pq Kc (R.Pq Kc (R.Pq Kc (R.Pq Kc Kc))))))) (R.sl (RY)))))
def qAtT (s:QT0) (n:Int):RT (Option (Int)):=
 .br (!decide (n< ↑(Le s.2.2.1))||Zg n (Le s.2.2.1)) (.br (decide (n< ↑(Le s.2.2.1))) (Ls (R.get Ka s.2.2.1 n)) (Ls (0))) Ln
def qAt (s:QT0) (n:Int):Int:=getO ZNl.Df (qAtT s n).val
def qAtC (s:QT0) (n:Int):Bool:=okB (qAtT s n).val
def qAtE:En:=Zm4 ZXW ZxE ZNl (λa=>some (qAtC a.1 a.2)) (λa=>qAt a.1 a.2)
theorem Zjh:Zb prog 213 qAtE:=
 Zi3 (P:=prog) (n:=31) (k:=8) (l:=[]) (ol:=[]) trivial Tryz.func213 rfl (by kernel_rfl) Tryz.call213 trivial (rb:=ZXW) (ts:=ZxE) (rs:=ZNl) (by kernel_rfl) (t:=λa=>qAtT a.1 a.2) (λa=>by kernel_rfl)
def Zxi (s:QT0) (n:Int):RT (Option (Int)):=
 .br (!qAtC s (i64.wrap (n+1))||qAtC s n) (.br (qAtC s (i64.wrap (n+1))) (Ls (ZfR (qAt s (i64.wrap (n+1))) (qAt s n))) Ln) Ln
def ZgT (s:QT0) (n:Int):Int:=getO ZBF.Df (Zxi s n).val
def Zc3 (s:QT0) (n:Int):Bool:=okB (Zxi s n).val
def Znm:En:=Zm4 ZXW ZxE ZBF (λa=>some (Zc3 a.1 a.2)) (λa=>ZgT a.1 a.2)
theorem ZsT:Zb prog 284 Znm:=
 Zi3 (P:=prog) (n:=31) (k:=8) (l:=[(213,qAtE),(220,ZtT)]) (ol:=[]) ⟨Zjh,ZxQ,Tv⟩ Tryz.func284 rfl (by kernel_rfl) Tryz.call284 trivial (rb:=ZXW) (ts:=ZxE) (rs:=ZBF) (by kernel_rfl) (t:=λa=>Zxi a.1 a.2) (λa=>by kernel_rfl)
abbrev Zxj:List Sh:=[]
def ZEe (s:QT0):RT (Int):=
 .br s.2.1 (.Lf s.1.2.1.2.2.2.2.2.2.2.2.2) (.Lf (u16.wrap (s.1.2.1.2.2.2.2.2.2.2.2.2+u16.wrap s.2.2.2.1.2.1)))
def Zz (s:QT0):Int:=(ZEe s).val
def Zjg:En:=Zm4 ZXW Zxj ZBF (λ_=>none) (λa=>Zz a.1)
theorem Zq2:Zb prog 227 Zjg:=
 ZlU (P:=prog) (n:=7) (k:=8) (l:=[]) (ol:=[]) trivial Tryz.func227 rfl (by kernel_rfl) Tryz.call227 trivial (rb:=ZXW) (ts:=Zxj) (rs:=ZBF) (by kernel_rfl) (t:=λa=>ZEe a.1) (λa=>by kernel_rfl)
def ZKY (s:QT0):RT (Bool):=
 .Lf (Zgj s.2.2.2.1.2.2.2.2.2.2.1 s.1.2.1.2.2.2.2.2.2.2.1)
def Zh4 (s:QT0):Bool:=(ZKY s).val
def Zio:En:=Zm4 ZXW Zxj ZnX (λ_=>none) (λa=>Zh4 a.1)
theorem Znk:Zb prog 286 Zio:=
 ZlU (P:=prog) (n:=7) (k:=8) (l:=[(353,ZE4)]) (ol:=[]) ⟨ZHo,Tv⟩ Tryz.func286 rfl (by kernel_rfl) Tryz.call286 trivial (rb:=ZXW) (ts:=Zxj) (rs:=ZnX) (by kernel_rfl) (t:=λa=>ZKY a.1) (λa=>by kernel_rfl)
def ZXU (s:QT0) (n:Int):RT (Int):=
 .Lf (rGet s.1.2.1 n)
def qReg (s:QT0) (n:Int):Int:=(ZXU s n).val
def Zxh:En:=Zm4 ZXW ZxE ZNl (λ_=>none) (λa=>qReg a.1 a.2)
theorem ZsS:Zb prog 216 Zxh:=
 ZlU (P:=prog) (n:=31) (k:=8) (l:=[(281,ZTz)]) (ol:=[]) ⟨ZRp,Tv⟩ Tryz.func216 rfl (by kernel_rfl) Tryz.call216 trivial (rb:=ZXW) (ts:=ZxE) (rs:=ZNl) (by kernel_rfl) (t:=λa=>ZXU a.1 a.2) (λa=>by kernel_rfl)
def ZTf (s:QT0) (n:Int):RT (Int):=
 .Lf (ZbM s.1.2.1 n)
def Zel (s:QT0) (n:Int):Int:=(ZTf s n).val
def ZgR:En:=Zm4 ZXW ZxE ZBF (λ_=>none) (λa=>Zel a.1 a.2)
theorem Zjb:Zb prog 215 ZgR:=
 ZlU (P:=prog) (n:=31) (k:=8) (l:=[(280,ZMg)]) (ol:=[]) ⟨ZMf,Tv⟩ Tryz.func215 rfl (by kernel_rfl) Tryz.call215 trivial (rb:=ZXW) (ts:=ZxE) (rs:=ZBF) (by kernel_rfl) (t:=λa=>ZTf a.1 a.2) (λa=>by kernel_rfl)
def Zje (s:QT0):RT (Option (Int)):=
 .br (qAtC s 1) (Ls (bif s.2.2.2.1.1==14 then (rInr s.1.1 (qAt s 1) s.1.2.1.2.2.2.2.2.2.2.1).1 else (rDcr s.1.1 (qAt s 1) s.1.2.1.2.2.2.2.2.2.2.1).1)) Ln
def Zjf (s:QT0):Int:=getO ZNl.Df (Zje s).val
def ZgU (s:QT0):Bool:=okB (Zje s).val
def Znn:En:=Zm4 ZXW Zxj ZNl (λa=>some (ZgU a.1)) (λa=>Zjf a.1)
theorem Zz9:Zb prog 218 Znn:=
 Zi3 (P:=prog) (n:=15) (k:=8) (l:=[(213,qAtE),(282,ZE1),(283,ZFf)]) (ol:=[]) ⟨Zjh,ZE0,ZFe,Tv⟩ Tryz.func218 rfl (by kernel_rfl) Tryz.call218 trivial (rb:=ZXW) (ts:=Zxj) (rs:=ZNl) (by kernel_rfl) (t:=λa=>Zje a.1) (λa=>by kernel_rfl)
def Zjc (s:QT0):RT (Option (Int)):=
 let x1:=s.2.2.2.1.1==13||s.2.2.2.1.2.2.2.1==6
 .br (!x1||qAtC s 1) (.br (x1) (Ls (qAt s 1)) (Ls (qReg s s.2.2.2.1.2.2.2.1))) Ln
def Zjd (s:QT0):Int:=getO ZNl.Df (Zjc s).val
def ZgS (s:QT0):Bool:=okB (Zjc s).val
def Znl:En:=Zm4 ZXW Zxj ZNl (λa=>some (ZgS a.1)) (λa=>Zjd a.1)
theorem Zz7:Zb prog 293 Znl:=
 Zi3 (P:=prog) (n:=7) (k:=8) (l:=[(213,qAtE),(216,Zxh)]) (ol:=[]) ⟨Zjh,ZsS,Tv⟩ Tryz.func293 rfl (by kernel_rfl) Tryz.call293 trivial (rb:=ZXW) (ts:=Zxj) (rs:=ZNl) (by kernel_rfl) (t:=λa=>Zjc a.1) (λa=>by kernel_rfl)
abbrev mAtRs:Rs:=Rs.one (So Ka)
def mAtT (s:QT5) (n:Int):RT (Option (Int)):=
 .br (!decide (n< ↑(Le s.2.2.1))||Zg n (Le s.2.2.1)) (.br (decide (n< ↑(Le s.2.2.1))) (Ls (R.get Ka s.2.2.1 n)) (Ls (0))) Ln
def mAt (s:QT5) (n:Int):Int:=getO mAtRs.Df (mAtT s n).val
def mAtC (s:QT5) (n:Int):Bool:=okB (mAtT s n).val
def ZNX (s:QT5) (n:Int):RT (Option (Int)):=
 .br (!mAtC s (i64.wrap (n+1))||mAtC s n) (.br (mAtC s (i64.wrap (n+1))) (Ls (ZfR (mAt s (i64.wrap (n+1))) (mAt s n))) Ln) Ln
def ZjE (s:QT5) (n:Int):Int:=getO ZBF.Df (ZNX s n).val
def ZeX (s:QT5) (n:Int):Bool:=okB (ZNX s n).val
def ZRR (s:QT5) (n:Int):RT (Int):=
 .br s.2.1 (.Lf s.1.2.1.2.2.2.2.2.2.2.2.2) (.Lf (u16.wrap (s.1.2.1.2.2.2.2.2.2.2.2.2+u16.wrap n)))
def Ziv (s:QT5) (n:Int):Int:=(ZRR s n).val
def ZWl (s:QT5) (i:QT6):RT (Bool):=
 .Lf (Zgj i.2.2.2.2.2.2.1 s.1.2.1.2.2.2.2.2.2.2.1)
def ZjF (s:QT5) (i:QT6):Bool:=(ZWl s i).val
def ZKB (c:TC) (i:QT6) (v:Int):RT (QT2):=
 .br (i.1==14) (.Lf (rInr c.1 v c.2.1.2.2.2.2.2.2.2.1)) (.Lf (rDcr c.1 v c.2.1.2.2.2.2.2.2.2.1))
def ZsD (c:TC) (i:QT6) (v:Int):QT2:=(ZKB c i v).val
def ZBH (chip:Int) (op:Int):RT (Int):=
 .br ((Zc chip op).1==2) (.br (!chip==2&&((Zc chip op).2.2.1 !=6&&(Zc chip op).2.2.2.1 !=6)) (.Lf (5)) (.Lf (4))) (.br (bif (Zc chip op).1==14 then (Zc chip op).1==14 else (Zc chip op).1==15) (.br (!chip==2&&(Zc chip op).2.2.1 !=6) (.Lf (5)) (.Lf (4))) (.br ((Zc chip op).1==37) (.br (chip==2) (.Lf (5)) (.Lf (4))) (.br ((Zc chip op).1==26) (.br ((Zc chip op).2.2.2.2.2.2.1==11) (.Lf (4)) (.br (chip==2) (.Lf (6)) (.Lf (5)))) (.br (bif (Zc chip op).1==16 then (Zc chip op).1==16 else bif (Zc chip op).1==17 then (Zc chip op).1==17 else bif (Zc chip op).1==28 then (Zc chip op).1==28 else bif (Zc chip op).1==29 then (Zc chip op).1==29 else bif (Zc chip op).1==25 then (Zc chip op).1==25 else bif (Zc chip op).1==27 then (Zc chip op).1==27 else bif (Zc chip op).1==45 then (Zc chip op).1==45 else (Zc chip op).1==30) (.br (chip==2) (.Lf (6)) (.Lf (5))) (.Lf (4))))))
def Zrf (chip:Int) (op:Int):Int:=(ZBH chip op).val
def ZVR:En:=Zi ZxC ZTs (λ_=>none) (λa=>Zrf a.1 a.2)
theorem ZMR:Zb prog 84 ZVR:=
 pureQ 72842913792127 [(154,ZxV)] [] _ _ ⟨ZoH,Tv⟩ Tryz.func84 Tryz.call84 trivial
def Zz6 (chip:Int) (op:Int):RT (Int):=
 let x1:=bif (Zc chip op).1==14 then (Zc chip op).1==14 else (Zc chip op).1==15
 let x2:= !(Zc chip op).1==2&&(!x1&&((bif (Zc chip op).1==16 then (Zc chip op).1==16 else bif (Zc chip op).1==17 then (Zc chip op).1==17 else bif (Zc chip op).1==28 then (Zc chip op).1==28 else bif (Zc chip op).1==29 then (Zc chip op).1==29 else bif (Zc chip op).1==25 then (Zc chip op).1==25 else bif (Zc chip op).1==27 then (Zc chip op).1==27 else bif (Zc chip op).1==30 then (Zc chip op).1==30 else (Zc chip op).1==45)||(Zc chip op).1==26&&(Zc chip op).2.2.2.2.2.2.1 !=11))
 .br (rOn chip&&x2) (.Lf (6)) (.br (rOn chip&&(Zc chip op).1==37) (.Lf (5)) (.br (!rOn chip&&(x2||bif (Zc chip op).1==2 then (Zc chip op).2.2.1 !=6&&(Zc chip op).2.2.2.1 !=6 else x1&&(Zc chip op).2.2.1 !=6)) (.Lf (5)) (.Lf (4))))
def ZeT (chip:Int) (op:Int):Int:=(Zz6 chip op).val
def ZBD (c:TC) (l:QT1):RT TC:=
 .br (c.1 !=2)
 (.Lf (c))
 (.Lf ((c.1,c.2.1,c.2.2.1,c.2.2.2.1,c.2.2.2.2.1,c.2.2.2.2.2.1,l.2.2.2.2.1&&(c.2.2.2.2.2.2.1|| !c.2.2.2.2.2.2.2.2.1),c.2.2.2.2.2.2.2.1||l.2.2.2.2.2.1&& !c.2.2.2.2.2.2.2.2.2.1,l.2.2.2.2.1,l.2.2.2.2.2.1,c.2.2.2.2.2.2.2.2.2.2)))
def ZMD (c:TC) (l:QT1):TC:=(ZBD c l).val
def ZVK:En:=Zi ZLZ ZLP (λ_=>none) (λa=>ZMD a.1 a.2)
theorem ZMC:Zb prog 191 ZVK:=
 pureQ 31 [] [] _ _ trivial Tryz.func191 Tryz.call191 trivial
def ZsO (c:TC) (l:QT1):RT TC:=
 .br (!rOn c.1)
 (.Lf (c))
 (.Lf ((c.1,c.2.1,c.2.2.1,c.2.2.2.1,c.2.2.2.2.1,c.2.2.2.2.2.1,l.2.2.2.2.1&&(c.2.2.2.2.2.2.1|| !c.2.2.2.2.2.2.2.2.1),c.2.2.2.2.2.2.2.1||l.2.2.2.2.2.1&& !c.2.2.2.2.2.2.2.2.2.1,l.2.2.2.2.1,l.2.2.2.2.2.1,c.2.2.2.2.2.2.2.2.2.2)))
def Zf (c:TC) (l:QT1):TC:=(ZsO c l).val
def ZMd (c:TC) (l:QT1):RT (Int):=
 .br (c.1==2&&c.2.2.2.2.2.2.1)
 (.Lf (1))
 (.br (!c.2.2.1||c.2.2.2.1)
  (.Lf (0))
  (.br (c.1==2&&(c.2.2.2.2.2.2.2.1&&andI u8 c.2.2.2.2.2.1 4==0))
  (.Lf (2))
  (.br (c.1==2&&(l.2.2.2.2.2.2.1&&andI u8 c.2.2.2.2.2.1 2==0))
   (.Lf (3))
   (.br (c.1==2&&(l.2.2.2.2.2.2.2.1&&andI u8 c.2.2.2.2.2.1 1==0))
   (.Lf (4))
   (.br l.2.2.2.2.2.2.2.2
    (.Lf (5))
    (.Lf (0)))))))
def ZVB (c:TC) (l:QT1):Int:=(ZMd c l).val
def ZX6:En:=Zi ZLZ ZTs (λ_=>none) (λa=>ZVB a.1 a.2)
theorem ZRd:Zb prog 194 ZX6:=
 pureQ 576601524159939135 [] [] _ _ trivial Tryz.func194 Tryz.call194 trivial
def ZDX (c:TC) (l:QT1):RT (Int):=
 .br (rOn c.1&&c.2.2.2.2.2.2.1)
 (.Lf (1))
 (.br (!c.2.2.1||c.2.2.2.1)
  (.Lf (0))
  (.br (rOn c.1&&(c.2.2.2.2.2.2.2.1&&andI u8 c.2.2.2.2.2.1 4==0))
  (.Lf (2))
  (.br (rOn c.1&&(l.2.2.2.2.2.2.1&&andI u8 c.2.2.2.2.2.1 2==0))
   (.Lf (3))
   (.br (rOn c.1&&(l.2.2.2.2.2.2.2.1&&andI u8 c.2.2.2.2.2.1 1==0))
   (.Lf (4))
   (.br l.2.2.2.2.2.2.2.2
    (.Lf (5))
    (.Lf (0)))))))
def Zbr (c:TC) (l:QT1):Int:=(ZDX c l).val
abbrev ZoK:List Sh:=[Sh.agg Z8,So Kc]
def Zl9 (c:TC) (s:Int):RT TC:=
 .br (decide (s<1)||decide (s>5))
 (.Lf (c))
 (.Lf ((c.1,c.2.1,false,false,false,c.2.2.2.2.2.1,!s==1&&c.2.2.2.2.2.2.1,bif s==1 then c.2.2.2.2.2.2.2.1 else !s==2&&c.2.2.2.2.2.2.2.1,c.2.2.2.2.2.2.2.2.1,c.2.2.2.2.2.2.2.2.2.1,s==1||c.2.2.2.2.2.2.2.2.2.2.1,bif s==1 then c.2.2.1 else c.2.2.2.2.2.2.2.2.2.2.2.1,c.2.2.2.2.2.2.2.2.2.2.2.2)))
def ZuH (c:TC) (s:Int):TC:=(Zl9 c s).val
def ZRD:En:=Zi ZoK ZLP (λ_=>none) (λa=>ZuH a.1 a.2)
theorem ZH5:Zb prog 81 ZRD:=
 pureQ 1056799 [] [] _ _ trivial Tryz.func81 Tryz.call81 trivial
def Zja (c:TC) (s:Int):RT TC:=
 .br (decide (s<1)||decide (s>5))
 (.Lf (c))
 (.Lf ((c.1,c.2.1,false,false,false,c.2.2.2.2.2.1,!s==1&&c.2.2.2.2.2.2.1,!s==2&&c.2.2.2.2.2.2.2.1,c.2.2.2.2.2.2.2.2.1,c.2.2.2.2.2.2.2.2.2.1,s==1||c.2.2.2.2.2.2.2.2.2.2.1,bif s==1 then c.2.2.1 else c.2.2.2.2.2.2.2.2.2.2.2.1,c.2.2.2.2.2.2.2.2.2.2.2.2)))
def Zy (c:TC) (s:Int):TC:=(Zja c s).val
abbrev Ztt:List Sh:=[Sh.agg Z8]
def ZAJ (c:TC):RT TC:=
 .Lf ((c.1,(c.2.1.1,c.2.1.2.1,c.2.1.2.2.1,c.2.1.2.2.2.1,c.2.1.2.2.2.2.1,c.2.1.2.2.2.2.2.1,c.2.1.2.2.2.2.2.2.1,c.2.1.2.2.2.2.2.2.2.1,c.2.1.2.2.2.2.2.2.2.2.1,0),false,false,false,bif c.1==2 then 7 else 0,false,false,false,false,false,false,false))
def ZL2 (c:TC):TC:=(ZAJ c).val
def ZVx:En:=Zi Ztt ZLP (λ_=>none) (λa=>ZL2 a)
theorem ZL1:Zb prog 80 ZVx:=
 pureQ 15 [] [] _ _ trivial Tryz.func80 Tryz.call80 trivial
def Znc (c:TC):RT TC:=
 .Lf ((c.1,(c.2.1.1,c.2.1.2.1,c.2.1.2.2.1,c.2.1.2.2.2.1,c.2.1.2.2.2.2.1,c.2.1.2.2.2.2.2.1,c.2.1.2.2.2.2.2.2.1,c.2.1.2.2.2.2.2.2.2.1,c.2.1.2.2.2.2.2.2.2.2.1,0),false,false,false,bif rOn c.1 then 7 else 0,false,false,false,false,false,false,false))
def Z1 (c:TC):TC:=(Znc c).val
def ZsG (k:Int):RT (Bool):=
 .Lf (k==1||(k==2||(k==4||(k==6||(k==8||k==9)))))
def Zaz (k:Int):Bool:=(ZsG k).val
def ZAK (k:Int):RT (Bool):=
 .br (bif k==1 then k==1 else bif k==2 then k==2 else bif k==4 then k==4 else bif k==6 then k==6 else bif k==8 then k==8 else k==9)
 (.Lf (true))
 (.Lf (false))
def ZL4 (k:Int):Bool:=(ZAK k).val
def ZVy:En:=Zi ZxE ZnX (λ_=>none) (λa=>ZL4 a)
theorem ZL3:Zb prog 83 ZVy:=
 pureQ 23 [] [] _ _ trivial Tryz.func83 Tryz.call83 trivial
def Zsz (k:Int):RT (Bool):=
 .Lf (k==3||(k==5||k==7))
def Za5 (k:Int):Bool:=(Zsz k).val
def Zth (k:Int):RT (Bool):=
 .Lf (k==3||(k==5||k==7))
def ZAu (k:Int):Bool:=(Zth k).val
def ZQX:En:=Zi ZxE ZnX (λ_=>none) (λa=>ZAu a)
theorem ZG0:Zb prog 139 ZQX:=
 pureQ 7 [] [] _ _ trivial Tryz.func139 Tryz.call139 trivial
def Ztn (k:Int):RT (Int):=
 .br (k==1)
 (.Lf (162))
 (.br (k==2)
  (.Lf (130))
  (.br (k==4)
  (.Lf (134))
  (.br (k==5)
   (.Lf (4))
   (.br (k==6)
   (.Lf (66))
   (.br (k==7)
    (.Lf (16))
    (.br (k==8)
    (.Lf (35))
    (.br (k==9)
     (.Lf (3))
     (.br (k==10)
     (.Lf (138))
     (.Lf (0))))))))))
def ZAE (k:Int):Int:=(Ztn k).val
def ZQ3:En:=Zi ZxE ZNl (λ_=>none) (λa=>ZAE a)
theorem ZG7:Zb prog 212 ZQ3:=
 pureQ 1398103 [] [] _ _ trivial Tryz.func212 Tryz.call212 trivial
def ZDN (k:Int):RT (Int):=
 .br (k==1)
 (.Lf (162))
 (.br (k==2)
  (.Lf (130))
  (.br (k==4)
  (.Lf (134))
  (.br (k==5)
   (.Lf (4))
   (.br (k==6)
   (.Lf (66))
   (.br (k==7)
    (.Lf (16))
    (.br (k==8)
    (.Lf (35))
    (.br (k==9)
     (.Lf (3))
     (.br (k==10)
     (.Lf (138))
     (.Lf (0))))))))))
def Zm9 (k:Int):Int:=(ZDN k).val
abbrev ZoD:Rs:=Rs.tup [So R.bool,So R.bool,So R.bool]
def ZtQ (k:Int):RT (QT34):=
 .br (k==1)
 (.Lf ((false,true,true)))
 (.br (bif k==2 then k==2 else bif k==4 then k==4 else k==11)
  (.Lf ((false,true,false)))
  (.br (bif k==3 then k==3 else k==5)
  (.Lf ((false,false,true)))
  (.br (k==6)
   (.Lf ((true,true,false)))
   (.br (k==7)
   (.Lf ((true,false,true)))
   (.br (bif k==8 then k==8 else bif k==9 then k==9 else k==12)
    (.Lf ((true,true,true)))
    (.Lf ((false,false,false))))))))
def ZBC (k:Int):QT34:=(ZtQ k).val
def ZRm:En:=Zi ZxE ZoD (λ_=>none) (λa=>ZBC a)
theorem ZHm:Zb prog 211 ZRm:=
 pureQ 692575 [] [] _ _ trivial Tryz.func211 Tryz.call211 trivial
def ZD9 (k:Int):RT (QT34):=
 .br (k==1)
 (.Lf ((false,true,true)))
 (.br (bif k==2 then k==2 else bif k==4 then k==4 else k==11)
  (.Lf ((false,true,false)))
  (.br (bif k==3 then k==3 else k==5)
  (.Lf ((false,false,true)))
  (.br (k==6)
   (.Lf ((true,true,false)))
   (.br (k==7)
   (.Lf ((true,false,true)))
   (.br (bif k==8 then k==8 else bif k==9 then k==9 else k==12)
    (.Lf ((true,true,true)))
    (.Lf ((false,false,false))))))))
def ZfQ (k:Int):QT34:=(ZD9 k).val
def ZoJ (k:Int):RT (Bool):=
 .Lf (k !=10&&(k !=11&&k !=12))
def ZuG (k:Int):Bool:=(ZoJ k).val
def ZNt:En:=Zi ZxE ZnX (λ_=>none) (λa=>ZuG a)
theorem ZB0:Zb prog 189 ZNt:=
 pureQ 7 [] [] _ _ trivial Tryz.func189 Tryz.call189 trivial
def Zni (k:Int):RT (Bool):=
 .Lf (k !=10&&(k !=11&&k !=12))
def Zh (k:Int):Bool:=(Zni k).val
def Znj:En:=Zi ZxE ZnX (λ_=>none) (λa=>Zh a)
theorem Znh:Zb prog 58 Znj:=
 pureQ 7 [] [] _ _ trivial Tryz.func58 Tryz.call58 trivial
theorem ZRS (c l):ZMD c l=Zf c l:=by simp only[ZMD,ZBD,Zf,ZsO,RT.val,ZbC,bne]
theorem ZVl (c l):ZVB c l=Zbr c l:=by simp[ZVB,ZMd,Zbr,ZDX,RT.val,ZbC]
theorem ZPF (c) (s:Int):ZuH c s=Zy c s:=by
 by_cases h:s=1
 ·subst h;simp[ZuH,Zl9,Zy,Zja,RT.val]
 ·have h':(s==1)=false:=by simpa using h
  simp[ZuH,Zl9,Zy,Zja,RT.val,h']
theorem ZQk (c):ZL2 c=Z1 c:=by simp[ZL2,ZAJ,Z1,Znc,RT.val,ZbC]
theorem ZQl (k):ZL4 k=Zaz k:=by simp[ZL4,ZAK,Zaz,ZsG,RT.val]
theorem ZIZ (k):ZAu k=Za5 k:=by simp[ZAu,Zth,Za5,Zsz,RT.val]
theorem ZJY (k):ZAE k=Zm9 k:=by simp[ZAE,Ztn,Zm9,ZDN,RT.val]
theorem ZN7 (k):ZBC k=ZfQ k:=by simp[ZBC,ZtQ,ZfQ,ZD9,RT.val]
theorem ZIT (k):ZuG k=Zh k:=by simp[ZuG,ZoJ,Zh,Zni,RT.val]
def ZEX:En:=Zi ZLZ ZLP (λ_=>none) (λa=>Zf a.1 a.2)
theorem ZHn:Zb prog 191 ZEX:=ZMC.tot (λa h=>by simp) (λa h=>ZRS _ _)
def ZtA:En:=Zi ZLZ ZTs (λ_=>none) (λa=>Zbr a.1 a.2)
theorem ZxL:Zb prog 194 ZtA:=ZRd.tot (λa h=>by simp) (λa h=>ZVl _ _)
def Zx0:En:=Zi ZoK ZLP (λ_=>none) (λa=>Zy a.1 a.2)
theorem ZB1:Zb prog 81 Zx0:=ZH5.tot (λa h=>by simp) (λa h=>ZPF _ _)
def Ztv:En:=Zi Ztt ZLP (λ_=>none) (λa=>Z1 a)
theorem Zrd:Zb prog 80 Ztv:=ZL1.tot (λa h=>by simp) (λa h=>ZQk _)
def ZdV:En:=Zi ZxE ZnX (λ_=>none) (λa=>Zaz a)
theorem Zfn:Zb prog 83 ZdV:=ZL3.tot (λa h=>by simp) (λa h=>ZQl _)
def Zdu:En:=Zi ZxE ZnX (λ_=>none) (λa=>Za5 a)
theorem ZfT:Zb prog 139 Zdu:=ZG0.tot (λa h=>by simp) (λa h=>ZIZ _)
def ZnM:En:=Zi ZxE ZNl (λ_=>none) (λa=>Zm9 a)
theorem ZAD:Zb prog 212 ZnM:=ZG7.tot (λa h=>by simp) (λa h=>ZJY _)
def ZoE:En:=Zi ZxE ZoD (λ_=>none) (λa=>ZfQ a)
theorem ZBB:Zb prog 211 ZoE:=ZHm.tot (λa h=>by simp) (λa h=>ZN7 _)
def Zri:En:=Zi ZxE ZnX (λ_=>none) (λa=>Zh a)
theorem ZxZ:Zb prog 189 Zri:=ZB0.tot (λa h=>by simp) (λa h=>ZIT _)
def Zcq:En:=.tree (ZA (envX prog [] [] 7 8) Tryz.f146)
theorem ZeF:Zb prog 146 Zcq:=Z6 trivial Tryz.func146 rfl (by kernel_rfl) Tryz.call146 trivial
def Zbx:En:=.tree (ZA (envX prog [] [] 7 8) Tryz.f147)
theorem Zdm:Zb prog 147 Zbx:=Z6 trivial Tryz.func147 rfl (by kernel_rfl) Tryz.call147 trivial
def Zhh:En:=.tree (ZA (envX prog [(83,ZdV),(139,Zdu),(146,Zcq),(147,Zbx),(211,ZoE)] [] 63 8) Tryz.f148)
theorem Zk6:Zb prog 148 Zhh:=Z6 ⟨Zfn,ZfT,ZeF,Zdm,ZBB,Tv⟩ Tryz.func148 rfl (by kernel_rfl) Tryz.call148 trivial
def ZfA:En:=.tree (ZA (envX prog [(83,ZdV),(139,Zdu),(147,Zbx),(212,ZnM)] [] 63 8) Tryz.f149)
theorem ZiC:Zb prog 149 ZfA:=Z6 ⟨Zfn,ZfT,Zdm,ZAD,Tv⟩ Tryz.func149 rfl (by kernel_rfl) Tryz.call149 trivial
abbrev ZL9:List Sh:=[So Kc,Sh.agg (R.Pq Kc (R.Pq (RY) (R.Pq Ka (R.Pq Kb (R.Pq R.bool R.bool)))))]
abbrev ZMb:Rs:=Rs.one (Sh.agg (R.Pq Kc (R.Pq Kb (R.Pq Ka (R.Pq R.bool (R.Pq R.bool (R.Pq R.bool (R.Pq R.bool (R.Pq R.bool (R.Pq R.bool (R.Pq R.bool rcF7)))))))))))
def ZMa (chip:Int) (s:Int×TY×Int×Int×Bool×Bool):RT (QT11):=
 let x1:Int:=bif decide (s.1>=1)&&decide (s.1<=7) then s.2.1.2.1 else 0
 let x2:=s.1==2||(s.1==7||s.1==3)
 let x3:=x2&&Za5 s.2.1.1
 let x4:Int:=bif s.1==3&&Zaz s.2.1.1 then s.2.2.1 else bif x3 then s.2.1.2.2.1 else 0
 let x5:=s.1==1&&(s.2.1.1 !=11&&s.2.1.1 !=12)
 .br (chip==2)
 (.Lf ((s.1,x1,bif s.1==1 then u8.wrap s.2.1.2.1 else x4,false,false,false,false,s.1==1,decide (s.1>=1)&&decide (s.1<=7)&&(ZfQ s.2.1.1).1,decide (s.1>=1)&&decide (s.1<=7)&&(ZfQ s.2.1.1).2.1,decide (s.1>=1)&&decide (s.1<=7)&&(ZfQ s.2.1.1).2.2,x2&&(Zaz s.2.1.1&& !(s.2.1.1==8||s.2.1.1==9)),x2&&(s.2.1.1==8||s.2.1.1==9),s.2.2.2.2.2,x3,s.1==8,s.1==8||(s.1==9||s.1==10))))
 (.Lf ((s.1,bif s.1==9 then s.2.2.2.1 else x1,bif x5 then Zm9 s.2.1.1 else x4,x5,x2&&Zaz s.2.1.1,s.1==7||s.1==9,s.2.2.2.2.1,false,false,false,false,false,false,false,bif s.1==7 then Za5 s.2.1.1 else s.1==3&&Za5 s.2.1.1,s.1==8,s.1==8)))
def ZMc (chip:Int) (s:Int×TY×Int×Int×Bool×Bool):QT11:=(ZMa chip s).val
def ZTp:En:=Zi ZL9 ZMb (λ_=>none) (λa=>ZMc a.1 a.2)
theorem ZRc:Zb prog 79 ZTp:=
 pureQ 63 [(83,ZdV),(139,Zdu),(146,Zcq),(147,Zbx),(148,Zhh),(149,ZfA)] [] _ _ ⟨Zfn,ZfT,ZeF,Zdm,Zk6,ZiC,Tv⟩ Tryz.func79 Tryz.call79 trivial
def Zi7 (chip:Int) (t:Int) (x:QT18) (d:Int) (i:Bool) (o:Bool):RT (QT11):=
 let x1:Bool×Bool×Bool×Bool×Bool×Bool×Bool×Bool×Bool×Bool×Bool:=(!rOn chip&&bif rOn chip then i else i,false,false,false,false,false,false,bif !rOn chip then rOn chip&&o else rOn chip&&o,false,false,rOn chip)
 let x2:=(t==2||(t==7||t==3))&&Za5 x.1
 let x3:Int:=bif t==3&&Zaz x.1 then d else bif x2 then x.2.2.1 else 0
 .br (t==8)
 (.Lf ((t,0,0,false,false,false,!rOn chip&&bif rOn chip then i else i,false,false,false,false,false,false,bif !rOn chip then rOn chip&&o else rOn chip&&o,false,true,true)))
 (.br (t==9)
  (.Lf ((t,bif !rOn chip then x.2.1 else 0,0,false,false,!rOn chip,x1)))
  (.br (t==10)
  (.Lf ((t,0,0,false,false,false,x1)))
  (.br (rOn chip)
   (.Lf ((t,x.2.1,bif t==1 then u8.wrap x.2.1 else x3,false,false,false,!rOn chip&&bif rOn chip then i else i,t==1,(ZfQ x.1).1,(ZfQ x.1).2.1,(ZfQ x.1).2.2,(t==2||(t==7||t==3))&&(Zaz x.1&& !(x.1==8||x.1==9)),(t==2||(t==7||t==3))&&(x.1==8||x.1==9),bif !rOn chip then rOn chip&&o else rOn chip&&o,x2,false,false)))
   (.Lf ((t,x.2.1,bif t==1&&(x.1 !=11&&x.1 !=12) then Zm9 x.1 else x3,t==1&&(x.1 !=11&&x.1 !=12),(t==2||(t==7||t==3))&&Zaz x.1,t==7,!rOn chip&&bif rOn chip then i else i,false,false,false,false,false,false,bif !rOn chip then rOn chip&&o else rOn chip&&o,Za5 x.1&&(t==7||t==3),false,false))))))
def Zbd (chip:Int) (t:Int) (x:QT18) (d:Int) (i:Bool) (o:Bool):QT11:=(Zi7 chip t x d i o).val
abbrev ZNj:List Sh:=[Sh.agg (R.Pq Z8 (R.Pq Kc (R.Pq (R.sl Ka) (R.Pq (RY) (R.Pq Kc R.bool)))))]
def ZTB (c:QT4):RT (Bool):=
 let x1:=decide (iN (Le c.2.2.1)>0)||c.2.1 !=0
 .Lf (bif decide (c.2.2.2.2.1>=2) then decide (c.2.2.2.2.1<=7)||x1 else x1)
def ZuF (c:QT4):Bool:=(ZTB c).val
def ZxX:En:=Zi ZNj ZnX (λ_=>none) (λa=>ZuF a)
theorem ZFh:Zb prog 144 ZxX:=
 pureQ 7 [] [] _ _ trivial Tryz.func144 Tryz.call144 trivial
def ZTb (c:QT4):RT (Bool):=
 let x1:=decide (iN (Le c.2.2.1)>0)||c.2.1 !=0
 .Lf (bif decide (c.2.2.2.2.1>=2) then decide (c.2.2.2.2.1<=7)||x1 else x1)
def ZdU (c:QT4):Bool:=(ZTb c).val
theorem ZLC (chip t:Int) (h1:1<=t) (h2:t<=10) (x:QT18) (d d' pc:Int) (i o:Bool) (hd:t≠10->d'=d):
  ZMc chip (t,x,d,pc,i,o)=Zbd chip t (bif t==9 then (0,pc,0,0) else x) d' i o:=by
 obtain⟨x1,x2,x3,x4⟩:=x;simp only[ZMc,ZMa,Zbd,Zi7,RT.val,ZbC];generalize (chip==2)=b;have:t=1\/t=2\/t=3\/t=4\/t=5\/t=6\/t=7\/t=8\/t=9\/t=10:=by omega
 by_cases h:t=10
 ·subst h;cases b<;>simp
 ·rw[hd h];rcases this with rfl|rfl|rfl|rfl|rfl|rfl|rfl|rfl|rfl|rfl<;>cases b<;>simp<;>(try cases Za5 x1)<;>(try cases Zaz x1)<;>simp
