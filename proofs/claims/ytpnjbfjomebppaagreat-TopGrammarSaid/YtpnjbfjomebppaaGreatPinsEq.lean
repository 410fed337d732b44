import Derived.Test.YtpnjbfjomebppaaGreatKinds
open Go.Proofs.Tryz (prog)
open Go.IntKind (u8 u16 i64)
set_option linter.unusedSimpArgs false
open Go Go.S3 Go.Proofs
set_option linter.unusedVariables false
set_option maxRecDepth 100000
namespace Go.Proofs.YtpnjbfjomebppaaGreat
noncomputable section
def Zq3 (s:Int):RT (Bool):=
 .Lf (decide (s>=1)&&decide (s<=4))
def Ze (s:Int):Bool:=(Zq3 s).val
def Zkg:En:=Zh Zw8 ZnL (λ_=>none) (λa=>Ze a)
theorem Zk3:Zb prog 151 Zkg:=
 pureQ 7 [] [] _ _ trivial Tryz.func151 Tryz.call151 trivial
abbrev ZXU:R:=R.Pq Zat (R.Pq R.bool (R.Pq (R.sl Ka) (R.Pq (R.Pq Kc (R.Pq Kc (R.Pq Kc (R.Pq Kc (R.Pq Kc (R.Pq Kc (R.Pq Kc Kc))))))) (R.sl (RY)))))
def qAtT (s:QT0) (n:Int):RT (Option (Int)):=
 .br (!decide (n< ↑(Le s.2.2.1))||Zf n (Le s.2.2.1)) (.br (decide (n< ↑(Le s.2.2.1))) (Ls (R.get Ka s.2.2.1 n)) (Ls (0))) Ln
def qAt (s:QT0) (n:Int):Int:=getO ZMZ.Df (qAtT s n).val
def qAtC (s:QT0) (n:Int):Bool:=okB (qAtT s n).val
def qAtE:En:=ZmW ZXU Zw8 ZMZ (λa=>some (qAtC a.1 a.2)) (λa=>qAt a.1 a.2)
theorem ZiR:Zb prog 213 qAtE:=
 ZiC (P:=prog) (n:=31) (k:=8) (l:=[]) (ol:=[]) trivial Tryz.func213 rfl (by kernel_rfl) Tryz.call213 trivial (rb:=ZXU) (ts:=Zw8) (rs:=ZMZ) (by kernel_rfl) (t:=λa=>qAtT a.1 a.2) (λa=>by kernel_rfl)
def ZwM (s:QT0) (n:Int):RT (Option (Int)):=
 .br (!qAtC s (i64.wrap (n+1))||qAtC s n) (.br (qAtC s (i64.wrap (n+1))) (Ls (ZfB (qAt s (i64.wrap (n+1))) (qAt s n))) Ln) Ln
def Zgr (s:QT0) (n:Int):Int:=getO ZBi.Df (ZwM s n).val
def Zc4 (s:QT0) (n:Int):Bool:=okB (ZwM s n).val
def Zna:En:=ZmW ZXU Zw8 ZBi (λa=>some (Zc4 a.1 a.2)) (λa=>Zgr a.1 a.2)
theorem Zsx:Zb prog 284 Zna:=
 ZiC (P:=prog) (n:=31) (k:=8) (l:=[(213,qAtE),(220,Ztu)]) (ol:=[]) ⟨ZiR,Zxj,Tv⟩ Tryz.func284 rfl (by kernel_rfl) Tryz.call284 trivial (rb:=ZXU) (ts:=Zw8) (rs:=ZBi) (by kernel_rfl) (t:=λa=>ZwM a.1 a.2) (λa=>by kernel_rfl)
abbrev ZwN:List Sh:=[]
def ZDS (s:QT0):RT (Int):=
 .br s.2.1 (.Lf s.1.2.1.2.2.2.2.2.2.2.2.2) (.Lf (u16.wrap (s.1.2.1.2.2.2.2.2.2.2.2.2+u16.wrap s.2.2.2.1.2.1)))
def Zy (s:QT0):Int:=(ZDS s).val
def ZiQ:En:=ZmW ZXU ZwN ZBi (λ_=>none) (λa=>Zy a.1)
theorem ZqR:Zb prog 227 ZiQ:=
 ZlH (P:=prog) (n:=7) (k:=8) (l:=[]) (ol:=[]) trivial Tryz.func227 rfl (by kernel_rfl) Tryz.call227 trivial (rb:=ZXU) (ts:=ZwN) (rs:=ZBi) (by kernel_rfl) (t:=λa=>ZDS a.1) (λa=>by kernel_rfl)
def ZKD (s:QT0):RT (Bool):=
 .Lf (ZfX s.2.2.2.1.2.2.2.2.2.2.1 s.1.2.1.2.2.2.2.2.2.2.1)
def ZhE (s:QT0):Bool:=(ZKD s).val
def Zh0:En:=ZmW ZXU ZwN ZnL (λ_=>none) (λa=>ZhE a.1)
theorem Zm8:Zb prog 286 Zh0:=
 ZlH (P:=prog) (n:=7) (k:=8) (l:=[(353,ZEK)]) (ol:=[]) ⟨ZG0,Tv⟩ Tryz.func286 rfl (by kernel_rfl) Tryz.call286 trivial (rb:=ZXU) (ts:=ZwN) (rs:=ZnL) (by kernel_rfl) (t:=λa=>ZKD a.1) (λa=>by kernel_rfl)
def ZXS (s:QT0) (n:Int):RT (Int):=
 .Lf (rGet s.1.2.1 n)
def qReg (s:QT0) (n:Int):Int:=(ZXS s n).val
def ZwL:En:=ZmW ZXU Zw8 ZMZ (λ_=>none) (λa=>qReg a.1 a.2)
theorem Zsw:Zb prog 216 ZwL:=
 ZlH (P:=prog) (n:=31) (k:=8) (l:=[(281,ZTm)]) (ol:=[]) ⟨ZRb,Tv⟩ Tryz.func216 rfl (by kernel_rfl) Tryz.call216 trivial (rb:=ZXU) (ts:=Zw8) (rs:=ZMZ) (by kernel_rfl) (t:=λa=>ZXS a.1 a.2) (λa=>by kernel_rfl)
def ZS3 (s:QT0) (n:Int):RT (Int):=
 .Lf (ZbG s.1.2.1 n)
def Zeh (s:QT0) (n:Int):Int:=(ZS3 s n).val
def Zgp:En:=ZmW ZXU Zw8 ZBi (λ_=>none) (λa=>Zeh a.1 a.2)
theorem ZiL:Zb prog 215 Zgp:=
 ZlH (P:=prog) (n:=31) (k:=8) (l:=[(280,ZLT)]) (ol:=[]) ⟨ZLS,Tv⟩ Tryz.func215 rfl (by kernel_rfl) Tryz.call215 trivial (rb:=ZXU) (ts:=Zw8) (rs:=ZBi) (by kernel_rfl) (t:=λa=>ZS3 a.1 a.2) (λa=>by kernel_rfl)
def ZiO (s:QT0):RT (Option (Int)):=
 .br (qAtC s 1) (Ls (bif s.2.2.2.1.1==14 then (rInr s.1.1 (qAt s 1) s.1.2.1.2.2.2.2.2.2.2.1).1 else (rDcr s.1.1 (qAt s 1) s.1.2.1.2.2.2.2.2.2.2.1).1)) Ln
def ZiP (s:QT0):Int:=getO ZMZ.Df (ZiO s).val
def Zgs (s:QT0):Bool:=okB (ZiO s).val
def Znb:En:=ZmW ZXU ZwN ZMZ (λa=>some (Zgs a.1)) (λa=>ZiP a.1)
theorem ZzK:Zb prog 218 Znb:=
 ZiC (P:=prog) (n:=15) (k:=8) (l:=[(213,qAtE),(282,ZEH),(283,ZEU)]) (ol:=[]) ⟨ZiR,ZEG,ZET,Tv⟩ Tryz.func218 rfl (by kernel_rfl) Tryz.call218 trivial (rb:=ZXU) (ts:=ZwN) (rs:=ZMZ) (by kernel_rfl) (t:=λa=>ZiO a.1) (λa=>by kernel_rfl)
def ZiM (s:QT0):RT (Option (Int)):=
 let x1:=s.2.2.2.1.1==13||s.2.2.2.1.2.2.2.1==6
 .br (!x1||qAtC s 1) (.br (x1) (Ls (qAt s 1)) (Ls (qReg s s.2.2.2.1.2.2.2.1))) Ln
def ZiN (s:QT0):Int:=getO ZMZ.Df (ZiM s).val
def Zgq (s:QT0):Bool:=okB (ZiM s).val
def Zm9:En:=ZmW ZXU ZwN ZMZ (λa=>some (Zgq a.1)) (λa=>ZiN a.1)
theorem ZzI:Zb prog 293 Zm9:=
 ZiC (P:=prog) (n:=7) (k:=8) (l:=[(213,qAtE),(216,ZwL)]) (ol:=[]) ⟨ZiR,Zsw,Tv⟩ Tryz.func293 rfl (by kernel_rfl) Tryz.call293 trivial (rb:=ZXU) (ts:=ZwN) (rs:=ZMZ) (by kernel_rfl) (t:=λa=>ZiM a.1) (λa=>by kernel_rfl)
abbrev mAtRs:Rs:=Rs.one (So Ka)
def mAtT (s:QT5) (n:Int):RT (Option (Int)):=
 .br (!decide (n< ↑(Le s.2.2.1))||Zf n (Le s.2.2.1)) (.br (decide (n< ↑(Le s.2.2.1))) (Ls (R.get Ka s.2.2.1 n)) (Ls (0))) Ln
def mAt (s:QT5) (n:Int):Int:=getO mAtRs.Df (mAtT s n).val
def mAtC (s:QT5) (n:Int):Bool:=okB (mAtT s n).val
def ZNx (s:QT5) (n:Int):RT (Option (Int)):=
 .br (!mAtC s (i64.wrap (n+1))||mAtC s n) (.br (mAtC s (i64.wrap (n+1))) (Ls (ZfB (mAt s (i64.wrap (n+1))) (mAt s n))) Ln) Ln
def Zjh (s:QT5) (n:Int):Int:=getO ZBi.Df (ZNx s n).val
def ZeM (s:QT5) (n:Int):Bool:=okB (ZNx s n).val
def ZRD (s:QT5) (n:Int):RT (Int):=
 .br s.2.1 (.Lf s.1.2.1.2.2.2.2.2.2.2.2.2) (.Lf (u16.wrap (s.1.2.1.2.2.2.2.2.2.2.2.2+u16.wrap n)))
def Zh7 (s:QT5) (n:Int):Int:=(ZRD s n).val
def ZWf (s:QT5) (i:QT6):RT (Bool):=
 .Lf (ZfX i.2.2.2.2.2.2.1 s.1.2.1.2.2.2.2.2.2.2.1)
def Zji (s:QT5) (i:QT6):Bool:=(ZWf s i).val
def ZKd (c:TC) (i:QT6) (v:Int):RT (QT2):=
 .br (i.1==14) (.Lf (rInr c.1 v c.2.1.2.2.2.2.2.2.2.1)) (.Lf (rDcr c.1 v c.2.1.2.2.2.2.2.2.2.1))
def Zsk (c:TC) (i:QT6) (v:Int):QT2:=(ZKd c i v).val
def ZBk (chip:Int) (op:Int):RT (Int):=
 .br ((Zc chip op).1==2) (.br (!chip==2&&((Zc chip op).2.2.1 !=6&&(Zc chip op).2.2.2.1 !=6)) (.Lf (5)) (.Lf (4))) (.br (bif (Zc chip op).1==14 then (Zc chip op).1==14 else (Zc chip op).1==15) (.br (!chip==2&&(Zc chip op).2.2.1 !=6) (.Lf (5)) (.Lf (4))) (.br ((Zc chip op).1==37) (.br (chip==2) (.Lf (5)) (.Lf (4))) (.br ((Zc chip op).1==26) (.br ((Zc chip op).2.2.2.2.2.2.1==11) (.Lf (4)) (.br (chip==2) (.Lf (6)) (.Lf (5)))) (.br (bif (Zc chip op).1==16 then (Zc chip op).1==16 else bif (Zc chip op).1==17 then (Zc chip op).1==17 else bif (Zc chip op).1==28 then (Zc chip op).1==28 else bif (Zc chip op).1==29 then (Zc chip op).1==29 else bif (Zc chip op).1==25 then (Zc chip op).1==25 else bif (Zc chip op).1==27 then (Zc chip op).1==27 else bif (Zc chip op).1==45 then (Zc chip op).1==45 else (Zc chip op).1==30) (.br (chip==2) (.Lf (6)) (.Lf (5))) (.Lf (4))))))
def Zq4 (chip:Int) (op:Int):Int:=(ZBk chip op).val
def ZVI:En:=Zh Zw6 ZTf (λ_=>none) (λa=>Zq4 a.1 a.2)
theorem ZMu:Zb prog 84 ZVI:=
 pureQ 72842913792127 [(154,Zxo)] [] _ _ ⟨Zow,Tv⟩ Tryz.func84 Tryz.call84 trivial
def ZzH (chip:Int) (op:Int):RT (Int):=
 let x1:=bif (Zc chip op).1==14 then (Zc chip op).1==14 else (Zc chip op).1==15
 let x2:= !(Zc chip op).1==2&&(!x1&&((bif (Zc chip op).1==16 then (Zc chip op).1==16 else bif (Zc chip op).1==17 then (Zc chip op).1==17 else bif (Zc chip op).1==28 then (Zc chip op).1==28 else bif (Zc chip op).1==29 then (Zc chip op).1==29 else bif (Zc chip op).1==25 then (Zc chip op).1==25 else bif (Zc chip op).1==27 then (Zc chip op).1==27 else bif (Zc chip op).1==30 then (Zc chip op).1==30 else (Zc chip op).1==45)||(Zc chip op).1==26&&(Zc chip op).2.2.2.2.2.2.1 !=11))
 .br (rOn chip&&x2) (.Lf (6)) (.br (rOn chip&&(Zc chip op).1==37) (.Lf (5)) (.br (!rOn chip&&(x2||bif (Zc chip op).1==2 then (Zc chip op).2.2.1 !=6&&(Zc chip op).2.2.2.1 !=6 else x1&&(Zc chip op).2.2.1 !=6)) (.Lf (5)) (.Lf (4))))
def Zee (chip:Int) (op:Int):Int:=(ZzH chip op).val
def ZBg (c:TC) (l:QT1):RT TC:=
 .br (c.1 !=2)
 (.Lf (c))
 (.Lf ((c.1,c.2.1,c.2.2.1,c.2.2.2.1,c.2.2.2.2.1,c.2.2.2.2.2.1,l.2.2.2.2.1&&(c.2.2.2.2.2.2.1|| !c.2.2.2.2.2.2.2.2.1),c.2.2.2.2.2.2.2.1||l.2.2.2.2.2.1&& !c.2.2.2.2.2.2.2.2.2.1,l.2.2.2.2.1,l.2.2.2.2.2.1,c.2.2.2.2.2.2.2.2.2.2)))
def ZMg (c:TC) (l:QT1):TC:=(ZBg c l).val
def ZVB:En:=Zh ZLD ZLt (λ_=>none) (λa=>ZMg a.1 a.2)
theorem ZMf:Zb prog 191 ZVB:=
 pureQ 31 [] [] _ _ trivial Tryz.func191 Tryz.call191 trivial
def Zst (c:TC) (l:QT1):RT TC:=
 .br (!rOn c.1)
 (.Lf (c))
 (.Lf ((c.1,c.2.1,c.2.2.1,c.2.2.2.1,c.2.2.2.2.1,c.2.2.2.2.2.1,l.2.2.2.2.1&&(c.2.2.2.2.2.2.1|| !c.2.2.2.2.2.2.2.2.1),c.2.2.2.2.2.2.2.1||l.2.2.2.2.2.1&& !c.2.2.2.2.2.2.2.2.2.1,l.2.2.2.2.1,l.2.2.2.2.2.1,c.2.2.2.2.2.2.2.2.2.2)))
def Zg (c:TC) (l:QT1):TC:=(Zst c l).val
def ZLQ (c:TC) (l:QT1):RT (Int):=
 .br (c.1==2&&c.2.2.2.2.2.2.1)
 (.Lf (1))
 (.br (!c.2.2.1||c.2.2.2.1)
  (.Lf (0))
  (.br (c.1==2&&(c.2.2.2.2.2.2.2.1&&andI u8 c.2.2.2.2.2.1 4==0))
  (.Lf (2))
  (.br (c.1==2&&(l.2.2.2.2.2.2.1&&andI u8 c.2.2.2.2.2.1 2==0))
   (.Lf (3))
   (.br (c.1==2&&(l.2.2.2.2.2.2.2.1&&andI u8 c.2.2.2.2.2.1 1==0))
   (.Lf (4))
   (.br l.2.2.2.2.2.2.2.2
    (.Lf (5))
    (.Lf (0)))))))
def ZVs (c:TC) (l:QT1):Int:=(ZLQ c l).val
def ZX4:En:=Zh ZLD ZTf (λ_=>none) (λa=>ZVs a.1 a.2)
theorem ZQZ:Zb prog 194 ZX4:=
 pureQ 576601524159939135 [] [] _ _ trivial Tryz.func194 Tryz.call194 trivial
def ZDB (c:TC) (l:QT1):RT (Int):=
 .br (rOn c.1&&c.2.2.2.2.2.2.1)
 (.Lf (1))
 (.br (!c.2.2.1||c.2.2.2.1)
  (.Lf (0))
  (.br (rOn c.1&&(c.2.2.2.2.2.2.2.1&&andI u8 c.2.2.2.2.2.1 4==0))
  (.Lf (2))
  (.br (rOn c.1&&(l.2.2.2.2.2.2.1&&andI u8 c.2.2.2.2.2.1 2==0))
   (.Lf (3))
   (.br (rOn c.1&&(l.2.2.2.2.2.2.2.1&&andI u8 c.2.2.2.2.2.1 1==0))
   (.Lf (4))
   (.br l.2.2.2.2.2.2.2.2
    (.Lf (5))
    (.Lf (0)))))))
def ZbQ (c:TC) (l:QT1):Int:=(ZDB c l).val
abbrev Zoy:List Sh:=[Sh.agg Zat,So Kc]
def ZlZ (c:TC) (s:Int):RT TC:=
 .br (decide (s<1)||decide (s>5))
 (.Lf (c))
 (.Lf ((c.1,c.2.1,false,false,false,c.2.2.2.2.2.1,!s==1&&c.2.2.2.2.2.2.1,bif s==1 then c.2.2.2.2.2.2.2.1 else !s==2&&c.2.2.2.2.2.2.2.1,c.2.2.2.2.2.2.2.2.1,c.2.2.2.2.2.2.2.2.2.1,s==1||c.2.2.2.2.2.2.2.2.2.2.1,bif s==1 then c.2.2.1 else c.2.2.2.2.2.2.2.2.2.2.2.1,c.2.2.2.2.2.2.2.2.2.2.2.2)))
def Zuh (c:TC) (s:Int):TC:=(ZlZ c s).val
def ZRq:En:=Zh Zoy ZLt (λ_=>none) (λa=>Zuh a.1 a.2)
theorem ZHG:Zb prog 81 ZRq:=
 pureQ 1056799 [] [] _ _ trivial Tryz.func81 Tryz.call81 trivial
def ZiK (c:TC) (s:Int):RT TC:=
 .br (decide (s<1)||decide (s>5))
 (.Lf (c))
 (.Lf ((c.1,c.2.1,false,false,false,c.2.2.2.2.2.1,!s==1&&c.2.2.2.2.2.2.1,!s==2&&c.2.2.2.2.2.2.2.1,c.2.2.2.2.2.2.2.2.1,c.2.2.2.2.2.2.2.2.2.1,s==1||c.2.2.2.2.2.2.2.2.2.2.1,bif s==1 then c.2.2.1 else c.2.2.2.2.2.2.2.2.2.2.2.1,c.2.2.2.2.2.2.2.2.2.2.2.2)))
def Zo (c:TC) (s:Int):TC:=(ZiK c s).val
abbrev Zs6:List Sh:=[Sh.agg Zat]
def ZAm (c:TC):RT TC:=
 .Lf ((c.1,(c.2.1.1,c.2.1.2.1,c.2.1.2.2.1,c.2.1.2.2.2.1,c.2.1.2.2.2.2.1,c.2.1.2.2.2.2.2.1,c.2.1.2.2.2.2.2.2.1,c.2.1.2.2.2.2.2.2.2.1,c.2.1.2.2.2.2.2.2.2.2.1,0),false,false,false,bif c.1==2 then 7 else 0,false,false,false,false,false,false,false))
def ZLG (c:TC):TC:=(ZAm c).val
def ZVo:En:=Zh Zs6 ZLt (λ_=>none) (λa=>ZLG a)
theorem ZLF:Zb prog 80 ZVo:=
 pureQ 15 [] [] _ _ trivial Tryz.func80 Tryz.call80 trivial
def Zm4 (c:TC):RT TC:=
 .Lf ((c.1,(c.2.1.1,c.2.1.2.1,c.2.1.2.2.1,c.2.1.2.2.2.1,c.2.1.2.2.2.2.1,c.2.1.2.2.2.2.2.1,c.2.1.2.2.2.2.2.2.1,c.2.1.2.2.2.2.2.2.2.1,c.2.1.2.2.2.2.2.2.2.2.1,0),false,false,false,bif rOn c.1 then 7 else 0,false,false,false,false,false,false,false))
def ZB (c:TC):TC:=(Zm4 c).val
def Zzx (k:Int):RT (Bool):=
 .Lf (k==1||(k==2||(k==4||(k==6||(k==8||k==9)))))
def Za2 (k:Int):Bool:=(Zzx k).val
def ZAn (k:Int):RT (Bool):=
 .br (bif k==1 then k==1 else bif k==2 then k==2 else bif k==4 then k==4 else bif k==6 then k==6 else bif k==8 then k==8 else k==9)
 (.Lf (true))
 (.Lf (false))
def ZLI (k:Int):Bool:=(ZAn k).val
def ZVp:En:=Zh Zw8 ZnL (λ_=>none) (λa=>ZLI a)
theorem ZLH:Zb prog 83 ZVp:=
 pureQ 23 [] [] _ _ trivial Tryz.func83 Tryz.call83 trivial
def ZDo (k:Int):RT (Bool):=
 .Lf (k==3||(k==5||k==7))
def ZbV (k:Int):Bool:=(ZDo k).val
def ZsU (k:Int):RT (Bool):=
 .Lf (k==3||(k==5||k==7))
def Zz7 (k:Int):Bool:=(ZsU k).val
def ZQK:En:=Zh Zw8 ZnL (λ_=>none) (λa=>Zz7 a)
theorem ZGB:Zb prog 139 ZQK:=
 pureQ 7 [] [] _ _ trivial Tryz.func139 Tryz.call139 trivial
def Zs0 (k:Int):RT (Int):=
 .br (k==1)
 (.Lf (162))
 (.br (k==2)
  (.Lf (130))
  (.br (k==4)
  (.Lf (134))
  (.br (k==5)
   (.Lf (4))
   (.br (k==6)
   (.Lf (66))
   (.br (k==7)
    (.Lf (16))
    (.br (k==8)
    (.Lf (35))
    (.br (k==9)
     (.Lf (3))
     (.br (k==10)
     (.Lf (138))
     (.Lf (0))))))))))
def ZAh (k:Int):Int:=(Zs0 k).val
def ZQQ:En:=Zh Zw8 ZMZ (λ_=>none) (λa=>ZAh a)
theorem ZGI:Zb prog 212 ZQQ:=
 pureQ 1398103 [] [] _ _ trivial Tryz.func212 Tryz.call212 trivial
def ZDr (k:Int):RT (Int):=
 .br (k==1)
 (.Lf (162))
 (.br (k==2)
  (.Lf (130))
  (.br (k==4)
  (.Lf (134))
  (.br (k==5)
   (.Lf (4))
   (.br (k==6)
   (.Lf (66))
   (.br (k==7)
    (.Lf (16))
    (.br (k==8)
    (.Lf (35))
    (.br (k==9)
     (.Lf (3))
     (.br (k==10)
     (.Lf (138))
     (.Lf (0))))))))))
def Zm1 (k:Int):Int:=(ZDr k).val
abbrev Zos:Rs:=Rs.tup [So R.bool,So R.bool,So R.bool]
def Ztr (k:Int):RT (QT30):=
 .br (k==1)
 (.Lf ((false,true,true)))
 (.br (bif k==2 then k==2 else bif k==4 then k==4 else k==11)
  (.Lf ((false,true,false)))
  (.br (bif k==3 then k==3 else k==5)
  (.Lf ((false,false,true)))
  (.br (k==6)
   (.Lf ((true,true,false)))
   (.br (k==7)
   (.Lf ((true,false,true)))
   (.br (bif k==8 then k==8 else bif k==9 then k==9 else k==12)
    (.Lf ((true,true,true)))
    (.Lf ((false,false,false))))))))
def ZBf (k:Int):QT30:=(Ztr k).val
def ZQ8:En:=Zh Zw8 Zos (λ_=>none) (λa=>ZBf a)
theorem ZGY:Zb prog 211 ZQ8:=
 pureQ 692575 [] [] _ _ trivial Tryz.func211 Tryz.call211 trivial
def ZDN (k:Int):RT (QT30):=
 .br (k==1)
 (.Lf ((false,true,true)))
 (.br (bif k==2 then k==2 else bif k==4 then k==4 else k==11)
  (.Lf ((false,true,false)))
  (.br (bif k==3 then k==3 else k==5)
  (.Lf ((false,false,true)))
  (.br (k==6)
   (.Lf ((true,true,false)))
   (.br (k==7)
   (.Lf ((true,false,true)))
   (.br (bif k==8 then k==8 else bif k==9 then k==9 else k==12)
    (.Lf ((true,true,true)))
    (.Lf ((false,false,false))))))))
def ZfA (k:Int):QT30:=(ZDN k).val
def Zi8 (k:Int):RT (Bool):=
 .Lf (k !=10&&(k !=11&&k !=12))
def ZlY (k:Int):Bool:=(Zi8 k).val
def ZM7:En:=Zh Zw8 ZnL (λ_=>none) (λa=>ZlY a)
theorem ZBD:Zb prog 189 ZM7:=
 pureQ 7 [] [] _ _ trivial Tryz.func189 Tryz.call189 trivial
def Zm7 (k:Int):RT (Bool):=
 .Lf (k !=10&&(k !=11&&k !=12))
def Zj (k:Int):Bool:=(Zm7 k).val
theorem ZRE (c l):ZMg c l=Zg c l:=by simp only[ZMg,ZBg,Zg,Zst,RT.val,Zbw,bne]
theorem ZVc (c l):ZVs c l=ZbQ c l:=by simp[ZVs,ZLQ,ZbQ,ZDB,RT.val,Zbw]
theorem ZPl (c) (s:Int):Zuh c s=Zo c s:=by
 by_cases h:s=1
 ·subst h;simp[Zuh,ZlZ,Zo,ZiK,RT.val]
 ·have h':(s==1)=false:=by simpa using h
  simp[Zuh,ZlZ,Zo,ZiK,RT.val,h']
theorem ZP9 (c):ZLG c=ZB c:=by simp[ZLG,ZAm,ZB,Zm4,RT.val,Zbw]
theorem ZQa (k):ZLI k=Za2 k:=by simp[ZLI,ZAn,Za2,Zzx,RT.val]
theorem ZIA (k):Zz7 k=ZbV k:=by simp[Zz7,ZsU,ZbV,ZDo,RT.val]
theorem ZJE (k):ZAh k=Zm1 k:=by simp[ZAh,Zs0,Zm1,ZDr,RT.val]
theorem ZNJ (k):ZBf k=ZfA k:=by simp[ZBf,Ztr,ZfA,ZDN,RT.val]
theorem ZIv (k):ZlY k=Zj k:=by simp[ZlY,Zi8,Zj,Zm7,RT.val]
def ZED:En:=Zh ZLD ZLt (λ_=>none) (λa=>Zg a.1 a.2)
theorem ZGZ:Zb prog 191 ZED:=ZMf.tot (λa h=>by simp) (λa h=>ZRE _ _)
def Ztc:En:=Zh ZLD ZTf (λ_=>none) (λa=>ZbQ a.1 a.2)
theorem Zxf:Zb prog 194 Ztc:=ZQZ.tot (λa h=>by simp) (λa h=>ZVc _ _)
def Zgv:En:=Zh Zoy ZLt (λ_=>none) (λa=>Zo a.1 a.2)
theorem ZfF:Zb prog 81 Zgv:=ZHG.tot (λa h=>by simp) (λa h=>ZPl _ _)
def Zi3:En:=Zh Zs6 ZLt (λ_=>none) (λa=>ZB a)
theorem Zg9:Zb prog 80 Zi3:=ZLF.tot (λa h=>by simp) (λa h=>ZP9 _)
def ZcP:En:=Zh Zw8 ZnL (λ_=>none) (λa=>Za2 a)
theorem Zdc:Zb prog 83 ZcP:=ZLH.tot (λa h=>by simp) (λa h=>ZQa _)
def Zdw:En:=Zh Zw8 ZnL (λ_=>none) (λa=>ZbV a)
theorem ZfD:Zb prog 139 Zdw:=ZGB.tot (λa h=>by simp) (λa h=>ZIA _)
def ZnA:En:=Zh Zw8 ZMZ (λ_=>none) (λa=>Zm1 a)
theorem ZAg:Zb prog 212 ZnA:=ZGI.tot (λa h=>by simp) (λa h=>ZJE _)
def Zot:En:=Zh Zw8 Zos (λ_=>none) (λa=>ZfA a)
theorem ZBe:Zb prog 211 Zot:=ZGY.tot (λa h=>by simp) (λa h=>ZNJ _)
def Zkl:En:=Zh Zw8 ZnL (λ_=>none) (λa=>Zj a)
theorem Zk4:Zb prog 189 Zkl:=ZBD.tot (λa h=>by simp) (λa h=>ZIv _)
def Zcj:En:=.tree (Zz (envX prog [] [] 7 8) Tryz.f146)
theorem Zew:Zb prog 146 Zcj:=Z6 trivial Tryz.func146 rfl (by kernel_rfl) Tryz.call146 trivial
def Zbt:En:=.tree (Zz (envX prog [] [] 7 8) Tryz.f147)
theorem Zdl:Zb prog 147 Zbt:=Z6 trivial Tryz.func147 rfl (by kernel_rfl) Tryz.call147 trivial
def ZgN:En:=.tree (Zz (envX prog [(83,ZcP),(139,Zdw),(146,Zcj),(147,Zbt),(211,Zot)] [] 63 8) Tryz.f148)
theorem ZkP:Zb prog 148 ZgN:=Z6 ⟨Zdc,ZfD,Zew,Zdl,ZBe,Tv⟩ Tryz.func148 rfl (by kernel_rfl) Tryz.call148 trivial
def Zfk:En:=.tree (Zz (envX prog [(83,ZcP),(139,Zdw),(147,Zbt),(212,ZnA)] [] 63 8) Tryz.f149)
theorem Zid:Zb prog 149 Zfk:=Z6 ⟨Zdc,ZfD,Zdl,ZAg,Tv⟩ Tryz.func149 rfl (by kernel_rfl) Tryz.call149 trivial
abbrev ZLN:List Sh:=[So Kc,Sh.agg (R.Pq Kc (R.Pq (RY) (R.Pq Ka (R.Pq Kb (R.Pq R.bool R.bool)))))]
abbrev ZLP:Rs:=Rs.one (Sh.agg (R.Pq Kc (R.Pq Kb (R.Pq Ka (R.Pq R.bool (R.Pq R.bool (R.Pq R.bool (R.Pq R.bool (R.Pq R.bool (R.Pq R.bool (R.Pq R.bool rcF7)))))))))))
def ZLO (chip:Int) (s:Int×TY×Int×Int×Bool×Bool):RT (QT10):=
 let x1:Int:=bif decide (s.1>=1)&&decide (s.1<=7) then s.2.1.2.1 else 0
 let x2:=s.1==2||(s.1==7||s.1==3)
 let x3:=x2&&ZbV s.2.1.1
 let x4:Int:=bif s.1==3&&Za2 s.2.1.1 then s.2.2.1 else bif x3 then s.2.1.2.2.1 else 0
 let x5:=s.1==1&&(s.2.1.1 !=11&&s.2.1.1 !=12)
 .br (chip==2)
 (.Lf ((s.1,x1,bif s.1==1 then u8.wrap s.2.1.2.1 else x4,false,false,false,false,s.1==1,decide (s.1>=1)&&decide (s.1<=7)&&(ZfA s.2.1.1).1,decide (s.1>=1)&&decide (s.1<=7)&&(ZfA s.2.1.1).2.1,decide (s.1>=1)&&decide (s.1<=7)&&(ZfA s.2.1.1).2.2,x2&&(Za2 s.2.1.1&& !(s.2.1.1==8||s.2.1.1==9)),x2&&(s.2.1.1==8||s.2.1.1==9),s.2.2.2.2.2,x3,s.1==8,s.1==8||(s.1==9||s.1==10))))
 (.Lf ((s.1,bif s.1==9 then s.2.2.2.1 else x1,bif x5 then Zm1 s.2.1.1 else x4,x5,x2&&Za2 s.2.1.1,s.1==7||s.1==9,s.2.2.2.2.1,false,false,false,false,false,false,false,bif s.1==7 then ZbV s.2.1.1 else s.1==3&&ZbV s.2.1.1,s.1==8,s.1==8)))
def ZGL (chip:Int) (s:Int×TY×Int×Int×Bool×Bool):QT10:=(ZLO chip s).val
def ZEu:En:=Zh ZLN ZLP (λ_=>none) (λa=>ZGL a.1 a.2)
theorem ZEt:Zb prog 79 ZEu:=
 pureQ 63 [(83,ZcP),(139,Zdw),(146,Zcj),(147,Zbt),(148,ZgN),(149,Zfk)] [] _ _ ⟨Zdc,ZfD,Zew,Zdl,ZkP,Zid,Tv⟩ Tryz.func79 Tryz.call79 trivial
def ZiH (chip:Int) (t:Int) (x:QT15) (d:Int) (i:Bool) (o:Bool):RT (QT10):=
 let x1:Bool×Bool×Bool×Bool×Bool×Bool×Bool×Bool×Bool×Bool×Bool:=(!rOn chip&&bif rOn chip then i else i,false,false,false,false,false,false,bif !rOn chip then rOn chip&&o else rOn chip&&o,false,false,rOn chip)
 let x2:=(t==2||(t==7||t==3))&&ZbV x.1
 let x3:Int:=bif t==3&&Za2 x.1 then d else bif x2 then x.2.2.1 else 0
 .br (t==8)
 (.Lf ((t,0,0,false,false,false,!rOn chip&&bif rOn chip then i else i,false,false,false,false,false,false,bif !rOn chip then rOn chip&&o else rOn chip&&o,false,true,true)))
 (.br (t==9)
  (.Lf ((t,bif !rOn chip then x.2.1 else 0,0,false,false,!rOn chip,x1)))
  (.br (t==10)
  (.Lf ((t,0,0,false,false,false,x1)))
  (.br (rOn chip)
   (.Lf ((t,x.2.1,bif t==1 then u8.wrap x.2.1 else x3,false,false,false,!rOn chip&&bif rOn chip then i else i,t==1,(ZfA x.1).1,(ZfA x.1).2.1,(ZfA x.1).2.2,(t==2||(t==7||t==3))&&(Za2 x.1&& !(x.1==8||x.1==9)),(t==2||(t==7||t==3))&&(x.1==8||x.1==9),bif !rOn chip then rOn chip&&o else rOn chip&&o,x2,false,false)))
   (.Lf ((t,x.2.1,bif t==1&&(x.1 !=11&&x.1 !=12) then Zm1 x.1 else x3,t==1&&(x.1 !=11&&x.1 !=12),(t==2||(t==7||t==3))&&Za2 x.1,t==7,!rOn chip&&bif rOn chip then i else i,false,false,false,false,false,false,bif !rOn chip then rOn chip&&o else rOn chip&&o,ZbV x.1&&(t==7||t==3),false,false))))))
def Zba (chip:Int) (t:Int) (x:QT15) (d:Int) (i:Bool) (o:Bool):QT10:=(ZiH chip t x d i o).val
abbrev ZMX:List Sh:=[Sh.agg (R.Pq Zat (R.Pq Kc (R.Pq (R.sl Ka) (R.Pq (RY) (R.Pq Kc R.bool)))))]
def ZTo (c:QT4):RT (Bool):=
 let x1:=decide (iN (Le c.2.2.1)>0)||c.2.1 !=0
 .Lf (bif decide (c.2.2.2.2.1>=2) then decide (c.2.2.2.2.1<=7)||x1 else x1)
def Zug (c:QT4):Bool:=(ZTo c).val
def Zxq:En:=Zh ZMX ZnL (λ_=>none) (λa=>Zug a)
theorem ZEW:Zb prog 144 Zxq:=
 pureQ 7 [] [] _ _ trivial Tryz.func144 Tryz.call144 trivial
def ZKB (c:QT4):RT (Bool):=
 let x1:=decide (iN (Le c.2.2.1)>0)||c.2.1 !=0
 .Lf (bif decide (c.2.2.2.2.1>=2) then decide (c.2.2.2.2.1<=7)||x1 else x1)
def Zef (c:QT4):Bool:=(ZKB c).val
def ZV0 (k:Int):RT (Bool):=
 .Lf (Zj k)
def pAcc (k:Int):Bool:=(ZV0 k).val
def ZYh:En:=Zh Zw8 ZnL (λ_=>none) (λa=>pAcc a)
theorem ZVZ:Zb prog 126 ZYh:=
 pureQ 7 [(189,Zkl)] [] _ _ ⟨Zk4,Tv⟩ Tryz.func126 Tryz.call126 trivial
theorem Zz3 (chip t:Int) (h1:1<=t) (h2:t<=10) (x:QT15) (d d' pc:Int) (i o:Bool) (hd:t≠10->d'=d):
  ZGL chip (t,x,d,pc,i,o)=Zba chip t (bif t==9 then (0,pc,0,0) else x) d' i o:=by
 obtain⟨x1,x2,x3,x4⟩:=x;simp only[ZGL,ZLO,Zba,ZiH,RT.val,Zbw];generalize (chip==2)=b;have:t=1\/t=2\/t=3\/t=4\/t=5\/t=6\/t=7\/t=8\/t=9\/t=10:=by omega
 by_cases h:t=10
 ·subst h;cases b<;>simp
 ·rw[hd h];rcases this with rfl|rfl|rfl|rfl|rfl|rfl|rfl|rfl|rfl|rfl<;>cases b<;>simp<;>(try cases ZbV x1)<;>(try cases Za2 x1)<;>simp
