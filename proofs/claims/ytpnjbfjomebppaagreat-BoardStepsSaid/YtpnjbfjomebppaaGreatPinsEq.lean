import Derived.Test.YtpnjbfjomebppaaGreatKinds
open Go.Proofs.Tryz (prog)
open Go.IntKind (u8 u16 i64)
set_option linter.unusedSimpArgs false
open Go Go.S3 Go.Proofs
set_option linter.unusedVariables false
set_option maxRecDepth 100000
namespace Go.Proofs.YtpnjbfjomebppaaGreat
noncomputable section
abbrev Zoq:List Sh:=[Sh.one (R.int i64)]
abbrev Zor:Rs:=Rs.one (Sh.one R.bool)
def ZqU (s:Int):RT (Bool):=
 .Lf (decide (s>=1)&&decide (s<=4))
def Ze (s:Int):Bool:=(ZqU s).val
def Zkp:En:=Zg Zoq Zor (λ_=>none) (λa=>Ze a)
theorem Zk6:Zb prog 151 Zkp:=
 pureQ 7 [] [] Zoq Zor trivial Tryz.func151 Tryz.call151 trivial (t:=λa=>ZqU a)
abbrev ZW3:R:=R.Pq ZY (R.Pq R.bool (R.Pq (R.sl (R.int u8)) (R.Pq (R.Pq (R.int i64) (R.Pq (R.int i64) (R.Pq (R.int i64) (R.Pq (R.int i64) (R.Pq (R.int i64) (R.Pq (R.int i64) (R.Pq (R.int i64) (R.int i64)))))))) (R.sl (RY)))))
abbrev ZW2:List Sh:=[Sh.one (R.int i64)]
abbrev ZUm:Rs:=Rs.one (Sh.one (R.int u8))
def qAtT (s:QT0) (n:Int):RT (Option (Int)):=
 .br (!decide (n< ↑(List.length s.2.2.1))||Zf n (List.length s.2.2.1)) (.br (decide (n< ↑(List.length s.2.2.1))) (.Lf (some (R.get (R.int u8) s.2.2.1 n))) (.Lf (some (0)))) (.Lf none)
def qAt (s:QT0) (n:Int):Int:=getO ZUm.Df (qAtT s n).val
def qAtC (s:QT0) (n:Int):Bool:=okB (qAtT s n).val
def qAtE:En:=ZmV ZW3 ZW2 ZUm (λa=>some (qAtC a.1 a.2)) (λa=>qAt a.1 a.2)
theorem Zi1:Zb prog 213 qAtE:=
 ZiQ (P:=prog) (n:=31) (k:=8) (l:=[]) (ol:=[]) trivial Tryz.func213 rfl (by kernel_rfl) Tryz.call213 trivial (rb:=ZW3) (ts:=ZW2) (rs:=ZUm) (by kernel_rfl) (t:=λa=>qAtT a.1 a.2) (λa=>by kernel_rfl)
abbrev ZKF:R:=R.Pq ZY (R.Pq R.bool (R.Pq (R.sl (R.int u8)) (R.Pq (R.Pq (R.int i64) (R.Pq (R.int i64) (R.Pq (R.int i64) (R.Pq (R.int i64) (R.Pq (R.int i64) (R.Pq (R.int i64) (R.Pq (R.int i64) (R.int i64)))))))) (R.sl (RY)))))
abbrev ZKE:List Sh:=[Sh.one (R.int i64)]
abbrev ZzU:Rs:=Rs.one (Sh.one (R.int u16))
def ZwT (s:QT0) (n:Int):RT (Option (Int)):=
 .br (!qAtC s (i64.wrap (n+1))||qAtC s n) (.br (qAtC s (i64.wrap (n+1))) (.Lf (some (ZfI (qAt s (i64.wrap (n+1))) (qAt s n)))) (.Lf none)) (.Lf none)
def ZgF (s:QT0) (n:Int):Int:=getO ZzU.Df (ZwT s n).val
def Zc8 (s:QT0) (n:Int):Bool:=okB (ZwT s n).val
def Zm7:En:=ZmV ZKF ZKE ZzU (λa=>some (Zc8 a.1 a.2)) (λa=>ZgF a.1 a.2)
theorem ZsA:Zb prog 284 Zm7:=
 ZiQ (P:=prog) (n:=31) (k:=8) (l:=[(213,qAtE),(220,Zty)]) (ol:=[]) ⟨Zi1,Zxu,Tv⟩ Tryz.func284 rfl (by kernel_rfl) Tryz.call284 trivial (rb:=ZKF) (ts:=ZKE) (rs:=ZzU) (by kernel_rfl) (t:=λa=>ZwT a.1 a.2) (λa=>by kernel_rfl)
abbrev ZwW:R:=R.Pq ZY (R.Pq R.bool (R.Pq (R.sl (R.int u8)) (R.Pq (R.Pq (R.int i64) (R.Pq (R.int i64) (R.Pq (R.int i64) (R.Pq (R.int i64) (R.Pq (R.int i64) (R.Pq (R.int i64) (R.Pq (R.int i64) (R.int i64)))))))) (R.sl (RY)))))
abbrev ZwU:List Sh:=[]
abbrev ZwV:Rs:=Rs.one (Sh.one (R.int u16))
def ZDP (s:QT0):RT (Int):=
 .br s.2.1 (.Lf s.1.2.1.2.2.2.2.2.2.2.2.2) (.Lf (u16.wrap (s.1.2.1.2.2.2.2.2.2.2.2.2+u16.wrap s.2.2.2.1.2.1)))
def Zw (s:QT0):Int:=(ZDP s).val
def Zi0:En:=ZmV ZwW ZwU ZwV (λ_=>none) (λa=>Zw a.1)
theorem ZqG:Zb prog 227 Zi0:=
 ZlI (P:=prog) (n:=7) (k:=8) (l:=[]) (ol:=[]) trivial Tryz.func227 rfl (by kernel_rfl) Tryz.call227 trivial (rb:=ZwW) (ts:=ZwU) (rs:=ZwV) (by kernel_rfl) (t:=λa=>ZDP a.1) (λa=>by kernel_rfl)
abbrev ZDO:R:=R.Pq ZY (R.Pq R.bool (R.Pq (R.sl (R.int u8)) (R.Pq (R.Pq (R.int i64) (R.Pq (R.int i64) (R.Pq (R.int i64) (R.Pq (R.int i64) (R.Pq (R.int i64) (R.Pq (R.int i64) (R.Pq (R.int i64) (R.int i64)))))))) (R.sl (RY)))))
abbrev ZDM:List Sh:=[]
abbrev ZDN:Rs:=Rs.one (Sh.one R.bool)
def ZKA (s:QT0):RT (Bool):=
 .Lf (Zf8 s.2.2.2.1.2.2.2.2.2.2.1 s.1.2.1.2.2.2.2.2.2.2.1)
def ZhR (s:QT0):Bool:=(ZKA s).val
def Zic:En:=ZmV ZDO ZDM ZDN (λ_=>none) (λa=>ZhR a.1)
theorem Zm5:Zb prog 286 Zic:=
 ZlI (P:=prog) (n:=7) (k:=8) (l:=[(353,ZEF)]) (ol:=[]) ⟨ZGV,Tv⟩ Tryz.func286 rfl (by kernel_rfl) Tryz.call286 trivial (rb:=ZDO) (ts:=ZDM) (rs:=ZDN) (by kernel_rfl) (t:=λa=>ZKA a.1) (λa=>by kernel_rfl)
abbrev ZSq:R:=R.Pq ZY (R.Pq R.bool (R.Pq (R.sl (R.int u8)) (R.Pq (R.Pq (R.int i64) (R.Pq (R.int i64) (R.Pq (R.int i64) (R.Pq (R.int i64) (R.Pq (R.int i64) (R.Pq (R.int i64) (R.Pq (R.int i64) (R.int i64)))))))) (R.sl (RY)))))
abbrev ZSo:List Sh:=[Sh.one (R.int i64)]
abbrev ZSp:Rs:=Rs.one (Sh.one (R.int u8))
def ZW1 (s:QT0) (n:Int):RT (Int):=
 .Lf (rGet s.1.2.1 n)
def qReg (s:QT0) (n:Int):Int:=(ZW1 s n).val
def ZwS:En:=ZmV ZSq ZSo ZSp (λ_=>none) (λa=>qReg a.1 a.2)
theorem Zsz:Zb prog 216 ZwS:=
 ZlI (P:=prog) (n:=31) (k:=8) (l:=[(281,ZSL)]) (ol:=[]) ⟨ZQO,Tv⟩ Tryz.func216 rfl (by kernel_rfl) Tryz.call216 trivial (rb:=ZSq) (ts:=ZSo) (rs:=ZSp) (by kernel_rfl) (t:=λa=>ZW1 a.1 a.2) (λa=>by kernel_rfl)
abbrev ZKD:R:=R.Pq ZY (R.Pq R.bool (R.Pq (R.sl (R.int u8)) (R.Pq (R.Pq (R.int i64) (R.Pq (R.int i64) (R.Pq (R.int i64) (R.Pq (R.int i64) (R.Pq (R.int i64) (R.Pq (R.int i64) (R.Pq (R.int i64) (R.int i64)))))))) (R.sl (RY)))))
abbrev ZKB:List Sh:=[Sh.one (R.int i64)]
abbrev ZKC:Rs:=Rs.one (Sh.one (R.int u16))
def ZSr (s:QT0) (n:Int):RT (Int):=
 .Lf (ZbN s.1.2.1 n)
def Zek (s:QT0) (n:Int):Int:=(ZSr s n).val
def ZgD:En:=ZmV ZKD ZKB ZKC (λ_=>none) (λa=>Zek a.1 a.2)
theorem ZiV:Zb prog 215 ZgD:=
 ZlI (P:=prog) (n:=31) (k:=8) (l:=[(280,ZLQ)]) (ol:=[]) ⟨ZLP,Tv⟩ Tryz.func215 rfl (by kernel_rfl) Tryz.call215 trivial (rb:=ZKD) (ts:=ZKB) (rs:=ZKC) (by kernel_rfl) (t:=λa=>ZSr a.1 a.2) (λa=>by kernel_rfl)
abbrev ZqF:R:=R.Pq ZY (R.Pq R.bool (R.Pq (R.sl (R.int u8)) (R.Pq (R.Pq (R.int i64) (R.Pq (R.int i64) (R.Pq (R.int i64) (R.Pq (R.int i64) (R.Pq (R.int i64) (R.Pq (R.int i64) (R.Pq (R.int i64) (R.int i64)))))))) (R.sl (RY)))))
abbrev ZqE:List Sh:=[]
abbrev Zki:Rs:=Rs.one (Sh.one (R.int u8))
def ZiY (s:QT0):RT (Option (Int)):=
 .br (qAtC s 1) (.Lf (some (bif s.2.2.2.1.1==14 then (rInr s.1.1 (qAt s 1) s.1.2.1.2.2.2.2.2.2.2.1).1 else (rDcr s.1.1 (qAt s 1) s.1.2.1.2.2.2.2.2.2.2.1).1))) (.Lf none)
def ZiZ (s:QT0):Int:=getO Zki.Df (ZiY s).val
def ZgG (s:QT0):Bool:=okB (ZiY s).val
def Zm8:En:=ZmV ZqF ZqE Zki (λa=>some (ZgG a.1)) (λa=>ZiZ a.1)
theorem ZzV:Zb prog 218 Zm8:=
 ZiQ (P:=prog) (n:=15) (k:=8) (l:=[(213,qAtE),(282,ZEC),(283,ZEQ)]) (ol:=[]) ⟨Zi1,ZEB,ZEP,Tv⟩ Tryz.func218 rfl (by kernel_rfl) Tryz.call218 trivial (rb:=ZqF) (ts:=ZqE) (rs:=Zki) (by kernel_rfl) (t:=λa=>ZiY a.1) (λa=>by kernel_rfl)
abbrev ZqD:R:=R.Pq ZY (R.Pq R.bool (R.Pq (R.sl (R.int u8)) (R.Pq (R.Pq (R.int i64) (R.Pq (R.int i64) (R.Pq (R.int i64) (R.Pq (R.int i64) (R.Pq (R.int i64) (R.Pq (R.int i64) (R.Pq (R.int i64) (R.int i64)))))))) (R.sl (RY)))))
abbrev ZqC:List Sh:=[]
abbrev Zkh:Rs:=Rs.one (Sh.one (R.int u8))
def ZiW (s:QT0):RT (Option (Int)):=
 let x1:=s.2.2.2.1.1==13||s.2.2.2.1.2.2.2.1==6
 .br (!x1||qAtC s 1) (.br (x1) (.Lf (some (qAt s 1))) (.Lf (some (qReg s s.2.2.2.1.2.2.2.1)))) (.Lf none)
def ZiX (s:QT0):Int:=getO Zkh.Df (ZiW s).val
def ZgE (s:QT0):Bool:=okB (ZiW s).val
def Zm6:En:=ZmV ZqD ZqC Zkh (λa=>some (ZgE a.1)) (λa=>ZiX a.1)
theorem ZzT:Zb prog 293 Zm6:=
 ZiQ (P:=prog) (n:=7) (k:=8) (l:=[(213,qAtE),(216,ZwS)]) (ol:=[]) ⟨Zi1,Zsz,Tv⟩ Tryz.func293 rfl (by kernel_rfl) Tryz.call293 trivial (rb:=ZqD) (ts:=ZqC) (rs:=Zkh) (by kernel_rfl) (t:=λa=>ZiW a.1) (λa=>by kernel_rfl)
abbrev mAtRs:Rs:=Rs.one (Sh.one (R.int u8))
def mAtT (s:QT5) (n:Int):RT (Option (Int)):=
 .br (!decide (n< ↑(List.length s.2.2.1))||Zf n (List.length s.2.2.1)) (.br (decide (n< ↑(List.length s.2.2.1))) (.Lf (some (R.get (R.int u8) s.2.2.1 n))) (.Lf (some (0)))) (.Lf none)
def mAt (s:QT5) (n:Int):Int:=getO mAtRs.Df (mAtT s n).val
def mAtC (s:QT5) (n:Int):Bool:=okB (mAtT s n).val
abbrev ZVu:Rs:=Rs.one (Sh.one (R.int u16))
def ZNu (s:QT5) (n:Int):RT (Option (Int)):=
 .br (!mAtC s (i64.wrap (n+1))||mAtC s n) (.br (mAtC s (i64.wrap (n+1))) (.Lf (some (ZfI (mAt s (i64.wrap (n+1))) (mAt s n)))) (.Lf none)) (.Lf none)
def Zjq (s:QT5) (n:Int):Int:=getO ZVu.Df (ZNu s n).val
def ZeX (s:QT5) (n:Int):Bool:=okB (ZNu s n).val
def ZRe (s:QT5) (n:Int):RT (Int):=
 .br s.2.1 (.Lf s.1.2.1.2.2.2.2.2.2.2.2.2) (.Lf (u16.wrap (s.1.2.1.2.2.2.2.2.2.2.2.2+u16.wrap n)))
def Zik (s:QT5) (n:Int):Int:=(ZRe s n).val
def ZVv (s:QT5) (i:QT6):RT (Bool):=
 .Lf (Zf8 i.2.2.2.2.2.2.1 s.1.2.1.2.2.2.2.2.2.2.1)
def Zjr (s:QT5) (i:QT6):Bool:=(ZVv s i).val
def ZJ4 (c:TC) (i:QT6) (v:Int):RT (QT2):=
 .br (i.1==14) (.Lf (rInr c.1 v c.2.1.2.2.2.2.2.2.2.1)) (.Lf (rDcr c.1 v c.2.1.2.2.2.2.2.2.2.1))
def Zsk (c:TC) (i:QT6) (v:Int):QT2:=(ZJ4 c i v).val
abbrev ZtB:List Sh:=[Sh.one (R.int i64),Sh.one (R.int u8)]
abbrev ZtC:Rs:=Rs.one (Sh.one (R.int i64))
def ZBo (chip:Int) (op:Int):RT (Int):=
 .br ((Zc chip op).1==2) (.br (!chip==2&&((Zc chip op).2.2.1 !=6&&(Zc chip op).2.2.2.1 !=6)) (.Lf (5)) (.Lf (4))) (.br (bif (Zc chip op).1==14 then (Zc chip op).1==14 else (Zc chip op).1==15) (.br (!chip==2&&(Zc chip op).2.2.1 !=6) (.Lf (5)) (.Lf (4))) (.br ((Zc chip op).1==37) (.br (chip==2) (.Lf (5)) (.Lf (4))) (.br ((Zc chip op).1==26) (.br ((Zc chip op).2.2.2.2.2.2.1==11) (.Lf (4)) (.br (chip==2) (.Lf (6)) (.Lf (5)))) (.br (bif (Zc chip op).1==16 then (Zc chip op).1==16 else bif (Zc chip op).1==17 then (Zc chip op).1==17 else bif (Zc chip op).1==28 then (Zc chip op).1==28 else bif (Zc chip op).1==29 then (Zc chip op).1==29 else bif (Zc chip op).1==25 then (Zc chip op).1==25 else bif (Zc chip op).1==27 then (Zc chip op).1==27 else bif (Zc chip op).1==45 then (Zc chip op).1==45 else (Zc chip op).1==30) (.br (chip==2) (.Lf (6)) (.Lf (5))) (.Lf (4))))))
def ZqV (chip:Int) (op:Int):Int:=(ZBo chip op).val
def ZU1:En:=Zg ZtB ZtC (λ_=>none) (λa=>ZqV a.1 a.2)
theorem ZMq:Zb prog 84 ZU1:=
 pureQ 72842913792127 [(154,Zxz)] [] ZtB ZtC ⟨Zos,Tv⟩ Tryz.func84 Tryz.call84 trivial (t:=λa=>ZBo a.1 a.2)
def ZKu (chip:Int) (op:Int):RT (Int):=
 let x1:=bif (Zc chip op).1==14 then (Zc chip op).1==14 else (Zc chip op).1==15
 let x2:= !(Zc chip op).1==2&&(!x1&&((bif (Zc chip op).1==16 then (Zc chip op).1==16 else bif (Zc chip op).1==17 then (Zc chip op).1==17 else bif (Zc chip op).1==28 then (Zc chip op).1==28 else bif (Zc chip op).1==29 then (Zc chip op).1==29 else bif (Zc chip op).1==25 then (Zc chip op).1==25 else bif (Zc chip op).1==27 then (Zc chip op).1==27 else bif (Zc chip op).1==30 then (Zc chip op).1==30 else (Zc chip op).1==45)||(Zc chip op).1==26&&(Zc chip op).2.2.2.2.2.2.1 !=11))
 .br (rOn chip&&x2) (.Lf (6)) (.br (rOn chip&&(Zc chip op).1==37) (.Lf (5)) (.br (!rOn chip&&(x2||bif (Zc chip op).1==2 then (Zc chip op).2.2.1 !=6&&(Zc chip op).2.2.2.1 !=6 else x1&&(Zc chip op).2.2.1 !=6)) (.Lf (5)) (.Lf (4))))
def ZgB (chip:Int) (op:Int):Int:=(ZKu chip op).val
abbrev Ztw:List Sh:=[Sh.agg ZY,Sh.agg (R.Pq R.bool (R.Pq R.bool rcF7))]
abbrev Ztx:Rs:=Rs.one (Sh.agg ZY)
def ZBk (c:TC) (l:QT1):RT TC:=
 .br (c.1 !=2)
 (.Lf (c))
 (.Lf ((c.1,c.2.1,c.2.2.1,c.2.2.2.1,c.2.2.2.2.1,c.2.2.2.2.2.1,l.2.2.2.2.1&&(c.2.2.2.2.2.2.1|| !c.2.2.2.2.2.2.2.2.1),c.2.2.2.2.2.2.2.1||l.2.2.2.2.2.1&& !c.2.2.2.2.2.2.2.2.2.1,l.2.2.2.2.1,l.2.2.2.2.2.1,c.2.2.2.2.2.2.2.2.2.2)))
def ZMc (c:TC) (l:QT1):TC:=(ZBk c l).val
def ZUU:En:=Zg Ztw Ztx (λ_=>none) (λa=>ZMc a.1 a.2)
theorem ZMb:Zb prog 191 ZUU:=
 pureQ 31 [] [] Ztw Ztx trivial Tryz.func191 Tryz.call191 trivial (t:=λa=>ZBk a.1 a.2)
def ZzS (c:TC) (l:QT1):RT TC:=
 .br (!rOn c.1)
 (.Lf (c))
 (.Lf ((c.1,c.2.1,c.2.2.1,c.2.2.2.1,c.2.2.2.2.1,c.2.2.2.2.2.1,l.2.2.2.2.1&&(c.2.2.2.2.2.2.1|| !c.2.2.2.2.2.2.2.2.1),c.2.2.2.2.2.2.2.1||l.2.2.2.2.2.1&& !c.2.2.2.2.2.2.2.2.2.1,l.2.2.2.2.1,l.2.2.2.2.2.1,c.2.2.2.2.2.2.2.2.2.2)))
def Zi (c:TC) (l:QT1):TC:=(ZzS c l).val
abbrev ZAw:List Sh:=[Sh.agg ZY,Sh.agg (R.Pq R.bool (R.Pq R.bool rcF7))]
abbrev ZAx:Rs:=Rs.one (Sh.one (R.int i64))
def ZLN (c:TC) (l:QT1):RT (Int):=
 .br (c.1==2&&c.2.2.2.2.2.2.1)
 (.Lf (1))
 (.br (!c.2.2.1||c.2.2.2.1)
  (.Lf (0))
  (.br (c.1==2&&(c.2.2.2.2.2.2.2.1&&andI u8 c.2.2.2.2.2.1 4==0))
  (.Lf (2))
  (.br (c.1==2&&(l.2.2.2.2.2.2.1&&andI u8 c.2.2.2.2.2.1 2==0))
   (.Lf (3))
   (.br (c.1==2&&(l.2.2.2.2.2.2.2.1&&andI u8 c.2.2.2.2.2.1 1==0))
   (.Lf (4))
   (.br l.2.2.2.2.2.2.2.2
    (.Lf (5))
    (.Lf (0)))))))
def ZUL (c:TC) (l:QT1):Int:=(ZLN c l).val
def ZXd:En:=Zg ZAw ZAx (λ_=>none) (λa=>ZUL a.1 a.2)
theorem ZQD:Zb prog 194 ZXd:=
 pureQ 576601524159939135 [] [] ZAw ZAx trivial Tryz.func194 Tryz.call194 trivial (t:=λa=>ZLN a.1 a.2)
def ZDz (c:TC) (l:QT1):RT (Int):=
 .br (rOn c.1&&c.2.2.2.2.2.2.1)
 (.Lf (1))
 (.br (!c.2.2.1||c.2.2.2.1)
  (.Lf (0))
  (.br (rOn c.1&&(c.2.2.2.2.2.2.2.1&&andI u8 c.2.2.2.2.2.1 4==0))
  (.Lf (2))
  (.br (rOn c.1&&(l.2.2.2.2.2.2.1&&andI u8 c.2.2.2.2.2.1 2==0))
   (.Lf (3))
   (.br (rOn c.1&&(l.2.2.2.2.2.2.2.1&&andI u8 c.2.2.2.2.2.1 1==0))
   (.Lf (4))
   (.br l.2.2.2.2.2.2.2.2
    (.Lf (5))
    (.Lf (0)))))))
def Zei (c:TC) (l:QT1):Int:=(ZDz c l).val
abbrev Zov:List Sh:=[Sh.agg ZY,Sh.one (R.int i64)]
abbrev Zow:Rs:=Rs.one (Sh.agg ZY)
def ZlZ (c:TC) (s:Int):RT TC:=
 .br (decide (s<1)||decide (s>5))
 (.Lf (c))
 (.Lf ((c.1,c.2.1,false,false,false,c.2.2.2.2.2.1,!s==1&&c.2.2.2.2.2.2.1,bif s==1 then c.2.2.2.2.2.2.2.1 else !s==2&&c.2.2.2.2.2.2.2.1,c.2.2.2.2.2.2.2.2.1,c.2.2.2.2.2.2.2.2.2.1,s==1||c.2.2.2.2.2.2.2.2.2.2.1,bif s==1 then c.2.2.1 else c.2.2.2.2.2.2.2.2.2.2.2.1,c.2.2.2.2.2.2.2.2.2.2.2.2)))
def Zul (c:TC) (s:Int):TC:=(ZlZ c s).val
def ZQ2:En:=Zg Zov Zow (λ_=>none) (λa=>Zul a.1 a.2)
theorem ZHB:Zb prog 81 ZQ2:=
 pureQ 1056799 [] [] Zov Zow trivial Tryz.func81 Tryz.call81 trivial (t:=λa=>ZlZ a.1 a.2)
def Zsy (c:TC) (s:Int):RT TC:=
 .br (decide (s<1)||decide (s>5))
 (.Lf (c))
 (.Lf ((c.1,c.2.1,false,false,false,c.2.2.2.2.2.1,!s==1&&c.2.2.2.2.2.2.1,!s==2&&c.2.2.2.2.2.2.2.1,c.2.2.2.2.2.2.2.2.1,c.2.2.2.2.2.2.2.2.2.1,s==1||c.2.2.2.2.2.2.2.2.2.2.1,bif s==1 then c.2.2.1 else c.2.2.2.2.2.2.2.2.2.2.2.1,c.2.2.2.2.2.2.2.2.2.2.2.2)))
def Zcq (c:TC) (s:Int):TC:=(Zsy c s).val
abbrev Zs9:List Sh:=[Sh.agg ZY]
abbrev Zta:Rs:=Rs.one (Sh.agg ZY)
def ZAq (c:TC):RT TC:=
 .Lf ((c.1,(c.2.1.1,c.2.1.2.1,c.2.1.2.2.1,c.2.1.2.2.2.1,c.2.1.2.2.2.2.1,c.2.1.2.2.2.2.2.1,c.2.1.2.2.2.2.2.2.1,c.2.1.2.2.2.2.2.2.2.1,c.2.1.2.2.2.2.2.2.2.2.1,0),false,false,false,bif c.1==2 then 7 else 0,false,false,false,false,false,false,false))
def ZLC (c:TC):TC:=(ZAq c).val
def ZUH:En:=Zg Zs9 Zta (λ_=>none) (λa=>ZLC a)
theorem ZLB:Zb prog 80 ZUH:=
 pureQ 15 [] [] Zs9 Zta trivial Tryz.func80 Tryz.call80 trivial (t:=λa=>ZAq a)
def Zso (c:TC):RT TC:=
 .Lf ((c.1,(c.2.1.1,c.2.1.2.1,c.2.1.2.2.1,c.2.1.2.2.2.1,c.2.1.2.2.2.2.1,c.2.1.2.2.2.2.2.1,c.2.1.2.2.2.2.2.2.1,c.2.1.2.2.2.2.2.2.2.1,c.2.1.2.2.2.2.2.2.2.2.1,0),false,false,false,bif rOn c.1 then 7 else 0,false,false,false,false,false,false,false))
def Zaq (c:TC):TC:=(Zso c).val
def ZzJ (k:Int):RT (Bool):=
 .Lf (k==1||(k==2||(k==4||(k==6||(k==8||k==9)))))
def ZaU (k:Int):Bool:=(ZzJ k).val
abbrev Ztc:List Sh:=[Sh.one (R.int i64)]
abbrev Ztd:Rs:=Rs.one (Sh.one R.bool)
def ZAr (k:Int):RT (Bool):=
 .br (bif k==1 then k==1 else bif k==2 then k==2 else bif k==4 then k==4 else bif k==6 then k==6 else bif k==8 then k==8 else k==9)
 (.Lf (true))
 (.Lf (false))
def ZLE (k:Int):Bool:=(ZAr k).val
def ZUI:En:=Zg Ztc Ztd (λ_=>none) (λa=>ZLE a)
theorem ZLD:Zb prog 83 ZUI:=
 pureQ 23 [] [] Ztc Ztd trivial Tryz.func83 Tryz.call83 trivial (t:=λa=>ZAr a)
def ZDk (k:Int):RT (Bool):=
 .Lf (k==3||(k==5||k==7))
def Zb2 (k:Int):Bool:=(ZDk k).val
abbrev Zno:List Sh:=[Sh.one (R.int i64)]
abbrev Znp:Rs:=Rs.one (Sh.one R.bool)
def ZsX (k:Int):RT (Bool):=
 .Lf (k==3||(k==5||k==7))
def ZAc (k:Int):Bool:=(ZsX k).val
def ZQn:En:=Zg Zno Znp (λ_=>none) (λa=>ZAc a)
theorem ZGy:Zb prog 139 ZQn:=
 pureQ 7 [] [] Zno Znp trivial Tryz.func139 Tryz.call139 trivial (t:=λa=>ZsX a)
abbrev Znx:List Sh:=[Sh.one (R.int i64)]
abbrev Zny:Rs:=Rs.one (Sh.one (R.int u8))
def Zs3 (k:Int):RT (Int):=
 .br (k==1)
 (.Lf (162))
 (.br (k==2)
  (.Lf (130))
  (.br (k==4)
  (.Lf (134))
  (.br (k==5)
   (.Lf (4))
   (.br (k==6)
   (.Lf (66))
   (.br (k==7)
    (.Lf (16))
    (.br (k==8)
    (.Lf (35))
    (.br (k==9)
     (.Lf (3))
     (.br (k==10)
     (.Lf (138))
     (.Lf (0))))))))))
def ZAl (k:Int):Int:=(Zs3 k).val
def ZQt:En:=Zg Znx Zny (λ_=>none) (λa=>ZAl a)
theorem ZGF:Zb prog 212 ZQt:=
 pureQ 1398103 [] [] Znx Zny trivial Tryz.func212 Tryz.call212 trivial (t:=λa=>Zs3 a)
def ZDn (k:Int):RT (Int):=
 .br (k==1)
 (.Lf (162))
 (.br (k==2)
  (.Lf (130))
  (.br (k==4)
  (.Lf (134))
  (.br (k==5)
   (.Lf (4))
   (.br (k==6)
   (.Lf (66))
   (.br (k==7)
    (.Lf (16))
    (.br (k==8)
    (.Lf (35))
    (.br (k==9)
     (.Lf (3))
     (.br (k==10)
     (.Lf (138))
     (.Lf (0))))))))))
def Zm0 (k:Int):Int:=(ZDn k).val
abbrev Zon:List Sh:=[Sh.one (R.int i64)]
abbrev Zoo:Rs:=Rs.tup [Sh.one R.bool,Sh.one R.bool,Sh.one R.bool]
def Ztv (k:Int):RT (QT33):=
 .br (k==1)
 (.Lf ((false,true,true)))
 (.br (bif k==2 then k==2 else bif k==4 then k==4 else k==11)
  (.Lf ((false,true,false)))
  (.br (bif k==3 then k==3 else k==5)
  (.Lf ((false,false,true)))
  (.br (k==6)
   (.Lf ((true,true,false)))
   (.br (k==7)
   (.Lf ((true,false,true)))
   (.br (bif k==8 then k==8 else bif k==9 then k==9 else k==12)
    (.Lf ((true,true,true)))
    (.Lf ((false,false,false))))))))
def ZBj (k:Int):QT33:=(Ztv k).val
def ZQL:En:=Zg Zon Zoo (λ_=>none) (λa=>ZBj a)
theorem ZGT:Zb prog 211 ZQL:=
 pureQ 692575 [] [] Zon Zoo trivial Tryz.func211 Tryz.call211 trivial (t:=λa=>Ztv a)
def ZDL (k:Int):RT (QT33):=
 .br (k==1)
 (.Lf ((false,true,true)))
 (.br (bif k==2 then k==2 else bif k==4 then k==4 else k==11)
  (.Lf ((false,true,false)))
  (.br (bif k==3 then k==3 else k==5)
  (.Lf ((false,false,true)))
  (.br (k==6)
   (.Lf ((true,true,false)))
   (.br (k==7)
   (.Lf ((true,false,true)))
   (.br (bif k==8 then k==8 else bif k==9 then k==9 else k==12)
    (.Lf ((true,true,true)))
    (.Lf ((false,false,false))))))))
def ZfH (k:Int):QT33:=(ZDL k).val
abbrev Zkr:List Sh:=[Sh.one (R.int i64)]
abbrev Zks:Rs:=Rs.one (Sh.one R.bool)
def Zou (k:Int):RT (Bool):=
 .Lf (k !=10&&(k !=11&&k !=12))
def Zuk (k:Int):Bool:=(Zou k).val
def ZM2:En:=Zg Zkr Zks (λ_=>none) (λa=>Zuk a)
theorem ZBH:Zb prog 189 ZM2:=
 pureQ 7 [] [] Zkr Zks trivial Tryz.func189 Tryz.call189 trivial (t:=λa=>Zou a)
def ZwR (k:Int):RT (Bool):=
 .Lf (k !=10&&(k !=11&&k !=12))
def Zad (k:Int):Bool:=(ZwR k).val
theorem ZRf (c l):ZMc c l=Zi c l:=by simp only[ZMc,ZBk,Zi,ZzS,RT.val,ZbC,bne]
theorem ZUv (c l):ZUL c l=Zei c l:=by simp[ZUL,ZLN,Zei,ZDz,RT.val,ZbC]
theorem ZO6 (c) (s:Int):Zul c s=Zcq c s:=by
 by_cases h:s=1
 ·subst h;simp[Zul,ZlZ,Zcq,Zsy,RT.val]
 ·have h':(s==1)=false:=by simpa using h
  simp[Zul,ZlZ,Zcq,Zsy,RT.val,h']
theorem ZPO (c):ZLC c=Zaq c:=by simp[ZLC,ZAq,Zaq,Zso,RT.val,ZbC]
theorem ZPP (k):ZLE k=ZaU k:=by simp[ZLE,ZAr,ZaU,ZzJ,RT.val]
theorem ZIq (k):ZAc k=Zb2 k:=by simp[ZAc,ZsX,Zb2,ZDk,RT.val]
theorem ZJv (k):ZAl k=Zm0 k:=by simp[ZAl,Zs3,Zm0,ZDn,RT.val]
theorem ZNG (k):ZBj k=ZfH k:=by simp[ZBj,Ztv,ZfH,ZDL,RT.val]
theorem ZIl (k):Zuk k=Zad k:=by simp[Zuk,Zou,Zad,ZwR,RT.val]
def ZEy:En:=Zg Ztw Ztx (λ_=>none) (λa=>Zi a.1 a.2)
theorem ZGU:Zb prog 191 ZEy:=ZMb.tot (λa h=>by simp) (λa h=>ZRf _ _)
def Ztf:En:=Zg ZAw ZAx (λ_=>none) (λa=>Zei a.1 a.2)
theorem Zxp:Zb prog 194 Ztf:=ZQD.tot (λa h=>by simp) (λa h=>ZUv _ _)
def ZxE:En:=Zg Zov Zow (λ_=>none) (λa=>Zcq a.1 a.2)
theorem ZBI:Zb prog 81 ZxE:=ZHB.tot (λa h=>by simp) (λa h=>ZO6 _ _)
def Ztb:En:=Zg Zs9 Zta (λ_=>none) (λa=>Zaq a)
theorem ZqS:Zb prog 80 Ztb:=ZLB.tot (λa h=>by simp) (λa h=>ZPO _)
def ZcV:En:=Zg Ztc Ztd (λ_=>none) (λa=>ZaU a)
theorem Zd2:Zb prog 83 ZcV:=ZLD.tot (λa h=>by simp) (λa h=>ZPP _)
def Zcy:En:=Zg Zno Znp (λ_=>none) (λa=>Zb2 a)
theorem Zem:Zb prog 139 Zcy:=ZGy.tot (λa h=>by simp) (λa h=>ZIq _)
def Znz:En:=Zg Znx Zny (λ_=>none) (λa=>Zm0 a)
theorem ZAk:Zb prog 212 Znz:=ZGF.tot (λa h=>by simp) (λa h=>ZJv _)
def Zop:En:=Zg Zon Zoo (λ_=>none) (λa=>ZfH a)
theorem ZBi:Zb prog 211 Zop:=ZGT.tot (λa h=>by simp) (λa h=>ZNG _)
def ZqZ:En:=Zg Zkr Zks (λ_=>none) (λa=>Zad a)
theorem ZxD:Zb prog 189 ZqZ:=ZBH.tot (λa h=>by simp) (λa h=>ZIl _)
def Zco:En:=.tree (Zr (envX prog [] [] 7 8) Tryz.f146)
theorem ZeB:Zb prog 146 Zco:=ZL (P:=prog) (n:=7) (k:=8) (l:=[]) (ol:=[]) trivial Tryz.func146 rfl (by kernel_rfl) Tryz.call146 trivial
def Zbx:En:=.tree (Zr (envX prog [] [] 7 8) Tryz.f147)
theorem Zdr:Zb prog 147 Zbx:=ZL (P:=prog) (n:=7) (k:=8) (l:=[]) (ol:=[]) trivial Tryz.func147 rfl (by kernel_rfl) Tryz.call147 trivial
def Zg3:En:=.tree (Zr (envX prog [(83,ZcV),(139,Zcy),(146,Zco),(147,Zbx),(211,Zop)] [] 63 8) Tryz.f148)
theorem ZkW:Zb prog 148 Zg3:=ZL (P:=prog) (n:=63) (k:=8) (l:=[(83,ZcV),(139,Zcy),(146,Zco),(147,Zbx),(211,Zop)]) (ol:=[]) ⟨Zd2,Zem,ZeB,Zdr,ZBi,Tv⟩ Tryz.func148 rfl (by kernel_rfl) Tryz.call148 trivial
def Zfu:En:=.tree (Zr (envX prog [(83,ZcV),(139,Zcy),(147,Zbx),(212,Znz)] [] 63 8) Tryz.f149)
theorem Zit:Zb prog 149 Zfu:=ZL (P:=prog) (n:=63) (k:=8) (l:=[(83,ZcV),(139,Zcy),(147,Zbx),(212,Znz)]) (ol:=[]) ⟨Zd2,Zem,Zdr,ZAk,Tv⟩ Tryz.func149 rfl (by kernel_rfl) Tryz.call149 trivial
abbrev ZLJ:List Sh:=[Sh.one (R.int i64),Sh.agg (R.Pq (R.int i64) (R.Pq (RY) (R.Pq (R.int u8) (R.Pq (R.int u16) (R.Pq R.bool R.bool)))))]
abbrev ZLL:Rs:=Rs.one (Sh.agg (R.Pq (R.int i64) (R.Pq (R.int u16) (R.Pq (R.int u8) (R.Pq R.bool (R.Pq R.bool (R.Pq R.bool (R.Pq R.bool (R.Pq R.bool (R.Pq R.bool (R.Pq R.bool rcF7)))))))))))
def ZLK (chip:Int) (s:Int×TY×Int×Int×Bool×Bool):RT (QT10):=
 let x1:Int:=bif decide (s.1>=1)&&decide (s.1<=7) then s.2.1.2.1 else 0
 let x2:=s.1==2||(s.1==7||s.1==3)
 let x3:=x2&&Zb2 s.2.1.1
 let x4:Int:=bif s.1==3&&ZaU s.2.1.1 then s.2.2.1 else bif x3 then s.2.1.2.2.1 else 0
 let x5:=s.1==1&&(s.2.1.1 !=11&&s.2.1.1 !=12)
 .br (chip==2)
 (.Lf ((s.1,x1,bif s.1==1 then u8.wrap s.2.1.2.1 else x4,false,false,false,false,s.1==1,decide (s.1>=1)&&decide (s.1<=7)&&(ZfH s.2.1.1).1,decide (s.1>=1)&&decide (s.1<=7)&&(ZfH s.2.1.1).2.1,decide (s.1>=1)&&decide (s.1<=7)&&(ZfH s.2.1.1).2.2,x2&&(ZaU s.2.1.1&& !(s.2.1.1==8||s.2.1.1==9)),x2&&(s.2.1.1==8||s.2.1.1==9),s.2.2.2.2.2,x3,s.1==8,s.1==8||(s.1==9||s.1==10))))
 (.Lf ((s.1,bif s.1==9 then s.2.2.2.1 else x1,bif x5 then Zm0 s.2.1.1 else x4,x5,x2&&ZaU s.2.1.1,s.1==7||s.1==9,s.2.2.2.2.1,false,false,false,false,false,false,false,bif s.1==7 then Zb2 s.2.1.1 else s.1==3&&Zb2 s.2.1.1,s.1==8,s.1==8)))
def ZLM (chip:Int) (s:Int×TY×Int×Int×Bool×Bool):QT10:=(ZLK chip s).val
def ZSB:En:=Zg ZLJ ZLL (λ_=>none) (λa=>ZLM a.1 a.2)
theorem ZQC:Zb prog 79 ZSB:=
 pureQ 63 [(83,ZcV),(139,Zcy),(146,Zco),(147,Zbx),(148,Zg3),(149,Zfu)] [] ZLJ ZLL ⟨Zd2,Zem,ZeB,Zdr,ZkW,Zit,Tv⟩ Tryz.func79 Tryz.call79 trivial (t:=λa=>ZLK a.1 a.2)
def Zv7 (chip:Int) (t:Int) (x:QT12) (d:Int) (i:Bool) (o:Bool):RT (QT10):=
 let x1:Bool×Bool×Bool×Bool×Bool×Bool×Bool×Bool×Bool×Bool×Bool:=(!rOn chip&&bif rOn chip then i else i,false,false,false,false,false,false,bif !rOn chip then rOn chip&&o else rOn chip&&o,false,false,rOn chip)
 let x2:=(t==2||(t==7||t==3))&&Zb2 x.1
 let x3:Int:=bif t==3&&ZaU x.1 then d else bif x2 then x.2.2.1 else 0
 .br (t==8)
 (.Lf ((t,0,0,false,false,false,!rOn chip&&bif rOn chip then i else i,false,false,false,false,false,false,bif !rOn chip then rOn chip&&o else rOn chip&&o,false,true,true)))
 (.br (t==9)
  (.Lf ((t,bif !rOn chip then x.2.1 else 0,0,false,false,!rOn chip,x1)))
  (.br (t==10)
  (.Lf ((t,0,0,false,false,false,x1)))
  (.br (rOn chip)
   (.Lf ((t,x.2.1,bif t==1 then u8.wrap x.2.1 else x3,false,false,false,!rOn chip&&bif rOn chip then i else i,t==1,(ZfH x.1).1,(ZfH x.1).2.1,(ZfH x.1).2.2,(t==2||(t==7||t==3))&&(ZaU x.1&& !(x.1==8||x.1==9)),(t==2||(t==7||t==3))&&(x.1==8||x.1==9),bif !rOn chip then rOn chip&&o else rOn chip&&o,x2,false,false)))
   (.Lf ((t,x.2.1,bif t==1&&(x.1 !=11&&x.1 !=12) then Zm0 x.1 else x3,t==1&&(x.1 !=11&&x.1 !=12),(t==2||(t==7||t==3))&&ZaU x.1,t==7,!rOn chip&&bif rOn chip then i else i,false,false,false,false,false,false,bif !rOn chip then rOn chip&&o else rOn chip&&o,Zb2 x.1&&(t==7||t==3),false,false))))))
def ZpP (chip:Int) (t:Int) (x:QT12) (d:Int) (i:Bool) (o:Bool):QT10:=(Zv7 chip t x d i o).val
abbrev ZMS:List Sh:=[Sh.agg (R.Pq ZY (R.Pq (R.int i64) (R.Pq (R.sl (R.int u8)) (R.Pq (RY) (R.Pq (R.int i64) R.bool)))))]
abbrev ZMT:Rs:=Rs.one (Sh.one R.bool)
def ZSN (c:QT3):RT (Bool):=
 let x1:=decide (iN (List.length c.2.2.1)>0)||c.2.1 !=0
 .Lf (bif decide (c.2.2.2.2.1>=2) then decide (c.2.2.2.2.1<=7)||x1 else x1)
def Zuj (c:QT3):Bool:=(ZSN c).val
def ZxB:En:=Zg ZMS ZMT (λ_=>none) (λa=>Zuj a)
theorem ZES:Zb prog 144 ZxB:=
 pureQ 7 [] [] ZMS ZMT trivial Tryz.func144 Tryz.call144 trivial (t:=λa=>ZSN a)
def ZWY (c:QT3):RT (Bool):=
 let x1:=decide (iN (List.length c.2.2.1)>0)||c.2.1 !=0
 .Lf (bif decide (c.2.2.2.2.1>=2) then decide (c.2.2.2.2.1<=7)||x1 else x1)
def ZgC (c:QT3):Bool:=(ZWY c).val
def ZcR:En:=.tree (Zr (envX prog [] [] 31 8) Tryz.f115)
theorem ZeM:Zb prog 115 ZcR:=ZL (P:=prog) (n:=31) (k:=8) (l:=[]) (ol:=[]) trivial Tryz.func115 rfl (by kernel_rfl) Tryz.call115 trivial
abbrev ZJ6:List Sh:=[Sh.agg (R.Pq ZY (R.Pq (R.int i64) (R.Pq (R.sl (R.int u8)) (R.Pq (RY) (R.Pq (R.int i64) R.bool))))),Sh.agg (R.Pq ZY (R.Pq (R.int i64) (R.Pq (R.sl (R.int u8)) (R.Pq (RY) (R.Pq (R.int i64) R.bool)))))]
abbrev ZJ8:Rs:=Rs.one (Sh.one R.bool)
def ZJ7 (a:QT3) (b:QT3):RT (Bool):=
 let x1:=a.1.2.1.2.2.2.2.2.2.2.1.2.2
 let x2:=b.1.2.1.2.2.2.2.2.2.2.1.2.2
 let x3:=x1.2
 let x4:=x2.2
 let x5:=x3.2
 let x6:=x4.2
 let x7:=x5.2
 let x8:=x6.2
 .Lf (a.1.1==b.1.1&&(a.1.2.1.1==b.1.2.1.1&&(a.1.2.1.2.1==b.1.2.1.2.1&&(a.1.2.1.2.2.1==b.1.2.1.2.2.1&&(a.1.2.1.2.2.2.1==b.1.2.1.2.2.2.1&&(a.1.2.1.2.2.2.2.1==b.1.2.1.2.2.2.2.1&&(a.1.2.1.2.2.2.2.2.1==b.1.2.1.2.2.2.2.2.1&&(a.1.2.1.2.2.2.2.2.2.1==b.1.2.1.2.2.2.2.2.2.1&&(a.1.2.1.2.2.2.2.2.2.2.1.1==b.1.2.1.2.2.2.2.2.2.2.1.1&&(a.1.2.1.2.2.2.2.2.2.2.1.2.1==b.1.2.1.2.2.2.2.2.2.2.1.2.1&&(x1.1==x2.1&&(x3.1==x4.1&&(x5.1==x6.1&&(x7.1==x8.1&&(x7.2==x8.2&&(a.1.2.1.2.2.2.2.2.2.2.2.1==b.1.2.1.2.2.2.2.2.2.2.2.1&&(a.1.2.1.2.2.2.2.2.2.2.2.2==b.1.2.1.2.2.2.2.2.2.2.2.2&&(a.1.2.2.1==b.1.2.2.1&&(a.1.2.2.2.1==b.1.2.2.2.1&&(a.1.2.2.2.2.1==b.1.2.2.2.2.1&&(a.1.2.2.2.2.2.1==b.1.2.2.2.2.2.1&&(a.1.2.2.2.2.2.2.1==b.1.2.2.2.2.2.2.1&&(a.1.2.2.2.2.2.2.2.1==b.1.2.2.2.2.2.2.2.1&&(a.1.2.2.2.2.2.2.2.2.1==b.1.2.2.2.2.2.2.2.2.1&&(a.1.2.2.2.2.2.2.2.2.2.1==b.1.2.2.2.2.2.2.2.2.2.1&&(a.1.2.2.2.2.2.2.2.2.2.2.1==b.1.2.2.2.2.2.2.2.2.2.2.1&&(a.1.2.2.2.2.2.2.2.2.2.2.2.1==b.1.2.2.2.2.2.2.2.2.2.2.2.1&&(a.1.2.2.2.2.2.2.2.2.2.2.2.2==b.1.2.2.2.2.2.2.2.2.2.2.2.2&&true)))))))))))))))))))))))))))&&(a.2.1==b.2.1&&(ByteArray.toList (ZvH a.2.2.1)==ByteArray.toList (ZvH b.2.2.1)&&(a.2.2.2.1.1==b.2.2.2.1.1&&(a.2.2.2.1.2.1==b.2.2.2.1.2.1&&(a.2.2.2.1.2.2.1==b.2.2.2.1.2.2.1&&(a.2.2.2.1.2.2.2==b.2.2.2.1.2.2.2&&true)))&&(a.2.2.2.2.1==b.2.2.2.2.1&&a.2.2.2.2.2==b.2.2.2.2.2)))))
def ZzI (a:QT3) (b:QT3):Bool:=(ZJ7 a b).val
def ZSj:En:=Zg ZJ6 ZJ8 (λ_=>none) (λa=>ZzI a.1 a.2)
theorem ZPU:Zb prog 106 ZSj:=
 pureQ 31 [(115,ZcR)] [] ZJ6 ZJ8 ⟨ZeM,Tv⟩ Tryz.func106 Tryz.call106 trivial (t:=λa=>ZJ7 a.1 a.2)
theorem ZLc (chip t:Int) (h1:1<=t) (h2:t<=10) (x:QT12) (d d' pc:Int) (i o:Bool) (hd:t≠10->d'=d):
  ZLM chip (t,x,d,pc,i,o)=ZpP chip t (bif t==9 then (0,pc,0,0) else x) d' i o:=by
 obtain⟨x1,x2,x3,x4⟩:=x;simp only[ZLM,ZLK,ZpP,Zv7,RT.val,ZbC];generalize (chip==2)=b;have:t=1\/t=2\/t=3\/t=4\/t=5\/t=6\/t=7\/t=8\/t=9\/t=10:=by omega
 by_cases h:t=10
 ·subst h;cases b<;>simp
 ·rw[hd h];rcases this with rfl|rfl|rfl|rfl|rfl|rfl|rfl|rfl|rfl|rfl<;>cases b<;>simp<;>(try cases Zb2 x1)<;>(try cases ZaU x1)<;>simp
end
end Go.Proofs.YtpnjbfjomebppaaGreat
