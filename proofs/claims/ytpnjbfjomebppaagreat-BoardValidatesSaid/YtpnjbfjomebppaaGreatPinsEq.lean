import Derived.Test.YtpnjbfjomebppaaGreatLeafEq
set_option linter.unusedSimpArgs false
open Go Go.S3 Go.Proofs
set_option linter.unusedVariables false
set_option maxRecDepth 100000
namespace Go.Proofs.YtpnjbfjomebppaaGreat
noncomputable section
abbrev ZSK:R:=R.Pq (.int .i64) (R.Pq (.int .i64) (R.Pq (.int .i64) (R.Pq (.int .i64) (R.Pq (.int .i64) (R.Pq (.int .i64) (.int .i64))))))
def Zwc (k:Int):En:=pinE Zif ZSK (λa=>Zc a.1 a.2) k
theorem ZD6 (k:Int):Za Tryz.prog 154 (Zwc k):=ZKL ZnJ k
def ZR3 (k:Int):En:=pinE ZhV ZSK (λa=>Zc a.1 a.2) k
theorem ZPs (k:Int):Za Tryz.prog 238 (ZR3 k):=ZKL Zy3 k
def pcOf (c:TC):Int:=c.2.1.2.2.2.2.2.2.2.2.2
def spOf (c:TC):Int:=c.2.1.2.2.2.2.2.2.2.2.1
def rgx (r:TR) (f:TF) (sp pc:Int):TR:=(r.1,r.2.1,r.2.2.1,r.2.2.2.1,r.2.2.2.2.1,r.2.2.2.2.2.1,r.2.2.2.2.2.2.1,f,sp,pc)
def fin3 (g:List Int) (l:List TY):RT (Option (TY×Bool)):=.br (decide (iN (List.length g)>=iN (List.length l))) (.Lf (some (((0,0,0,0),false)))) (.br (Zf (iN (List.length g)) (List.length l)) (.Lf (some ((R.get RY l (iN (List.length g)),true)))) (.Lf none))
end
end Go.Proofs.YtpnjbfjomebppaaGreat
open Go.Proofs.Tryz (prog)
open Go.IntKind (u8 u16 i64)
namespace Go.Proofs.YtpnjbfjomebppaaGreat
noncomputable section
abbrev ZnH:List Sh:=[Sh.one (R.int i64)]
abbrev ZnI:Rs:=Rs.one (Sh.one R.bool)
def Zqe (s:Int):RT (Bool):=
 .Lf (decide (s>=1)&&decide (s<=4))
def Ze (s:Int):Bool:=(Zqe s).val
def Zjc:En:=Zg ZnH ZnI (λ_=>none) (λa=>Ze a)
theorem ZjU:Za prog 151 Zjc:=
 pureQ 7 [] [] ZnH ZnI trivial Tryz.func151 Tryz.call151 trivial (t:=λa=>Zqe a)
abbrev ZWE:R:=R.Pq Z5 (R.Pq R.bool (R.Pq (R.sl (R.int u8)) (R.Pq (R.Pq (R.int i64) (R.Pq (R.int i64) (R.Pq (R.int i64) (R.Pq (R.int i64) (R.Pq (R.int i64) (R.Pq (R.int i64) (R.Pq (R.int i64) (R.int i64)))))))) (R.sl (RY)))))
abbrev ZWD:List Sh:=[Sh.one (R.int i64)]
abbrev ZT0:Rs:=Rs.one (Sh.one (R.int u8))
def qAtT (s:QT0) (n:Int):RT (Option (Int)):=
 .br (!decide (n< ↑(List.length s.2.2.1))||Zf n (List.length s.2.2.1)) (.br (decide (n< ↑(List.length s.2.2.1))) (.Lf (some (R.get (R.int u8) s.2.2.1 n))) (.Lf (some (0)))) (.Lf none)
def qAt (s:QT0) (n:Int):Int:=getO ZT0.Df (qAtT s n).val
def qAtC (s:QT0) (n:Int):Bool:=okB (qAtT s n).val
def qAtE:En:=Zhh ZWE ZWD ZT0 (λa=>some (qAtC a.1 a.2)) (λa=>qAt a.1 a.2)
theorem Zh3:Za prog 213 qAtE:=
 Zez (P:=prog) (n:=31) (k:=8) (l:=[]) (ol:=[]) trivial Tryz.func213 rfl (by kernel_rfl) Tryz.call213 trivial (rb:=ZWE) (ts:=ZWD) (rs:=ZT0) (by kernel_rfl) (t:=λa=>qAtT a.1 a.2) (λa=>by kernel_rfl)
abbrev ZKa:R:=R.Pq Z5 (R.Pq R.bool (R.Pq (R.sl (R.int u8)) (R.Pq (R.Pq (R.int i64) (R.Pq (R.int i64) (R.Pq (R.int i64) (R.Pq (R.int i64) (R.Pq (R.int i64) (R.Pq (R.int i64) (R.Pq (R.int i64) (R.int i64)))))))) (R.sl (RY)))))
abbrev ZJ9:List Sh:=[Sh.one (R.int i64)]
abbrev Zy5:Rs:=Rs.one (Sh.one (R.int u16))
def Zvx (s:QT0) (n:Int):RT (Option (Int)):=
 .br (!qAtC s (i64.wrap (n+1))||qAtC s n) (.br (qAtC s (i64.wrap (n+1))) (.Lf (some (ZeC (qAt s (i64.wrap (n+1))) (qAt s n)))) (.Lf none)) (.Lf none)
def ZfU (s:QT0) (n:Int):Int:=getO Zy5.Df (Zvx s n).val
def Zcz (s:QT0) (n:Int):Bool:=okB (Zvx s n).val
def Zmo:En:=Zhh ZKa ZJ9 Zy5 (λa=>some (Zcz a.1 a.2)) (λa=>ZfU a.1 a.2)
theorem ZrN:Za prog 284 Zmo:=
 Zez (P:=prog) (n:=31) (k:=8) (l:=[(213,qAtE),(220,ZsN)]) (ol:=[]) ⟨Zh3,Zv6,Tv⟩ Tryz.func284 rfl (by kernel_rfl) Tryz.call284 trivial (rb:=ZKa) (ts:=ZJ9) (rs:=Zy5) (by kernel_rfl) (t:=λa=>Zvx a.1 a.2) (λa=>by kernel_rfl)
abbrev ZvA:R:=R.Pq Z5 (R.Pq R.bool (R.Pq (R.sl (R.int u8)) (R.Pq (R.Pq (R.int i64) (R.Pq (R.int i64) (R.Pq (R.int i64) (R.Pq (R.int i64) (R.Pq (R.int i64) (R.Pq (R.int i64) (R.Pq (R.int i64) (R.int i64)))))))) (R.sl (RY)))))
abbrev Zvy:List Sh:=[]
abbrev Zvz:Rs:=Rs.one (Sh.one (R.int u16))
def ZC8 (s:QT0):RT (Int):=
 .br s.2.1 (.Lf s.1.2.1.2.2.2.2.2.2.2.2.2) (.Lf (u16.wrap (s.1.2.1.2.2.2.2.2.2.2.2.2+u16.wrap s.2.2.2.1.2.1)))
def Zt (s:QT0):Int:=(ZC8 s).val
def Zh2:En:=Zhh ZvA Zvy Zvz (λ_=>none) (λa=>Zt a.1)
theorem Zp2:Za prog 227 Zh2:=
 Zgv (P:=prog) (n:=7) (k:=8) (l:=[]) (ol:=[]) trivial Tryz.func227 rfl (by kernel_rfl) Tryz.call227 trivial (rb:=ZvA) (ts:=Zvy) (rs:=Zvz) (by kernel_rfl) (t:=λa=>ZC8 a.1) (λa=>by kernel_rfl)
abbrev ZC7:R:=R.Pq Z5 (R.Pq R.bool (R.Pq (R.sl (R.int u8)) (R.Pq (R.Pq (R.int i64) (R.Pq (R.int i64) (R.Pq (R.int i64) (R.Pq (R.int i64) (R.Pq (R.int i64) (R.Pq (R.int i64) (R.Pq (R.int i64) (R.int i64)))))))) (R.sl (RY)))))
abbrev ZC5:List Sh:=[]
abbrev ZC6:Rs:=Rs.one (Sh.one R.bool)
def ZJ5 (s:QT0):RT (Bool):=
 .Lf (ZeD s.2.2.2.1.2.2.2.2.2.2.1 s.1.2.1.2.2.2.2.2.2.2.1)
def ZgX (s:QT0):Bool:=(ZJ5 s).val
def Zhj:En:=Zhh ZC7 ZC5 ZC6 (λ_=>none) (λa=>ZgX a.1)
theorem Zmm:Za prog 286 Zhj:=
 Zgv (P:=prog) (n:=7) (k:=8) (l:=[(353,ZDY)]) (ol:=[]) ⟨ZGk,Tv⟩ Tryz.func286 rfl (by kernel_rfl) Tryz.call286 trivial (rb:=ZC7) (ts:=ZC5) (rs:=ZC6) (by kernel_rfl) (t:=λa=>ZJ5 a.1) (λa=>by kernel_rfl)
abbrev ZR9:R:=R.Pq Z5 (R.Pq R.bool (R.Pq (R.sl (R.int u8)) (R.Pq (R.Pq (R.int i64) (R.Pq (R.int i64) (R.Pq (R.int i64) (R.Pq (R.int i64) (R.Pq (R.int i64) (R.Pq (R.int i64) (R.Pq (R.int i64) (R.int i64)))))))) (R.sl (RY)))))
abbrev ZR7:List Sh:=[Sh.one (R.int i64)]
abbrev ZR8:Rs:=Rs.one (Sh.one (R.int u8))
def ZWC (s:QT0) (n:Int):RT (Int):=
 .Lf (rGet s.1.2.1 n)
def qReg (s:QT0) (n:Int):Int:=(ZWC s n).val
def Zvw:En:=Zhh ZR9 ZR7 ZR8 (λ_=>none) (λa=>qReg a.1 a.2)
theorem ZrM:Za prog 216 Zvw:=
 Zgv (P:=prog) (n:=31) (k:=8) (l:=[(281,ZSt)]) (ol:=[]) ⟨ZQd,Tv⟩ Tryz.func216 rfl (by kernel_rfl) Tryz.call216 trivial (rb:=ZR9) (ts:=ZR7) (rs:=ZR8) (by kernel_rfl) (t:=λa=>ZWC a.1 a.2) (λa=>by kernel_rfl)
abbrev ZJ8:R:=R.Pq Z5 (R.Pq R.bool (R.Pq (R.sl (R.int u8)) (R.Pq (R.Pq (R.int i64) (R.Pq (R.int i64) (R.Pq (R.int i64) (R.Pq (R.int i64) (R.Pq (R.int i64) (R.Pq (R.int i64) (R.Pq (R.int i64) (R.int i64)))))))) (R.sl (RY)))))
abbrev ZJ6:List Sh:=[Sh.one (R.int i64)]
abbrev ZJ7:Rs:=Rs.one (Sh.one (R.int u16))
def ZSa (s:QT0) (n:Int):RT (Int):=
 .Lf (Zbe s.1.2.1 n)
def ZdM (s:QT0) (n:Int):Int:=(ZSa s n).val
def ZfS:En:=Zhh ZJ8 ZJ6 ZJ7 (λ_=>none) (λa=>ZdM a.1 a.2)
theorem ZhX:Za prog 215 ZfS:=
 Zgv (P:=prog) (n:=31) (k:=8) (l:=[(280,ZLn)]) (ol:=[]) ⟨ZLm,Tv⟩ Tryz.func215 rfl (by kernel_rfl) Tryz.call215 trivial (rb:=ZJ8) (ts:=ZJ6) (rs:=ZJ7) (by kernel_rfl) (t:=λa=>ZSa a.1 a.2) (λa=>by kernel_rfl)
abbrev Zp1:R:=R.Pq Z5 (R.Pq R.bool (R.Pq (R.sl (R.int u8)) (R.Pq (R.Pq (R.int i64) (R.Pq (R.int i64) (R.Pq (R.int i64) (R.Pq (R.int i64) (R.Pq (R.int i64) (R.Pq (R.int i64) (R.Pq (R.int i64) (R.int i64)))))))) (R.sl (RY)))))
abbrev Zp0:List Sh:=[]
abbrev Zi5:Rs:=Rs.one (Sh.one (R.int u8))
def Zh0 (s:QT0):RT (Option (Int)):=
 .br (qAtC s 1) (.Lf (some (bif s.2.2.2.1.1==14 then (rInr s.1.1 (qAt s 1) s.1.2.1.2.2.2.2.2.2.2.1).1 else (rDcr s.1.1 (qAt s 1) s.1.2.1.2.2.2.2.2.2.2.1).1))) (.Lf none)
def Zh1 (s:QT0):Int:=getO Zi5.Df (Zh0 s).val
def ZfV (s:QT0):Bool:=okB (Zh0 s).val
def Zmp:En:=Zhh Zp1 Zp0 Zi5 (λa=>some (ZfV a.1)) (λa=>Zh1 a.1)
theorem Zy6:Za prog 218 Zmp:=
 Zez (P:=prog) (n:=15) (k:=8) (l:=[(213,qAtE),(282,ZDV),(283,ZD9)]) (ol:=[]) ⟨Zh3,ZDU,ZD8,Tv⟩ Tryz.func218 rfl (by kernel_rfl) Tryz.call218 trivial (rb:=Zp1) (ts:=Zp0) (rs:=Zi5) (by kernel_rfl) (t:=λa=>Zh0 a.1) (λa=>by kernel_rfl)
abbrev ZpZ:R:=R.Pq Z5 (R.Pq R.bool (R.Pq (R.sl (R.int u8)) (R.Pq (R.Pq (R.int i64) (R.Pq (R.int i64) (R.Pq (R.int i64) (R.Pq (R.int i64) (R.Pq (R.int i64) (R.Pq (R.int i64) (R.Pq (R.int i64) (R.int i64)))))))) (R.sl (RY)))))
abbrev ZpY:List Sh:=[]
abbrev Zi4:Rs:=Rs.one (Sh.one (R.int u8))
def ZhY (s:QT0):RT (Option (Int)):=
 let x1:=s.2.2.2.1.1==13||s.2.2.2.1.2.2.2.1==6
 .br (!x1||qAtC s 1) (.br (x1) (.Lf (some (qAt s 1))) (.Lf (some (qReg s s.2.2.2.1.2.2.2.1)))) (.Lf none)
def ZhZ (s:QT0):Int:=getO Zi4.Df (ZhY s).val
def ZfT (s:QT0):Bool:=okB (ZhY s).val
def Zmn:En:=Zhh ZpZ ZpY Zi4 (λa=>some (ZfT a.1)) (λa=>ZhZ a.1)
theorem Zy4:Za prog 293 Zmn:=
 Zez (P:=prog) (n:=7) (k:=8) (l:=[(213,qAtE),(216,Zvw)]) (ol:=[]) ⟨Zh3,ZrM,Tv⟩ Tryz.func293 rfl (by kernel_rfl) Tryz.call293 trivial (rb:=ZpZ) (ts:=ZpY) (rs:=Zi4) (by kernel_rfl) (t:=λa=>ZhY a.1) (λa=>by kernel_rfl)
abbrev ZXa:R:=R.Pq Z5 (R.Pq R.bool (R.Pq (R.sl (R.int u8)) (R.sl (RY))))
abbrev ZW9:List Sh:=[Sh.one (R.int i64)]
abbrev ZU7:Rs:=Rs.one (Sh.one (R.int u8))
def mAtT (s:QT5) (n:Int):RT (Option (Int)):=
 .br (!decide (n< ↑(List.length s.2.2.1))||Zf n (List.length s.2.2.1)) (.br (decide (n< ↑(List.length s.2.2.1))) (.Lf (some (R.get (R.int u8) s.2.2.1 n))) (.Lf (some (0)))) (.Lf none)
def mAt (s:QT5) (n:Int):Int:=getO ZU7.Df (mAtT s n).val
def mAtC (s:QT5) (n:Int):Bool:=okB (mAtT s n).val
def mAtE:En:=Zhh ZXa ZW9 ZU7 (λa=>some (mAtC a.1 a.2)) (λa=>mAt a.1 a.2)
theorem ZSD:Za prog 239 mAtE:=
 Zez (P:=prog) (n:=31) (k:=8) (l:=[]) (ol:=[]) trivial Tryz.func239 rfl (by kernel_rfl) Tryz.call239 trivial (rb:=ZXa) (ts:=ZW9) (rs:=ZU7) (by kernel_rfl) (t:=λa=>mAtT a.1 a.2) (λa=>by kernel_rfl)
abbrev ZM5:R:=R.Pq Z5 (R.Pq R.bool (R.Pq (R.sl (R.int u8)) (R.sl (RY))))
abbrev ZM4:List Sh:=[Sh.one (R.int i64)]
abbrev ZBk:Rs:=Rs.one (Sh.one (R.int u16))
def ZEq (s:QT5) (n:Int):RT (Option (Int)):=
 .br (!mAtC s (i64.wrap (n+1))||mAtC s n) (.br (mAtC s (i64.wrap (n+1))) (.Lf (some (ZeC (mAt s (i64.wrap (n+1))) (mAt s n)))) (.Lf none)) (.Lf none)
def Zhq (s:QT5) (n:Int):Int:=getO ZBk.Df (ZEq s n).val
def ZdV (s:QT5) (n:Int):Bool:=okB (ZEq s n).val
def ZM6:En:=Zhh ZM5 ZM4 ZBk (λa=>some (ZdV a.1 a.2)) (λa=>Zhq a.1 a.2)
theorem ZQC:Za prog 310 ZM6:=
 Zez (P:=prog) (n:=31) (k:=8) (l:=[(239,mAtE),(325,ZpV)]) (ol:=[]) ⟨ZSD,ZkC,Tv⟩ Tryz.func310 rfl (by kernel_rfl) Tryz.call310 trivial (rb:=ZM5) (ts:=ZM4) (rs:=ZBk) (by kernel_rfl) (t:=λa=>ZEq a.1 a.2) (λa=>by kernel_rfl)
abbrev ZwP:R:=R.Pq Z5 (R.Pq R.bool (R.Pq (R.sl (R.int u8)) (R.sl (RY))))
abbrev ZwN:List Sh:=[Sh.one (R.int i64)]
abbrev ZwO:Rs:=Rs.one (Sh.one (R.int u16))
def ZEy (s:QT5) (n:Int):RT (Int):=
 .br s.2.1 (.Lf s.1.2.1.2.2.2.2.2.2.2.2.2) (.Lf (u16.wrap (s.1.2.1.2.2.2.2.2.2.2.2.2+u16.wrap n)))
def Zf7 (s:QT5) (n:Int):Int:=(ZEy s n).val
def ZtS:En:=Zhh ZwP ZwN ZwO (λ_=>none) (λa=>Zf7 a.1 a.2)
theorem ZHl:Za prog 243 ZtS:=
 Zgv (P:=prog) (n:=31) (k:=8) (l:=[]) (ol:=[]) trivial Tryz.func243 rfl (by kernel_rfl) Tryz.call243 trivial (rb:=ZwP) (ts:=ZwN) (rs:=ZwO) (by kernel_rfl) (t:=λa=>ZEy a.1 a.2) (λa=>by kernel_rfl)
abbrev ZEu:R:=R.Pq Z5 (R.Pq R.bool (R.Pq (R.sl (R.int u8)) (R.sl (RY))))
abbrev ZEs:List Sh:=[Sh.agg (R.Pq (R.int i64) (R.Pq (R.int i64) (R.Pq (R.int i64) (R.Pq (R.int i64) (R.Pq (R.int i64) (R.Pq (R.int i64) (R.Pq (R.int i64) (R.int i64))))))))]
abbrev ZEt:Rs:=Rs.one (Sh.one R.bool)
def ZM9 (s:QT5) (i:QT6):RT (Bool):=
 .Lf (ZeD i.2.2.2.2.2.2.1 s.1.2.1.2.2.2.2.2.2.2.1)
def Zg1 (s:QT5) (i:QT6):Bool:=(ZM9 s i).val
def Zoe:En:=Zhh ZEu ZEs ZEt (λ_=>none) (λa=>Zg1 a.1 a.2)
theorem ZwI:Za prog 309 Zoe:=
 Zgv (P:=prog) (n:=31) (k:=8) (l:=[(365,ZJP)]) (ol:=[]) ⟨ZJO,Tv⟩ Tryz.func309 rfl (by kernel_rfl) Tryz.call309 trivial (rb:=ZEu) (ts:=ZEs) (rs:=ZEt) (by kernel_rfl) (t:=λa=>ZM9 a.1 a.2) (λa=>by kernel_rfl)
abbrev ZpL:List Sh:=[Sh.agg Z5,Sh.agg (R.Pq (R.int i64) (R.Pq (R.int i64) (R.Pq (R.int i64) (R.Pq (R.int i64) (R.Pq (R.int i64) (R.Pq (R.int i64) (R.Pq (R.int i64) (R.int i64)))))))),Sh.one (R.int u8)]
abbrev ZpM:Rs:=Rs.tup [Sh.one (R.int u8),Sh.agg rcF7]
def Zve (c:TC) (i:QT6) (v:Int):RT (QT2):=
 .br (i.1==14) (.Lf (rInr c.1 v c.2.1.2.2.2.2.2.2.2.1)) (.Lf (rDcr c.1 v c.2.1.2.2.2.2.2.2.2.1))
def Zkx (c:TC) (i:QT6) (v:Int):QT2:=(Zve c i v).val
def ZlB:En:=Zg ZpL ZpM (λ_=>none) (λa=>Zkx a.1 a.2.1 a.2.2)
theorem Zx8:Za prog 316 ZlB:=
 pureQ 255 [(372,ZWt),(373,ZWw)] [] ZpL ZpM ⟨ZTT,ZTX,Tv⟩ Tryz.func316 Tryz.call316 trivial (t:=λa=>Zve a.1 a.2.1 a.2.2)
abbrev ZsQ:List Sh:=[Sh.one (R.int i64),Sh.one (R.int u8)]
abbrev ZsR:Rs:=Rs.one (Sh.one (R.int i64))
def ZAE (chip:Int) (op:Int):RT (Int):=
 .br ((Zc chip op).1==2) (.br (!chip==2&&((Zc chip op).2.2.1 !=6&&(Zc chip op).2.2.2.1 !=6)) (.Lf (5)) (.Lf (4))) (.br (bif (Zc chip op).1==14 then (Zc chip op).1==14 else (Zc chip op).1==15) (.br (!chip==2&&(Zc chip op).2.2.1 !=6) (.Lf (5)) (.Lf (4))) (.br ((Zc chip op).1==37) (.br (chip==2) (.Lf (5)) (.Lf (4))) (.br ((Zc chip op).1==26) (.br ((Zc chip op).2.2.2.2.2.2.1==11) (.Lf (4)) (.br (chip==2) (.Lf (6)) (.Lf (5)))) (.br (bif (Zc chip op).1==16 then (Zc chip op).1==16 else bif (Zc chip op).1==17 then (Zc chip op).1==17 else bif (Zc chip op).1==28 then (Zc chip op).1==28 else bif (Zc chip op).1==29 then (Zc chip op).1==29 else bif (Zc chip op).1==25 then (Zc chip op).1==25 else bif (Zc chip op).1==27 then (Zc chip op).1==27 else bif (Zc chip op).1==45 then (Zc chip op).1==45 else (Zc chip op).1==30) (.br (chip==2) (.Lf (6)) (.Lf (5))) (.Lf (4))))))
def Zqf (chip:Int) (op:Int):Int:=(ZAE chip op).val
def ZUD:En:=Zg ZsQ ZsR (λ_=>none) (λa=>Zqf a.1 a.2)
theorem ZLX:Za prog 84 ZUD:=
 pureQ 72842913792127 [(154,Zwb)] [] ZsQ ZsR ⟨ZnJ,Tv⟩ Tryz.func84 Tryz.call84 trivial (t:=λa=>ZAE a.1 a.2)
def ZJU (chip:Int) (op:Int):RT (Int):=
 let x1:=bif (Zc chip op).1==14 then (Zc chip op).1==14 else (Zc chip op).1==15
 let x2:= !(Zc chip op).1==2&&(!x1&&((bif (Zc chip op).1==16 then (Zc chip op).1==16 else bif (Zc chip op).1==17 then (Zc chip op).1==17 else bif (Zc chip op).1==28 then (Zc chip op).1==28 else bif (Zc chip op).1==29 then (Zc chip op).1==29 else bif (Zc chip op).1==25 then (Zc chip op).1==25 else bif (Zc chip op).1==27 then (Zc chip op).1==27 else bif (Zc chip op).1==30 then (Zc chip op).1==30 else (Zc chip op).1==45)||(Zc chip op).1==26&&(Zc chip op).2.2.2.2.2.2.1 !=11))
 .br (rOn chip&&x2) (.Lf (6)) (.br (rOn chip&&(Zc chip op).1==37) (.Lf (5)) (.br (!rOn chip&&(x2||bif (Zc chip op).1==2 then (Zc chip op).2.2.1 !=6&&(Zc chip op).2.2.2.1 !=6 else x1&&(Zc chip op).2.2.1 !=6)) (.Lf (5)) (.Lf (4))))
def ZjT (chip:Int) (op:Int):Int:=(ZJU chip op).val
abbrev ZsL:List Sh:=[Sh.agg Z5,Sh.agg (R.Pq R.bool (R.Pq R.bool rcF7))]
abbrev ZsM:Rs:=Rs.one (Sh.agg Z5)
def ZAA (c:TC) (l:QT1):RT TC:=
 .br (c.1 !=2)
 (.Lf (c))
 (.Lf ((c.1,c.2.1,c.2.2.1,c.2.2.2.1,c.2.2.2.2.1,c.2.2.2.2.2.1,l.2.2.2.2.1&&(c.2.2.2.2.2.2.1|| !c.2.2.2.2.2.2.2.2.1),c.2.2.2.2.2.2.2.1||l.2.2.2.2.2.1&& !c.2.2.2.2.2.2.2.2.2.1,l.2.2.2.2.1,l.2.2.2.2.2.1,c.2.2.2.2.2.2.2.2.2.2)))
def ZLJ (c:TC) (l:QT1):TC:=(ZAA c l).val
def ZUw:En:=Zg ZsL ZsM (λ_=>none) (λa=>ZLJ a.1 a.2)
theorem ZLI:Za prog 191 ZUw:=
 pureQ 31 [] [] ZsL ZsM trivial Tryz.func191 Tryz.call191 trivial (t:=λa=>ZAA a.1 a.2)
def ZJL (c:TC) (l:QT1):RT TC:=
 .br (!rOn c.1)
 (.Lf (c))
 (.Lf ((c.1,c.2.1,c.2.2.1,c.2.2.2.1,c.2.2.2.2.1,c.2.2.2.2.2.1,l.2.2.2.2.1&&(c.2.2.2.2.2.2.1|| !c.2.2.2.2.2.2.2.2.1),c.2.2.2.2.2.2.2.1||l.2.2.2.2.2.1&& !c.2.2.2.2.2.2.2.2.2.1,l.2.2.2.2.1,l.2.2.2.2.2.1,c.2.2.2.2.2.2.2.2.2.2)))
def ZW (c:TC) (l:QT1):TC:=(ZJL c l).val
abbrev ZzM:List Sh:=[Sh.agg Z5,Sh.agg (R.Pq R.bool (R.Pq R.bool rcF7))]
abbrev ZzN:Rs:=Rs.one (Sh.one (R.int i64))
def ZLk (c:TC) (l:QT1):RT (Int):=
 .br (c.1==2&&c.2.2.2.2.2.2.1)
 (.Lf (1))
 (.br (!c.2.2.1||c.2.2.2.1)
  (.Lf (0))
  (.br (c.1==2&&(c.2.2.2.2.2.2.2.1&&andI u8 c.2.2.2.2.2.1 4==0))
  (.Lf (2))
  (.br (c.1==2&&(l.2.2.2.2.2.2.1&&andI u8 c.2.2.2.2.2.1 2==0))
   (.Lf (3))
   (.br (c.1==2&&(l.2.2.2.2.2.2.2.1&&andI u8 c.2.2.2.2.2.1 1==0))
   (.Lf (4))
   (.br l.2.2.2.2.2.2.2.2
    (.Lf (5))
    (.Lf (0)))))))
def ZUn (c:TC) (l:QT1):Int:=(ZLk c l).val
def ZWN:En:=Zg ZzM ZzN (λ_=>none) (λa=>ZUn a.1 a.2)
theorem ZP2:Za prog 194 ZWN:=
 pureQ 576601524159939135 [] [] ZzM ZzN trivial Tryz.func194 Tryz.call194 trivial (t:=λa=>ZLk a.1 a.2)
def ZRM (c:TC) (l:QT1):RT (Int):=
 .br (rOn c.1&&c.2.2.2.2.2.2.1)
 (.Lf (1))
 (.br (!c.2.2.1||c.2.2.2.1)
  (.Lf (0))
  (.br (rOn c.1&&(c.2.2.2.2.2.2.2.1&&andI u8 c.2.2.2.2.2.1 4==0))
  (.Lf (2))
  (.br (rOn c.1&&(l.2.2.2.2.2.2.1&&andI u8 c.2.2.2.2.2.1 2==0))
   (.Lf (3))
   (.br (rOn c.1&&(l.2.2.2.2.2.2.2.1&&andI u8 c.2.2.2.2.2.1 1==0))
   (.Lf (4))
   (.br l.2.2.2.2.2.2.2.2
    (.Lf (5))
    (.Lf (0)))))))
def ZhS (c:TC) (l:QT1):Int:=(ZRM c l).val
abbrev ZnM:List Sh:=[Sh.agg Z5,Sh.one (R.int i64)]
abbrev ZnN:Rs:=Rs.one (Sh.agg Z5)
def ZkO (c:TC) (s:Int):RT TC:=
 .br (decide (s<1)||decide (s>5))
 (.Lf (c))
 (.Lf ((c.1,c.2.1,false,false,false,c.2.2.2.2.2.1,!s==1&&c.2.2.2.2.2.2.1,bif s==1 then c.2.2.2.2.2.2.2.1 else !s==2&&c.2.2.2.2.2.2.2.1,c.2.2.2.2.2.2.2.2.1,c.2.2.2.2.2.2.2.2.2.1,s==1||c.2.2.2.2.2.2.2.2.2.2.1,bif s==1 then c.2.2.1 else c.2.2.2.2.2.2.2.2.2.2.2.1,c.2.2.2.2.2.2.2.2.2.2.2.2)))
def ZtA (c:TC) (s:Int):TC:=(ZkO c s).val
def ZQs:En:=Zg ZnM ZnN (λ_=>none) (λa=>ZtA a.1 a.2)
theorem ZG1:Za prog 81 ZQs:=
 pureQ 1056799 [] [] ZnM ZnN trivial Tryz.func81 Tryz.call81 trivial (t:=λa=>ZkO a.1 a.2)
def ZrL (c:TC) (s:Int):RT TC:=
 .br (decide (s<1)||decide (s>5))
 (.Lf (c))
 (.Lf ((c.1,c.2.1,false,false,false,c.2.2.2.2.2.1,!s==1&&c.2.2.2.2.2.2.1,!s==2&&c.2.2.2.2.2.2.2.1,c.2.2.2.2.2.2.2.2.1,c.2.2.2.2.2.2.2.2.2.1,s==1||c.2.2.2.2.2.2.2.2.2.2.1,bif s==1 then c.2.2.1 else c.2.2.2.2.2.2.2.2.2.2.2.1,c.2.2.2.2.2.2.2.2.2.2.2.2)))
def ZdL (c:TC) (s:Int):TC:=(ZrL c s).val
abbrev Zsn:List Sh:=[Sh.agg Z5]
abbrev Zso:Rs:=Rs.one (Sh.agg Z5)
def ZzG (c:TC):RT TC:=
 .Lf ((c.1,(c.2.1.1,c.2.1.2.1,c.2.1.2.2.1,c.2.1.2.2.2.1,c.2.1.2.2.2.2.1,c.2.1.2.2.2.2.2.1,c.2.1.2.2.2.2.2.2.1,c.2.1.2.2.2.2.2.2.2.1,c.2.1.2.2.2.2.2.2.2.2.1,0),false,false,false,bif c.1==2 then 7 else 0,false,false,false,false,false,false,false))
def ZK9 (c:TC):TC:=(ZzG c).val
def ZUj:En:=Zg Zsn Zso (λ_=>none) (λa=>ZK9 a)
theorem ZK8:Za prog 80 ZUj:=
 pureQ 15 [] [] Zsn Zso trivial Tryz.func80 Tryz.call80 trivial (t:=λa=>ZzG a)
abbrev ZCI:List Sh:=[Sh.agg Z5]
abbrev ZCJ:Rs:=Rs.one (Sh.agg Z5)
def Zi1 (c:TC):RT TC:=
 .Lf ((c.1,(c.2.1.1,c.2.1.2.1,c.2.1.2.2.1,c.2.1.2.2.2.1,c.2.1.2.2.2.2.1,c.2.1.2.2.2.2.2.1,c.2.1.2.2.2.2.2.2.1,c.2.1.2.2.2.2.2.2.2.1,c.2.1.2.2.2.2.2.2.2.2.1,0),false,false,false,bif rOn c.1 then 7 else 0,false,false,false,false,false,false,false))
def Z7 (c:TC):TC:=(Zi1 c).val
def ZJe:En:=Zg ZCI ZCJ (λ_=>none) (λa=>Z7 a)
theorem ZJd:Za prog 96 ZJe:=
 pureQ 15 [(171,rOnE)] [] ZCI ZCJ ⟨ZpS,Tv⟩ Tryz.func96 Tryz.call96 trivial (t:=λa=>Zi1 a)
def ZJf (k:Int):RT (Bool):=
 .Lf (k==1||(k==2||(k==4||(k==6||(k==8||k==9)))))
def ZeB (k:Int):Bool:=(ZJf k).val
abbrev Zsq:List Sh:=[Sh.one (R.int i64)]
abbrev Zsr:Rs:=Rs.one (Sh.one R.bool)
def ZzH (k:Int):RT (Bool):=
 .br (bif k==1 then k==1 else bif k==2 then k==2 else bif k==4 then k==4 else bif k==6 then k==6 else bif k==8 then k==8 else k==9)
 (.Lf (true))
 (.Lf (false))
def ZLb (k:Int):Bool:=(ZzH k).val
def ZUk:En:=Zg Zsq Zsr (λ_=>none) (λa=>ZLb a)
theorem ZLa:Za prog 83 ZUk:=
 pureQ 23 [] [] Zsq Zsr trivial Tryz.func83 Tryz.call83 trivial (t:=λa=>ZzH a)
def ZCC (k:Int):RT (Bool):=
 .Lf (k==3||(k==5||k==7))
def Zeo (k:Int):Bool:=(ZCC k).val
abbrev ZmC:List Sh:=[Sh.one (R.int i64)]
abbrev ZmD:Rs:=Rs.one (Sh.one R.bool)
def Zsb (k:Int):RT (Bool):=
 .Lf (k==3||(k==5||k==7))
def Zzr (k:Int):Bool:=(Zsb k).val
def ZPM:En:=Zg ZmC ZmD (λ_=>none) (λa=>Zzr a)
theorem ZFW:Za prog 139 ZPM:=
 pureQ 7 [] [] ZmC ZmD trivial Tryz.func139 Tryz.call139 trivial (t:=λa=>Zsb a)
abbrev ZmM:List Sh:=[Sh.one (R.int i64)]
abbrev ZmN:Rs:=Rs.one (Sh.one (R.int u8))
def Zsh (k:Int):RT (Int):=
 .br (k==1)
 (.Lf (162))
 (.br (k==2)
  (.Lf (130))
  (.br (k==4)
  (.Lf (134))
  (.br (k==5)
   (.Lf (4))
   (.br (k==6)
   (.Lf (66))
   (.br (k==7)
    (.Lf (16))
    (.br (k==8)
    (.Lf (35))
    (.br (k==9)
     (.Lf (3))
     (.br (k==10)
     (.Lf (138))
     (.Lf (0))))))))))
def ZzB (k:Int):Int:=(Zsh k).val
def ZPS:En:=Zg ZmM ZmN (λ_=>none) (λa=>ZzB a)
theorem ZF3:Za prog 212 ZPS:=
 pureQ 1398103 [] [] ZmM ZmN trivial Tryz.func212 Tryz.call212 trivial (t:=λa=>Zsh a)
def ZCF (k:Int):RT (Int):=
 .br (k==1)
 (.Lf (162))
 (.br (k==2)
  (.Lf (130))
  (.br (k==4)
  (.Lf (134))
  (.br (k==5)
   (.Lf (4))
   (.br (k==6)
   (.Lf (66))
   (.br (k==7)
    (.Lf (16))
    (.br (k==8)
    (.Lf (35))
    (.br (k==9)
     (.Lf (3))
     (.br (k==10)
     (.Lf (138))
     (.Lf (0))))))))))
def ZlC (k:Int):Int:=(ZCF k).val
abbrev ZnE:List Sh:=[Sh.one (R.int i64)]
abbrev ZnF:Rs:=Rs.tup [Sh.one R.bool,Sh.one R.bool,Sh.one R.bool]
def ZsK (k:Int):RT (QT30):=
 .br (k==1)
 (.Lf ((false,true,true)))
 (.br (bif k==2 then k==2 else bif k==4 then k==4 else k==11)
  (.Lf ((false,true,false)))
  (.br (bif k==3 then k==3 else k==5)
  (.Lf ((false,false,true)))
  (.br (k==6)
   (.Lf ((true,true,false)))
   (.br (k==7)
   (.Lf ((true,false,true)))
   (.br (bif k==8 then k==8 else bif k==9 then k==9 else k==12)
    (.Lf ((true,true,true)))
    (.Lf ((false,false,false))))))))
def ZAz (k:Int):QT30:=(ZsK k).val
def ZQa:En:=Zg ZnE ZnF (λ_=>none) (λa=>ZAz a)
theorem ZGi:Za prog 211 ZQa:=
 pureQ 692575 [] [] ZnE ZnF trivial Tryz.func211 Tryz.call211 trivial (t:=λa=>ZsK a)
def ZCY (k:Int):RT (QT30):=
 .br (k==1)
 (.Lf ((false,true,true)))
 (.br (bif k==2 then k==2 else bif k==4 then k==4 else k==11)
  (.Lf ((false,true,false)))
  (.br (bif k==3 then k==3 else k==5)
  (.Lf ((false,false,true)))
  (.br (k==6)
   (.Lf ((true,true,false)))
   (.br (k==7)
   (.Lf ((true,false,true)))
   (.br (bif k==8 then k==8 else bif k==9 then k==9 else k==12)
    (.Lf ((true,true,true)))
    (.Lf ((false,false,false))))))))
def Ze3 (k:Int):QT30:=(ZCY k).val
abbrev Zje:List Sh:=[Sh.one (R.int i64)]
abbrev Zjf:Rs:=Rs.one (Sh.one R.bool)
def ZnL (k:Int):RT (Bool):=
 .Lf (k !=10&&(k !=11&&k !=12))
def Ztz (k:Int):Bool:=(ZnL k).val
def ZMz:En:=Zg Zje Zjf (λ_=>none) (λa=>Ztz a)
theorem ZAX:Za prog 189 ZMz:=
 pureQ 7 [] [] Zje Zjf trivial Tryz.func189 Tryz.call189 trivial (t:=λa=>ZnL a)
def Zvv (k:Int):RT (Bool):=
 .Lf (k !=10&&(k !=11&&k !=12))
def Zeg (k:Int):Bool:=(Zvv k).val
theorem ZQF (c l):ZLJ c l=ZW c l:=by simp only[ZLJ,ZAA,ZW,ZJL,RT.val,Za8,bne]
theorem ZT7 (c l):ZUn c l=ZhS c l:=by simp[ZUn,ZLk,ZhS,ZRM,RT.val,Za8]
theorem ZOu (c) (s:Int):ZtA c s=ZdL c s:=by
 by_cases h:s=1
 ·subst h;simp[ZtA,ZkO,ZdL,ZrL,RT.val]
 ·have h':(s==1)=false:=by simpa using h
  simp[ZtA,ZkO,ZdL,ZrL,RT.val,h']
theorem ZO3 (c):ZK9 c=Z7 c:=by simp[ZK9,ZzG,Z7,Zi1,RT.val,Za8]
theorem ZO4 (k):ZLb k=ZeB k:=by simp[ZLb,ZzH,ZeB,ZJf,RT.val]
theorem ZHN (k):Zzr k=Zeo k:=by simp[Zzr,Zsb,Zeo,ZCC,RT.val]
theorem ZIF (k):ZzB k=ZlC k:=by simp[ZzB,Zsh,ZlC,ZCF,RT.val]
theorem ZNf (k):ZAz k=Ze3 k:=by simp[ZAz,ZsK,Ze3,ZCY,RT.val]
theorem ZHK (k):Ztz k=Zeg k:=by simp[Ztz,ZnL,Zeg,Zvv,RT.val]
def ZDR:En:=Zg ZsL ZsM (λ_=>none) (λa=>ZW a.1 a.2)
theorem ZGj:Za prog 191 ZDR:=ZLI.tot (λa h=>by simp) (λa h=>ZQF _ _)
def Zsu:En:=Zg ZzM ZzN (λ_=>none) (λa=>ZhS a.1 a.2)
theorem Zv1:Za prog 194 Zsu:=ZP2.tot (λa h=>by simp) (λa h=>ZT7 _ _)
def Zwg:En:=Zg ZnM ZnN (λ_=>none) (λa=>ZdL a.1 a.2)
theorem ZAY:Za prog 81 Zwg:=ZG1.tot (λa h=>by simp) (λa h=>ZOu _ _)
def Zsp:En:=Zg Zsn Zso (λ_=>none) (λa=>Z7 a)
theorem Zqd:Za prog 80 Zsp:=ZK8.tot (λa h=>by simp) (λa h=>ZO3 _)
def Zdr:En:=Zg Zsq Zsr (λ_=>none) (λa=>ZeB a)
theorem ZeE:Za prog 83 Zdr:=ZLa.tot (λa h=>by simp) (λa h=>ZO4 _)
def Zc1:En:=Zg ZmC ZmD (λ_=>none) (λa=>Zeo a)
theorem Ze6:Za prog 139 Zc1:=ZFW.tot (λa h=>by simp) (λa h=>ZHN _)
def ZmO:En:=Zg ZmM ZmN (λ_=>none) (λa=>ZlC a)
theorem ZzA:Za prog 212 ZmO:=ZF3.tot (λa h=>by simp) (λa h=>ZIF _)
def ZnG:En:=Zg ZnE ZnF (λ_=>none) (λa=>Ze3 a)
theorem ZAy:Za prog 211 ZnG:=ZGi.tot (λa h=>by simp) (λa h=>ZNf _)
def Zqi:En:=Zg Zje Zjf (λ_=>none) (λa=>Zeg a)
theorem Zwf:Za prog 189 Zqi:=ZAX.tot (λa h=>by simp) (λa h=>ZHK _)
def ZbW:En:=.tree (Zn (envX prog [] [] 7 8) Tryz.f146)
theorem Zd3:Za prog 146 ZbW:=ZI (P:=prog) (n:=7) (k:=8) (l:=[]) (ol:=[]) trivial Tryz.func146 rfl (by kernel_rfl) Tryz.call146 trivial
def Zba:En:=.tree (Zn (envX prog [] [] 7 8) Tryz.f147)
theorem ZcT:Za prog 147 Zba:=ZI (P:=prog) (n:=7) (k:=8) (l:=[]) (ol:=[]) trivial Tryz.func147 rfl (by kernel_rfl) Tryz.call147 trivial
def Zgg:En:=.tree (Zn (envX prog [(83,Zdr),(139,Zc1),(146,ZbW),(147,Zba),(211,ZnG)] [] 63 8) Tryz.f148)
theorem ZjJ:Za prog 148 Zgg:=ZI (P:=prog) (n:=63) (k:=8) (l:=[(83,Zdr),(139,Zc1),(146,ZbW),(147,Zba),(211,ZnG)]) (ol:=[]) ⟨ZeE,Ze6,Zd3,ZcT,ZAy,Tv⟩ Tryz.func148 rfl (by kernel_rfl) Tryz.call148 trivial
def ZeS:En:=.tree (Zn (envX prog [(83,Zdr),(139,Zc1),(147,Zba),(212,ZmO)] [] 63 8) Tryz.f149)
theorem Zhw:Za prog 149 ZeS:=ZI (P:=prog) (n:=63) (k:=8) (l:=[(83,Zdr),(139,Zc1),(147,Zba),(212,ZmO)]) (ol:=[]) ⟨ZeE,Ze6,ZcT,ZzA,Tv⟩ Tryz.func149 rfl (by kernel_rfl) Tryz.call149 trivial
abbrev ZLg:List Sh:=[Sh.one (R.int i64),Sh.agg (R.Pq (R.int i64) (R.Pq (RY) (R.Pq (R.int u8) (R.Pq (R.int u16) (R.Pq R.bool R.bool)))))]
abbrev ZLi:Rs:=Rs.one (Sh.agg (R.Pq (R.int i64) (R.Pq (R.int u16) (R.Pq (R.int u8) (R.Pq R.bool (R.Pq R.bool (R.Pq R.bool (R.Pq R.bool (R.Pq R.bool (R.Pq R.bool (R.Pq R.bool rcF7)))))))))))
def ZLh (chip:Int) (s:Int×TY×Int×Int×Bool×Bool):RT (QT10):=
 let x1:Int:=bif decide (s.1>=1)&&decide (s.1<=7) then s.2.1.2.1 else 0
 let x2:=s.1==2||(s.1==7||s.1==3)
 let x3:=x2&&Zeo s.2.1.1
 let x4:Int:=bif s.1==3&&ZeB s.2.1.1 then s.2.2.1 else bif x3 then s.2.1.2.2.1 else 0
 let x5:=s.1==1&&(s.2.1.1 !=11&&s.2.1.1 !=12)
 .br (chip==2)
 (.Lf ((s.1,x1,bif s.1==1 then u8.wrap s.2.1.2.1 else x4,false,false,false,false,s.1==1,decide (s.1>=1)&&decide (s.1<=7)&&(Ze3 s.2.1.1).1,decide (s.1>=1)&&decide (s.1<=7)&&(Ze3 s.2.1.1).2.1,decide (s.1>=1)&&decide (s.1<=7)&&(Ze3 s.2.1.1).2.2,x2&&(ZeB s.2.1.1&& !(s.2.1.1==8||s.2.1.1==9)),x2&&(s.2.1.1==8||s.2.1.1==9),s.2.2.2.2.2,x3,s.1==8,s.1==8||(s.1==9||s.1==10))))
 (.Lf ((s.1,bif s.1==9 then s.2.2.2.1 else x1,bif x5 then ZlC s.2.1.1 else x4,x5,x2&&ZeB s.2.1.1,s.1==7||s.1==9,s.2.2.2.2.1,false,false,false,false,false,false,false,bif s.1==7 then Zeo s.2.1.1 else s.1==3&&Zeo s.2.1.1,s.1==8,s.1==8)))
def ZLj (chip:Int) (s:Int×TY×Int×Int×Bool×Bool):QT10:=(ZLh chip s).val
def ZSj:En:=Zg ZLg ZLi (λ_=>none) (λa=>ZLj a.1 a.2)
theorem ZP1:Za prog 79 ZSj:=
 pureQ 63 [(83,Zdr),(139,Zc1),(146,ZbW),(147,Zba),(148,Zgg),(149,ZeS)] [] ZLg ZLi ⟨ZeE,Ze6,Zd3,ZcT,ZjJ,Zhw,Tv⟩ Tryz.func79 Tryz.call79 trivial (t:=λa=>ZLh a.1 a.2)
def ZJm (chip:Int) (t:Int) (x:QT22) (d:Int) (i:Bool) (o:Bool):RT (QT10):=
 let x1:Bool×Bool×Bool×Bool×Bool×Bool×Bool×Bool×Bool×Bool×Bool:=(!rOn chip&&bif rOn chip then i else i,false,false,false,false,false,false,bif !rOn chip then rOn chip&&o else rOn chip&&o,false,false,rOn chip)
 let x2:=(t==2||(t==7||t==3))&&Zeo x.1
 let x3:Int:=bif t==3&&ZeB x.1 then d else bif x2 then x.2.2.1 else 0
 .br (t==8)
 (.Lf ((t,0,0,false,false,false,!rOn chip&&bif rOn chip then i else i,false,false,false,false,false,false,bif !rOn chip then rOn chip&&o else rOn chip&&o,false,true,true)))
 (.br (t==9)
  (.Lf ((t,bif !rOn chip then x.2.1 else 0,0,false,false,!rOn chip,x1)))
  (.br (t==10)
  (.Lf ((t,0,0,false,false,false,x1)))
  (.br (rOn chip)
   (.Lf ((t,x.2.1,bif t==1 then u8.wrap x.2.1 else x3,false,false,false,!rOn chip&&bif rOn chip then i else i,t==1,(Ze3 x.1).1,(Ze3 x.1).2.1,(Ze3 x.1).2.2,(t==2||(t==7||t==3))&&(ZeB x.1&& !(x.1==8||x.1==9)),(t==2||(t==7||t==3))&&(x.1==8||x.1==9),bif !rOn chip then rOn chip&&o else rOn chip&&o,x2,false,false)))
   (.Lf ((t,x.2.1,bif t==1&&(x.1 !=11&&x.1 !=12) then ZlC x.1 else x3,t==1&&(x.1 !=11&&x.1 !=12),(t==2||(t==7||t==3))&&ZeB x.1,t==7,!rOn chip&&bif rOn chip then i else i,false,false,false,false,false,false,bif !rOn chip then rOn chip&&o else rOn chip&&o,Zeo x.1&&(t==7||t==3),false,false))))))
def ZFs (chip:Int) (t:Int) (x:QT22) (d:Int) (i:Bool) (o:Bool):QT10:=(ZJm chip t x d i o).val
abbrev ZMp:List Sh:=[Sh.agg (R.Pq Z5 (R.Pq (R.int i64) (R.Pq (R.sl (R.int u8)) (R.Pq (RY) (R.Pq (R.int i64) R.bool)))))]
abbrev ZMq:Rs:=Rs.one (Sh.one R.bool)
def ZSv (c:QT3):RT (Bool):=
 let x1:=decide (iN (List.length c.2.2.1)>0)||c.2.1 !=0
 .Lf (bif decide (c.2.2.2.2.1>=2) then decide (c.2.2.2.2.1<=7)||x1 else x1)
def ZQo (c:QT3):Bool:=(ZSv c).val
def Zwd:En:=Zg ZMp ZMq (λ_=>none) (λa=>ZQo a)
theorem ZEb:Za prog 144 Zwd:=
 pureQ 7 [] [] ZMp ZMq trivial Tryz.func144 Tryz.call144 trivial (t:=λa=>ZSv a)
def Zcg:En:=.tree (Zn (envX prog [] [] 31 8) Tryz.f115)
theorem Zea:Za prog 115 Zcg:=ZI (P:=prog) (n:=31) (k:=8) (l:=[]) (ol:=[]) trivial Tryz.func115 rfl (by kernel_rfl) Tryz.call115 trivial
abbrev ZI7:List Sh:=[Sh.agg (R.Pq Z5 (R.Pq (R.int i64) (R.Pq (R.sl (R.int u8)) (R.Pq (RY) (R.Pq (R.int i64) R.bool))))),Sh.agg (R.Pq Z5 (R.Pq (R.int i64) (R.Pq (R.sl (R.int u8)) (R.Pq (RY) (R.Pq (R.int i64) R.bool)))))]
abbrev ZI9:Rs:=Rs.one (Sh.one R.bool)
def ZI8 (a:QT3) (b:QT3):RT (Bool):=
 let x1:=a.1.2.1.2.2.2.2.2.2.2.1.2.2
 let x2:=b.1.2.1.2.2.2.2.2.2.2.1.2.2
 let x3:=x1.2
 let x4:=x2.2
 let x5:=x3.2
 let x6:=x4.2
 let x7:=x5.2
 let x8:=x6.2
 .Lf (a.1.1==b.1.1&&(a.1.2.1.1==b.1.2.1.1&&(a.1.2.1.2.1==b.1.2.1.2.1&&(a.1.2.1.2.2.1==b.1.2.1.2.2.1&&(a.1.2.1.2.2.2.1==b.1.2.1.2.2.2.1&&(a.1.2.1.2.2.2.2.1==b.1.2.1.2.2.2.2.1&&(a.1.2.1.2.2.2.2.2.1==b.1.2.1.2.2.2.2.2.1&&(a.1.2.1.2.2.2.2.2.2.1==b.1.2.1.2.2.2.2.2.2.1&&(a.1.2.1.2.2.2.2.2.2.2.1.1==b.1.2.1.2.2.2.2.2.2.2.1.1&&(a.1.2.1.2.2.2.2.2.2.2.1.2.1==b.1.2.1.2.2.2.2.2.2.2.1.2.1&&(x1.1==x2.1&&(x3.1==x4.1&&(x5.1==x6.1&&(x7.1==x8.1&&(x7.2==x8.2&&(a.1.2.1.2.2.2.2.2.2.2.2.1==b.1.2.1.2.2.2.2.2.2.2.2.1&&(a.1.2.1.2.2.2.2.2.2.2.2.2==b.1.2.1.2.2.2.2.2.2.2.2.2&&(a.1.2.2.1==b.1.2.2.1&&(a.1.2.2.2.1==b.1.2.2.2.1&&(a.1.2.2.2.2.1==b.1.2.2.2.2.1&&(a.1.2.2.2.2.2.1==b.1.2.2.2.2.2.1&&(a.1.2.2.2.2.2.2.1==b.1.2.2.2.2.2.2.1&&(a.1.2.2.2.2.2.2.2.1==b.1.2.2.2.2.2.2.2.1&&(a.1.2.2.2.2.2.2.2.2.1==b.1.2.2.2.2.2.2.2.2.1&&(a.1.2.2.2.2.2.2.2.2.2.1==b.1.2.2.2.2.2.2.2.2.2.1&&(a.1.2.2.2.2.2.2.2.2.2.2.1==b.1.2.2.2.2.2.2.2.2.2.2.1&&(a.1.2.2.2.2.2.2.2.2.2.2.2.1==b.1.2.2.2.2.2.2.2.2.2.2.2.1&&(a.1.2.2.2.2.2.2.2.2.2.2.2.2==b.1.2.2.2.2.2.2.2.2.2.2.2.2&&true)))))))))))))))))))))))))))&&(a.2.1==b.2.1&&(ByteArray.toList (ZOV a.2.2.1)==ByteArray.toList (ZOV b.2.2.1)&&(a.2.2.2.1.1==b.2.2.2.1.1&&(a.2.2.2.1.2.1==b.2.2.2.1.2.1&&(a.2.2.2.1.2.2.1==b.2.2.2.1.2.2.1&&(a.2.2.2.1.2.2.2==b.2.2.2.1.2.2.2&&true)))&&(a.2.2.2.2.1==b.2.2.2.2.1&&a.2.2.2.2.2==b.2.2.2.2.2)))))
def Zyc (a:QT3) (b:QT3):Bool:=(ZI8 a b).val
def ZRK:En:=Zg ZI7 ZI9 (λ_=>none) (λa=>Zyc a.1 a.2)
theorem ZPa:Za prog 106 ZRK:=
 pureQ 31 [(115,Zcg)] [] ZI7 ZI9 ⟨Zea,Tv⟩ Tryz.func106 Tryz.call106 trivial (t:=λa=>ZI8 a.1 a.2)
theorem ZKJ (chip t:Int) (h1:1<=t) (h2:t<=10) (x:QT22) (d d' pc:Int) (i o:Bool) (hd:t≠10->d'=d):
  ZLj chip (t,x,d,pc,i,o)=ZFs chip t (bif t==9 then (0,pc,0,0) else x) d' i o:=by
 obtain⟨x1,x2,x3,x4⟩:=x;simp only[ZLj,ZLh,ZFs,ZJm,RT.val,Za8];generalize (chip==2)=b;have:t=1\/t=2\/t=3\/t=4\/t=5\/t=6\/t=7\/t=8\/t=9\/t=10:=by omega
 by_cases h:t=10
 ·subst h;cases b<;>simp
 ·rw[hd h];rcases this with rfl|rfl|rfl|rfl|rfl|rfl|rfl|rfl|rfl|rfl<;>cases b<;>simp<;>(try cases Zeo x1)<;>(try cases ZeB x1)<;>simp
end
end Go.Proofs.YtpnjbfjomebppaaGreat
