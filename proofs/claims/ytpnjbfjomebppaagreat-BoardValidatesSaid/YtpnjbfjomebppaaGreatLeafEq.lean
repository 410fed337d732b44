import Derived.Test.YtpnjbfjomebppaaGreatS3D
import Derived.Test.YtpnjbfjomebppaaGreatProg
open Go.Proofs.Tryz (prog)
open Go.IntKind (u8 u16 i64)
set_option linter.unusedSimpArgs false
open Go Go.S3 Go.Proofs
set_option linter.unusedVariables false
set_option maxRecDepth 100000
namespace Go.Proofs.YtpnjbfjomebppaaGreat
noncomputable section
abbrev Zv2:List Sh:=[Sh.one (R.int u8)]
abbrev ZmZ:Rs:=Rs.one (Sh.one R.bool)
def Zsv (b:Int):RT (Option (Bool)):=
 let x1:=andI u8 (andI u8 b (u8.wrap (b-1))) (u8.wrap (andI u8 b (u8.wrap (b-1))-1))
 let x2:= !x1 !=0
 let x3:=andI u8 x1 (u8.wrap (x1-1))
 let x4:=x3 !=0
 let x5:=andI u8 x3 (u8.wrap (x3-1))
 let x6:= !x5 !=0
 let x7:=andI u8 x5 (u8.wrap (x5-1))
 let x8:=x7 !=0
 let x9:=andI u8 x7 (u8.wrap (x7-1))
 let x10:= !x9 !=0
 let x11:=andI u8 x9 (u8.wrap (x9-1))
 let x12:=x11 !=0
 let x13:=andI u8 x11 (u8.wrap (x11-1))
 let x14:= !x13 !=0
 .br (!b !=0||(!andI u8 b (u8.wrap (b-1)) !=0||(x2||(!x4||(x6||(!x8||(x10||(!x12||(x14|| !andI u8 x13 (u8.wrap (x13-1)) !=0))))))))) (.Lf (some (!b !=0||andI u8 b (u8.wrap (b-1)) !=0&&(x2||x4&&(x6||x8&&(x10||x12&&x14)))))) (.Lf none)
def Zsw (b:Int):Bool:=getO ZmZ.Df (Zsv b).val
def ZkK (b:Int):Bool:=okB (Zsv b).val
def ZDH:En:=Zg Zv2 ZmZ (λa=>some (ZkK a)) (λa=>Zsw a)
theorem ZF6:Za prog 387 ZDH:=
 Zmr (P:=prog) (n:=15) (k:=10) (l:=[]) (ol:=[]) trivial Tryz.func387 rfl (by kernel_rfl) Tryz.call387 trivial (ts:=Zv2) (rs:=ZmZ) (t:=λa=>Zsv a) (λa=>by kernel_rfl)
abbrev ZSo:List Sh:=[Sh.one R.bool,Sh.one R.bool,Sh.one R.bool]
abbrev ZSp:Rs:=Rs.one (Sh.one R.bool)
def ZWR (a:Bool) (b:Bool) (c:Bool):RT (Bool):=
 .Lf (bif a then b||bif a then c||b&&c else b&&c else bif a then c||b&&c else b&&c)
def pMaj (a:Bool) (b:Bool) (c:Bool):Bool:=(ZWR a b c).val
def ZGg:En:=Zg ZSo ZSp (λ_=>none) (λa=>pMaj a.1 a.2.1 a.2.2)
theorem ZnC:Za prog 357 ZGg:=
 pureQ 127 [] [] ZSo ZSp trivial Tryz.func357 Tryz.call357 trivial (t:=λa=>ZWR a.1 a.2.1 a.2.2)
abbrev ZSl:List Sh:=[Sh.one R.bool]
abbrev ZSm:Rs:=Rs.one (Sh.one (R.int i64))
def ZWP (b:Bool):RT (Int):=
 .br (b) (.Lf (1)) (.Lf (0))
def pOne (b:Bool):Int:=(ZWP b).val
def ZUr:En:=Zg ZSl ZSm (λ_=>none) (λa=>pOne a)
theorem ZLr:Za prog 384 ZUr:=
 pureQ 7 [] [] ZSl ZSm trivial Tryz.func384 Tryz.call384 trivial (t:=λa=>ZWP a)
abbrev ZvU:List Sh:=[Sh.one (R.int i64)]
abbrev ZvV:Rs:=Rs.one (Sh.one R.bool)
def ZkH (n:Int):RT (Bool):=
 .Lf (decide (n< -128)||decide (n>127))
def ZmR (n:Int):Bool:=(ZkH n).val
def Zsi:En:=Zg ZvU ZvV (λ_=>none) (λa=>ZmR a)
theorem Zqb:Za prog 385 Zsi:=
 pureQ 7 [] [] ZvU ZvV trivial Tryz.func385 Tryz.call385 trivial (t:=λa=>ZkH a)
abbrev ZSg:List Sh:=[Sh.one (R.int u8),Sh.one (R.int u8),Sh.one R.bool]
abbrev ZSh:Rs:=Rs.tup [Sh.one (R.int u8),Sh.one R.bool,Sh.one R.bool,Sh.one R.bool]
def ZUb (a:Int) (b:Int) (c:Bool):RT (QT20):=
 let x1:=i64.wrap (i64.wrap (i64.wrap a+i64.wrap b)+pOne c)
 .Lf ((u8.wrap x1,decide (x1>255),decide (i64.wrap (i64.wrap (i64.wrap (andI u8 a 15)+i64.wrap (andI u8 b 15))+pOne c)>15),ZmR (i64.wrap (i64.wrap (i64.wrap (IntKind.i8.wrap a)+i64.wrap (IntKind.i8.wrap b))+pOne c))))
def pSum (a:Int) (b:Int) (c:Bool):QT20:=(ZUb a b c).val
def ZPR:En:=Zg ZSg ZSh (λ_=>none) (λa=>pSum a.1 a.2.1 a.2.2)
theorem Zzz:Za prog 350 ZPR:=
 pureQ 4095 [(384,ZUr),(385,Zsi)] [] ZSg ZSh ⟨ZLr,Zqb,Tv⟩ Tryz.func350 Tryz.call350 trivial (t:=λa=>ZUb a.1 a.2.1 a.2.2)
abbrev ZMb:List Sh:=[Sh.one (R.int u8),Sh.one (R.int u8),Sh.one R.bool]
abbrev ZMd:Rs:=Rs.tup [Sh.one (R.int u8),Sh.one R.bool,Sh.one R.bool,Sh.one R.bool]
def ZMc (a:Int) (b:Int) (c:Bool):RT (QT20):=
 let x1:=i64.wrap (i64.wrap (i64.wrap a-i64.wrap b)-pOne c)
 .Lf ((u8.wrap x1,decide (x1<0),decide (i64.wrap (i64.wrap (i64.wrap (i64.wrap (i64.wrap (andI u8 a 15)+15)-i64.wrap (andI u8 b 15))+1)-pOne c)>15),ZmR (i64.wrap (i64.wrap (i64.wrap (IntKind.i8.wrap a)-i64.wrap (IntKind.i8.wrap b))-pOne c))))
def Zhn (a:Int) (b:Int) (c:Bool):QT20:=(ZMc a b c).val
def ZD5:En:=Zg ZMb ZMd (λ_=>none) (λa=>Zhn a.1 a.2.1 a.2.2)
theorem Ztw:Za prog 352 ZD5:=
 pureQ 4095 [(384,ZUr),(385,Zsi)] [] ZMb ZMd ⟨ZLr,Zqb,Tv⟩ Tryz.func352 Tryz.call352 trivial (t:=λa=>ZMc a.1 a.2.1 a.2.2)
abbrev ZAB:List Sh:=[Sh.one (R.int u8),Sh.one (R.int u8)]
abbrev ZAC:Rs:=Rs.one (Sh.one (R.int u16))
def ZSs (h:Int) (l:Int):RT (Int):=
 .Lf (orI u16 (shlI u16 (u16.wrap h) 8) (u16.wrap l))
def ZLK (h:Int) (l:Int):Int:=(ZSs h l).val
def ZDS:En:=Zg ZAB ZAC (λ_=>none) (λa=>ZLK a.1 a.2)
theorem ZkL:Za prog 220 ZDS:=
 pureQ 31 [] [] ZAB ZAC trivial Tryz.func220 Tryz.call220 trivial (t:=λa=>ZSs a.1 a.2)
abbrev ZSw:List Sh:=[Sh.one R.bool,Sh.one (R.int i64)]
abbrev ZMr:Rs:=Rs.one (Sh.one (R.int u8))
def ZQp (b:Bool) (n:Int):RT (Option (Int)):=
 .br (!b||decide (0<=n)) (.br (b) (.Lf (some (shlI u8 1 n))) (.Lf (some (0)))) (.Lf none)
def pBit (b:Bool) (n:Int):Int:=getO ZMr.Df (ZQp b n).val
def Zep (b:Bool) (n:Int):Bool:=okB (ZQp b n).val
def ZWW:En:=Zg ZSw ZMr (λa=>some (Zep a.1 a.2)) (λa=>pBit a.1 a.2)
theorem ZUV:Za prog 386 ZWW:=
 pureP 31 [] [] ZSw ZMr trivial Tryz.func386 Tryz.call386 trivial (t:=λa=>ZQp a.1 a.2)
abbrev ZLo:List Sh:=[Sh.one (R.int i64),Sh.agg rcF7]
abbrev ZzQ:Rs:=Rs.one (Sh.one (R.int u8))
def Zv3 (chip:Int) (f:TF):RT (Option (Int)):=
 let x1:=orI u8 (orI u8 (orI u8 (orI u8 (pBit f.1 7) (pBit f.2.1 6)) (pBit f.2.2.2.1 4)) (pBit f.2.2.2.2.1 2)) (pBit f.2.2.2.2.2.2 0)
 .br (!Zep f.1 7||(!Zep f.2.1 6||(!Zep f.2.2.2.1 4||(!Zep f.2.2.2.2.1 2||Zep f.2.2.2.2.2.2 0)))) (.br (!Zep f.1 7||(!Zep f.2.1 6||(!Zep f.2.2.2.1 4||Zep f.2.2.2.2.1 2))) (.br (!Zep f.1 7||(!Zep f.2.1 6||Zep f.2.2.2.1 4)) (.br (!Zep f.1 7||Zep f.2.1 6) (.br (Zep f.1 7) (.br (!chip==2||(!Zep f.2.2.1 5||Zep f.2.2.2.2.2.1 1)) (.br (!chip==2||Zep f.2.2.1 5) (.br (chip==2) (.Lf (some (orI u8 (orI u8 x1 (pBit f.2.2.1 5)) (pBit f.2.2.2.2.2.1 1)))) (.Lf (some (orI u8 x1 2)))) (.Lf none)) (.Lf none)) (.Lf none)) (.Lf none)) (.Lf none)) (.Lf none)) (.Lf none)
def ZP5 (chip:Int) (f:TF):Int:=getO ZzQ.Df (Zv3 chip f).val
def ZDI (chip:Int) (f:TF):Bool:=okB (Zv3 chip f).val
def ZSk:En:=Zg ZLo ZzQ (λa=>some (ZDI a.1 a.2)) (λa=>ZP5 a.1 a.2)
theorem ZP4:Za prog 354 ZSk:=
 pureP 63 [(386,ZWW)] [] ZLo ZzQ ⟨ZUV,Tv⟩ Tryz.func354 Tryz.call354 trivial (t:=λa=>Zv3 a.1 a.2)
abbrev ZvS:List Sh:=[Sh.one (R.int i64),Sh.one (R.int u8)]
abbrev ZvT:Rs:=Rs.one (Sh.agg rcF7)
def Zsf (chip:Int) (b:Int):RT TF:=
 .Lf ((andI u8 b 128 !=0,andI u8 b 64 !=0,chip==2&&andI u8 b 32 !=0,andI u8 b 16 !=0,andI u8 b 4 !=0,chip==2&&andI u8 b 2 !=0,andI u8 b 1 !=0))
def Zsg (chip:Int) (b:Int):TF:=(Zsf chip b).val
def ZDy:En:=Zg ZvS ZvT (λ_=>none) (λa=>Zsg a.1 a.2)
theorem ZF2:Za prog 363 ZDy:=
 pureQ 63 [] [] ZvS ZvT trivial Tryz.func363 Tryz.call363 trivial (t:=λa=>Zsf a.1 a.2)
abbrev ZWQ:List Sh:=[Sh.one (R.int u8)]
abbrev ZUt:Rs:=Rs.one (Sh.agg rcF7)
def pOfT (r:Int):RT (Option TF):=
 .br (ZkK r) (.Lf (some ((decide (r>=128),r==0,false,false,Zsw r,false,false)))) (.Lf none)
def pOf (r:Int):TF:=getO ZUt.Df (pOfT r).val
def pOfC (r:Int):Bool:=okB (pOfT r).val
def pOfE:En:=Zg ZWQ ZUt (λa=>some (pOfC a)) (λa=>pOf a)
theorem Zv4:Za prog 356 pOfE:=
 pureP 7 [(387,ZDH)] [] ZWQ ZUt ⟨ZF6,Tv⟩ Tryz.func356 Tryz.call356 trivial (t:=λa=>pOfT a)
def Zow:En:=.tree (Zn (envX prog [] [] 141872468127 8) Tryz.f349)
theorem Zov:Za prog 349 Zow:=ZI (P:=prog) (n:=141872468127) (k:=8) (l:=[]) (ol:=[]) trivial Tryz.func349 rfl (by kernel_rfl) Tryz.call349 trivial
abbrev ZLV:List Sh:=[Sh.agg ZhP,Sh.one (R.int i64)]
abbrev ZLW:Rs:=Rs.one (Sh.one (R.int u8))
def ZUC (r:TR) (n:Int):RT (Int):=
 .br (andI i64 n 7==0) (.Lf r.2.1) (.br (andI i64 n 7==1) (.Lf r.2.2.1) (.br (andI i64 n 7==2) (.Lf r.2.2.2.1) (.br (andI i64 n 7==3) (.Lf r.2.2.2.2.1) (.br (andI i64 n 7==4) (.Lf r.2.2.2.2.2.1) (.br (andI i64 n 7==5) (.Lf r.2.2.2.2.2.2.1) (.br (andI i64 n 7==7) (.Lf r.1) (.Lf (0))))))))
def pGet (r:TR) (n:Int):Int:=(ZUC r n).val
def ZWT:En:=Zg ZLV ZLW (λ_=>none) (λa=>pGet a.1 a.2)
theorem ZLU:Za prog 281 ZWT:=
 pureQ 63 [(349,Zow)] [] ZLV ZLW ⟨Zov,Tv⟩ Tryz.func281 Tryz.call281 trivial (t:=λa=>ZUC a.1 a.2)
abbrev ZKZ:List Sh:=[Sh.agg ZhP,Sh.one (R.int i64),Sh.one (R.int u8)]
abbrev ZK0:Rs:=Rs.one (Sh.agg ZhP)
def ZUe (r:TR) (n:Int) (v:Int):RT TR:=
 .br (andI i64 n 7==0) (.Lf ((r.1,v,r.2.2))) (.br (andI i64 n 7==1) (.Lf ((r.1,r.2.1,v,r.2.2.2))) (.br (andI i64 n 7==2) (.Lf ((r.1,r.2.1,r.2.2.1,v,r.2.2.2.2))) (.br (andI i64 n 7==3) (.Lf ((r.1,r.2.1,r.2.2.1,r.2.2.2.1,v,r.2.2.2.2.2))) (.br (andI i64 n 7==4) (.Lf ((r.1,r.2.1,r.2.2.1,r.2.2.2.1,r.2.2.2.2.1,v,r.2.2.2.2.2.2))) (.br (andI i64 n 7==5) (.Lf ((r.1,r.2.1,r.2.2.1,r.2.2.2.1,r.2.2.2.2.1,r.2.2.2.2.2.1,v,r.2.2.2.2.2.2.2))) (.br (andI i64 n 7==7) (.Lf ((v,r.2))) (.Lf (r))))))))
def pSet (r:TR) (n:Int) (v:Int):TR:=(ZUe r n v).val
def ZWL:En:=Zg ZKZ ZK0 (λ_=>none) (λa=>pSet a.1 a.2.1 a.2.2)
theorem ZKY:Za prog 290 ZWL:=
 pureQ 255 [(349,Zow)] [] ZKZ ZK0 ⟨Zov,Tv⟩ Tryz.func290 Tryz.call290 trivial (t:=λa=>ZUe a.1 a.2.1 a.2.2)
abbrev ZzO:List Sh:=[Sh.agg ZhP,Sh.one (R.int i64)]
abbrev ZzP:Rs:=Rs.one (Sh.one (R.int u16))
def ZLl (r:TR) (n:Int):RT (Int):=
 .br (andI i64 n 3==3) (.Lf r.2.2.2.2.2.2.2.2.1) (.Lf (ZLK (pGet r (i64.wrap (2*andI i64 n 3))) (pGet r (i64.wrap (i64.wrap (2*andI i64 n 3)+1)))))
def ZUo (r:TR) (n:Int):Int:=(ZLl r n).val
def ZWO:En:=Zg ZzO ZzP (λ_=>none) (λa=>ZUo a.1 a.2)
theorem ZP3:Za prog 280 ZWO:=
 pureQ 31 [(220,ZDS),(281,ZWT)] [] ZzO ZzP ⟨ZkL,ZLU,Tv⟩ Tryz.func280 Tryz.call280 trivial (t:=λa=>ZLl a.1 a.2)
abbrev Zja:List Sh:=[Sh.agg ZhP,Sh.one (R.int i64),Sh.one (R.int u16)]
abbrev Zjb:Rs:=Rs.one (Sh.agg ZhP)
def ZmS (r:TR) (n:Int) (v:Int):RT TR:=
 .br (andI i64 n 3==3) (.Lf ((r.1,r.2.1,r.2.2.1,r.2.2.2.1,r.2.2.2.2.1,r.2.2.2.2.2.1,r.2.2.2.2.2.2.1,r.2.2.2.2.2.2.2.1,v,r.2.2.2.2.2.2.2.2.2))) (.Lf (pSet (pSet r (i64.wrap (2*andI i64 n 3)) (u8.wrap (shrI u16 v 8))) (i64.wrap (i64.wrap (2*andI i64 n 3)+1)) (u8.wrap v)))
def Zsj (r:TR) (n:Int) (v:Int):TR:=(ZmS r n v).val
def ZK1:En:=Zg Zja Zjb (λ_=>none) (λa=>Zsj a.1 a.2.1 a.2.2)
theorem ZzC:Za prog 291 ZK1:=
 pureQ 127 [(290,ZWL)] [] Zja Zjb ⟨ZKY,Tv⟩ Tryz.func291 Tryz.call291 trivial (t:=λa=>ZmS a.1 a.2.1 a.2.2)
abbrev ZLp:List Sh:=[Sh.one (R.int i64),Sh.agg ZhP]
abbrev ZDJ:Rs:=Rs.one (Sh.one (R.int u16))
def ZP6 (chip:Int) (r:TR):RT (Option (Int)):=
 .br (ZDI chip r.2.2.2.2.2.2.2.1) (.Lf (some (ZLK r.1 (ZP5 chip r.2.2.2.2.2.2.2.1)))) (.Lf none)
def pPSW (chip:Int) (r:TR):Int:=getO ZDJ.Df (ZP6 chip r).val
def ZUq (chip:Int) (r:TR):Bool:=okB (ZP6 chip r).val
def pPSWE:En:=Zg ZLp ZDJ (λa=>some (ZUq a.1 a.2)) (λa=>pPSW a.1 a.2)
theorem ZUp:Za prog 288 pPSWE:=
 pureP 31 [(220,ZDS),(354,ZSk)] [] ZLp ZDJ ⟨ZkL,ZP4,Tv⟩ Tryz.func288 Tryz.call288 trivial (t:=λa=>ZP6 a.1 a.2)
abbrev ZmT:List Sh:=[Sh.one (R.int i64),Sh.agg ZhP,Sh.one (R.int u16)]
abbrev ZmU:Rs:=Rs.one (Sh.agg ZhP)
def Zsk (chip:Int) (r:TR) (v:Int):RT TR:=
 .Lf ((u8.wrap (shrI u16 v 8),r.2.1,r.2.2.1,r.2.2.2.1,r.2.2.2.2.1,r.2.2.2.2.2.1,r.2.2.2.2.2.2.1,Zsg chip (u8.wrap v),r.2.2.2.2.2.2.2.2))
def ZzE (chip:Int) (r:TR) (v:Int):TR:=(Zsk chip r v).val
def ZPU:En:=Zg ZmT ZmU (λ_=>none) (λa=>ZzE a.1 a.2.1 a.2.2)
theorem ZF4:Za prog 299 ZPU:=
 pureQ 127 [(363,ZDy)] [] ZmT ZmU ⟨ZF2,Tv⟩ Tryz.func299 Tryz.call299 trivial (t:=λa=>Zsk a.1 a.2.1 a.2.2)
abbrev ZDN:List Sh:=[Sh.one (R.int i64),Sh.one (R.int i64),Sh.one (R.int u8),Sh.one (R.int u8)]
abbrev ZsI:Rs:=Rs.tup [Sh.one (R.int u8),Sh.agg rcF7]
def ZnD (chip:Int) (op:Int) (a:Int) (b:Int):RT (Option (QT2)):=
 let x1:Int:=bif op==4 then andI u8 a b else bif op==5 then xorI u8 a b else bif op==6 then orI u8 a b else 0
 let x2:=pOf x1
 let x3:=x2.2
 let x4:=x3.2
 .br (pOfC x1) (.Lf (some ((x1,x2.1,x3.1,bif chip==2 then pMaj (decide (a>=128)) (decide (b>=128)) (decide (x1>=128)) else x4.1,op==4&&(chip==2||andI u8 (orI u8 a b) 8 !=0),x4.2.2)))) (.Lf none)
def ZDO (chip:Int) (op:Int) (a:Int) (b:Int):QT2:=getO ZsI.Df (ZnD chip op a b).val
def ZsJ (chip:Int) (op:Int) (a:Int) (b:Int):Bool:=okB (ZnD chip op a b).val
def ZLD:En:=Zg ZDN ZsI (λa=>some (ZsJ a.1 a.2.1 a.2.2.1 a.2.2.2)) (λa=>ZDO a.1 a.2.1 a.2.2.1 a.2.2.2)
theorem ZLC:Za prog 355 ZLD:=
 pureP 8858394623 [(356,pOfE),(357,ZGg)] [] ZDN ZsI ⟨Zv4,ZnC,Tv⟩ Tryz.func355 Tryz.call355 trivial (t:=λa=>ZnD a.1 a.2.1 a.2.2.1 a.2.2.2)
abbrev ZUJ:List Sh:=[Sh.one (R.int i64),Sh.one (R.int i64),Sh.one (R.int u8),Sh.one (R.int u8),Sh.agg rcF7]
abbrev ZQh:Rs:=Rs.tup [Sh.one (R.int u8),Sh.agg rcF7]
def pDoT (chip:Int) (op:Int) (a:Int) (b:Int) (f:TF):RT (Option (QT2)):=
 let x1:=decide (andI i64 op 7>=4)&&decide (andI i64 op 7<=6)
 let x2:=f.2.2.2.2.2.2&&(andI i64 op 7==1||andI i64 op 7==3)
 let x3:=Zhn a b x2
 let x4:=x3.1
 let x5:=pOf x4
 let x6:=x5.2
 let x7:=x6.2
 let x8:=x3.2
 let x9:=x8.2
 let x10:=x7.2.2
 let x11:TF:=(x5.1,x6.1,bif chip==2 then pMaj (decide (a>=128)) (decide (b<128)) (decide (x4>=128)) else x7.1,x9.1,x10.1,bif chip==2 then x9.2 else x10.2.1,x8.1)
 let x12:=pSum a b x2
 let x13:=x12.1
 let x14:=pOf x13
 let x15:=x14.2
 let x16:=x15.2
 let x17:=x12.2
 let x18:=x17.2
 let x19:=x16.2.2
 let x20:TF:=(x14.1,x15.1,bif chip==2 then pMaj (decide (a>=128)) (decide (b>=128)) (decide (x13>=128)) else x16.1,x18.1,x19.1,bif chip==2 then x18.2 else x19.2.1,x17.1)
 .br (!x1||ZsJ chip (andI i64 op 7) a b) (.br (x1) (.Lf (some (ZDO chip (andI i64 op 7) a b))) (.br (andI i64 op 7 !=0&&andI i64 op 7 !=1) (.br (pOfC x4) (.br (andI i64 op 7==7) (.Lf (some ((a,x11)))) (.Lf (some ((x4,x11))))) (.Lf none)) (.br (pOfC x13) (.br (andI i64 op 7==7) (.Lf (some ((a,x20)))) (.Lf (some ((x13,x20))))) (.Lf none)))) (.Lf none)
def pDo (chip:Int) (op:Int) (a:Int) (b:Int) (f:TF):QT2:=getO ZQh.Df (pDoT chip op a b f).val
def pDoC (chip:Int) (op:Int) (a:Int) (b:Int) (f:TF):Bool:=okB (pDoT chip op a b f).val
def pDoE:En:=Zg ZUJ ZQh (λa=>some (pDoC a.1 a.2.1 a.2.2.1 a.2.2.2.1 a.2.2.2.2)) (λa=>pDo a.1 a.2.1 a.2.2.1 a.2.2.2.1 a.2.2.2.2)
theorem ZWV:Za prog 292 pDoE:=
 pureP 1048575 [(350,ZPR),(352,ZD5),(355,ZLD),(356,pOfE),(357,ZGg)] [] ZUJ ZQh ⟨Zzz,Ztw,ZLC,Zv4,ZnC,Tv⟩ Tryz.func292 Tryz.call292 trivial (t:=λa=>pDoT a.1 a.2.1 a.2.2.1 a.2.2.2.1 a.2.2.2.2)
abbrev Zv0:List Sh:=[Sh.one (R.int i64),Sh.one (R.int u8),Sh.one (R.int u8),Sh.one R.bool,Sh.one R.bool,Sh.one R.bool,Sh.agg rcF7]
abbrev ZmW:Rs:=Rs.one (Sh.agg rcF7)
def ZkI (chip:Int) (v:Int) (r:Int) (half:Bool) (over:Bool) (x:Bool) (f:TF):RT (Option TF):=
 .br (pOfC r) (.Lf (some (((pOf r).1,(pOf r).2.1,bif chip==2 then pMaj (decide (v>=128)) x (decide (r>=128)) else (pOf r).2.2.1,half,(pOf r).2.2.2.2.1,bif chip==2 then over else (pOf r).2.2.2.2.2.1,f.2.2.2.2.2.2)))) (.Lf none)
def ZmX (chip:Int) (v:Int) (r:Int) (half:Bool) (over:Bool) (x:Bool) (f:TF):TF:=getO ZmW.Df (ZkI chip v r half over x f).val
def Zid (chip:Int) (v:Int) (r:Int) (half:Bool) (over:Bool) (x:Bool) (f:TF):Bool:=okB (ZkI chip v r half over x f).val
def Zsm:En:=Zg Zv0 ZmW (λa=>some (Zid a.1 a.2.1 a.2.2.1 a.2.2.2.1 a.2.2.2.2.1 a.2.2.2.2.2.1 a.2.2.2.2.2.2)) (λa=>ZmX a.1 a.2.1 a.2.2.1 a.2.2.2.1 a.2.2.2.2.1 a.2.2.2.2.2.1 a.2.2.2.2.2.2)
theorem Zqc:Za prog 351 Zsm:=
 pureP 65535 [(356,pOfE),(357,ZGg)] [] Zv0 ZmW ⟨Zv4,ZnC,Tv⟩ Tryz.func351 Tryz.call351 trivial (t:=λa=>ZkI a.1 a.2.1 a.2.2.1 a.2.2.2.1 a.2.2.2.2.1 a.2.2.2.2.2.1 a.2.2.2.2.2.2)
abbrev ZLO:List Sh:=[Sh.one (R.int i64),Sh.one (R.int u8),Sh.agg rcF7]
abbrev ZDT:Rs:=Rs.tup [Sh.one (R.int u8),Sh.agg rcF7]
def ZQc (chip:Int) (v:Int) (f:TF):RT (Option (QT2)):=
 .br (Zid chip v (pSum v 1 false).1 (pSum v 1 false).2.2.1 (pSum v 1 false).2.2.2 false f) (.Lf (some (((pSum v 1 false).1,ZmX chip v (pSum v 1 false).1 (pSum v 1 false).2.2.1 (pSum v 1 false).2.2.2 false f)))) (.Lf none)
def pInr (chip:Int) (v:Int) (f:TF):QT2:=getO ZDT.Df (ZQc chip v f).val
def ZUA (chip:Int) (v:Int) (f:TF):Bool:=okB (ZQc chip v f).val
def pInrE:En:=Zg ZLO ZDT (λa=>some (ZUA a.1 a.2.1 a.2.2)) (λa=>pInr a.1 a.2.1 a.2.2)
theorem ZUz:Za prog 282 pInrE:=
 pureP 4095 [(350,ZPR),(351,Zsm)] [] ZLO ZDT ⟨Zzz,Zqc,Tv⟩ Tryz.func282 Tryz.call282 trivial (t:=λa=>ZQc a.1 a.2.1 a.2.2)
abbrev ZMh:List Sh:=[Sh.one (R.int i64),Sh.one (R.int u8),Sh.agg rcF7]
abbrev ZD7:Rs:=Rs.tup [Sh.one (R.int u8),Sh.agg rcF7]
def ZQk (chip:Int) (v:Int) (f:TF):RT (Option (QT2)):=
 .br (Zid chip v (Zhn v 1 false).1 (Zhn v 1 false).2.2.1 (Zhn v 1 false).2.2.2 true f) (.Lf (some (((Zhn v 1 false).1,ZmX chip v (Zhn v 1 false).1 (Zhn v 1 false).2.2.1 (Zhn v 1 false).2.2.2 true f)))) (.Lf none)
def pDcr (chip:Int) (v:Int) (f:TF):QT2:=getO ZD7.Df (ZQk chip v f).val
def ZUP (chip:Int) (v:Int) (f:TF):Bool:=okB (ZQk chip v f).val
def pDcrE:En:=Zg ZMh ZD7 (λa=>some (ZUP a.1 a.2.1 a.2.2)) (λa=>pDcr a.1 a.2.1 a.2.2)
theorem ZUO:Za prog 283 pDcrE:=
 pureP 4095 [(351,Zsm),(352,ZD5)] [] ZMh ZD7 ⟨Zqc,Ztw,Tv⟩ Tryz.func283 Tryz.call283 trivial (t:=λa=>ZQk a.1 a.2.1 a.2.2)
abbrev ZLL:List Sh:=[Sh.one (R.int i64),Sh.one (R.int u16),Sh.agg rcF7]
abbrev ZLM:Rs:=Rs.tup [Sh.one (R.int u16),Sh.agg rcF7]
def ZUy (chip:Int) (v:Int) (f:TF):RT (QT2):=
 .Lf ((u16.wrap (v+1),f.1,f.2.1,bif chip==2 then v==65535 else f.2.2.1,f.2.2.2))
def pInx (chip:Int) (v:Int) (f:TF):QT2:=(ZUy chip v f).val
def pInxE:En:=Zg ZLL ZLM (λ_=>none) (λa=>pInx a.1 a.2.1 a.2.2)
theorem ZUx:Za prog 294 pInxE:=
 pureQ 255 [] [] ZLL ZLM trivial Tryz.func294 Tryz.call294 trivial (t:=λa=>ZUy a.1 a.2.1 a.2.2)
abbrev ZMe:List Sh:=[Sh.one (R.int i64),Sh.one (R.int u16),Sh.agg rcF7]
abbrev ZMf:Rs:=Rs.tup [Sh.one (R.int u16),Sh.agg rcF7]
def ZUN (chip:Int) (v:Int) (f:TF):RT (QT2):=
 .Lf ((u16.wrap (v-1),f.1,f.2.1,bif chip==2 then v==0 else f.2.2.1,f.2.2.2))
def pDcx (chip:Int) (v:Int) (f:TF):QT2:=(ZUN chip v f).val
def pDcxE:En:=Zg ZMe ZMf (λ_=>none) (λa=>pDcx a.1 a.2.1 a.2.2)
theorem ZUM:Za prog 295 pDcxE:=
 pureQ 255 [] [] ZMe ZMf trivial Tryz.func295 Tryz.call295 trivial (t:=λa=>ZUN a.1 a.2.1 a.2.2)
abbrev ZMi:List Sh:=[Sh.one (R.int i64),Sh.one (R.int u16),Sh.one (R.int u16),Sh.agg rcF7]
abbrev ZMj:Rs:=Rs.tup [Sh.one (R.int u16),Sh.agg rcF7]
def ZUR (chip:Int) (a:Int) (b:Int) (f:TF):RT (QT2):=
 .Lf ((u16.wrap (a+b),f.1,f.2.1,f.2.2.1,f.2.2.2.1,f.2.2.2.2.1,bif chip==2 then andI u16 (andI u16 (xorI u16 a (u16.wrap (a+b))) (xorI u16 b (u16.wrap (a+b)))) 32768 !=0 else f.2.2.2.2.2.1,decide (u16.wrap (a+b)<a)))
def pDad (chip:Int) (a:Int) (b:Int) (f:TF):QT2:=(ZUR chip a b f).val
def pDadE:En:=Zg ZMi ZMj (λ_=>none) (λa=>pDad a.1 a.2.1 a.2.2.1 a.2.2.2)
theorem ZUQ:Za prog 296 pDadE:=
 pureQ 2047 [] [] ZMi ZMj trivial Tryz.func296 Tryz.call296 trivial (t:=λa=>ZUR a.1 a.2.1 a.2.2.1 a.2.2.2)
abbrev ZAQ:List Sh:=[Sh.one (R.int u16),Sh.one (R.int u16)]
abbrev Ztv:Rs:=Rs.tup [Sh.one (R.int u16),Sh.agg rcF7]
def ZD4 (a:Int) (b:Int):RT (Option (QT2)):=
 let x1:=Zhn (u8.wrap (shrI u16 a 8)) (u8.wrap (shrI u16 b 8)) (Zhn (u8.wrap a) (u8.wrap b) false).2.1
 let x2:=x1.1
 let x3:=pOf x2
 let x4:=x1.2
 let x5:=x4.2
 .br (pOfC x2) (.Lf (some ((ZLK x2 (Zhn (u8.wrap a) (u8.wrap b) false).1,x3.1,x2==0&&(Zhn (u8.wrap a) (u8.wrap b) false).1==0,pMaj (decide (a>=32768)) (decide (b<32768)) (decide (x2>=128)),x5.1,x3.2.2.2.2.1,x5.2,x4.1)))) (.Lf none)
def ZUI (a:Int) (b:Int):QT2:=getO Ztv.Df (ZD4 a b).val
def ZL9 (a:Int) (b:Int):Bool:=okB (ZD4 a b).val
def ZWU:En:=Zg ZAQ Ztv (λa=>some (ZL9 a.1 a.2)) (λa=>ZUI a.1 a.2)
theorem ZQg:Za prog 301 ZWU:=
 pureP 32767 [(220,ZDS),(352,ZD5),(356,pOfE),(357,ZGg)] [] ZAQ Ztv ⟨ZkL,Ztw,Zv4,ZnC,Tv⟩ Tryz.func301 Tryz.call301 trivial (t:=λa=>ZD4 a.1 a.2)
abbrev ZMl:List Sh:=[Sh.one (R.int i64),Sh.one (R.int u8),Sh.agg rcF7]
abbrev ZEa:Rs:=Rs.tup [Sh.one (R.int u8),Sh.agg rcF7]
def ZQm (chip:Int) (a:Int) (f:TF):RT (Option (QT2)):=
 let x1:Int:=bif f.2.2.2.1||decide (andI u8 a 15>9) then 6 else 0
 let x2:=pSum a (bif f.2.2.2.2.2.2||decide (a>153) then u8.wrap (x1+96) else x1) false
 let x3:=x2.1
 let x4:=pOf x3
 let x5:=x4.2
 let x6:=x5.2
 let x7:=x2.2.2
 let x8:=x6.2.2
 .br (pOfC x3) (.Lf (some ((x3,x4.1,x5.1,bif chip==2 then pMaj (decide (a>=128)) false (decide (x3>=128)) else x6.1,x7.1,x8.1,bif chip==2 then x7.2 else x8.2.1,f.2.2.2.2.2.2||decide (a>153))))) (.Lf none)
def pDaa (chip:Int) (a:Int) (f:TF):QT2:=getO ZEa.Df (ZQm chip a f).val
def ZUT (chip:Int) (a:Int) (f:TF):Bool:=okB (ZQm chip a f).val
def pDaaE:En:=Zg ZMl ZEa (λa=>some (ZUT a.1 a.2.1 a.2.2)) (λa=>pDaa a.1 a.2.1 a.2.2)
theorem ZUS:Za prog 297 pDaaE:=
 pureP 32767 [(350,ZPR),(356,pOfE),(357,ZGg)] [] ZMl ZEa ⟨Zzz,Zv4,ZnC,Tv⟩ Tryz.func297 Tryz.call297 trivial (t:=λa=>ZQm a.1 a.2.1 a.2.2)
abbrev ZSq:List Sh:=[Sh.one R.bool]
abbrev ZSr:Rs:=Rs.one (Sh.one (R.int u8))
def ZWS (c:Bool):RT (Int):=
 .br (c) (.Lf (1)) (.Lf (0))
def pLow (c:Bool):Int:=(ZWS c).val
def ZGh:En:=Zg ZSq ZSr (λ_=>none) (λa=>pLow a)
theorem ZAx:Za prog 361 ZGh:=
 pureQ 7 [] [] ZSq ZSr trivial Tryz.func361 Tryz.call361 trivial (t:=λa=>ZWS a)
def Zgb:En:=.tree (Zn (envX prog [] [] 7 8) Tryz.f358)
theorem Zjw:Za prog 358 Zgb:=ZI (P:=prog) (n:=7) (k:=8) (l:=[]) (ol:=[]) trivial Tryz.func358 rfl (by kernel_rfl) Tryz.call358 trivial
def Zga:En:=.tree (Zn (envX prog [] [] 7 8) Tryz.f359)
theorem Zjv:Za prog 359 Zga:=ZI (P:=prog) (n:=7) (k:=8) (l:=[]) (ol:=[]) trivial Tryz.func359 rfl (by kernel_rfl) Tryz.call359 trivial
def Zf9:En:=.tree (Zn (envX prog [(361,ZGh)] [] 15 8) Tryz.f360)
theorem Zju:Za prog 360 Zf9:=ZI (P:=prog) (n:=15) (k:=8) (l:=[(361,ZGh)]) (ol:=[]) ⟨ZAx,Tv⟩ Tryz.func360 rfl (by kernel_rfl) Tryz.call360 trivial
def Zf8:En:=.tree (Zn (envX prog [(361,ZGh)] [] 15 8) Tryz.f362)
theorem Zjt:Za prog 362 Zf8:=ZI (P:=prog) (n:=15) (k:=8) (l:=[(361,ZGh)]) (ol:=[]) ⟨ZAx,Tv⟩ Tryz.func362 rfl (by kernel_rfl) Tryz.call362 trivial
abbrev ZK4:List Sh:=[Sh.one (R.int i64),Sh.one (R.int u8),Sh.one R.bool]
abbrev ZDF:Rs:=Rs.tup [Sh.one (R.int u8),Sh.one R.bool]
def ZPW (op:Int) (a:Int) (c:Bool):RT (Option (Int×Bool)):=
 .br (andI i64 op 3==0||(andI i64 op 3== ↑(0+1)||(andI i64 op 3== ↑(0+1+1)||andI i64 op 3== ↑(0+1+1+1)))) (.Lf (some ((bif andI i64 op 3==0 then orI u8 (shlI u8 a 1) (shrI u8 a 7) else bif andI i64 op 3== ↑(0+1) then orI u8 (shrI u8 a 1) (shlI u8 a 7) else bif andI i64 op 3== ↑(0+1+1) then orI u8 (shlI u8 a 1) (pLow c) else orI u8 (shrI u8 a 1) (shlI u8 (pLow c) 7),bif andI i64 op 3==0 then decide (a>=128) else bif andI i64 op 3== ↑(0+1) then andI u8 a 1==1 else bif andI i64 op 3== ↑(0+1+1) then decide (a>=128) else andI u8 a 1==1)))) (.Lf none)
def pRot (op:Int) (a:Int) (c:Bool):Int×Bool:=getO ZDF.Df (ZPW op a c).val
def ZUg (op:Int) (a:Int) (c:Bool):Bool:=okB (ZPW op a c).val
def pRotE:En:=Zg ZK4 ZDF (λa=>some (ZUg a.1 a.2.1 a.2.2)) (λa=>pRot a.1 a.2.1 a.2.2)
theorem ZUf:Za prog 298 pRotE:=
 pureP 511 [(358,Zgb),(359,Zga),(360,Zf9),(362,Zf8)] [] ZK4 ZDF ⟨Zjw,Zjv,Zju,Zjt,Tv⟩ Tryz.func298 Tryz.call298 trivial (t:=λa=>ZPW a.1 a.2.1 a.2.2)
abbrev ZAT:List Sh:=[Sh.one (R.int u16)]
abbrev ZAU:Rs:=Rs.tup [Sh.one (R.int u16),Sh.one R.bool]
def ZSx (v:Int):RT (Int×Bool):=
 .Lf ((orI u16 (shrI u16 v 1) (andI u16 v 32768),andI u16 v 1==1))
def ZWY (v:Int):Int×Bool:=(ZSx v).val
def ZWX:En:=Zg ZAT ZAU (λ_=>none) (λa=>ZWY a)
theorem ZQq:Za prog 302 ZWX:=
 pureQ 15 [] [] ZAT ZAU trivial Tryz.func302 Tryz.call302 trivial (t:=λa=>ZSx a)
abbrev ZzJ:List Sh:=[Sh.one (R.int u16),Sh.one R.bool]
abbrev ZzK:Rs:=Rs.tup [Sh.one (R.int u16),Sh.one R.bool,Sh.one R.bool]
def ZLe (v:Int) (c:Bool):RT (Int×Bool×Bool):=
 .Lf ((orI u16 (shlI u16 v 1) (u16.wrap (pLow c)),decide (v>=32768),andI u16 (xorI u16 (orI u16 (shlI u16 v 1) (u16.wrap (pLow c))) v) 32768 !=0))
def ZUm (v:Int) (c:Bool):Int×Bool×Bool:=(ZLe v c).val
def ZWM:En:=Zg ZzJ ZzK (λ_=>none) (λa=>ZUm a.1 a.2)
theorem ZP0:Za prog 303 ZWM:=
 pureQ 127 [(361,ZGh)] [] ZzJ ZzK ⟨ZAx,Tv⟩ Tryz.func303 Tryz.call303 trivial (t:=λa=>ZLe a.1 a.2)
abbrev ZK3:List Sh:=[Sh.one R.bool,Sh.one (R.int i64)]
abbrev ZzF:Rs:=Rs.one (Sh.one (R.int u8))
def ZDE (b:Bool) (n:Int):RT (Option (Int)):=
 .br (!b||decide (0<=n)) (.br (b) (.Lf (some (shlI u8 1 n))) (.Lf (some (0)))) (.Lf none)
def ZvZ (b:Bool) (n:Int):Int:=getO ZzF.Df (ZDE b n).val
def ZcA (b:Bool) (n:Int):Bool:=okB (ZDE b n).val
def ZSi:En:=Zg ZK3 ZzF (λa=>some (ZcA a.1 a.2)) (λa=>ZvZ a.1 a.2)
theorem ZPV:Za prog 300 ZSi:=
 pureP 31 [] [] ZK3 ZzF trivial Tryz.func300 Tryz.call300 trivial (t:=λa=>ZDE a.1 a.2)
abbrev ZK6:List Sh:=[Sh.agg Z5,Sh.agg (R.Pq R.bool (R.Pq R.bool rcF7))]
abbrev ZDG:Rs:=Rs.tup [Sh.one (R.int u8),Sh.agg Z5]
def ZPY (c:TC) (l:QT1):RT (Option (Int×TC)):=
 let x1:=bif c.2.2.2.2.2.2.2.2.2.2.1 then c.2.2.2.2.2.2.2.2.2.2.2.1 else c.2.2.1
 .br (!ZcA l.2.2.2.1 7||(!ZcA c.2.2.2.2.2.2.2.1 6||(!ZcA l.2.2.2.2.2.2.1 5||(!ZcA l.2.2.2.2.2.2.2.1 4||ZcA x1 3)))) (.br (!ZcA l.2.2.2.1 7||(!ZcA c.2.2.2.2.2.2.2.1 6||(!ZcA l.2.2.2.2.2.2.1 5||ZcA l.2.2.2.2.2.2.2.1 4))) (.br (!ZcA l.2.2.2.1 7||(!ZcA c.2.2.2.2.2.2.2.1 6||ZcA l.2.2.2.2.2.2.1 5)) (.br (!ZcA l.2.2.2.1 7||ZcA c.2.2.2.2.2.2.2.1 6) (.br (ZcA l.2.2.2.1 7) (.Lf (some ((orI u8 (orI u8 (orI u8 (orI u8 (orI u8 (ZvZ l.2.2.2.1 7) (ZvZ c.2.2.2.2.2.2.2.1 6)) (ZvZ l.2.2.2.2.2.2.1 5)) (ZvZ l.2.2.2.2.2.2.2.1 4)) (ZvZ x1 3)) (andI u8 c.2.2.2.2.2.1 7),c.1,c.2.1,c.2.2.1,c.2.2.2.1,c.2.2.2.2.1,c.2.2.2.2.2.1,c.2.2.2.2.2.2.1,c.2.2.2.2.2.2.2.1,c.2.2.2.2.2.2.2.2.1,c.2.2.2.2.2.2.2.2.2.1,false,false,c.2.2.2.2.2.2.2.2.2.2.2.2)))) (.Lf none)) (.Lf none)) (.Lf none)) (.Lf none)) (.Lf none)
def pRim (c:TC) (l:QT1):Int×TC:=getO ZDG.Df (ZPY c l).val
def ZUi (c:TC) (l:QT1):Bool:=okB (ZPY c l).val
def pRimE:En:=Zg ZK6 ZDG (λa=>some (ZUi a.1 a.2)) (λa=>pRim a.1 a.2)
theorem ZUh:Za prog 231 pRimE:=
 pureP 255 [(300,ZSi)] [] ZK6 ZDG ⟨ZPV,Tv⟩ Tryz.func231 Tryz.call231 trivial (t:=λa=>ZPY a.1 a.2)
abbrev ZKV:List Sh:=[Sh.agg Z5,Sh.one (R.int u8)]
abbrev ZKW:Rs:=Rs.one (Sh.agg Z5)
def ZUd (c:TC) (a:Int):RT TC:=
 .Lf ((c.1,c.2.1,c.2.2.1,c.2.2.2.1,c.2.2.2.2.1,bif andI u8 a 8 !=0 then andI u8 a 7 else c.2.2.2.2.2.1,c.2.2.2.2.2.2.1,!andI u8 a 16 !=0&&c.2.2.2.2.2.2.2.1,c.2.2.2.2.2.2.2.2.1,c.2.2.2.2.2.2.2.2.2.1,c.2.2.2.2.2.2.2.2.2.2.1,c.2.2.2.2.2.2.2.2.2.2.2.1,bif andI u8 a 64 !=0 then andI u8 a 128 !=0 else c.2.2.2.2.2.2.2.2.2.2.2.2))
def pSim (c:TC) (a:Int):TC:=(ZUd c a).val
def pSimE:En:=Zg ZKV ZKW (λ_=>none) (λa=>pSim a.1 a.2)
theorem ZUc:Za prog 232 pSimE:=
 pureQ 31 [] [] ZKV ZKW trivial Tryz.func232 Tryz.call232 trivial (t:=λa=>ZUd a.1 a.2)
abbrev ZsO:List Sh:=[Sh.one (R.int i64),Sh.agg rcF7]
abbrev ZsP:Rs:=Rs.one (Sh.one R.bool)
def ZAD (c:Int) (f:TF):RT (Bool):=
 .br (bif c==0 then c==0 else c==1) (.Lf (f.2.1==(c==1))) (.br (bif c==2 then c==2 else c==3) (.Lf (f.2.2.2.2.2.2==(c==3))) (.br (bif c==4 then c==4 else c==5) (.Lf (f.2.2.2.2.1==(c==5))) (.br (bif c==6 then c==6 else c==7) (.Lf (f.1==(c==7))) (.br (bif c==8 then c==8 else c==9) (.Lf (f.2.2.1==(c==9))) (.br (c==10) (.Lf f.2.2.2.2.2.1) (.Lf (c==11)))))))
def ZLT (c:Int) (f:TF):Bool:=(ZAD c f).val
def ZUB:En:=Zg ZsO ZsP (λ_=>none) (λa=>ZLT a.1 a.2)
theorem ZLS:Za prog 353 ZUB:=
 pureQ 70644700037215 [] [] ZsO ZsP trivial Tryz.func353 Tryz.call353 trivial (t:=λa=>ZAD a.1 a.2)
abbrev ZmJ:List Sh:=[Sh.one (R.int i64)]
abbrev ZmK:Rs:=Rs.one (Sh.one (R.int u16))
def Zse (s:Int):RT (Int):=
 .br (s==1) (.Lf (36)) (.br (s==2) (.Lf (60)) (.br (s==3) (.Lf (52)) (.br (s==4) (.Lf (44)) (.Lf (0)))))
def Zzx (s:Int):Int:=(Zse s).val
def ZPP:En:=Zg ZmJ ZmK (λ_=>none) (λa=>Zzx a)
theorem ZFZ:Za prog 155 ZPP:=
 pureQ 1367 [] [] ZmJ ZmK trivial Tryz.func155 Tryz.call155 trivial (t:=λa=>Zse a)
abbrev ZDP:List Sh:=[Sh.one (R.int u8)]
abbrev ZDQ:Rs:=Rs.tup [Sh.agg (R.Pq (R.int i64) (R.Pq (R.int i64) (R.Pq (R.int i64) (R.Pq (R.int i64) (R.Pq (R.int i64) (R.Pq (R.int i64) (R.Pq (R.int i64) (R.int i64)))))))),Sh.one R.bool]
def ZLF (op:Int):RT (TI×Bool):=
 .br (op==8) (.Lf (((40,1,0,0,0,0,0,0),true))) (.br (op==16) (.Lf (((41,1,0,0,0,0,0,0),true))) (.br (op==24) (.Lf (((42,1,0,0,0,0,0,0),true))) (.br (op==32) (.Lf (((38,1,0,0,0,0,0,0),true))) (.br (op==40) (.Lf (((43,2,0,0,0,0,0,0),true))) (.br (op==48) (.Lf (((39,1,0,0,0,0,0,0),true))) (.br (op==56) (.Lf (((44,2,0,0,0,0,0,0),true))) (.br (op==203) (.Lf (((45,1,0,0,0,0,10,0),true))) (.br (op==217) (.Lf (((46,1,0,0,0,0,0,0),true))) (.br (op==221) (.Lf (((24,3,0,0,0,0,8,0),true))) (.br (op==237) (.Lf (((47,1,0,0,0,0,0,0),true))) (.br (op==253) (.Lf (((24,3,0,0,0,0,9,0),true))) (.Lf (((0,0,0,0,0,0,0,0),false))))))))))))))
def ZLH (op:Int):TI×Bool:=(ZLF op).val
def ZLG:En:=Zg ZDP ZDQ (λ_=>none) (λa=>ZLH a)
theorem ZLE:Za prog 223 ZLG:=
 pureQ 314146179375 [] [] ZDP ZDQ trivial Tryz.func223 Tryz.call223 trivial (t:=λa=>ZLF a)
abbrev Zqg:List Sh:=[Sh.one (R.int u8)]
abbrev Zqh:Rs:=Rs.tup [Sh.agg (R.Pq (R.int i64) (R.Pq (R.int i64) (R.Pq (R.int i64) (R.Pq (R.int i64) (R.Pq (R.int i64) (R.Pq (R.int i64) (R.Pq (R.int i64) (R.int i64)))))))),Sh.one R.bool]
def Zv9 (op:Int):RT (TI×Bool):=
 .br (bif op==0 then op==0 else bif op==8 then op==8 else bif op==16 then op==16 else bif op==24 then op==24 else bif op==32 then op==32 else bif op==40 then op==40 else bif op==48 then op==48 else op==56) (.Lf (((1,1,0,0,0,0,0,0),true))) (.br (bif op==195 then op==195 else op==203) (.Lf (((24,3,0,0,0,0,11,0),true))) (.br (bif op==201 then op==201 else op==217) (.Lf (((26,1,0,0,0,0,11,0),true))) (.br (bif op==205 then op==205 else bif op==221 then op==221 else bif op==237 then op==237 else op==253) (.Lf (((25,3,0,0,0,0,11,0),true))) (.Lf (((0,0,0,0,0,0,0,0),false))))))
def Zie (op:Int):TI×Bool:=(Zv9 op).val
def Zwa:En:=Zg Zqg Zqh (λ_=>none) (λa=>Zie a)
theorem ZAP:Za prog 224 Zwa:=
 pureQ 8945711 [] [] Zqg Zqh trivial Tryz.func224 Tryz.call224 trivial (t:=λa=>Zv9 a)
abbrev ZLs:List Sh:=[Sh.one (R.int u8)]
abbrev ZzR:Rs:=Rs.one (Sh.agg (R.Pq (R.int i64) (R.Pq (R.int i64) (R.Pq (R.int i64) (R.Pq (R.int i64) (R.Pq (R.int i64) (R.Pq (R.int i64) (R.Pq (R.int i64) (R.int i64)))))))))
def ZLt (op:Int):RT (Option TI):=
 let x1:QT29:=(0,0,i64.wrap (andI u8 (shrI u8 op 4) 3),0,0,0)
 let x2:QT24:=(1,x1)
 let x3:=decide (i64.wrap (andI u8 (shrI u8 op 3) 7)<4)&&andI u8 op 8 !=0
 let x4:=decide (0<=i64.wrap (i64.wrap (andI u8 (shrI u8 op 3) 7)-4)/\i64.wrap (i64.wrap (andI u8 (shrI u8 op 3) 7)-4)<4)
 let x5:=i64.wrap (i64.wrap (andI u8 (shrI u8 op 3) 7)-4)==0
 let x6:=i64.wrap (i64.wrap (andI u8 (shrI u8 op 3) 7)-4)== ↑(0+1)
 let x7:=i64.wrap (i64.wrap (andI u8 (shrI u8 op 3) 7)-4)== ↑(0+1+1)
 let x8:QT29:=(i64.wrap (andI u8 (shrI u8 op 3) 7),0,0,0,0,0)
 let x9:QT24:=(1,x8)
 .br (andI u8 op 7==1) (.br (andI u8 op 8 !=0) (.Lf (some ((18,x2)))) (.Lf (some ((4,3,x1))))) (.br (!andI u8 op 7==2||(x3||(decide (i64.wrap (andI u8 (shrI u8 op 3) 7)<4)||x4))) (.br (andI u8 op 7==2) (.br (x3) (.Lf (some ((9,x2)))) (.br (decide (i64.wrap (andI u8 (shrI u8 op 3) 7)<4)) (.Lf (some ((10,x2)))) (.Lf (some ((bif x5 then 8 else bif x6 then 7 else bif x7 then 6 else 5,3,0,0,0,0,0,0)))))) (.br (andI u8 op 7==3) (.br (andI u8 op 8 !=0) (.Lf (some ((17,x2)))) (.Lf (some ((16,x2))))) (.br (andI u8 op 7==4) (.Lf (some ((14,x9)))) (.br (andI u8 op 7==5) (.Lf (some ((15,x9)))) (.br (andI u8 op 7==6) (.Lf (some ((3,2,x8)))) (.br (decide (i64.wrap (andI u8 (shrI u8 op 3) 7)<4)) (.Lf (some ((23,1,0,0,0,i64.wrap (andI u8 (shrI u8 op 3) 7),0,0)))) (.br (x4) (.Lf (some ((bif x5 then 19 else bif x6 then 20 else bif x7 then 21 else 22,1,0,0,0,0,0,0)))) (.Lf none)))))))) (.Lf none))
def ZUs (op:Int):QT6:=getO ZzR.Df (ZLt op).val
def ZLu (op:Int):Bool:=okB (ZLt op).val
def ZSn:En:=Zg ZLs ZzR (λa=>some (ZLu a)) (λa=>ZUs a)
theorem ZP8:Za prog 225 ZSn:=
 pureP 614758941389750335 [] [] ZLs ZzR trivial Tryz.func225 Tryz.call225 trivial (t:=λa=>ZLt a)
abbrev ZDK:List Sh:=[Sh.one (R.int u8)]
abbrev Zsx:Rs:=Rs.one (Sh.agg (R.Pq (R.int i64) (R.Pq (R.int i64) (R.Pq (R.int i64) (R.Pq (R.int i64) (R.Pq (R.int i64) (R.Pq (R.int i64) (R.Pq (R.int i64) (R.int i64)))))))))
def ZzS (op:Int):RT (Option TI):=
 let x1:QT29:=(0,0,0,0,i64.wrap (andI u8 (shrI u8 op 3) 7),0)
 let x2:QT24:=(1,0,0,i64.wrap (andI u8 (shrI u8 op 4) 3),0,0,0)
 let x3:=andI u8 op 7==2||(!andI u8 op 7==3||(!decide (i64.wrap (andI u8 (shrI u8 op 3) 7)<4)||decide (0<=i64.wrap (i64.wrap (andI u8 (shrI u8 op 3) 7)-2)/\i64.wrap (i64.wrap (andI u8 (shrI u8 op 3) 7)-2)<2)))
 let x4:QT24:=(3,x1)
 .br (andI u8 op 7==0) (.Lf (some ((26,1,x1)))) (.br (andI u8 op 7==1) (.br (!andI u8 op 8 !=0) (.Lf (some ((31,x2)))) (.br (i64.wrap (andI u8 (shrI u8 op 3) 7)==5) (.Lf (some ((28,1,0,0,0,0,0,0)))) (.Lf (some ((29,1,0,0,0,0,0,0)))))) (.br (!x3||(andI u8 op 7==2||(!andI u8 op 7==3||(decide (i64.wrap (andI u8 (shrI u8 op 3) 7)<4)||decide (0<=i64.wrap (i64.wrap (andI u8 (shrI u8 op 3) 7)-4)/\i64.wrap (i64.wrap (andI u8 (shrI u8 op 3) 7)-4)<4))))) (.br (x3) (.br (andI u8 op 7==2) (.Lf (some ((24,x4)))) (.br (andI u8 op 7==3) (.br (decide (i64.wrap (andI u8 (shrI u8 op 3) 7)<4)) (.Lf (some ((bif i64.wrap (i64.wrap (andI u8 (shrI u8 op 3) 7)-2)==0 then 34 else 33,2,0,0,0,0,0,0)))) (.Lf (some ((bif i64.wrap (i64.wrap (andI u8 (shrI u8 op 3) 7)-4)==0 then 32 else bif i64.wrap (i64.wrap (andI u8 (shrI u8 op 3) 7)-4)== ↑(0+1) then 11 else bif i64.wrap (i64.wrap (andI u8 (shrI u8 op 3) 7)-4)== ↑(0+1+1) then 36 else 35,1,0,0,0,0,0,0))))) (.br (andI u8 op 7==4) (.Lf (some ((25,x4)))) (.br (andI u8 op 7==5) (.Lf (some ((30,x2)))) (.br (andI u8 op 7==6) (.Lf (some ((13,2,0,0,0,i64.wrap (andI u8 (shrI u8 op 3) 7),0,0)))) (.Lf (some ((27,1,0,0,0,0,0,i64.wrap (andI u8 (shrI u8 op 3) 7)))))))))) (.Lf none)) (.Lf none)))
def ZLx (op:Int):QT6:=getO Zsx.Df (ZzS op).val
def ZzT (op:Int):Bool:=okB (ZzS op).val
def ZLw:En:=Zg ZDK Zsx (λa=>some (ZzT a)) (λa=>ZLx a)
theorem ZLv:Za prog 226 ZLw:=
 pureP 614741495173873727 [] [] ZDK Zsx trivial Tryz.func226 Tryz.call226 trivial (t:=λa=>ZzS a)
abbrev Zif:List Sh:=[Sh.one (R.int i64),Sh.one (R.int u8)]
abbrev Zig:Rs:=Rs.one (Sh.agg (R.Pq (R.int i64) (R.Pq (R.int i64) (R.Pq (R.int i64) (R.Pq (R.int i64) (R.Pq (R.int i64) (R.Pq (R.int i64) (R.Pq (R.int i64) (R.int i64)))))))))
def Ze7 (chip:Int) (op:Int):RT (Option TI):=
 let x1:QT6:=(37,1,0,0,0,0,0,0)
 let x2:QT6:=(2,1,i64.wrap (andI u8 (shrI u8 op 3) 7),i64.wrap (andI u8 op 7),0,0,0,0)
 let x3:QT6:=(12,1,0,i64.wrap (andI u8 op 7),0,i64.wrap (andI u8 (shrI u8 op 3) 7),0,0)
 .br (chip==2) (.br (ZLH op).2 (.Lf (some (ZLH op).1)) (.br (Zie op).2 (.Lf (some (Zie op).1)) (.br (!shrI u8 op 6==0||ZLu op) (.br (shrI u8 op 6==0) (.Lf (some (ZUs op))) (.br (shrI u8 op 6==1) (.br (op==118) (.Lf (some (x1))) (.Lf (some (x2)))) (.br (shrI u8 op 6==2) (.Lf (some (x3))) (.br (ZzT op) (.Lf (some (ZLx op))) (.Lf none))))) (.Lf none)))) (.br (Zie op).2 (.Lf (some (Zie op).1)) (.br (!shrI u8 op 6==0||ZLu op) (.br (shrI u8 op 6==0) (.Lf (some (ZUs op))) (.br (shrI u8 op 6==1) (.br (op==118) (.Lf (some (x1))) (.Lf (some (x2)))) (.br (shrI u8 op 6==2) (.Lf (some (x3))) (.br (ZzT op) (.Lf (some (ZLx op))) (.Lf none))))) (.Lf none)))
def ZnK (chip:Int) (op:Int):QT6:=getO Zig.Df (Ze7 chip op).val
def ZkM (chip:Int) (op:Int):Bool:=okB (Ze7 chip op).val
def ZQi:En:=Zg Zif Zig (λa=>some (ZkM a.1 a.2)) (λa=>ZnK a.1 a.2)
theorem ZGZ:Za prog 154 ZQi:=
 pureP 17594467746303 [(223,ZLG),(224,Zwa),(225,ZSn),(226,ZLw)] [] Zif Zig ⟨ZLE,ZAP,ZP8,ZLv,Tv⟩ Tryz.func154 Tryz.call154 trivial (t:=λa=>Ze7 a.1 a.2)
abbrev ZWl:List Sh:=[Sh.one (R.int i64)]
abbrev ZWm:Rs:=Rs.one (Sh.one R.bool)
def rOnT (chip:Int):RT (Bool):=
 .Lf (chip==2)
def rOn (chip:Int):Bool:=(rOnT chip).val
def rOnE:En:=Zg ZWl ZWm (λ_=>none) (λa=>rOn a)
theorem ZpS:Za prog 171 rOnE:=
 pureQ 7 [] [] ZWl ZWm trivial Tryz.func171 Tryz.call171 trivial (t:=λa=>rOnT a)
abbrev Zvm:List Sh:=[Sh.one (R.int u8)]
abbrev Zvn:Rs:=Rs.one (Sh.one R.bool)
def ZCR (b:Int):RT (Bool):=
 let x1:=i64.wrap (i64.wrap (i64.wrap (i64.wrap (0+1)+1)+1)+1)
 let x2:=i64.wrap (x1+1)
 let x3:=i64.wrap (x2+1)
 let x4:=bif andI u8 (shrI u8 b (i64.wrap (0+1))) 1==1 then !!andI u8 (shrI u8 b 0) 1==1 else !andI u8 (shrI u8 b 0) 1==1
 let x5:=bif andI u8 (shrI u8 b (i64.wrap (i64.wrap (0+1)+1))) 1==1 then !x4 else x4
 let x6:=bif andI u8 (shrI u8 b (i64.wrap (i64.wrap (i64.wrap (0+1)+1)+1))) 1==1 then !x5 else x5
 let x7:=bif andI u8 (shrI u8 b x1) 1==1 then !x6 else x6
 let x8:=bif andI u8 (shrI u8 b x2) 1==1 then !x7 else x7
 let x9:=bif andI u8 (shrI u8 b x3) 1==1 then !x8 else x8
 .Lf (bif andI u8 (shrI u8 b (i64.wrap (x3+1))) 1==1 then !x9 else x9)
def ZlE (b:Int):Bool:=(ZCR b).val
def ZCS:En:=Zg Zvm Zvn (λ_=>none) (λa=>ZlE a)
theorem ZFt:Za prog 375 ZCS:=
 ZDe (P:=prog) (n:=31) (k:=10) (l:=[]) (ol:=[]) trivial Tryz.func375 rfl (by kernel_rfl) Tryz.call375 trivial (ts:=Zvm) (rs:=Zvn) (t:=λa=>ZCR a) (λa=>by kernel_rfl)
abbrev ZRW:List Sh:=[Sh.one R.bool,Sh.one R.bool,Sh.one R.bool]
abbrev ZRX:Rs:=Rs.one (Sh.one R.bool)
def ZWr (a:Bool) (b:Bool) (c:Bool):RT (Bool):=
 .Lf (bif a then b||bif a then c||b&&c else b&&c else bif a then c||b&&c else b&&c)
def rMaj (a:Bool) (b:Bool) (c:Bool):Bool:=(ZWr a b c).val
def ZTS:En:=Zg ZRW ZRX (λ_=>none) (λa=>rMaj a.1 a.2.1 a.2.2)
theorem ZJI:Za prog 371 ZTS:=
 pureQ 127 [] [] ZRW ZRX trivial Tryz.func371 Tryz.call371 trivial (t:=λa=>ZWr a.1 a.2.1 a.2.2)
abbrev ZRO:List Sh:=[Sh.one R.bool]
abbrev ZRP:Rs:=Rs.one (Sh.one (R.int i64))
def ZWk (b:Bool):RT (Int):=
 .br (b) (.Lf (1)) (.Lf (0))
def rOne (b:Bool):Int:=(ZWk b).val
def ZTO:En:=Zg ZRO ZRP (λ_=>none) (λa=>rOne a)
theorem ZJw:Za prog 376 ZTO:=
 pureQ 7 [] [] ZRO ZRP trivial Tryz.func376 Tryz.call376 trivial (t:=λa=>ZWk a)
abbrev Zvh:List Sh:=[Sh.one (R.int u8)]
abbrev Zvi:Rs:=Rs.one (Sh.one (R.int i64))
def Zky (n:Int):RT (Int):=
 .Lf (i64.wrap (IntKind.i8.wrap n))
def ZdK (n:Int):Int:=(Zky n).val
def Zrr:En:=Zg Zvh Zvi (λ_=>none) (λa=>ZdK a)
theorem ZpP:Za prog 389 Zrr:=
 pureQ 7 [] [] Zvh Zvi trivial Tryz.func389 Tryz.call389 trivial (t:=λa=>Zky a)
abbrev ZRI:List Sh:=[Sh.one (R.int u8),Sh.one (R.int u8),Sh.one R.bool]
abbrev ZRJ:Rs:=Rs.tup [Sh.one (R.int u8),Sh.one R.bool,Sh.one R.bool,Sh.one R.bool]
def ZO9 (a:Int) (b:Int) (c:Bool):RT (QT20):=
 let x1:=decide (i64.wrap (i64.wrap (ZdK a+ZdK b)+rOne c)< -128)
 let x2:=i64.wrap (i64.wrap (i64.wrap a+i64.wrap b)+rOne c)
 let x3:=u8.wrap x2
 let x4:=decide (x2>255)
 let x5:=decide (i64.wrap (i64.wrap (i64.wrap (andI u8 a 15)+i64.wrap (andI u8 b 15))+rOne c)>15)
 .Lf ((bif x1 then x3 else x3,bif x1 then x4 else x4,bif x1 then x5 else x5,x1||decide (i64.wrap (i64.wrap (ZdK a+ZdK b)+rOne c)>127)))
def rSum (a:Int) (b:Int) (c:Bool):QT20:=(ZO9 a b c).val
def ZWc:En:=Zg ZRI ZRJ (λ_=>none) (λa=>rSum a.1 a.2.1 a.2.2)
theorem ZTH:Za prog 367 ZWc:=
 pureQ 8191 [(376,ZTO),(389,Zrr)] [] ZRI ZRJ ⟨ZJw,ZpP,Tv⟩ Tryz.func367 Tryz.call367 trivial (t:=λa=>ZO9 a.1 a.2.1 a.2.2)
abbrev ZJX:List Sh:=[Sh.one (R.int u8),Sh.one (R.int u8),Sh.one R.bool]
abbrev ZJY:Rs:=Rs.tup [Sh.one (R.int u8),Sh.one R.bool,Sh.one R.bool,Sh.one R.bool]
def ZC2 (a:Int) (b:Int) (c:Bool):RT (QT20):=
 let x1:=decide (i64.wrap (i64.wrap (ZdK a-ZdK b)-rOne c)< -128)
 let x2:=i64.wrap (i64.wrap (i64.wrap a-i64.wrap b)-rOne c)
 let x3:=u8.wrap x2
 let x4:=decide (x2<0)
 let x5:=decide (i64.wrap (i64.wrap (i64.wrap (i64.wrap (andI u8 a 15)+i64.wrap (u8.wrap (15-andI u8 b 15)))+1)-rOne c)>15)
 .Lf ((bif x1 then x3 else x3,bif x1 then x4 else x4,bif x1 then x5 else x5,x1||decide (i64.wrap (i64.wrap (ZdK a-ZdK b)-rOne c)>127)))
def Zcl (a:Int) (b:Int) (c:Bool):QT20:=(ZC2 a b c).val
def ZR2:En:=Zg ZJX ZJY (λ_=>none) (λa=>Zcl a.1 a.2.1 a.2.2)
theorem ZPq:Za prog 368 ZR2:=
 pureQ 8191 [(376,ZTO),(389,Zrr)] [] ZJX ZJY ⟨ZJw,ZpP,Tv⟩ Tryz.func368 Tryz.call368 trivial (t:=λa=>ZC2 a.1 a.2.1 a.2.2)
abbrev ZJM:List Sh:=[Sh.one (R.int u8),Sh.one (R.int u8)]
abbrev ZJN:Rs:=Rs.one (Sh.one (R.int u16))
def ZRY (h:Int) (l:Int):RT (Int):=
 .Lf (orI u16 (shlI u16 (u16.wrap h) 8) (u16.wrap l))
def ZeC (h:Int) (l:Int):Int:=(ZRY h l).val
def ZpV:En:=Zg ZJM ZJN (λ_=>none) (λa=>ZeC a.1 a.2)
theorem ZkC:Za prog 325 ZpV:=
 pureQ 31 [] [] ZJM ZJN trivial Tryz.func325 Tryz.call325 trivial (t:=λa=>ZRY a.1 a.2)
abbrev ZR6:List Sh:=[Sh.one R.bool,Sh.one (R.int i64)]
abbrev ZJ0:Rs:=Rs.one (Sh.one (R.int u8))
def ZPt (b:Bool) (n:Int):RT (Option (Int)):=
 .br (!b||decide (0<=n)) (.br (b) (.Lf (some (shlI u8 1 n))) (.Lf (some (0)))) (.Lf none)
def rBit (b:Bool) (n:Int):Int:=getO ZJ0.Df (ZPt b n).val
def Zdq (b:Bool) (n:Int):Bool:=okB (ZPt b n).val
def ZWz:En:=Zg ZR6 ZJ0 (λa=>some (Zdq a.1 a.2)) (λa=>rBit a.1 a.2)
theorem ZTZ:Za prog 374 ZWz:=
 pureP 31 [] [] ZR6 ZJ0 trivial Tryz.func374 Tryz.call374 trivial (t:=λa=>ZPt a.1 a.2)
abbrev ZJp:List Sh:=[Sh.one (R.int i64),Sh.agg rcF7]
abbrev Zyh:Rs:=Rs.one (Sh.one (R.int u8))
def Zvp (chip:Int) (f:TF):RT (Option (Int)):=
 let x1:=orI u8 (orI u8 (orI u8 (orI u8 (rBit f.1 7) (rBit f.2.1 6)) (rBit f.2.2.2.1 4)) (rBit f.2.2.2.2.1 2)) (rBit f.2.2.2.2.2.2 0)
 .br (!Zdq f.1 7||(!Zdq f.2.1 6||(!Zdq f.2.2.2.1 4||(!Zdq f.2.2.2.2.1 2||Zdq f.2.2.2.2.2.2 0)))) (.br (!Zdq f.1 7||(!Zdq f.2.1 6||(!Zdq f.2.2.2.1 4||Zdq f.2.2.2.2.1 2))) (.br (!Zdq f.1 7||(!Zdq f.2.1 6||Zdq f.2.2.2.1 4)) (.br (!Zdq f.1 7||Zdq f.2.1 6) (.br (Zdq f.1 7) (.br (!rOn chip||(!Zdq f.2.2.1 5||Zdq f.2.2.2.2.2.1 1)) (.br (!rOn chip||Zdq f.2.2.1 5) (.br (rOn chip) (.Lf (some (orI u8 (orI u8 x1 (rBit f.2.2.1 5)) (rBit f.2.2.2.2.2.1 1)))) (.Lf (some (orI u8 x1 2)))) (.Lf none)) (.Lf none)) (.Lf none)) (.Lf none)) (.Lf none)) (.Lf none)) (.Lf none)
def ZPh (chip:Int) (f:TF):Int:=getO Zyh.Df (Zvp chip f).val
def ZCT (chip:Int) (f:TF):Bool:=okB (Zvp chip f).val
def ZRN:En:=Zg ZJp Zyh (λa=>some (ZCT a.1 a.2)) (λa=>ZPh a.1 a.2)
theorem ZPg:Za prog 377 ZRN:=
 pureP 63 [(171,rOnE),(374,ZWz)] [] ZJp Zyh ⟨ZpS,ZTZ,Tv⟩ Tryz.func377 Tryz.call377 trivial (t:=λa=>Zvp a.1 a.2)
def ZCE (chip:Int) (b:Int):RT TF:=
 .Lf ((andI u8 b 128 !=0,andI u8 b 64 !=0,rOn chip&&andI u8 b 32 !=0,andI u8 b 16 !=0,andI u8 b 4 !=0,rOn chip&&andI u8 b 2 !=0,andI u8 b 1 !=0))
def Zx7 (chip:Int) (b:Int):TF:=(ZCE chip b).val
abbrev ZWo:List Sh:=[Sh.one (R.int u8)]
abbrev ZWp:Rs:=Rs.one (Sh.agg rcF7)
def rOfT (r:Int):RT TF:=
 .Lf ((decide (r>=128),r==0,false,false,ZlE r,false,false))
def rOf (r:Int):TF:=(rOfT r).val
def rOfE:En:=Zg ZWo ZWp (λ_=>none) (λa=>rOf a)
theorem ZRT:Za prog 369 rOfE:=
 pureQ 7 [(375,ZCS)] [] ZWo ZWp ⟨ZFt,Tv⟩ Tryz.func369 Tryz.call369 trivial (t:=λa=>rOfT a)
abbrev ZJt:List Sh:=[Sh.one (R.int i64),Sh.agg rcF7,Sh.one R.bool,Sh.one R.bool]
abbrev ZJu:Rs:=Rs.one (Sh.agg rcF7)
def ZpR (chip:Int) (f:TF) (k:Bool) (v:Bool):RT TF:=
 .Lf ((f.1,f.2.1,rOn chip&&bif rOn chip then k else k,f.2.2.2.1,f.2.2.2.2.1,bif rOn chip then rOn chip&&v else rOn chip&&v,f.2.2.2.2.2.2))
def Zo8 (chip:Int) (f:TF) (k:Bool) (v:Bool):TF:=(ZpR chip f k v).val
def ZJv:En:=Zg ZJt ZJu (λ_=>none) (λa=>Zo8 a.1 a.2.1 a.2.2.1 a.2.2.2)
theorem ZCV:Za prog 370 ZJv:=
 pureQ 511 [(171,rOnE)] [] ZJt ZJu ⟨ZpS,Tv⟩ Tryz.func370 Tryz.call370 trivial (t:=λa=>ZpR a.1 a.2.1 a.2.2.1 a.2.2.2)
abbrev ZJR:List Sh:=[Sh.agg ZhP,Sh.one (R.int i64)]
abbrev ZC1:Rs:=Rs.one (Sh.one (R.int u8))
def ZJS (r:TR) (n:Int):RT (Option (Int)):=
 .br (decide (0<=andI i64 n 7/\andI i64 n 7<8)) (.Lf (some (bif andI i64 n 7==0 then r.2.1 else bif andI i64 n 7== ↑(0+1) then r.2.2.1 else bif andI i64 n 7== ↑(0+1+1) then r.2.2.2.1 else bif andI i64 n 7== ↑(0+1+1+1) then r.2.2.2.2.1 else bif andI i64 n 7== ↑(0+1+1+1+1) then r.2.2.2.2.2.1 else bif andI i64 n 7== ↑(0+1+1+1+1+1) then r.2.2.2.2.2.2.1 else bif andI i64 n 7== ↑(0+1+1+1+1+1+1) then 0 else r.1))) (.Lf none)
def rGet (r:TR) (n:Int):Int:=getO ZC1.Df (ZJS r n).val
def ZFG (r:TR) (n:Int):Bool:=okB (ZJS r n).val
def ZWu:En:=Zg ZJR ZC1 (λa=>some (ZFG a.1 a.2)) (λa=>rGet a.1 a.2)
theorem ZJQ:Za prog 311 ZWu:=
 pureP 31 [] [] ZJR ZC1 trivial Tryz.func311 Tryz.call311 trivial (t:=λa=>ZJS a.1 a.2)
def ZWe (r:TR) (n:Int) (v:Int):RT TR:=
 .Lf ((bif andI i64 n 7==0 then r.1 else bif andI i64 n 7==1 then r.1 else bif andI i64 n 7==2 then r.1 else bif andI i64 n 7==3 then r.1 else bif andI i64 n 7==4 then r.1 else bif andI i64 n 7==5 then r.1 else bif andI i64 n 7==7 then v else r.1,bif andI i64 n 7==0 then v else r.2.1,bif andI i64 n 7==0 then r.2.2.1 else bif andI i64 n 7==1 then v else r.2.2.1,bif andI i64 n 7==0 then r.2.2.2.1 else bif andI i64 n 7==1 then r.2.2.2.1 else bif andI i64 n 7==2 then v else r.2.2.2.1,bif andI i64 n 7==0 then r.2.2.2.2.1 else bif andI i64 n 7==1 then r.2.2.2.2.1 else bif andI i64 n 7==2 then r.2.2.2.2.1 else bif andI i64 n 7==3 then v else r.2.2.2.2.1,bif andI i64 n 7==0 then r.2.2.2.2.2.1 else bif andI i64 n 7==1 then r.2.2.2.2.2.1 else bif andI i64 n 7==2 then r.2.2.2.2.2.1 else bif andI i64 n 7==3 then r.2.2.2.2.2.1 else bif andI i64 n 7==4 then v else r.2.2.2.2.2.1,bif andI i64 n 7==0 then r.2.2.2.2.2.2.1 else bif andI i64 n 7==1 then r.2.2.2.2.2.2.1 else bif andI i64 n 7==2 then r.2.2.2.2.2.2.1 else bif andI i64 n 7==3 then r.2.2.2.2.2.2.1 else bif andI i64 n 7==4 then r.2.2.2.2.2.2.1 else bif andI i64 n 7==5 then v else r.2.2.2.2.2.2.1,r.2.2.2.2.2.2.2))
def rSet (r:TR) (n:Int) (v:Int):TR:=(ZWe r n v).val
abbrev Zyf:List Sh:=[Sh.agg ZhP,Sh.one (R.int i64)]
abbrev Zrv:Rs:=Rs.one (Sh.one (R.int u16))
def Zvo (r:TR) (n:Int):RT (Option (Int)):=
 .br (andI i64 n 3==3) (.Lf (some r.2.2.2.2.2.2.2.2.1)) (.br (!ZFG r (i64.wrap (2*andI i64 n 3))||ZFG r (i64.wrap (i64.wrap (2*andI i64 n 3)+1))) (.br (ZFG r (i64.wrap (2*andI i64 n 3))) (.Lf (some (ZeC (rGet r (i64.wrap (2*andI i64 n 3))) (rGet r (i64.wrap (i64.wrap (2*andI i64 n 3)+1)))))) (.Lf none)) (.Lf none))
def Zbe (r:TR) (n:Int):Int:=getO Zrv.Df (Zvo r n).val
def ZJn (r:TR) (n:Int):Bool:=okB (Zvo r n).val
def ZWj:En:=Zg Zyf Zrv (λa=>some (ZJn a.1 a.2)) (λa=>Zbe a.1 a.2)
theorem ZPf:Za prog 244 ZWj:=
 pureP 31 [(311,ZWu),(325,ZpV)] [] Zyf Zrv ⟨ZJQ,ZkC,Tv⟩ Tryz.func244 Tryz.call244 trivial (t:=λa=>Zvo a.1 a.2)
def Zvj (r:TR) (n:Int) (v:Int):RT TR:=
 .br (andI i64 n 3==3) (.Lf ((r.1,r.2.1,r.2.2.1,r.2.2.2.1,r.2.2.2.2.1,r.2.2.2.2.2.1,r.2.2.2.2.2.2.1,r.2.2.2.2.2.2.2.1,v,r.2.2.2.2.2.2.2.2.2))) (.Lf (rSet (rSet r (i64.wrap (2*andI i64 n 3)) (u8.wrap (shrI u16 v 8))) (i64.wrap (i64.wrap (2*andI i64 n 3)+1)) (u8.wrap v)))
def ZP (r:TR) (n:Int) (v:Int):TR:=(Zvj r n v).val
abbrev ZJq:List Sh:=[Sh.one (R.int i64),Sh.agg ZhP]
abbrev ZCU:Rs:=Rs.one (Sh.one (R.int u16))
def ZJr (chip:Int) (r:TR):RT (Option (Int)):=
 .br (ZCT chip r.2.2.2.2.2.2.2.1) (.Lf (some (ZeC r.1 (ZPh chip r.2.2.2.2.2.2.2.1)))) (.Lf none)
def rPSW (chip:Int) (r:TR):Int:=getO ZCU.Df (ZJr chip r).val
def ZTN (chip:Int) (r:TR):Bool:=okB (ZJr chip r).val
def rPSWE:En:=Zg ZJq ZCU (λa=>some (ZTN a.1 a.2)) (λa=>rPSW a.1 a.2)
theorem ZTM:Za prog 332 rPSWE:=
 pureP 31 [(325,ZpV),(377,ZRN)] [] ZJq ZCU ⟨ZkC,ZPg,Tv⟩ Tryz.func332 Tryz.call332 trivial (t:=λa=>ZJr a.1 a.2)
def ZCG (chip:Int) (r:TR) (v:Int):RT TR:=
 .Lf ((u8.wrap (shrI u16 v 8),r.2.1,r.2.2.1,r.2.2.2.1,r.2.2.2.2.1,r.2.2.2.2.2.1,r.2.2.2.2.2.2.1,Zx7 chip (u8.wrap v),r.2.2.2.2.2.2.2.2))
def ZlD (chip:Int) (r:TR) (v:Int):TR:=(ZCG chip r v).val
def rDoT (chip:Int) (op:Int) (a:Int) (b:Int) (f:TF):RT (QT2):=
 let x1:=bif andI i64 op 7==0 then andI i64 op 7==0 else andI i64 op 7==1
 let x2:=bif andI i64 op 7==2 then andI i64 op 7==2 else bif andI i64 op 7==3 then andI i64 op 7==3 else andI i64 op 7==7
 let x3:Int:=bif x1 then bif andI i64 op 7==1 then (rSum a b f.2.2.2.2.2.2).1 else (rSum a b false).1 else bif x2 then bif andI i64 op 7==3 then (Zcl a b f.2.2.2.2.2.2).1 else (Zcl a b false).1 else bif andI i64 op 7==4 then bif rOn chip then andI u8 a b else andI u8 a b else bif andI i64 op 7==5 then xorI u8 a b else bif andI i64 op 7==6 then orI u8 a b else 0
 let x4:=rOf x3
 let x5:=x4.2
 let x6:=x5.2
 let x7:=x6.2.2
 let x8:=Zo8 chip (x4.1,x5.1,x6.1,bif x1 then bif andI i64 op 7==1 then (rSum a b f.2.2.2.2.2.2).2.2.1 else (rSum a b false).2.2.1 else bif x2 then bif andI i64 op 7==3 then (Zcl a b f.2.2.2.2.2.2).2.2.1 else (Zcl a b false).2.2.1 else andI i64 op 7==4&&(rOn chip||andI u8 (orI u8 a b) 8 !=0),x7.1,x7.2.1,bif x1 then bif andI i64 op 7==1 then (rSum a b f.2.2.2.2.2.2).2.1 else (rSum a b false).2.1 else x2&&bif andI i64 op 7==3 then (Zcl a b f.2.2.2.2.2.2).2.1 else (Zcl a b false).2.1) (rMaj (decide (a>=128)) (bif x1 then decide (b>=128) else bif x2 then !decide (b>=128) else decide (b>=128)) (decide (x3>=128))) (bif x1 then bif andI i64 op 7==1 then (rSum a b f.2.2.2.2.2.2).2.2.2 else (rSum a b false).2.2.2 else x2&&bif andI i64 op 7==3 then (Zcl a b f.2.2.2.2.2.2).2.2.2 else (Zcl a b false).2.2.2)
 .br (andI i64 op 7==7) (.Lf ((a,x8))) (.Lf ((x3,x8)))
def rDo (chip:Int) (op:Int) (a:Int) (b:Int) (f:TF):QT2:=(rDoT chip op a b f).val
abbrev ZRZ:List Sh:=[Sh.one (R.int i64),Sh.one (R.int u8),Sh.agg rcF7]
abbrev ZR0:Rs:=Rs.tup [Sh.one (R.int u8),Sh.agg rcF7]
def ZTU (chip:Int) (v:Int) (f:TF):RT (QT2):=
 .Lf (((rSum v 1 false).1,Zo8 chip ((rOf (rSum v 1 false).1).1,(rOf (rSum v 1 false).1).2.1,(rOf (rSum v 1 false).1).2.2.1,(rSum v 1 false).2.2.1,(rOf (rSum v 1 false).1).2.2.2.2.1,(rOf (rSum v 1 false).1).2.2.2.2.2.1,f.2.2.2.2.2.2) (rMaj (decide (v>=128)) false (decide ((rSum v 1 false).1>=128))) (rSum v 1 false).2.2.2))
def rInr (chip:Int) (v:Int) (f:TF):QT2:=(ZTU chip v f).val
def ZWt:En:=Zg ZRZ ZR0 (λ_=>none) (λa=>rInr a.1 a.2.1 a.2.2)
theorem ZTT:Za prog 372 ZWt:=
 pureQ 8191 [(367,ZWc),(369,rOfE),(370,ZJv),(371,ZTS)] [] ZRZ ZR0 ⟨ZTH,ZRT,ZCV,ZJI,Tv⟩ Tryz.func372 Tryz.call372 trivial (t:=λa=>ZTU a.1 a.2.1 a.2.2)
abbrev ZR4:List Sh:=[Sh.one (R.int i64),Sh.one (R.int u8),Sh.agg rcF7]
abbrev ZR5:Rs:=Rs.tup [Sh.one (R.int u8),Sh.agg rcF7]
def ZTY (chip:Int) (v:Int) (f:TF):RT (QT2):=
 .Lf (((Zcl v 1 false).1,Zo8 chip ((rOf (Zcl v 1 false).1).1,(rOf (Zcl v 1 false).1).2.1,(rOf (Zcl v 1 false).1).2.2.1,(Zcl v 1 false).2.2.1,(rOf (Zcl v 1 false).1).2.2.2.2.1,(rOf (Zcl v 1 false).1).2.2.2.2.2.1,f.2.2.2.2.2.2) (rMaj (decide (v>=128)) true (decide ((Zcl v 1 false).1>=128))) (Zcl v 1 false).2.2.2))
def rDcr (chip:Int) (v:Int) (f:TF):QT2:=(ZTY chip v f).val
def ZWw:En:=Zg ZR4 ZR5 (λ_=>none) (λa=>rDcr a.1 a.2.1 a.2.2)
theorem ZTX:Za prog 373 ZWw:=
 pureQ 8191 [(368,ZR2),(369,rOfE),(370,ZJv),(371,ZTS)] [] ZR4 ZR5 ⟨ZPq,ZRT,ZCV,ZJI,Tv⟩ Tryz.func373 Tryz.call373 trivial (t:=λa=>ZTY a.1 a.2.1 a.2.2)
def ZWs (chip:Int) (v:Int) (f:TF):RT (QT2):=
 .Lf ((u16.wrap (v+1),f.1,f.2.1,bif rOn chip then v==65535 else f.2.2.1,f.2.2.2))
def rInx (chip:Int) (v:Int) (f:TF):QT2:=(ZWs chip v f).val
def ZWv (chip:Int) (v:Int) (f:TF):RT (QT2):=
 .Lf ((u16.wrap (v-1),f.1,f.2.1,bif rOn chip then v==0 else f.2.2.1,f.2.2.2))
def rDcx (chip:Int) (v:Int) (f:TF):QT2:=(ZWv chip v f).val
def ZWx (chip:Int) (a:Int) (b:Int) (f:TF):RT (QT2):=
 .Lf ((u16.wrap (a+b),f.1,f.2.1,f.2.2.1,f.2.2.2.1,f.2.2.2.2.1,bif rOn chip then decide (i64.wrap (i64.wrap (IntKind.i16.wrap a)+i64.wrap (IntKind.i16.wrap b))< -32768)||decide (i64.wrap (i64.wrap (IntKind.i16.wrap a)+i64.wrap (IntKind.i16.wrap b))>32767) else f.2.2.2.2.2.1,decide (i64.wrap (i64.wrap a+i64.wrap b)>65535)))
def rDad (chip:Int) (a:Int) (b:Int) (f:TF):QT2:=(ZWx chip a b f).val
def ZR1 (a:Int) (b:Int):RT (QT2):=
 let x1:=Zcl (u8.wrap (shrI u16 a 8)) (u8.wrap (shrI u16 b 8)) (Zcl (u8.wrap a) (u8.wrap b) false).2.1
 let x2:=x1.1
 let x3:=x2==0
 let x4:=ZeC x2 (Zcl (u8.wrap a) (u8.wrap b) false).1
 let x5:=decide (x2>=128)
 let x6:=rMaj (decide (a>=32768)) (decide (b<32768)) x5
 let x7:=x1.2
 let x8:=x7.2
 let x9:=x8.1
 let x10:=ZlE x2
 let x11:=x8.2
 let x12:=x7.1
 .Lf ((bif x3 then x4 else x4,bif x3 then x5 else x5,x3&&(Zcl (u8.wrap a) (u8.wrap b) false).1==0,bif x3 then x6 else x6,bif x3 then x9 else x9,bif x3 then x10 else x10,bif x3 then x11 else x11,bif x3 then x12 else x12))
def ZJW (a:Int) (b:Int):QT2:=(ZR1 a b).val
def ZWy (chip:Int) (a:Int) (f:TF):RT (QT2):=
 let x1:Int:=bif f.2.2.2.1||decide (andI u8 a 15>9) then 6 else 0
 let x2:=rSum a (bif f.2.2.2.2.2.2||decide (a>153) then u8.wrap (x1+96) else x1) false
 let x3:=x2.1
 let x4:=rOf x3
 let x5:=x4.2
 let x6:=x5.2
 let x7:=x2.2.2
 let x8:=x6.2.2
 .Lf ((x3,Zo8 chip (x4.1,x5.1,x6.1,x7.1,x8.1,x8.2.1,f.2.2.2.2.2.2||decide (a>153)) (rMaj (decide (a>=128)) false (decide (x3>=128))) x7.2))
def rDaa (chip:Int) (a:Int) (f:TF):QT2:=(ZWy chip a f).val
abbrev ZWg:Rs:=Rs.tup [Sh.one (R.int u8),Sh.one R.bool]
def ZWf (op:Int) (a:Int) (c:Bool):RT (Option (Int×Bool)):=
 .br (andI i64 op 3==0||(andI i64 op 3==1||(!andI i64 op 3==2||Zdq c 0))) (.br (andI i64 op 3==0) (.Lf (some ((orI u8 (shlI u8 a 1) (shrI u8 a 7),decide (a>=128))))) (.br (andI i64 op 3==1) (.Lf (some ((orI u8 (shrI u8 a 1) (shlI u8 a 7),andI u8 a 1==1)))) (.br (andI i64 op 3==2) (.Lf (some ((orI u8 (shlI u8 a 1) (rBit c 0),decide (a>=128))))) (.br (Zdq c 7) (.Lf (some ((orI u8 (shrI u8 a 1) (rBit c 7),andI u8 a 1==1)))) (.Lf none))))) (.Lf none)
def rRot (op:Int) (a:Int) (c:Bool):Int×Bool:=getO ZWg.Df (ZWf op a c).val
def ZWB (v:Int):RT (Int×Bool):=
 .Lf ((orI u16 (shrI u16 v 1) (andI u16 v 32768),andI u16 v 1==1))
def ZPv (v:Int):Int×Bool:=(ZWB v).val
abbrev ZTL:Rs:=Rs.tup [Sh.one (R.int u16),Sh.one R.bool,Sh.one R.bool]
def ZRL (v:Int) (c:Bool):RT (Option (Int×Bool×Bool)):=
 .br (Zdq c 0) (.Lf (some ((orI u16 (shlI u16 v 1) (u16.wrap (rBit c 0)),decide (v>=32768),andI u16 (orI u16 (shlI u16 v 1) (u16.wrap (rBit c 0))) 32768 !=andI u16 v 32768)))) (.Lf none)
def ZJg (v:Int) (c:Bool):Int×Bool×Bool:=getO ZTL.Df (ZRL v c).val
abbrev ZPu:Rs:=Rs.one (Sh.one (R.int u8))
def ZJ1 (b:Bool) (n:Int):RT (Option (Int)):=
 .br (decide (0<=n)) (.Lf (some (u8.wrap (shlI i64 (rOne b) n)))) (.Lf none)
def ZgW (b:Bool) (n:Int):Int:=getO ZPu.Df (ZJ1 b n).val
def Zar (b:Bool) (n:Int):Bool:=okB (ZJ1 b n).val
abbrev ZWh:Rs:=Rs.tup [Sh.one (R.int u8),Sh.agg Z5]
def ZPb (c:TC) (l:QT1):RT (Option (Int×TC)):=
 let x1:=bif c.2.2.2.2.2.2.2.2.2.2.1 then c.2.2.2.2.2.2.2.2.2.2.2.1 else c.2.2.1
 .br (!Zar l.2.2.2.1 7||(!Zar c.2.2.2.2.2.2.2.1 6||(!Zar l.2.2.2.2.2.2.1 5||(!Zar l.2.2.2.2.2.2.2.1 4||Zar x1 3)))) (.br (!Zar l.2.2.2.1 7||(!Zar c.2.2.2.2.2.2.2.1 6||(!Zar l.2.2.2.2.2.2.1 5||Zar l.2.2.2.2.2.2.2.1 4))) (.br (!Zar l.2.2.2.1 7||(!Zar c.2.2.2.2.2.2.2.1 6||Zar l.2.2.2.2.2.2.1 5)) (.br (!Zar l.2.2.2.1 7||Zar c.2.2.2.2.2.2.2.1 6) (.br (Zar l.2.2.2.1 7) (.Lf (some ((orI u8 (orI u8 (orI u8 (orI u8 (orI u8 (ZgW l.2.2.2.1 7) (ZgW c.2.2.2.2.2.2.2.1 6)) (ZgW l.2.2.2.2.2.2.1 5)) (ZgW l.2.2.2.2.2.2.2.1 4)) (ZgW x1 3)) (andI u8 c.2.2.2.2.2.1 7),c.1,c.2.1,c.2.2.1,c.2.2.2.1,c.2.2.2.2.1,c.2.2.2.2.2.1,c.2.2.2.2.2.2.1,c.2.2.2.2.2.2.2.1,c.2.2.2.2.2.2.2.2.1,c.2.2.2.2.2.2.2.2.2.1,false,false,c.2.2.2.2.2.2.2.2.2.2.2.2)))) (.Lf none)) (.Lf none)) (.Lf none)) (.Lf none)) (.Lf none)
def rRim (c:TC) (l:QT1):Int×TC:=getO ZWh.Df (ZPb c l).val
def ZWi (c:TC) (l:QT1):Bool:=okB (ZPb c l).val
def ZTJ (c:TC) (a:Int):RT TC:=
 .Lf ((c.1,c.2.1,c.2.2.1,c.2.2.2.1,c.2.2.2.2.1,bif andI u8 a 8 !=0 then andI u8 a 7 else c.2.2.2.2.2.1,c.2.2.2.2.2.2.1,!andI u8 a 16 !=0&&c.2.2.2.2.2.2.2.1,c.2.2.2.2.2.2.2.2.1,c.2.2.2.2.2.2.2.2.2.1,c.2.2.2.2.2.2.2.2.2.2.1,c.2.2.2.2.2.2.2.2.2.2.2.1,bif andI u8 a 64 !=0 then andI u8 a 128 !=0 else c.2.2.2.2.2.2.2.2.2.2.2.2))
def rSim (c:TC) (a:Int):TC:=(ZTJ c a).val
abbrev ZCZ:List Sh:=[Sh.one (R.int i64),Sh.agg rcF7]
abbrev ZC0:Rs:=Rs.one (Sh.one R.bool)
def Zy2 (c:Int) (f:TF):RT (Bool):=
 .br (c==0) (.Lf (!f.2.1)) (.br (c==1) (.Lf f.2.1) (.br (c==2) (.Lf (!f.2.2.2.2.2.2)) (.br (c==3) (.Lf f.2.2.2.2.2.2) (.br (c==4) (.Lf (!f.2.2.2.2.1)) (.br (c==5) (.Lf f.2.2.2.2.1) (.br (c==6) (.Lf (!f.1)) (.br (c==7) (.Lf f.1) (.br (c==8) (.Lf (!f.2.2.1)) (.br (c==9) (.Lf f.2.2.1) (.br (c==10) (.Lf f.2.2.2.2.2.1) (.Lf (c==11))))))))))))
def ZeD (c:Int) (f:TF):Bool:=(Zy2 c f).val
def ZJP:En:=Zg ZCZ ZC0 (λ_=>none) (λa=>ZeD a.1 a.2)
theorem ZJO:Za prog 365 ZJP:=
 pureQ 2397219371124831 [] [] ZCZ ZC0 trivial Tryz.func365 Tryz.call365 trivial (t:=λa=>Zy2 a.1 a.2)
def ZCD (s:Int):RT (Int):=
 .br (s==1) (.Lf (36)) (.br (s==2) (.Lf (60)) (.br (s==3) (.Lf (52)) (.br (s==4) (.Lf (44)) (.Lf (0)))))
def Zs (s:Int):Int:=(ZCD s).val
abbrev Zmk:List Sh:=[Sh.one (R.int i64)]
abbrev Zml:Rs:=Rs.one (Sh.one R.bool)
def Zi3 (s:Int):RT (Bool):=
 .Lf (decide (s>=1)&&decide (s<=4))
def Zd (s:Int):Bool:=(Zi3 s).val
def ZpW:En:=Zg Zmk Zml (λ_=>none) (λa=>Zd a)
theorem Zvu:Za prog 236 ZpW:=
 pureQ 7 [] [] Zmk Zml trivial Tryz.func236 Tryz.call236 trivial (t:=λa=>Zi3 a)
abbrev ZpN:List Sh:=[Sh.one (R.int u8)]
abbrev ZpO:Rs:=Rs.tup [Sh.agg (R.Pq (R.int i64) (R.Pq (R.int i64) (R.Pq (R.int i64) (R.Pq (R.int i64) (R.Pq (R.int i64) (R.Pq (R.int i64) (R.Pq (R.int i64) (R.int i64)))))))),Sh.one R.bool]
def Zvf (op:Int):RT (TI×Bool):=
 .br (op==8) (.Lf (((40,1,0,0,0,0,0,0),true))) (.br (op==16) (.Lf (((41,1,0,0,0,0,0,0),true))) (.br (op==24) (.Lf (((42,1,0,0,0,0,0,0),true))) (.br (op==32) (.Lf (((38,1,0,0,0,0,0,0),true))) (.br (op==40) (.Lf (((43,2,0,0,0,0,0,0),true))) (.br (op==48) (.Lf (((39,1,0,0,0,0,0,0),true))) (.br (op==56) (.Lf (((44,2,0,0,0,0,0,0),true))) (.br (op==203) (.Lf (((45,1,0,0,0,0,10,0),true))) (.br (op==217) (.Lf (((46,1,0,0,0,0,0,0),true))) (.br (op==221) (.Lf (((24,3,0,0,0,0,8,0),true))) (.br (op==237) (.Lf (((47,1,0,0,0,0,0,0),true))) (.br (op==253) (.Lf (((24,3,0,0,0,0,9,0),true))) (.Lf (((0,0,0,0,0,0,0,0),false))))))))))))))
def Zrq (op:Int):TI×Bool:=(Zvf op).val
def Zvg:En:=Zg ZpN ZpO (λ_=>none) (λa=>Zrq a)
theorem Zx9:Za prog 306 Zvg:=
 pureQ 314146179375 [] [] ZpN ZpO trivial Tryz.func306 Tryz.call306 trivial (t:=λa=>Zvf a)
abbrev ZJx:List Sh:=[Sh.one (R.int i64),Sh.one (R.int i64),Sh.one (R.int i64),Sh.one (R.int i64)]
abbrev Zyi:Rs:=Rs.one (Sh.agg (R.Pq (R.int i64) (R.Pq (R.int i64) (R.Pq (R.int i64) (R.Pq (R.int i64) (R.Pq (R.int i64) (R.Pq (R.int i64) (R.Pq (R.int i64) (R.int i64)))))))))
def ZJy (y:Int) (z:Int) (p:Int) (q:Int):RT (Option TI):=
 let x1:=decide (0<=i64.wrap (y-4)/\i64.wrap (y-4)<4)
 .br (z==0) (.Lf (some ((1,1,0,0,0,0,0,0)))) (.br (z==1) (.br (q==0) (.Lf (some ((4,3,0,0,p,0,0,0)))) (.Lf (some ((18,1,0,0,p,0,0,0))))) (.br (!z==2||((bif y==0 then y==0 else y==2)||((bif y==1 then y==1 else y==3)||x1))) (.br (z==2) (.br (bif y==0 then y==0 else y==2) (.Lf (some ((10,1,0,0,p,0,0,0)))) (.br (bif y==1 then y==1 else y==3) (.Lf (some ((9,1,0,0,p,0,0,0)))) (.Lf (some ((bif i64.wrap (y-4)==0 then 8 else bif i64.wrap (y-4)== ↑(0+1) then 7 else bif i64.wrap (y-4)== ↑(0+1+1) then 6 else 5,3,0,0,0,0,0,0)))))) (.br (!z==3||decide (0<=q/\q<2)) (.br (z==3) (.Lf (some ((bif q==0 then 16 else 17,1,0,0,p,0,0,0)))) (.br (z==4) (.Lf (some ((14,1,y,0,0,0,0,0)))) (.br (z==5) (.Lf (some ((15,1,y,0,0,0,0,0)))) (.br (z==6) (.Lf (some ((3,2,y,0,0,0,0,0)))) (.br (decide (y<4)) (.Lf (some ((23,1,0,0,0,y,0,0)))) (.br (x1) (.Lf (some ((bif i64.wrap (y-4)==0 then 19 else bif i64.wrap (y-4)== ↑(0+1) then 20 else bif i64.wrap (y-4)== ↑(0+1+1) then 21 else 22,1,0,0,0,0,0,0)))) (.Lf none))))))) (.Lf none))) (.Lf none)))
def ZWn (y:Int) (z:Int) (p:Int) (q:Int):QT6:=getO Zyi.Df (ZJy y z p q).val
def ZRR (y:Int) (z:Int) (p:Int) (q:Int):Bool:=okB (ZJy y z p q).val
def ZRQ:En:=Zg ZJx Zyi (λa=>some (ZRR a.1 a.2.1 a.2.2.1 a.2.2.2)) (λa=>ZWn a.1 a.2.1 a.2.2.1 a.2.2.2)
theorem ZPj:Za prog 307 ZRQ:=
 pureP 19211217472071167 [] [] ZJx Zyi trivial Tryz.func307 Tryz.call307 trivial (t:=λa=>ZJy a.1 a.2.1 a.2.2.1 a.2.2.2)
abbrev ZCW:List Sh:=[Sh.one (R.int i64),Sh.one (R.int i64),Sh.one (R.int i64),Sh.one (R.int i64)]
abbrev Zrw:Rs:=Rs.one (Sh.agg (R.Pq (R.int i64) (R.Pq (R.int i64) (R.Pq (R.int i64) (R.Pq (R.int i64) (R.Pq (R.int i64) (R.Pq (R.int i64) (R.Pq (R.int i64) (R.int i64)))))))))
def Zyj (y:Int) (z:Int) (p:Int) (q:Int):RT (Option TI):=
 .br (z==0) (.Lf (some ((26,1,0,0,0,0,y,0)))) (.br (z==1) (.br (q==0) (.Lf (some ((31,1,0,0,p,0,0,0)))) (.br (y==5) (.Lf (some ((28,1,0,0,0,0,0,0)))) (.br (y==7) (.Lf (some ((29,1,0,0,0,0,0,0)))) (.Lf (some ((26,1,0,0,0,0,11,0))))))) (.br (z==2||(!z==3||((bif y==0 then y==0 else y==1)||(y==2||(y==3||decide (0<=i64.wrap (y-4)/\i64.wrap (y-4)<4)))))) (.br (z==2) (.Lf (some ((24,3,0,0,0,0,y,0)))) (.br (z==3) (.br (bif y==0 then y==0 else y==1) (.Lf (some ((24,3,0,0,0,0,11,0)))) (.br (y==2) (.Lf (some ((34,2,0,0,0,0,0,0)))) (.br (y==3) (.Lf (some ((33,2,0,0,0,0,0,0)))) (.Lf (some ((bif i64.wrap (y-4)==0 then 32 else bif i64.wrap (y-4)== ↑(0+1) then 11 else bif i64.wrap (y-4)== ↑(0+1+1) then 36 else 35,1,0,0,0,0,0,0))))))) (.br (z==4) (.Lf (some ((25,3,0,0,0,0,y,0)))) (.br (z==5) (.br (q==0) (.Lf (some ((30,1,0,0,p,0,0,0)))) (.Lf (some ((25,3,0,0,0,0,11,0))))) (.br (z==6) (.Lf (some ((13,2,0,0,0,y,0,0)))) (.Lf (some ((27,1,0,0,0,0,0,y))))))))) (.Lf none)))
def ZRS (y:Int) (z:Int) (p:Int) (q:Int):QT6:=getO Zrw.Df (Zyj y z p q).val
def ZJB (y:Int) (z:Int) (p:Int) (q:Int):Bool:=okB (Zyj y z p q).val
def ZJA:En:=Zg ZCW Zrw (λa=>some (ZJB a.1 a.2.1 a.2.2.1 a.2.2.2)) (λa=>ZRS a.1 a.2.1 a.2.2.1 a.2.2.2)
theorem ZJz:Za prog 308 ZJA:=
 pureP 2324988294374376959 [] [] ZCW Zrw trivial Tryz.func308 Tryz.call308 trivial (t:=λa=>Zyj a.1 a.2.1 a.2.2.1 a.2.2.2)
abbrev ZhV:List Sh:=[Sh.one (R.int i64),Sh.one (R.int u8)]
abbrev ZhW:Rs:=Rs.one (Sh.agg (R.Pq (R.int i64) (R.Pq (R.int i64) (R.Pq (R.int i64) (R.Pq (R.int i64) (R.Pq (R.int i64) (R.Pq (R.int i64) (R.Pq (R.int i64) (R.int i64)))))))))
def Ze4 (chip:Int) (op:Int):RT (Option TI):=
 .br ((Zrq op).2&&rOn chip) (.Lf (some (Zrq op).1)) (.br (!shrI u8 op 6==0||ZRR (i64.wrap (andI u8 (shrI u8 op 3) 7)) (i64.wrap (andI u8 op 7)) (shrI i64 (i64.wrap (andI u8 (shrI u8 op 3) 7)) 1) (andI i64 (i64.wrap (andI u8 (shrI u8 op 3) 7)) 1)) (.br (shrI u8 op 6==0) (.Lf (some (ZWn (i64.wrap (andI u8 (shrI u8 op 3) 7)) (i64.wrap (andI u8 op 7)) (shrI i64 (i64.wrap (andI u8 (shrI u8 op 3) 7)) 1) (andI i64 (i64.wrap (andI u8 (shrI u8 op 3) 7)) 1)))) (.br (shrI u8 op 6==1) (.br (op==118) (.Lf (some ((37,1,0,0,0,0,0,0)))) (.Lf (some ((2,1,i64.wrap (andI u8 (shrI u8 op 3) 7),i64.wrap (andI u8 op 7),0,0,0,0))))) (.br (shrI u8 op 6==2) (.Lf (some ((12,1,0,i64.wrap (andI u8 op 7),0,i64.wrap (andI u8 (shrI u8 op 3) 7),0,0)))) (.br (ZJB (i64.wrap (andI u8 (shrI u8 op 3) 7)) (i64.wrap (andI u8 op 7)) (shrI i64 (i64.wrap (andI u8 (shrI u8 op 3) 7)) 1) (andI i64 (i64.wrap (andI u8 (shrI u8 op 3) 7)) 1)) (.Lf (some (ZRS (i64.wrap (andI u8 (shrI u8 op 3) 7)) (i64.wrap (andI u8 op 7)) (shrI i64 (i64.wrap (andI u8 (shrI u8 op 3) 7)) 1) (andI i64 (i64.wrap (andI u8 (shrI u8 op 3) 7)) 1)))) (.Lf none))))) (.Lf none))
def Zc (chip:Int) (op:Int):QT6:=getO ZhW.Df (Ze4 chip op).val
def ZkD (chip:Int) (op:Int):Bool:=okB (Ze4 chip op).val
def ZPr:En:=Zg ZhV ZhW (λa=>some (ZkD a.1 a.2)) (λa=>Zc a.1 a.2)
theorem ZFH:Za prog 238 ZPr:=
 pureP 70644158956031 [(171,rOnE),(306,Zvg),(307,ZRQ),(308,ZJA)] [] ZhV ZhW ⟨ZpS,Zx9,ZPj,ZJz,Tv⟩ Tryz.func238 Tryz.call238 trivial (t:=λa=>Ze4 a.1 a.2)
theorem ZvM (b:Int) (h:inR .u8 b):ZkK b=true/\Zsw b=ZlE b:=by have h1:=Zfm (λb=>ZkK b&&(Zsw b==ZlE b)) (by kernel_rfl) b h;simpa using h1
theorem ZwF (a b c:Bool):pMaj a b c=rMaj a b c:=by cases a<;>cases b<;>cases c<;>rfl
theorem ZSz (a:Bool):pOne a=rOne a:=by cases a<;>rfl
theorem ZID (a b:Int) (c:Bool):pSum a b c=rSum a b c:=by simp only[pSum,ZUb,rSum,ZO9,RT.val,Bool.cond_self,ZmR,ZkH,ZdK,Zky,ZSz]
theorem ZBO (a b:Int) (c:Bool):Zhn a b c=Zcl a b c:=by
 have h1:=ZXr a;have h2:=ZXr b;have e:IntKind.wrap .i64 (IntKind.wrap .i64 (IntKind.wrap .i64 (IntKind.wrap .i64 (andI .u8 a 15)+15)-IntKind.wrap .i64 (andI .u8 b 15))+1)=IntKind.wrap .i64 (IntKind.wrap .i64 (IntKind.wrap .i64 (andI .u8 a 15)+IntKind.wrap .i64 (IntKind.wrap .u8 (15-andI .u8 b 15)))+1):=by rw[ZS1];rw[wrap_i64 (andI .u8 a 15) (by omega) (by omega),wrap_i64 (andI .u8 b 15) (by omega) (by omega),wrap_i64 ((15-andI .u8 b 15)%256) (by omega) (by omega),wrap_i64 (andI .u8 a 15+15) (by omega) (by omega)];congr 1;rw[wrap_i64 _ (by omega) (by omega),wrap_i64 _ (by omega) (by omega)];omega
 simp only[Zhn,ZMc,Zcl,ZC2,RT.val,Bool.cond_self,ZmR,ZkH,ZdK,Zky,ZSz,e]
theorem ZtX (a b:Int):ZLK a b=ZeC a b:=rfl
theorem ZOg (b:Bool) (n:Int) (h:0<=n):Zep b n=true/\pBit b n=bif b then shlI .u8 1 n else 0:=by cases b<;>simp[Zep,pBit,ZQp,RT.val,h,okB,getO]
theorem ZfO (b:Bool) (n:Int) (h:0<=n):Zdq b n=true/\rBit b n=bif b then shlI .u8 1 n else 0:=by cases b<;>simp[Zdq,rBit,ZPt,RT.val,h,okB,getO]
theorem Za8 (chip:Int):rOn chip=(chip==2):=rfl
theorem ZWK (chip:Int) (f):ZDI chip f=true:=by cases h:chip==2<;>simp[ZDI,Zv3,RT.val,ZOg,okB,h]
theorem ZIW (chip:Int) (f):ZCT chip f=true:=by cases h:chip==2<;>simp[ZCT,Zvp,RT.val,ZfO,Za8,okB,h]
theorem ZUa (chip:Int) (f):ZP5 chip f=ZPh chip f:=by simp only[ZP5,Zv3,ZPh,Zvp,RT.val,ZOg,ZfO,Za8];cases chip==2<;>simp[ZOg,ZfO,getO]
theorem of_C (r:Int) (h:inR .u8 r):pOfC r=true:=by simp[pOfC,pOfT,RT.val,ZvM r h,okB]
theorem of_eq (r:Int) (h:inR .u8 r):pOf r=rOf r:=by simp[pOf,pOfT,rOf,rOfT,RT.val,ZvM r h,getO]
theorem ZVl (r) (n:Int):ZFG r n=true:=by
 have:=and7 n;have h:decide (0<=andI .i64 n 7/\andI .i64 n 7<8)=true:=by simp;omega
 simp only[ZFG,ZJS,RT.val,h,Yb,okB]
theorem ZNR {m:Int} (h:0<=m/\m<=7):m=0\/m=1\/m=2\/m=3\/m=4\/m=5\/m=6\/m=7:=by omega
theorem ZKM (r) (n:Int):pGet r n=rGet r n:=by
 have h7:=and7 n;have h:decide (0<=andI .i64 n 7/\andI .i64 n 7<8)=true:=by simp;omega
 simp only[pGet,ZUC,rGet,ZJS,RT.val,h,Yb,getO];generalize andI .i64 n 7=m at*;rcases ZNR h7 with rfl|rfl|rfl|rfl|rfl|rfl|rfl|rfl<;>rfl
theorem ZKg (r) (n v:Int):pSet r n v=rSet r n v:=by have h7:=and7 n;simp only[pSet,ZUe,rSet,ZWe,RT.val,Yb,getO];generalize andI .i64 n 7=m at*;rcases ZNR h7 with rfl|rfl|rfl|rfl|rfl|rfl|rfl|rfl<;>rfl
theorem ZPy (r) (n:Int):ZUo r n=Zbe r n:=by simp only[ZUo,ZLl,Zbe,Zvo,RT.val,ZKM,ZVl,ZtX];cases andI .i64 n 3==3<;>simp[okB,getO]
theorem ZTz (r) (n:Int):ZJn r n=true:=by simp only[ZJn,Zvo,RT.val,ZVl];cases andI .i64 n 3==3<;>simp[okB]
theorem Zy9 (r) (n v:Int):Zsj r n v=ZP r n v:=by simp only[Zsj,ZmS,ZP,Zvj,RT.val,ZKg]
theorem ZKq (chip:Int) (r):ZUq chip r=true/\pPSW chip r=rPSW chip r:=by simp[ZUq,pPSW,ZP6,rPSW,ZJr,RT.val,ZWK,ZIW,ZUa,ZtX,okB,getO]
theorem ZV7 (chip:Int) (r):ZTN chip r=true:=by simp[ZTN,ZJr,RT.val,ZIW,okB]
theorem ZH3 (chip:Int) (b:Int):Zsg chip b=Zx7 chip b:=by simp only[Zsg,Zsf,Zx7,ZCE,RT.val,Za8]
theorem ZFO (chip:Int) (r) (v:Int):ZzE chip r v=ZlD chip r v:=by simp only[ZzE,Zsk,ZlD,ZCG,RT.val,ZH3]
theorem ZQW (c:Int) (f):ZLT c f=ZeD c f:=by
 simp only[ZLT,ZAD,ZeD,Zy2,RT.val];by_cases h:0<=c/\c<=11
 ·have:c=0\/c=1\/c=2\/c=3\/c=4\/c=5\/c=6\/c=7\/c=8\/c=9\/c=10\/c=11:=by omega
  rcases this with rfl|rfl|rfl|rfl|rfl|rfl|rfl|rfl|rfl|rfl|rfl|rfl<;>simp
 ·have e:∀k:Int,0<=k->k<=11->(c==k)=false:=λk h1 h2=>by simp;omega
  simp[e]
theorem ZuR (a b:Int) (c:Bool):inR .u8 (rSum a b c).1:=by simp only[rSum,ZO9,RT.val,Bool.cond_self];exact Zan _ _
theorem ZoR (a b:Int) (c:Bool):inR .u8 (Zcl a b c).1:=by simp only[Zcl,ZC2,RT.val,Bool.cond_self];exact Zan _ _
theorem ZjL (a b:Int):inR .u8 (andI .u8 a b)/\inR .u8 (orI .u8 a b)/\inR .u8 (xorI .u8 a b):=ZgG _ _ _
theorem Zu8 (chip v r:Int) (half over x:Bool) (f) (h:inR .u8 r):Zid chip v r half over x f=true/\
  ZmX chip v r half over x f=Zo8 chip ((rOf r).1,(rOf r).2.1,(rOf r).2.2.1,half,(rOf r).2.2.2.2.1,(rOf r).2.2.2.2.2.1,f.2.2.2.2.2.2) (rMaj (decide (v>=128)) x (decide (r>=128))) over:=by cases hc:chip==2<;>simp[Zid,ZmX,ZkI,Zo8,ZpR,RT.val,of_C r h,of_eq r h,okB,getO,Za8,hc,ZwF,rOf,rOfT]
theorem ZKK (chip v:Int) (f):ZUA chip v f=true/\pInr chip v f=rInr chip v f:=by have h:=Zu8 chip v (rSum v 1 false).1 (rSum v 1 false).2.2.1 (rSum v 1 false).2.2.2 false f (ZuR _ _ _);simp only[ZUA,pInr,ZQc,rInr,ZTU,RT.val,ZID,h.1,h.2,Yb,okB,getO,and_self]
theorem ZKO (chip v:Int) (f):ZUP chip v f=true/\pDcr chip v f=rDcr chip v f:=by have h:=Zu8 chip v (Zcl v 1 false).1 (Zcl v 1 false).2.2.1 (Zcl v 1 false).2.2.2 true f (ZoR _ _ _);simp only[ZUP,pDcr,ZQk,rDcr,ZTY,RT.val,ZBO,h.1,h.2,Yb,okB,getO,and_self]
theorem ZT6 (chip v:Int) (f):pInx chip v f=rInx chip v f:=by simp only[pInx,ZUy,rInx,ZWs,RT.val,Za8]
theorem ZT8 (chip v:Int) (f):pDcx chip v f=rDcx chip v f:=by simp only[pDcx,ZUN,rDcx,ZWv,RT.val,Za8]
theorem ZKP (chip a:Int) (f):ZUT chip a f=true/\pDaa chip a f=rDaa chip a f:=by
 have h:=λx=>of_C _ (ZuR a x false)
 have h2:=λx=>of_eq _ (ZuR a x false)
 cases hc:chip==2<;>simp[ZUT,pDaa,ZQm,rDaa,ZWy,Zo8,ZpR,RT.val,ZID,h,h2,okB,getO,Za8,hc,ZwF,rOf,rOfT]
theorem ZDw (a b:Int):ZL9 a b=true/\ZUI a b=ZJW a b:=by
 have h:=λx y z=>of_C _ (ZoR x y z)
 have h2:=λx y z=>of_eq _ (ZoR x y z)
 simp[ZL9,ZUI,ZD4,ZJW,ZR1,RT.val,ZBO,h,h2,okB,getO,ZwF,ZtX,rOf,rOfT,Bool.cond_self]
theorem ZPL (v:Int):ZWY v=ZPv v:=rfl
theorem ZSE (c:Bool):pLow c=bif c then 1 else 0:=by cases c<;>rfl
theorem ZKi (op a:Int) (c:Bool):ZUg op a c=true/\pRot op a c=rRot op a c:=by
 have h3:=and3 op;simp only[ZUg,pRot,ZPW,rRot,ZWf,RT.val,ZSE,(ZfO c 0 (by decide)).1,(ZfO c 0 (by decide)).2,(ZfO c 7 (by decide)).1,(ZfO c 7 (by decide)).2];generalize andI .i64 op 3=m at*;have:m=0\/m=1\/m=2\/m=3:=by omega
 rcases this with rfl|rfl|rfl|rfl<;>cases c<;>exact⟨rfl,rfl⟩
theorem ZPw (v:Int) (c:Bool) (h:inR .u16 v):ZUm v c=ZJg v c:=by
 have hb:=ZfO c 0 (by decide);have e:IntKind.wrap .u16 (bif c then 1 else 0)=IntKind.wrap .u16 (bif c then shlI .u8 1 0 else 0):=by cases c<;>rfl
 have hr:∀x,inR .u16 (orI .u16 x (IntKind.wrap .u16 (bif c then shlI .u8 1 0 else 0))):=λx=>(ZgG _ _ _).2.1
 simp only[ZUm,ZLe,ZJg,ZRL,RT.val,ZSE,hb.1,hb.2,Yb,getO,e];rw[ZqH _ (ZgG _ _ _).2.2,ZIA _ _ (hr _) h,ZBX _ (hr _),ZBX _ h];cases tb (orI .u16 (shlI .u16 v 1) (IntKind.wrap .u16 (bif c then shlI .u8 1 0 else 0)))<;>cases tb v<;>rfl
theorem ZT9 (chip a b:Int) (f) (ha:inR .u16 a) (hb:inR .u16 b):pDad chip a b f=rDad chip a b f:=by
 have hr:inR .u16 (IntKind.wrap .u16 (a+b)):=Zan _ _;have ha':=Zjx.1 ha;have hb':=Zjx.1 hb;simp only[pDad,ZUR,rDad,ZWx,RT.val,Za8];rw[ZqH _ (ZgG _ _ _).1,ZRB _ _ (ZgG _ _ _).2.2 (ZgG _ _ _).2.2,ZIA _ _ ha hr,ZIA _ _ hb hr];have e1:decide (IntKind.wrap .u16 (a+b)<a)=decide (IntKind.wrap .i64 (IntKind.wrap .i64 a+IntKind.wrap .i64 b)>65535):=by rw[ZBZ,wrap_i64 a (by omega) (by omega),wrap_i64 b (by omega) (by omega),wrap_i64 (a+b) (by omega) (by omega)];simp only[decide_eq_decide];omega
 have e2:(((tb a)^^(tb (IntKind.wrap .u16 (a+b))))&&((tb b)^^(tb (IntKind.wrap .u16 (a+b)))))=(decide (IntKind.wrap .i64 (IntKind.wrap .i64 (IntKind.wrap .i16 a)+IntKind.wrap .i64 (IntKind.wrap .i16 b))< -32768)||decide (IntKind.wrap .i64 (IntKind.wrap .i64 (IntKind.wrap .i16 a)+IntKind.wrap .i64 (IntKind.wrap .i16 b))>32767)):=by
  have ia:=ZB0 a;have ib:=ZB0 b;have hia: -32768<=IntKind.wrap .i16 a/\IntKind.wrap .i16 a<=32767:=by rw[ia];split<;>omega
  have hib: -32768<=IntKind.wrap .i16 b/\IntKind.wrap .i16 b<=32767:=by rw[ib];split<;>omega
  rw[wrap_i64 (IntKind.wrap .i16 a) (by omega) (by omega),wrap_i64 (IntKind.wrap .i16 b) (by omega) (by omega),wrap_i64 (IntKind.wrap .i16 a+IntKind.wrap .i16 b) (by omega) (by omega)];rw[ia,ib,ZBZ];unfold tb;by_cases h1:a>=32768<;>by_cases h2:b>=32768<;>by_cases h3:(a+b)%65536>=32768<;>simp[h1,h2,h3]<;>(try split)<;>(try split)<;>omega
 rw[e1,e2]
theorem ZKj (c l):ZUi c l=true/\pRim c l=rRim c l/\ZWi c l=true:=by
 have h:∀b n,0<=n->ZcA b n=true/\ZvZ b n=bif b then shlI .u8 1 n else 0:=λb n h=>by cases b<;>simp[ZcA,ZvZ,ZDE,RT.val,h,okB,getO]
 have h3:∀b,Zar b 3=true/\ZgW b 3=bif b then shlI .u8 1 3 else 0:=λb=>by cases b<;>exact⟨rfl,rfl⟩
 have h4:∀b,Zar b 4=true/\ZgW b 4=bif b then shlI .u8 1 4 else 0:=λb=>by cases b<;>exact⟨rfl,rfl⟩
 have h5:∀b,Zar b 5=true/\ZgW b 5=bif b then shlI .u8 1 5 else 0:=λb=>by cases b<;>exact⟨rfl,rfl⟩
 have h6:∀b,Zar b 6=true/\ZgW b 6=bif b then shlI .u8 1 6 else 0:=λb=>by cases b<;>exact⟨rfl,rfl⟩
 have h7:∀b,Zar b 7=true/\ZgW b 7=bif b then shlI .u8 1 7 else 0:=λb=>by cases b<;>exact⟨rfl,rfl⟩
 simp[ZUi,pRim,ZPY,ZWi,rRim,ZPb,RT.val,h,h3,h4,h5,h6,h7,okB,getO]
theorem ZT1 (c) (a:Int):pSim c a=rSim c a:=by simp only[pSim,ZUd,rSim,ZTJ,RT.val]
theorem ZFK (s:Int):Zzx s=Zs s:=by simp only[Zzx,Zse,Zs,ZCD,RT.val]
theorem ZKr (chip op a b:Int):ZsJ chip op a b=true/\∀f,(andI .i64 op 7=op)->4<=op->op<=6->ZDO chip op a b=rDo chip op a b f:=by
 have h:=λx y=>of_C _ (ZjL x y).1
 have h':=λx y=>of_C _ (ZjL x y).2.1
 have h'':=λx y=>of_C _ (ZjL x y).2.2
 have g:=λx y=>of_eq _ (ZjL x y).1
 have g':=λx y=>of_eq _ (ZjL x y).2.1
 have g'':=λx y=>of_eq _ (ZjL x y).2.2
 have h0:=of_C 0 (by rw[Ziu];omega);constructor
 ·cases h4:op==4<;>cases h5:op==5<;>cases h6:op==6<;>simp[ZsJ,ZnD,RT.val,h,h',h'',h0,okB,h4,h5,h6]
 ·intro f e h4 h6;have:op=4\/op=5\/op=6:=by omega
  rcases this with rfl|rfl|rfl<;>cases hc:chip==2<;>simp[ZDO,ZnD,rDo,rDoT,RT.val,h,h',h'',g,g',g'',getO,e,Za8,hc,Zo8,ZpR,rOf,rOfT,ZwF]
theorem ZSd (chip op a b:Int) (f):pDoC chip op a b f=true/\pDo chip op a b f=rDo chip op a b f:=by
 have h7:=and7 op;have hs:=λx=>of_C _ (ZuR a b x)
 have hs2:=λx=>of_eq _ (ZuR a b x)
 have hd:=λx=>of_C _ (ZoR a b x)
 have hd2:=λx=>of_eq _ (ZoR a b x)
 have hl:=ZKr chip (andI .i64 op 7) a b;have hlt:decide (b<128)= !decide (128<=b):=by
  by_cases h:b<128
  ·have:¬128<=b:=by omega
   simp[h,this]
  ·have:128<=b:=by omega
   simp[h,this]
 have hr:rDo chip (andI .i64 op 7) a b f=rDo chip op a b f:=by
  have:andI .i64 (andI .i64 op 7) 7=andI .i64 op 7:=by generalize andI .i64 op 7=m at*;rcases ZNR h7 with rfl|rfl|rfl|rfl|rfl|rfl|rfl|rfl<;>rfl
  simp only[rDo,rDoT,this]
 have he:andI .i64 (andI .i64 op 7) 7=andI .i64 op 7:=by generalize andI .i64 op 7=m at*;rcases ZNR h7 with rfl|rfl|rfl|rfl|rfl|rfl|rfl|rfl<;>rfl
 rw[<-hr];have hl2:=hl.2 f he;have hl1:=hl.1;clear hl hr;simp only[pDoC,pDo,pDoT,RT.val];generalize andI .i64 op 7=m at*;rcases ZNR h7 with rfl|rfl|rfl|rfl|rfl|rfl|rfl|rfl
 case inr.inr.inr.inr.inl=>simp[hl1,hl2,okB,getO]
 case inr.inr.inr.inr.inr.inl=>simp[hl1,hl2,okB,getO]
 case inr.inr.inr.inr.inr.inr.inl=>simp[hl1,hl2,okB,getO]
 all_goals cases hc:chip==2<;>simp[rDo,rDoT,RT.val,ZID,ZBO,hs,hs2,hd,hd2,okB,getO,he,Za8,hc,Zo8,ZpR,rOf,rOfT,ZwF,hlt]
theorem ZKN (chip op:Int) (h:chip≠2):(Ze7 chip op).val=(Ze7 0 op).val:=by
 have h1:(chip==2)=false:=by simpa using h
 have h0:((0:Int)==2)=false:=rfl;simp only[Ze7,RT.val,h1,h0]
theorem Zlx (chip op:Int) (h:chip≠2):(Ze4 chip op).val=(Ze4 0 op).val:=by
 have h1:rOn chip=false:=by simpa [Za8] using h
 have h0:rOn 0=false:=rfl;simp only[Ze4,RT.val,h1,h0]
def decT (chip op:Int):Bool:=okB (Ze7 chip op).val&&okB (Ze4 chip op).val&&(ZnK chip op==Zc chip op)
theorem dec_ok (chip op:Int) (h:inR .u8 op):ZkM chip op=true/\ZnK chip op=Zc chip op/\ZkD chip op=true:=by
 have fin:∀c,decT c op=true->ZkM c op=true/\ZnK c op=Zc c op/\ZkD c op=true:=by intro c hc;simp only[decT,Ya,YaB] at hc;exact⟨hc.1.1,hc.2,hc.1.2⟩
 by_cases hc:chip=2
 ·subst hc;exact fin 2 (Zfm (decT 2) (by kernel_rfl) op h)
 ·have:=fin 0 (Zfm (decT 0) (by kernel_rfl) op h);unfold ZkM ZnK Zc ZkD at this|-;rw[ZKN chip op hc,Zlx chip op hc];exact this
def ZsN:En:=Zg ZAB ZAC (λ_=>none) (λa=>ZeC a.1 a.2)
theorem Zv6:Za prog 220 ZsN:=ZkL.tot (λa h=>by simp) (λa h=>ZtX _ _)
def ZSt:En:=Zg ZLV ZLW (λ_=>none) (λa=>rGet a.1 a.2)
theorem ZQd:Za prog 281 ZSt:=ZLU.tot (λa h=>by simp) (λa h=>ZKM _ _)
def ZJT:En:=Zg ZJR ZC1 (λ_=>none) (λa=>rGet a.1 a.2)
theorem ZPp:Za prog 311 ZJT:=ZJQ.tot (λa h=>by have h1:=ZVl a.1 a.2;simp[h1]) (λa h=>rfl)
def ZvW:En:=Zg ZKZ ZK0 (λ_=>none) (λa=>rSet a.1 a.2.1 a.2.2)
theorem ZDB:Za prog 290 ZvW:=ZKY.tot (λa h=>by simp) (λa h=>ZKg _ _ _)
def ZLn:En:=Zg ZzO ZzP (λ_=>none) (λa=>Zbe a.1 a.2)
theorem ZLm:Za prog 280 ZLn:=ZP3.tot (λa h=>by simp) (λa h=>ZPy _ _)
def Zyg:En:=Zg Zyf Zrv (λ_=>none) (λa=>Zbe a.1 a.2)
theorem ZJo:Za prog 244 Zyg:=ZPf.tot (λa h=>by have h1:=ZTz a.1 a.2;simp[h1]) (λa h=>rfl)
def ZbR:En:=Zg Zja Zjb (λ_=>none) (λa=>ZP a.1 a.2.1 a.2.2)
theorem Zeh:Za prog 291 ZbR:=ZzC.tot (λa h=>by simp) (λa h=>Zy9 _ _ _)
def ZLq:En:=Zg ZLp ZDJ (λ_=>none) (λa=>rPSW a.1 a.2)
theorem ZP7:Za prog 288 ZLq:=ZUp.tot (λa h=>by have h1:=(ZKq a.1 a.2).1;simp[h1]) (λa h=>(ZKq _ _).2)
def ZJs:En:=Zg ZJq ZCU (λ_=>none) (λa=>rPSW a.1 a.2)
theorem ZPi:Za prog 332 ZJs:=ZTM.tot (λa h=>by have h1:=ZV7 a.1 a.2;simp[h1]) (λa h=>rfl)
def ZmV:En:=Zg ZmT ZmU (λ_=>none) (λa=>ZlD a.1 a.2.1 a.2.2)
theorem ZzD:Za prog 299 ZmV:=ZF4.tot (λa h=>by simp) (λa h=>ZFO _ _ _)
def ZUL:En:=Zg ZUJ ZQh (λ_=>none) (λa=>rDo a.1 a.2.1 a.2.2.1 a.2.2.2.1 a.2.2.2.2)
theorem ZUK:Za prog 292 ZUL:=ZWV.tot (λa h=>by have h1:=(ZSd a.1 a.2.1 a.2.2.1 a.2.2.2.1 a.2.2.2.2).1;simp[h1]) (λa h=>(ZSd _ _ _ _ _).2)
def ZDV:En:=Zg ZLO ZDT (λ_=>none) (λa=>rInr a.1 a.2.1 a.2.2)
theorem ZDU:Za prog 282 ZDV:=ZUz.tot (λa h=>by have h1:=(ZKK a.1 a.2.1 a.2.2).1;simp[h1]) (λa h=>(ZKK _ _ _).2)
def ZD9:En:=Zg ZMh ZD7 (λ_=>none) (λa=>rDcr a.1 a.2.1 a.2.2)
theorem ZD8:Za prog 283 ZD9:=ZUO.tot (λa h=>by have h1:=(ZKO a.1 a.2.1 a.2.2).1;simp[h1]) (λa h=>(ZKO _ _ _).2)
def ZLN:En:=Zg ZLL ZLM (λ_=>none) (λa=>rInx a.1 a.2.1 a.2.2)
theorem ZQb:Za prog 294 ZLN:=ZUx.tot (λa h=>by simp) (λa h=>ZT6 _ _ _)
def ZMg:En:=Zg ZMe ZMf (λ_=>none) (λa=>rDcx a.1 a.2.1 a.2.2)
theorem ZQj:Za prog 295 ZMg:=ZUM.tot (λa h=>by simp) (λa h=>ZT8 _ _ _)
def ZMm:En:=Zg ZMl ZEa (λ_=>none) (λa=>rDaa a.1 a.2.1 a.2.2)
theorem ZQn:Za prog 297 ZMm:=ZUS.tot (λa h=>by have h1:=(ZKP a.1 a.2.1 a.2.2).1;simp[h1]) (λa h=>(ZKP _ _ _).2)
def ZMk:En:=Zg ZMi ZMj (λ_=>none) (λa=>rDad a.1 a.2.1 a.2.2.1 a.2.2.2)
theorem ZQl:Za prog 296 ZMk:=ZUQ.tot (λa h=>by simp) (λa h=>ZT9 _ _ _ _ h.2.1 h.2.2.1)
def ZAR:En:=Zg ZAQ Ztv (λ_=>none) (λa=>ZJW a.1 a.2)
theorem ZMa:Za prog 301 ZAR:=ZQg.tot (λa h=>by have h1:=(ZDw a.1 a.2).1;simp[h1]) (λa h=>(ZDw _ _).2)
def ZAV:En:=Zg ZAT ZAU (λ_=>none) (λa=>ZPv a)
theorem ZMt:Za prog 302 ZAV:=ZQq.tot (λa h=>by simp) (λa h=>ZPL _)
def ZK5:En:=Zg ZK4 ZDF (λ_=>none) (λa=>rRot a.1 a.2.1 a.2.2)
theorem ZPX:Za prog 298 ZK5:=ZUf.tot (λa h=>by have h1:=(ZKi a.1 a.2.1 a.2.2).1;simp[h1]) (λa h=>(ZKi _ _ _).2)
def ZzL:En:=Zg ZzJ ZzK (λ_=>none) (λa=>ZJg a.1 a.2)
theorem ZLf:Za prog 303 ZzL:=ZP0.tot (λa h=>by simp) (λa h=>ZPw _ _ h.1)
def ZK7:En:=Zg ZK6 ZDG (λ_=>none) (λa=>rRim a.1 a.2)
theorem ZPZ:Za prog 231 ZK7:=ZUh.tot (λa h=>by have h1:=(ZKj a.1 a.2).1;simp[h1]) (λa h=>(ZKj _ _).2.1)
def ZKX:En:=Zg ZKV ZKW (λ_=>none) (λa=>rSim a.1 a.2)
theorem ZPT:Za prog 232 ZKX:=ZUc.tot (λa h=>by simp) (λa h=>ZT1 _ _)
def ZDY:En:=Zg ZsO ZsP (λ_=>none) (λa=>ZeD a.1 a.2)
theorem ZGk:Za prog 353 ZDY:=ZLS.tot (λa h=>by simp) (λa h=>ZQW _ _)
def ZvP:En:=Zg ZmJ ZmK (λ_=>none) (λa=>Zs a)
theorem Zzw:Za prog 155 ZvP:=ZFZ.tot (λa h=>by simp) (λa h=>ZFK _)
def Zwb:En:=Zg Zif Zig (λ_=>none) (λa=>Zc a.1 a.2)
theorem ZnJ:Za prog 154 Zwb:=ZGZ.tot (λa h=>by have h1:=(dec_ok a.1 a.2 h.2).1;simp[h1]) (λa h=>(dec_ok a.1 a.2 h.2).2.1)
def ZJZ:En:=Zg ZhV ZhW (λ_=>none) (λa=>Zc a.1 a.2)
theorem Zy3:Za prog 238 ZJZ:=ZFH.tot (λa h=>by have h1:=(dec_ok a.1 a.2 h.2).2.2;simp[h1]) (λa h=>rfl)
end
end Go.Proofs.YtpnjbfjomebppaaGreat
