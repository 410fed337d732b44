import Derived.Test.YtghoimllhpjkjaaGreatS3D
import Derived.Test.YtghoimllhpjkjaaGreatProg
open Go.Proofs.Tryz (prog)
open Go.IntKind (u8 u16 i64)
set_option linter.unusedSimpArgs false
open Go Go.S3 Go.Proofs
set_option linter.unusedVariables false
set_option maxRecDepth 100000
namespace Go.Proofs.YtghoimllhpjkjaaGreat
noncomputable section
abbrev ZyG:List Sh:=[Sh.one (R.int u8)]
abbrev Zoa:Rs:=Rs.one (Sh.one R.bool)
def ZuN (b:Int):RT (Option (Bool)):=
 let x1:=andI u8 (andI u8 b (u8.wrap (b-1))) (u8.wrap (andI u8 b (u8.wrap (b-1))-1))
 let x2:= !x1 !=0
 let x3:=andI u8 x1 (u8.wrap (x1-1))
 let x4:=x3 !=0
 let x5:=andI u8 x3 (u8.wrap (x3-1))
 let x6:= !x5 !=0
 let x7:=andI u8 x5 (u8.wrap (x5-1))
 let x8:=x7 !=0
 let x9:=andI u8 x7 (u8.wrap (x7-1))
 let x10:= !x9 !=0
 let x11:=andI u8 x9 (u8.wrap (x9-1))
 let x12:=x11 !=0
 let x13:=andI u8 x11 (u8.wrap (x11-1))
 let x14:= !x13 !=0
 .br (!b !=0||(!andI u8 b (u8.wrap (b-1)) !=0||(x2||(!x4||(x6||(!x8||(x10||(!x12||(x14|| !andI u8 x13 (u8.wrap (x13-1)) !=0))))))))) (.Lf (some (!b !=0||andI u8 b (u8.wrap (b-1)) !=0&&(x2||x4&&(x6||x8&&(x10||x12&&x14)))))) (.Lf none)
def ZuO (b:Int):Bool:=getO Zoa.Df (ZuN b).val
def ZlI (b:Int):Bool:=okB (ZuN b).val
def ZHl:En:=Zg ZyG Zoa (λa=>some (ZlI a)) (λa=>ZuO a)
theorem ZKw:Za prog 334 ZHl:=
 ZnY (P:=prog) (n:=15) (k:=10) (l:=[]) (ol:=[]) trivial Tryz.func334 rfl (by kernel_rfl) Tryz.call334 trivial (ts:=ZyG) (rs:=Zoa) (t:=λa=>ZuN a) (λa=>by kernel_rfl)
abbrev ZXW:List Sh:=[Sh.one R.bool,Sh.one R.bool,Sh.one R.bool]
abbrev ZXX:Rs:=Rs.one (Sh.one R.bool)
def Z2n (a:Bool) (b:Bool) (c:Bool):RT (Bool):=
 .Lf (bif a then b||bif a then c||b&&c else b&&c else bif a then c||b&&c else b&&c)
def pMaj (a:Bool) (b:Bool) (c:Bool):Bool:=(Z2n a b c).val
def ZKG:En:=Zg ZXW ZXX (λ_=>none) (λa=>pMaj a.1 a.2.1 a.2.2)
theorem ZoN:Za prog 315 ZKG:=
 pureQ 127 [] [] ZXW ZXX trivial Tryz.func315 Tryz.call315 trivial (t:=λa=>Z2n a.1 a.2.1 a.2.2)
abbrev ZXT:List Sh:=[Sh.one R.bool]
abbrev ZXU:Rs:=Rs.one (Sh.one (R.int i64))
def Z2l (b:Bool):RT (Int):=
 .br (b) (.Lf (1)) (.Lf (0))
def pOne (b:Bool):Int:=(Z2l b).val
def Z0d:En:=Zg ZXT ZXU (λ_=>none) (λa=>pOne a)
theorem ZQL:Za prog 332 Z0d:=
 pureQ 7 [] [] ZXT ZXU trivial Tryz.func332 Tryz.call332 trivial (t:=λa=>Z2l a)
abbrev ZyB:List Sh:=[Sh.one (R.int i64)]
abbrev ZyC:Rs:=Rs.one (Sh.one R.bool)
def ZlF (n:Int):RT (Bool):=
 .Lf (decide (n< -128)||decide (n>127))
def Zn2 (n:Int):Bool:=(ZlF n).val
def ZuC:En:=Zg ZyB ZyC (λ_=>none) (λa=>Zn2 a)
theorem ZrA:Za prog 333 ZuC:=
 pureQ 7 [] [] ZyB ZyC trivial Tryz.func333 Tryz.call333 trivial (t:=λa=>ZlF a)
abbrev ZXP:List Sh:=[Sh.one (R.int u8),Sh.one (R.int u8),Sh.one R.bool]
abbrev ZXQ:Rs:=Rs.tup [Sh.one (R.int u8),Sh.one R.bool,Sh.one R.bool,Sh.one R.bool]
def ZZY (a:Int) (b:Int) (c:Bool):RT (QT21):=
 let x1:=i64.wrap (i64.wrap (i64.wrap a+i64.wrap b)+pOne c)
 .Lf ((u8.wrap x1,decide (x1>255),decide (i64.wrap (i64.wrap (i64.wrap (andI u8 a 15)+i64.wrap (andI u8 b 15))+pOne c)>15),Zn2 (i64.wrap (i64.wrap (i64.wrap (IntKind.i8.wrap a)+i64.wrap (IntKind.i8.wrap b))+pOne c))))
def pSum (a:Int) (b:Int) (c:Bool):QT21:=(ZZY a b c).val
def ZVa:En:=Zg ZXP ZXQ (λ_=>none) (λa=>pSum a.1 a.2.1 a.2.2)
theorem ZCC:Za prog 312 ZVa:=
 pureQ 4095 [(332,Z0d),(333,ZuC)] [] ZXP ZXQ ⟨ZQL,ZrA,Tv⟩ Tryz.func312 Tryz.call312 trivial (t:=λa=>ZZY a.1 a.2.1 a.2.2)
abbrev ZRq:List Sh:=[Sh.one (R.int u8),Sh.one (R.int u8),Sh.one R.bool]
abbrev ZRs:Rs:=Rs.tup [Sh.one (R.int u8),Sh.one R.bool,Sh.one R.bool,Sh.one R.bool]
def ZRr (a:Int) (b:Int) (c:Bool):RT (QT21):=
 let x1:=i64.wrap (i64.wrap (i64.wrap a-i64.wrap b)-pOne c)
 .Lf ((u8.wrap x1,decide (x1<0),decide (i64.wrap (i64.wrap (i64.wrap (i64.wrap (i64.wrap (andI u8 a 15)+15)-i64.wrap (andI u8 b 15))+1)-pOne c)>15),Zn2 (i64.wrap (i64.wrap (i64.wrap (IntKind.i8.wrap a)-i64.wrap (IntKind.i8.wrap b))-pOne c))))
def Zh3 (a:Int) (b:Int) (c:Bool):QT21:=(ZRr a b c).val
def ZHE:En:=Zg ZRq ZRs (λ_=>none) (λa=>Zh3 a.1 a.2.1 a.2.2)
theorem ZvK:Za prog 313 ZHE:=
 pureQ 4095 [(332,Z0d),(333,ZuC)] [] ZRq ZRs ⟨ZQL,ZrA,Tv⟩ Tryz.func313 Tryz.call313 trivial (t:=λa=>ZRr a.1 a.2.1 a.2.2)
abbrev ZDx:List Sh:=[Sh.one (R.int u8),Sh.one (R.int u8)]
abbrev ZDy:Rs:=Rs.one (Sh.one (R.int u16))
def ZX0 (h:Int) (l:Int):RT (Int):=
 .Lf (orI u16 (shlI u16 (u16.wrap h) 8) (u16.wrap l))
def ZQ0 (h:Int) (l:Int):Int:=(ZX0 h l).val
def ZHt:En:=Zg ZDx ZDy (λ_=>none) (λa=>ZQ0 a.1 a.2)
theorem ZlK:Za prog 236 ZHt:=
 pureQ 31 [] [] ZDx ZDy trivial Tryz.func236 Tryz.call236 trivial (t:=λa=>ZX0 a.1 a.2)
abbrev ZX2:List Sh:=[Sh.one R.bool,Sh.one (R.int i64)]
abbrev ZRC:Rs:=Rs.one (Sh.one (R.int u8))
def ZVD (b:Bool) (n:Int):RT (Option (Int)):=
 .br (!b||decide (0<=n)) (.br (b) (.Lf (some (shlI u8 1 n))) (.Lf (some (0)))) (.Lf none)
def pBit (b:Bool) (n:Int):Int:=getO ZRC.Df (ZVD b n).val
def ZeS (b:Bool) (n:Int):Bool:=okB (ZVD b n).val
def Z2s:En:=Zg ZX2 ZRC (λa=>some (ZeS a.1 a.2)) (λa=>pBit a.1 a.2)
theorem Z0B:Za prog 335 Z2s:=
 pureP 31 [] [] ZX2 ZRC trivial Tryz.func335 Tryz.call335 trivial (t:=λa=>ZVD a.1 a.2)
abbrev ZQI:List Sh:=[Sh.one (R.int i64),Sh.agg rcF7]
abbrev ZCP:Rs:=Rs.one (Sh.one (R.int u8))
def ZyH (chip:Int) (f:TF):RT (Option (Int)):=
 let x1:=orI u8 (orI u8 (orI u8 (orI u8 (pBit f.1 7) (pBit f.2.1 6)) (pBit f.2.2.2.1 4)) (pBit f.2.2.2.2.1 2)) (pBit f.2.2.2.2.2.2 0)
 .br (!ZeS f.1 7||(!ZeS f.2.1 6||(!ZeS f.2.2.2.1 4||(!ZeS f.2.2.2.2.1 2||ZeS f.2.2.2.2.2.2 0)))) (.br (!ZeS f.1 7||(!ZeS f.2.1 6||(!ZeS f.2.2.2.1 4||ZeS f.2.2.2.2.1 2))) (.br (!ZeS f.1 7||(!ZeS f.2.1 6||ZeS f.2.2.2.1 4)) (.br (!ZeS f.1 7||ZeS f.2.1 6) (.br (ZeS f.1 7) (.br (!chip==2||(!ZeS f.2.2.1 5||ZeS f.2.2.2.2.2.1 1)) (.br (!chip==2||ZeS f.2.2.1 5) (.br (chip==2) (.Lf (some (orI u8 (orI u8 x1 (pBit f.2.2.1 5)) (pBit f.2.2.2.2.2.1 1)))) (.Lf (some (orI u8 x1 2)))) (.Lf none)) (.Lf none)) (.Lf none)) (.Lf none)) (.Lf none)) (.Lf none)) (.Lf none)
def ZVl (chip:Int) (f:TF):Int:=getO ZCP.Df (ZyH chip f).val
def ZHm (chip:Int) (f:TF):Bool:=okB (ZyH chip f).val
def ZXS:En:=Zg ZQI ZCP (λa=>some (ZHm a.1 a.2)) (λa=>ZVl a.1 a.2)
theorem ZVk:Za prog 324 ZXS:=
 pureP 63 [(335,Z2s)] [] ZQI ZCP ⟨Z0B,Tv⟩ Tryz.func324 Tryz.call324 trivial (t:=λa=>ZyH a.1 a.2)
abbrev Zyz:List Sh:=[Sh.one (R.int i64),Sh.one (R.int u8)]
abbrev ZyA:Rs:=Rs.one (Sh.agg rcF7)
def ZuA (chip:Int) (b:Int):RT TF:=
 .Lf ((andI u8 b 128 !=0,andI u8 b 64 !=0,chip==2&&andI u8 b 32 !=0,andI u8 b 16 !=0,andI u8 b 4 !=0,chip==2&&andI u8 b 2 !=0,andI u8 b 1 !=0))
def ZuB (chip:Int) (b:Int):TF:=(ZuA chip b).val
def ZHf:En:=Zg Zyz ZyA (λ_=>none) (λa=>ZuB a.1 a.2)
theorem ZKs:Za prog 323 ZHf:=
 pureQ 63 [] [] Zyz ZyA trivial Tryz.func323 Tryz.call323 trivial (t:=λa=>ZuA a.1 a.2)
abbrev Z2m:List Sh:=[Sh.one (R.int u8)]
abbrev Z0f:Rs:=Rs.one (Sh.agg rcF7)
def pOfT (r:Int):RT (Option TF):=
 .br (ZlI r) (.Lf (some ((decide (r>=128),r==0,false,false,ZuO r,false,false)))) (.Lf none)
def pOf (r:Int):TF:=getO Z0f.Df (pOfT r).val
def pOfC (r:Int):Bool:=okB (pOfT r).val
def pOfE:En:=Zg Z2m Z0f (λa=>some (pOfC a)) (λa=>pOf a)
theorem ZyI:Za prog 314 pOfE:=
 pureP 7 [(334,ZHl)] [] Z2m Z0f ⟨ZKw,Tv⟩ Tryz.func314 Tryz.call314 trivial (t:=λa=>pOfT a)
def ZpJ:En:=.tree (ZO (envX prog [] [] 141872468127 8) Tryz.f310)
theorem ZpI:Za prog 310 ZpJ:=Zaf (P:=prog) (n:=141872468127) (k:=8) (l:=[]) (ol:=[]) trivial Tryz.func310 rfl (by kernel_rfl) Tryz.call310 trivial
abbrev ZQ8:List Sh:=[Sh.agg Ze4,Sh.one (R.int i64)]
abbrev ZQ9:Rs:=Rs.one (Sh.one (R.int u8))
def Z0l (r:TR) (n:Int):RT (Int):=
 .br (andI i64 n 7==0) (.Lf r.2.1) (.br (andI i64 n 7==1) (.Lf r.2.2.1) (.br (andI i64 n 7==2) (.Lf r.2.2.2.1) (.br (andI i64 n 7==3) (.Lf r.2.2.2.2.1) (.br (andI i64 n 7==4) (.Lf r.2.2.2.2.2.1) (.br (andI i64 n 7==5) (.Lf r.2.2.2.2.2.2.1) (.br (andI i64 n 7==7) (.Lf r.1) (.Lf (0))))))))
def pGet (r:TR) (n:Int):Int:=(Z0l r n).val
def Z2p:En:=Zg ZQ8 ZQ9 (λ_=>none) (λa=>pGet a.1 a.2)
theorem ZQ7:Za prog 287 Z2p:=
 pureQ 63 [(310,ZpJ)] [] ZQ8 ZQ9 ⟨ZpI,Tv⟩ Tryz.func287 Tryz.call287 trivial (t:=λa=>Z0l a.1 a.2)
abbrev ZQp:List Sh:=[Sh.agg Ze4,Sh.one (R.int i64),Sh.one (R.int u8)]
abbrev ZQq:Rs:=Rs.one (Sh.agg Ze4)
def ZZ1 (r:TR) (n:Int) (v:Int):RT TR:=
 .br (andI i64 n 7==0) (.Lf ((r.1,v,r.2.2))) (.br (andI i64 n 7==1) (.Lf ((r.1,r.2.1,v,r.2.2.2))) (.br (andI i64 n 7==2) (.Lf ((r.1,r.2.1,r.2.2.1,v,r.2.2.2.2))) (.br (andI i64 n 7==3) (.Lf ((r.1,r.2.1,r.2.2.1,r.2.2.2.1,v,r.2.2.2.2.2))) (.br (andI i64 n 7==4) (.Lf ((r.1,r.2.1,r.2.2.1,r.2.2.2.1,r.2.2.2.2.1,v,r.2.2.2.2.2.2))) (.br (andI i64 n 7==5) (.Lf ((r.1,r.2.1,r.2.2.1,r.2.2.2.1,r.2.2.2.2.1,r.2.2.2.2.2.1,v,r.2.2.2.2.2.2.2))) (.br (andI i64 n 7==7) (.Lf ((v,r.2))) (.Lf (r))))))))
def pSet (r:TR) (n:Int) (v:Int):TR:=(ZZ1 r n v).val
def Z2i:En:=Zg ZQp ZQq (λ_=>none) (λa=>pSet a.1 a.2.1 a.2.2)
theorem ZQo:Za prog 268 Z2i:=
 pureQ 255 [(310,ZpJ)] [] ZQp ZQq ⟨ZpI,Tv⟩ Tryz.func268 Tryz.call268 trivial (t:=λa=>ZZ1 a.1 a.2.1 a.2.2)
abbrev ZCN:List Sh:=[Sh.agg Ze4,Sh.one (R.int i64)]
abbrev ZCO:Rs:=Rs.one (Sh.one (R.int u16))
def ZQF (r:TR) (n:Int):RT (Int):=
 .br (andI i64 n 3==3) (.Lf r.2.2.2.2.2.2.2.2.1) (.Lf (ZQ0 (pGet r (i64.wrap (2*andI i64 n 3))) (pGet r (i64.wrap (i64.wrap (2*andI i64 n 3)+1)))))
def Z0a (r:TR) (n:Int):Int:=(ZQF r n).val
def Z2k:En:=Zg ZCN ZCO (λ_=>none) (λa=>Z0a a.1 a.2)
theorem ZVj:Za prog 286 Z2k:=
 pureQ 31 [(236,ZHt),(287,Z2p)] [] ZCN ZCO ⟨ZlK,ZQ7,Tv⟩ Tryz.func286 Tryz.call286 trivial (t:=λa=>ZQF a.1 a.2)
abbrev Zj8:List Sh:=[Sh.agg Ze4,Sh.one (R.int i64),Sh.one (R.int u16)]
abbrev Zj9:Rs:=Rs.one (Sh.agg Ze4)
def Zn3 (r:TR) (n:Int) (v:Int):RT TR:=
 .br (andI i64 n 3==3) (.Lf ((r.1,r.2.1,r.2.2.1,r.2.2.2.1,r.2.2.2.2.1,r.2.2.2.2.2.1,r.2.2.2.2.2.2.1,r.2.2.2.2.2.2.2.1,v,r.2.2.2.2.2.2.2.2.2))) (.Lf (pSet (pSet r (i64.wrap (2*andI i64 n 3)) (u8.wrap (shrI u16 v 8))) (i64.wrap (i64.wrap (2*andI i64 n 3)+1)) (u8.wrap v)))
def ZuD (r:TR) (n:Int) (v:Int):TR:=(Zn3 r n v).val
def ZQr:En:=Zg Zj8 Zj9 (λ_=>none) (λa=>ZuD a.1 a.2.1 a.2.2)
theorem ZCD:Za prog 269 ZQr:=
 pureQ 127 [(268,Z2i)] [] Zj8 Zj9 ⟨ZQo,Tv⟩ Tryz.func269 Tryz.call269 trivial (t:=λa=>Zn3 a.1 a.2.1 a.2.2)
abbrev ZQJ:List Sh:=[Sh.one (R.int i64),Sh.agg Ze4]
abbrev ZHn:Rs:=Rs.one (Sh.one (R.int u16))
def ZVm (chip:Int) (r:TR):RT (Option (Int)):=
 .br (ZHm chip r.2.2.2.2.2.2.2.1) (.Lf (some (ZQ0 r.1 (ZVl chip r.2.2.2.2.2.2.2.1)))) (.Lf none)
def pPSW (chip:Int) (r:TR):Int:=getO ZHn.Df (ZVm chip r).val
def Z0c (chip:Int) (r:TR):Bool:=okB (ZVm chip r).val
def pPSWE:En:=Zg ZQJ ZHn (λa=>some (Z0c a.1 a.2)) (λa=>pPSW a.1 a.2)
theorem Z0b:Za prog 290 pPSWE:=
 pureP 31 [(236,ZHt),(324,ZXS)] [] ZQJ ZHn ⟨ZlK,ZVk,Tv⟩ Tryz.func290 Tryz.call290 trivial (t:=λa=>ZVm a.1 a.2)
abbrev Zn4:List Sh:=[Sh.one (R.int i64),Sh.agg Ze4,Sh.one (R.int u16)]
abbrev Zn5:Rs:=Rs.one (Sh.agg Ze4)
def ZuE (chip:Int) (r:TR) (v:Int):RT TR:=
 .Lf ((u8.wrap (shrI u16 v 8),r.2.1,r.2.2.1,r.2.2.2.1,r.2.2.2.2.1,r.2.2.2.2.2.1,r.2.2.2.2.2.2.1,ZuB chip (u8.wrap v),r.2.2.2.2.2.2.2.2))
def ZCF (chip:Int) (r:TR) (v:Int):TR:=(ZuE chip r v).val
def ZVc:En:=Zg Zn4 Zn5 (λ_=>none) (λa=>ZCF a.1 a.2.1 a.2.2)
theorem ZKt:Za prog 281 ZVc:=
 pureQ 127 [(323,ZHf)] [] Zn4 Zn5 ⟨ZKs,Tv⟩ Tryz.func281 Tryz.call281 trivial (t:=λa=>ZuE a.1 a.2.1 a.2.2)
abbrev ZHp:List Sh:=[Sh.one (R.int i64),Sh.one (R.int i64),Sh.one (R.int u8),Sh.one (R.int u8)]
abbrev ZuZ:Rs:=Rs.tup [Sh.one (R.int u8),Sh.agg rcF7]
def ZoO (chip:Int) (op:Int) (a:Int) (b:Int):RT (Option (QT2)):=
 let x1:Int:=bif op==4 then andI u8 a b else bif op==5 then xorI u8 a b else bif op==6 then orI u8 a b else 0
 let x2:=pOf x1
 let x3:=x2.2
 let x4:=x3.2
 .br (pOfC x1) (.Lf (some ((x1,x2.1,x3.1,bif chip==2 then pMaj (decide (a>=128)) (decide (b>=128)) (decide (x1>=128)) else x4.1,op==4&&(chip==2||andI u8 (orI u8 a b) 8 !=0),x4.2.2)))) (.Lf none)
def ZHq (chip:Int) (op:Int) (a:Int) (b:Int):QT2:=getO ZuZ.Df (ZoO chip op a b).val
def Zu0 (chip:Int) (op:Int) (a:Int) (b:Int):Bool:=okB (ZoO chip op a b).val
def ZQV:En:=Zg ZHp ZuZ (λa=>some (Zu0 a.1 a.2.1 a.2.2.1 a.2.2.2)) (λa=>ZHq a.1 a.2.1 a.2.2.1 a.2.2.2)
theorem ZQU:Za prog 311 ZQV:=
 pureP 8858394623 [(314,pOfE),(315,ZKG)] [] ZHp ZuZ ⟨ZyI,ZoN,Tv⟩ Tryz.func311 Tryz.call311 trivial (t:=λa=>ZoO a.1 a.2.1 a.2.2.1 a.2.2.2)
abbrev Z0q:List Sh:=[Sh.one (R.int i64),Sh.one (R.int i64),Sh.one (R.int u8),Sh.one (R.int u8),Sh.agg rcF7]
abbrev ZVw:Rs:=Rs.tup [Sh.one (R.int u8),Sh.agg rcF7]
def pDoT (chip:Int) (op:Int) (a:Int) (b:Int) (f:TF):RT (Option (QT2)):=
 let x1:=decide (andI i64 op 7>=4)&&decide (andI i64 op 7<=6)
 let x2:=f.2.2.2.2.2.2&&(andI i64 op 7==1||andI i64 op 7==3)
 let x3:=Zh3 a b x2
 let x4:=x3.1
 let x5:=pOf x4
 let x6:=x5.2
 let x7:=x6.2
 let x8:=x3.2
 let x9:=x8.2
 let x10:=x7.2.2
 let x11:TF:=(x5.1,x6.1,bif chip==2 then pMaj (decide (a>=128)) (decide (b<128)) (decide (x4>=128)) else x7.1,x9.1,x10.1,bif chip==2 then x9.2 else x10.2.1,x8.1)
 let x12:=pSum a b x2
 let x13:=x12.1
 let x14:=pOf x13
 let x15:=x14.2
 let x16:=x15.2
 let x17:=x12.2
 let x18:=x17.2
 let x19:=x16.2.2
 let x20:TF:=(x14.1,x15.1,bif chip==2 then pMaj (decide (a>=128)) (decide (b>=128)) (decide (x13>=128)) else x16.1,x18.1,x19.1,bif chip==2 then x18.2 else x19.2.1,x17.1)
 .br (!x1||Zu0 chip (andI i64 op 7) a b) (.br (x1) (.Lf (some (ZHq chip (andI i64 op 7) a b))) (.br (andI i64 op 7 !=0&&andI i64 op 7 !=1) (.br (pOfC x4) (.br (andI i64 op 7==7) (.Lf (some ((a,x11)))) (.Lf (some ((x4,x11))))) (.Lf none)) (.br (pOfC x13) (.br (andI i64 op 7==7) (.Lf (some ((a,x20)))) (.Lf (some ((x13,x20))))) (.Lf none)))) (.Lf none)
def pDo (chip:Int) (op:Int) (a:Int) (b:Int) (f:TF):QT2:=getO ZVw.Df (pDoT chip op a b f).val
def pDoC (chip:Int) (op:Int) (a:Int) (b:Int) (f:TF):Bool:=okB (pDoT chip op a b f).val
def pDoE:En:=Zg Z0q ZVw (λa=>some (pDoC a.1 a.2.1 a.2.2.1 a.2.2.2.1 a.2.2.2.2)) (λa=>pDo a.1 a.2.1 a.2.2.1 a.2.2.2.1 a.2.2.2.2)
theorem Z2r:Za prog 271 pDoE:=
 pureP 1048575 [(311,ZQV),(312,ZVa),(313,ZHE),(314,pOfE),(315,ZKG)] [] Z0q ZVw ⟨ZQU,ZCC,ZvK,ZyI,ZoN,Tv⟩ Tryz.func271 Tryz.call271 trivial (t:=λa=>pDoT a.1 a.2.1 a.2.2.1 a.2.2.2.1 a.2.2.2.2)
abbrev ZyF:List Sh:=[Sh.one (R.int i64),Sh.one (R.int u8),Sh.one (R.int u8),Sh.one R.bool,Sh.one R.bool,Sh.one R.bool,Sh.agg rcF7]
abbrev Zn7:Rs:=Rs.one (Sh.agg rcF7)
def ZlG (chip:Int) (v:Int) (r:Int) (half:Bool) (over:Bool) (x:Bool) (f:TF):RT (Option TF):=
 .br (pOfC r) (.Lf (some (((pOf r).1,(pOf r).2.1,bif chip==2 then pMaj (decide (v>=128)) x (decide (r>=128)) else (pOf r).2.2.1,half,(pOf r).2.2.2.2.1,bif chip==2 then over else (pOf r).2.2.2.2.2.1,f.2.2.2.2.2.2)))) (.Lf none)
def Zn8 (chip:Int) (v:Int) (r:Int) (half:Bool) (over:Bool) (x:Bool) (f:TF):TF:=getO Zn7.Df (ZlG chip v r half over x f).val
def ZiY (chip:Int) (v:Int) (r:Int) (half:Bool) (over:Bool) (x:Bool) (f:TF):Bool:=okB (ZlG chip v r half over x f).val
def ZuF:En:=Zg ZyF Zn7 (λa=>some (ZiY a.1 a.2.1 a.2.2.1 a.2.2.2.1 a.2.2.2.2.1 a.2.2.2.2.2.1 a.2.2.2.2.2.2)) (λa=>Zn8 a.1 a.2.1 a.2.2.1 a.2.2.2.1 a.2.2.2.2.1 a.2.2.2.2.2.1 a.2.2.2.2.2.2)
theorem ZrB:Za prog 316 ZuF:=
 pureP 65535 [(314,pOfE),(315,ZKG)] [] ZyF Zn7 ⟨ZyI,ZoN,Tv⟩ Tryz.func316 Tryz.call316 trivial (t:=λa=>ZlG a.1 a.2.1 a.2.2.1 a.2.2.2.1 a.2.2.2.2.1 a.2.2.2.2.2.1 a.2.2.2.2.2.2)
abbrev ZQ4:List Sh:=[Sh.one (R.int i64),Sh.one (R.int u8),Sh.agg rcF7]
abbrev ZHu:Rs:=Rs.tup [Sh.one (R.int u8),Sh.agg rcF7]
def ZVr (chip:Int) (v:Int) (f:TF):RT (Option (QT2)):=
 .br (ZiY chip v (pSum v 1 false).1 (pSum v 1 false).2.2.1 (pSum v 1 false).2.2.2 false f) (.Lf (some (((pSum v 1 false).1,Zn8 chip v (pSum v 1 false).1 (pSum v 1 false).2.2.1 (pSum v 1 false).2.2.2 false f)))) (.Lf none)
def pInr (chip:Int) (v:Int) (f:TF):QT2:=getO ZHu.Df (ZVr chip v f).val
def Z0j (chip:Int) (v:Int) (f:TF):Bool:=okB (ZVr chip v f).val
def pInrE:En:=Zg ZQ4 ZHu (λa=>some (Z0j a.1 a.2.1 a.2.2)) (λa=>pInr a.1 a.2.1 a.2.2)
theorem Z0i:Za prog 273 pInrE:=
 pureP 4095 [(312,ZVa),(316,ZuF)] [] ZQ4 ZHu ⟨ZCC,ZrB,Tv⟩ Tryz.func273 Tryz.call273 trivial (t:=λa=>ZVr a.1 a.2.1 a.2.2)
abbrev ZRw:List Sh:=[Sh.one (R.int i64),Sh.one (R.int u8),Sh.agg rcF7]
abbrev ZHG:Rs:=Rs.tup [Sh.one (R.int u8),Sh.agg rcF7]
def ZVz (chip:Int) (v:Int) (f:TF):RT (Option (QT2)):=
 .br (ZiY chip v (Zh3 v 1 false).1 (Zh3 v 1 false).2.2.1 (Zh3 v 1 false).2.2.2 true f) (.Lf (some (((Zh3 v 1 false).1,Zn8 chip v (Zh3 v 1 false).1 (Zh3 v 1 false).2.2.1 (Zh3 v 1 false).2.2.2 true f)))) (.Lf none)
def pDcr (chip:Int) (v:Int) (f:TF):QT2:=getO ZHG.Df (ZVz chip v f).val
def Z0w (chip:Int) (v:Int) (f:TF):Bool:=okB (ZVz chip v f).val
def pDcrE:En:=Zg ZRw ZHG (λa=>some (Z0w a.1 a.2.1 a.2.2)) (λa=>pDcr a.1 a.2.1 a.2.2)
theorem Z0v:Za prog 274 pDcrE:=
 pureP 4095 [(313,ZHE),(316,ZuF)] [] ZRw ZHG ⟨ZvK,ZrB,Tv⟩ Tryz.func274 Tryz.call274 trivial (t:=λa=>ZVz a.1 a.2.1 a.2.2)
abbrev ZQ1:List Sh:=[Sh.one (R.int i64),Sh.one (R.int u16),Sh.agg rcF7]
abbrev ZQ2:Rs:=Rs.tup [Sh.one (R.int u16),Sh.agg rcF7]
def Z0h (chip:Int) (v:Int) (f:TF):RT (QT2):=
 .Lf ((u16.wrap (v+1),f.1,f.2.1,bif chip==2 then v==65535 else f.2.2.1,f.2.2.2))
def pInx (chip:Int) (v:Int) (f:TF):QT2:=(Z0h chip v f).val
def pInxE:En:=Zg ZQ1 ZQ2 (λ_=>none) (λa=>pInx a.1 a.2.1 a.2.2)
theorem Z0g:Za prog 275 pInxE:=
 pureQ 255 [] [] ZQ1 ZQ2 trivial Tryz.func275 Tryz.call275 trivial (t:=λa=>Z0h a.1 a.2.1 a.2.2)
abbrev ZRt:List Sh:=[Sh.one (R.int i64),Sh.one (R.int u16),Sh.agg rcF7]
abbrev ZRu:Rs:=Rs.tup [Sh.one (R.int u16),Sh.agg rcF7]
def Z0u (chip:Int) (v:Int) (f:TF):RT (QT2):=
 .Lf ((u16.wrap (v-1),f.1,f.2.1,bif chip==2 then v==0 else f.2.2.1,f.2.2.2))
def pDcx (chip:Int) (v:Int) (f:TF):QT2:=(Z0u chip v f).val
def pDcxE:En:=Zg ZRt ZRu (λ_=>none) (λa=>pDcx a.1 a.2.1 a.2.2)
theorem Z0t:Za prog 276 pDcxE:=
 pureQ 255 [] [] ZRt ZRu trivial Tryz.func276 Tryz.call276 trivial (t:=λa=>Z0u a.1 a.2.1 a.2.2)
abbrev ZRx:List Sh:=[Sh.one (R.int i64),Sh.one (R.int u16),Sh.one (R.int u16),Sh.agg rcF7]
abbrev ZRy:Rs:=Rs.tup [Sh.one (R.int u16),Sh.agg rcF7]
def Z0y (chip:Int) (a:Int) (b:Int) (f:TF):RT (QT2):=
 .Lf ((u16.wrap (a+b),f.1,f.2.1,f.2.2.1,f.2.2.2.1,f.2.2.2.2.1,bif chip==2 then andI u16 (andI u16 (xorI u16 a (u16.wrap (a+b))) (xorI u16 b (u16.wrap (a+b)))) 32768 !=0 else f.2.2.2.2.2.1,decide (u16.wrap (a+b)<a)))
def pDad (chip:Int) (a:Int) (b:Int) (f:TF):QT2:=(Z0y chip a b f).val
def pDadE:En:=Zg ZRx ZRy (λ_=>none) (λa=>pDad a.1 a.2.1 a.2.2.1 a.2.2.2)
theorem Z0x:Za prog 277 pDadE:=
 pureQ 2047 [] [] ZRx ZRy trivial Tryz.func277 Tryz.call277 trivial (t:=λa=>Z0y a.1 a.2.1 a.2.2.1 a.2.2.2)
abbrev ZDO:List Sh:=[Sh.one (R.int u16),Sh.one (R.int u16)]
abbrev ZvJ:Rs:=Rs.tup [Sh.one (R.int u16),Sh.agg rcF7]
def ZHD (a:Int) (b:Int):RT (Option (QT2)):=
 let x1:=Zh3 (u8.wrap (shrI u16 a 8)) (u8.wrap (shrI u16 b 8)) (Zh3 (u8.wrap a) (u8.wrap b) false).2.1
 let x2:=x1.1
 let x3:=pOf x2
 let x4:=x1.2
 let x5:=x4.2
 .br (pOfC x2) (.Lf (some ((ZQ0 x2 (Zh3 (u8.wrap a) (u8.wrap b) false).1,x3.1,x2==0&&(Zh3 (u8.wrap a) (u8.wrap b) false).1==0,pMaj (decide (a>=32768)) (decide (b<32768)) (decide (x2>=128)),x5.1,x3.2.2.2.2.1,x5.2,x4.1)))) (.Lf none)
def Z0p (a:Int) (b:Int):QT2:=getO ZvJ.Df (ZHD a b).val
def ZRo (a:Int) (b:Int):Bool:=okB (ZHD a b).val
def Z2q:En:=Zg ZDO ZvJ (λa=>some (ZRo a.1 a.2)) (λa=>Z0p a.1 a.2)
theorem ZVv:Za prog 283 Z2q:=
 pureP 32767 [(236,ZHt),(313,ZHE),(314,pOfE),(315,ZKG)] [] ZDO ZvJ ⟨ZlK,ZvK,ZyI,ZoN,Tv⟩ Tryz.func283 Tryz.call283 trivial (t:=λa=>ZHD a.1 a.2)
abbrev ZRA:List Sh:=[Sh.one (R.int i64),Sh.one (R.int u8),Sh.agg rcF7]
abbrev ZHJ:Rs:=Rs.tup [Sh.one (R.int u8),Sh.agg rcF7]
def ZVB (chip:Int) (a:Int) (f:TF):RT (Option (QT2)):=
 let x1:Int:=bif f.2.2.2.1||decide (andI u8 a 15>9) then 6 else 0
 let x2:=pSum a (bif f.2.2.2.2.2.2||decide (a>153) then u8.wrap (x1+96) else x1) false
 let x3:=x2.1
 let x4:=pOf x3
 let x5:=x4.2
 let x6:=x5.2
 let x7:=x2.2.2
 let x8:=x6.2.2
 .br (pOfC x3) (.Lf (some ((x3,x4.1,x5.1,bif chip==2 then pMaj (decide (a>=128)) false (decide (x3>=128)) else x6.1,x7.1,x8.1,bif chip==2 then x7.2 else x8.2.1,f.2.2.2.2.2.2||decide (a>153))))) (.Lf none)
def pDaa (chip:Int) (a:Int) (f:TF):QT2:=getO ZHJ.Df (ZVB chip a f).val
def Z0A (chip:Int) (a:Int) (f:TF):Bool:=okB (ZVB chip a f).val
def pDaaE:En:=Zg ZRA ZHJ (λa=>some (Z0A a.1 a.2.1 a.2.2)) (λa=>pDaa a.1 a.2.1 a.2.2)
theorem Z0z:Za prog 278 pDaaE:=
 pureP 32767 [(312,ZVa),(314,pOfE),(315,ZKG)] [] ZRA ZHJ ⟨ZCC,ZyI,ZoN,Tv⟩ Tryz.func278 Tryz.call278 trivial (t:=λa=>ZVB a.1 a.2.1 a.2.2)
abbrev ZXY:List Sh:=[Sh.one R.bool]
abbrev ZXZ:Rs:=Rs.one (Sh.one (R.int u8))
def Z2o (c:Bool):RT (Int):=
 .br (c) (.Lf (1)) (.Lf (0))
def pLow (c:Bool):Int:=(Z2o c).val
def ZKH:En:=Zg ZXY ZXZ (λ_=>none) (λa=>pLow a)
theorem ZDw:Za prog 320 ZKH:=
 pureQ 7 [] [] ZXY ZXZ trivial Tryz.func320 Tryz.call320 trivial (t:=λa=>Z2o a)
def ZgK:En:=.tree (ZO (envX prog [] [] 7 8) Tryz.f317)
theorem Zkp:Za prog 317 ZgK:=Zaf (P:=prog) (n:=7) (k:=8) (l:=[]) (ol:=[]) trivial Tryz.func317 rfl (by kernel_rfl) Tryz.call317 trivial
def ZgJ:En:=.tree (ZO (envX prog [] [] 7 8) Tryz.f318)
theorem Zko:Za prog 318 ZgJ:=Zaf (P:=prog) (n:=7) (k:=8) (l:=[]) (ol:=[]) trivial Tryz.func318 rfl (by kernel_rfl) Tryz.call318 trivial
def ZgI:En:=.tree (ZO (envX prog [(320,ZKH)] [] 15 8) Tryz.f319)
theorem Zkn:Za prog 319 ZgI:=Zaf (P:=prog) (n:=15) (k:=8) (l:=[(320,ZKH)]) (ol:=[]) ⟨ZDw,Tv⟩ Tryz.func319 rfl (by kernel_rfl) Tryz.call319 trivial
def ZgH:En:=.tree (ZO (envX prog [(320,ZKH)] [] 15 8) Tryz.f321)
theorem Zkm:Za prog 321 ZgH:=Zaf (P:=prog) (n:=15) (k:=8) (l:=[(320,ZKH)]) (ol:=[]) ⟨ZDw,Tv⟩ Tryz.func321 rfl (by kernel_rfl) Tryz.call321 trivial
abbrev ZQt:List Sh:=[Sh.one (R.int i64),Sh.one (R.int u8),Sh.one R.bool]
abbrev ZHi:Rs:=Rs.tup [Sh.one (R.int u8),Sh.one R.bool]
def ZVe (op:Int) (a:Int) (c:Bool):RT (Option (Int×Bool)):=
 .br (andI i64 op 3==0||(andI i64 op 3== ↑(0+1)||(andI i64 op 3== ↑(0+1+1)||andI i64 op 3== ↑(0+1+1+1)))) (.Lf (some ((bif andI i64 op 3==0 then orI u8 (shlI u8 a 1) (shrI u8 a 7) else bif andI i64 op 3== ↑(0+1) then orI u8 (shrI u8 a 1) (shlI u8 a 7) else bif andI i64 op 3== ↑(0+1+1) then orI u8 (shlI u8 a 1) (pLow c) else orI u8 (shrI u8 a 1) (shlI u8 (pLow c) 7),bif andI i64 op 3==0 then decide (a>=128) else bif andI i64 op 3== ↑(0+1) then andI u8 a 1==1 else bif andI i64 op 3== ↑(0+1+1) then decide (a>=128) else andI u8 a 1==1)))) (.Lf none)
def pRot (op:Int) (a:Int) (c:Bool):Int×Bool:=getO ZHi.Df (ZVe op a c).val
def ZZ3 (op:Int) (a:Int) (c:Bool):Bool:=okB (ZVe op a c).val
def pRotE:En:=Zg ZQt ZHi (λa=>some (ZZ3 a.1 a.2.1 a.2.2)) (λa=>pRot a.1 a.2.1 a.2.2)
theorem ZZ2:Za prog 279 pRotE:=
 pureP 511 [(317,ZgK),(318,ZgJ),(319,ZgI),(321,ZgH)] [] ZQt ZHi ⟨Zkp,Zko,Zkn,Zkm,Tv⟩ Tryz.func279 Tryz.call279 trivial (t:=λa=>ZVe a.1 a.2.1 a.2.2)
abbrev ZDQ:List Sh:=[Sh.one (R.int u16)]
abbrev ZDR:Rs:=Rs.tup [Sh.one (R.int u16),Sh.one R.bool]
def ZX3 (v:Int):RT (Int×Bool):=
 .Lf ((orI u16 (shrI u16 v 1) (andI u16 v 32768),andI u16 v 1==1))
def Z2u (v:Int):Int×Bool:=(ZX3 v).val
def Z2t:En:=Zg ZDQ ZDR (λ_=>none) (λa=>Z2u a)
theorem ZVE:Za prog 284 Z2t:=
 pureQ 15 [] [] ZDQ ZDR trivial Tryz.func284 Tryz.call284 trivial (t:=λa=>ZX3 a)
abbrev ZCK:List Sh:=[Sh.one (R.int u16),Sh.one R.bool]
abbrev ZCL:Rs:=Rs.tup [Sh.one (R.int u16),Sh.one R.bool,Sh.one R.bool]
def ZQD (v:Int) (c:Bool):RT (Int×Bool×Bool):=
 .Lf ((orI u16 (shlI u16 v 1) (u16.wrap (pLow c)),decide (v>=32768),andI u16 (xorI u16 (orI u16 (shlI u16 v 1) (u16.wrap (pLow c))) v) 32768 !=0))
def ZZ9 (v:Int) (c:Bool):Int×Bool×Bool:=(ZQD v c).val
def Z2j:En:=Zg ZCK ZCL (λ_=>none) (λa=>ZZ9 a.1 a.2)
theorem ZVi:Za prog 285 Z2j:=
 pureQ 127 [(320,ZKH)] [] ZCK ZCL ⟨ZDw,Tv⟩ Tryz.func285 Tryz.call285 trivial (t:=λa=>ZQD a.1 a.2)
abbrev ZQs:List Sh:=[Sh.one R.bool,Sh.one (R.int i64)]
abbrev ZCG:Rs:=Rs.one (Sh.one (R.int u8))
def ZHh (b:Bool) (n:Int):RT (Option (Int)):=
 .br (!b||decide (0<=n)) (.br (b) (.Lf (some (shlI u8 1 n))) (.Lf (some (0)))) (.Lf none)
def ZyE (b:Bool) (n:Int):Int:=getO ZCG.Df (ZHh b n).val
def ZcS (b:Bool) (n:Int):Bool:=okB (ZHh b n).val
def ZXR:En:=Zg ZQs ZCG (λa=>some (ZcS a.1 a.2)) (λa=>ZyE a.1 a.2)
theorem ZVd:Za prog 282 ZXR:=
 pureP 31 [] [] ZQs ZCG trivial Tryz.func282 Tryz.call282 trivial (t:=λa=>ZHh a.1 a.2)
abbrev ZQv:List Sh:=[Sh.agg Zt,Sh.agg (R.Pq R.bool (R.Pq R.bool rcF7))]
abbrev ZHj:Rs:=Rs.tup [Sh.one (R.int u8),Sh.agg Zt]
def ZVg (c:TC) (l:QT0):RT (Option (Int×TC)):=
 let x1:=bif c.2.2.2.2.2.2.2.2.2.2.1 then c.2.2.2.2.2.2.2.2.2.2.2.1 else c.2.2.1
 .br (!ZcS l.2.2.2.1 7||(!ZcS c.2.2.2.2.2.2.2.1 6||(!ZcS l.2.2.2.2.2.2.1 5||(!ZcS l.2.2.2.2.2.2.2.1 4||ZcS x1 3)))) (.br (!ZcS l.2.2.2.1 7||(!ZcS c.2.2.2.2.2.2.2.1 6||(!ZcS l.2.2.2.2.2.2.1 5||ZcS l.2.2.2.2.2.2.2.1 4))) (.br (!ZcS l.2.2.2.1 7||(!ZcS c.2.2.2.2.2.2.2.1 6||ZcS l.2.2.2.2.2.2.1 5)) (.br (!ZcS l.2.2.2.1 7||ZcS c.2.2.2.2.2.2.2.1 6) (.br (ZcS l.2.2.2.1 7) (.Lf (some ((orI u8 (orI u8 (orI u8 (orI u8 (orI u8 (ZyE l.2.2.2.1 7) (ZyE c.2.2.2.2.2.2.2.1 6)) (ZyE l.2.2.2.2.2.2.1 5)) (ZyE l.2.2.2.2.2.2.2.1 4)) (ZyE x1 3)) (andI u8 c.2.2.2.2.2.1 7),c.1,c.2.1,c.2.2.1,c.2.2.2.1,c.2.2.2.2.1,c.2.2.2.2.2.1,c.2.2.2.2.2.2.1,c.2.2.2.2.2.2.2.1,c.2.2.2.2.2.2.2.2.1,c.2.2.2.2.2.2.2.2.2.1,false,false,c.2.2.2.2.2.2.2.2.2.2.2.2)))) (.Lf none)) (.Lf none)) (.Lf none)) (.Lf none)) (.Lf none)
def pRim (c:TC) (l:QT0):Int×TC:=getO ZHj.Df (ZVg c l).val
def ZZ5 (c:TC) (l:QT0):Bool:=okB (ZVg c l).val
def pRimE:En:=Zg ZQv ZHj (λa=>some (ZZ5 a.1 a.2)) (λa=>pRim a.1 a.2)
theorem ZZ4:Za prog 227 pRimE:=
 pureP 255 [(282,ZXR)] [] ZQv ZHj ⟨ZVd,Tv⟩ Tryz.func227 Tryz.call227 trivial (t:=λa=>ZVg a.1 a.2)
abbrev ZQl:List Sh:=[Sh.agg Zt,Sh.one (R.int u8)]
abbrev ZQm:Rs:=Rs.one (Sh.agg Zt)
def ZZ0 (c:TC) (a:Int):RT TC:=
 .Lf ((c.1,c.2.1,c.2.2.1,c.2.2.2.1,c.2.2.2.2.1,bif andI u8 a 8 !=0 then andI u8 a 7 else c.2.2.2.2.2.1,c.2.2.2.2.2.2.1,!andI u8 a 16 !=0&&c.2.2.2.2.2.2.2.1,c.2.2.2.2.2.2.2.2.1,c.2.2.2.2.2.2.2.2.2.1,c.2.2.2.2.2.2.2.2.2.2.1,c.2.2.2.2.2.2.2.2.2.2.2.1,bif andI u8 a 64 !=0 then andI u8 a 128 !=0 else c.2.2.2.2.2.2.2.2.2.2.2.2))
def pSim (c:TC) (a:Int):TC:=(ZZ0 c a).val
def pSimE:En:=Zg ZQl ZQm (λ_=>none) (λa=>pSim a.1 a.2)
theorem ZZZ:Za prog 228 pSimE:=
 pureQ 31 [] [] ZQl ZQm trivial Tryz.func228 Tryz.call228 trivial (t:=λa=>ZZ0 a.1 a.2)
abbrev Zu2:List Sh:=[Sh.one (R.int i64),Sh.agg rcF7]
abbrev Zu3:Rs:=Rs.one (Sh.one R.bool)
def ZDz (c:Int) (f:TF):RT (Bool):=
 .br (bif c==0 then c==0 else c==1) (.Lf (f.2.1==(c==1))) (.br (bif c==2 then c==2 else c==3) (.Lf (f.2.2.2.2.2.2==(c==3))) (.br (bif c==4 then c==4 else c==5) (.Lf (f.2.2.2.2.1==(c==5))) (.br (bif c==6 then c==6 else c==7) (.Lf (f.1==(c==7))) (.br (bif c==8 then c==8 else c==9) (.Lf (f.2.2.1==(c==9))) (.br (c==10) (.Lf f.2.2.2.2.2.1) (.Lf (c==11)))))))
def ZQ6 (c:Int) (f:TF):Bool:=(ZDz c f).val
def Z0k:En:=Zg Zu2 Zu3 (λ_=>none) (λa=>ZQ6 a.1 a.2)
theorem ZQ5:Za prog 322 Z0k:=
 pureQ 70644700037215 [] [] Zu2 Zu3 trivial Tryz.func322 Tryz.call322 trivial (t:=λa=>ZDz a.1 a.2)
abbrev Zn0:List Sh:=[Sh.one (R.int i64)]
abbrev Zn1:Rs:=Rs.one (Sh.one (R.int u16))
def Zuz (s:Int):RT (Int):=
 .br (s==1) (.Lf (36)) (.br (s==2) (.Lf (60)) (.br (s==3) (.Lf (52)) (.br (s==4) (.Lf (44)) (.Lf (0)))))
def ZCB (s:Int):Int:=(Zuz s).val
def ZU9:En:=Zg Zn0 Zn1 (λ_=>none) (λa=>ZCB a)
theorem ZKr:Za prog 177 ZU9:=
 pureQ 1367 [] [] Zn0 Zn1 trivial Tryz.func177 Tryz.call177 trivial (t:=λa=>Zuz a)
abbrev ZHr:List Sh:=[Sh.one (R.int u8)]
abbrev ZHs:Rs:=Rs.tup [Sh.agg (R.Pq (R.int i64) (R.Pq (R.int i64) (R.Pq (R.int i64) (R.Pq (R.int i64) (R.Pq (R.int i64) (R.Pq (R.int i64) (R.Pq (R.int i64) (R.int i64)))))))),Sh.one R.bool]
def ZQX (op:Int):RT (TI×Bool):=
 .br (op==8) (.Lf (((40,1,0,0,0,0,0,0),true))) (.br (op==16) (.Lf (((41,1,0,0,0,0,0,0),true))) (.br (op==24) (.Lf (((42,1,0,0,0,0,0,0),true))) (.br (op==32) (.Lf (((38,1,0,0,0,0,0,0),true))) (.br (op==40) (.Lf (((43,2,0,0,0,0,0,0),true))) (.br (op==48) (.Lf (((39,1,0,0,0,0,0,0),true))) (.br (op==56) (.Lf (((44,2,0,0,0,0,0,0),true))) (.br (op==203) (.Lf (((45,1,0,0,0,0,10,0),true))) (.br (op==217) (.Lf (((46,1,0,0,0,0,0,0),true))) (.br (op==221) (.Lf (((24,3,0,0,0,0,8,0),true))) (.br (op==237) (.Lf (((47,1,0,0,0,0,0,0),true))) (.br (op==253) (.Lf (((24,3,0,0,0,0,9,0),true))) (.Lf (((0,0,0,0,0,0,0,0),false))))))))))))))
def ZQZ (op:Int):TI×Bool:=(ZQX op).val
def ZQY:En:=Zg ZHr ZHs (λ_=>none) (λa=>ZQZ a)
theorem ZQW:Za prog 239 ZQY:=
 pureQ 314146179375 [] [] ZHr ZHs trivial Tryz.func239 Tryz.call239 trivial (t:=λa=>ZQX a)
abbrev ZrH:List Sh:=[Sh.one (R.int u8)]
abbrev ZrI:Rs:=Rs.tup [Sh.agg (R.Pq (R.int i64) (R.Pq (R.int i64) (R.Pq (R.int i64) (R.Pq (R.int i64) (R.Pq (R.int i64) (R.Pq (R.int i64) (R.Pq (R.int i64) (R.int i64)))))))),Sh.one R.bool]
def ZyK (op:Int):RT (TI×Bool):=
 .br (bif op==0 then op==0 else bif op==8 then op==8 else bif op==16 then op==16 else bif op==24 then op==24 else bif op==32 then op==32 else bif op==40 then op==40 else bif op==48 then op==48 else op==56) (.Lf (((1,1,0,0,0,0,0,0),true))) (.br (bif op==195 then op==195 else op==203) (.Lf (((24,3,0,0,0,0,11,0),true))) (.br (bif op==201 then op==201 else op==217) (.Lf (((26,1,0,0,0,0,11,0),true))) (.br (bif op==205 then op==205 else bif op==221 then op==221 else bif op==237 then op==237 else op==253) (.Lf (((25,3,0,0,0,0,11,0),true))) (.Lf (((0,0,0,0,0,0,0,0),false))))))
def ZiZ (op:Int):TI×Bool:=(ZyK op).val
def ZyL:En:=Zg ZrH ZrI (λ_=>none) (λa=>ZiZ a)
theorem ZDN:Za prog 240 ZyL:=
 pureQ 8945711 [] [] ZrH ZrI trivial Tryz.func240 Tryz.call240 trivial (t:=λa=>ZyK a)
abbrev ZQM:List Sh:=[Sh.one (R.int u8)]
abbrev ZCQ:Rs:=Rs.one (Sh.agg (R.Pq (R.int i64) (R.Pq (R.int i64) (R.Pq (R.int i64) (R.Pq (R.int i64) (R.Pq (R.int i64) (R.Pq (R.int i64) (R.Pq (R.int i64) (R.int i64)))))))))
def ZQN (op:Int):RT (Option TI):=
 let x1:QT31:=(0,0,i64.wrap (andI u8 (shrI u8 op 4) 3),0,0,0)
 let x2:QT24:=(1,x1)
 let x3:=decide (i64.wrap (andI u8 (shrI u8 op 3) 7)<4)&&andI u8 op 8 !=0
 let x4:=decide (0<=i64.wrap (i64.wrap (andI u8 (shrI u8 op 3) 7)-4)/\i64.wrap (i64.wrap (andI u8 (shrI u8 op 3) 7)-4)<4)
 let x5:=i64.wrap (i64.wrap (andI u8 (shrI u8 op 3) 7)-4)==0
 let x6:=i64.wrap (i64.wrap (andI u8 (shrI u8 op 3) 7)-4)== ↑(0+1)
 let x7:=i64.wrap (i64.wrap (andI u8 (shrI u8 op 3) 7)-4)== ↑(0+1+1)
 let x8:QT31:=(i64.wrap (andI u8 (shrI u8 op 3) 7),0,0,0,0,0)
 let x9:QT24:=(1,x8)
 .br (andI u8 op 7==1) (.br (andI u8 op 8 !=0) (.Lf (some ((18,x2)))) (.Lf (some ((4,3,x1))))) (.br (!andI u8 op 7==2||(x3||(decide (i64.wrap (andI u8 (shrI u8 op 3) 7)<4)||x4))) (.br (andI u8 op 7==2) (.br (x3) (.Lf (some ((9,x2)))) (.br (decide (i64.wrap (andI u8 (shrI u8 op 3) 7)<4)) (.Lf (some ((10,x2)))) (.Lf (some ((bif x5 then 8 else bif x6 then 7 else bif x7 then 6 else 5,3,0,0,0,0,0,0)))))) (.br (andI u8 op 7==3) (.br (andI u8 op 8 !=0) (.Lf (some ((17,x2)))) (.Lf (some ((16,x2))))) (.br (andI u8 op 7==4) (.Lf (some ((14,x9)))) (.br (andI u8 op 7==5) (.Lf (some ((15,x9)))) (.br (andI u8 op 7==6) (.Lf (some ((3,2,x8)))) (.br (decide (i64.wrap (andI u8 (shrI u8 op 3) 7)<4)) (.Lf (some ((23,1,0,0,0,i64.wrap (andI u8 (shrI u8 op 3) 7),0,0)))) (.br (x4) (.Lf (some ((bif x5 then 19 else bif x6 then 20 else bif x7 then 21 else 22,1,0,0,0,0,0,0)))) (.Lf none)))))))) (.Lf none))
def Z0e (op:Int):QT6:=getO ZCQ.Df (ZQN op).val
def ZQO (op:Int):Bool:=okB (ZQN op).val
def ZXV:En:=Zg ZQM ZCQ (λa=>some (ZQO a)) (λa=>Z0e a)
theorem ZVo:Za prog 241 ZXV:=
 pureP 614758941389750335 [] [] ZQM ZCQ trivial Tryz.func241 Tryz.call241 trivial (t:=λa=>ZQN a)
abbrev ZHo:List Sh:=[Sh.one (R.int u8)]
abbrev ZuP:Rs:=Rs.one (Sh.agg (R.Pq (R.int i64) (R.Pq (R.int i64) (R.Pq (R.int i64) (R.Pq (R.int i64) (R.Pq (R.int i64) (R.Pq (R.int i64) (R.Pq (R.int i64) (R.int i64)))))))))
def ZCR (op:Int):RT (Option TI):=
 let x1:QT31:=(0,0,0,0,i64.wrap (andI u8 (shrI u8 op 3) 7),0)
 let x2:QT24:=(1,0,0,i64.wrap (andI u8 (shrI u8 op 4) 3),0,0,0)
 let x3:=andI u8 op 7==2||(!andI u8 op 7==3||(!decide (i64.wrap (andI u8 (shrI u8 op 3) 7)<4)||decide (0<=i64.wrap (i64.wrap (andI u8 (shrI u8 op 3) 7)-2)/\i64.wrap (i64.wrap (andI u8 (shrI u8 op 3) 7)-2)<2)))
 let x4:QT24:=(3,x1)
 .br (andI u8 op 7==0) (.Lf (some ((26,1,x1)))) (.br (andI u8 op 7==1) (.br (!andI u8 op 8 !=0) (.Lf (some ((31,x2)))) (.br (i64.wrap (andI u8 (shrI u8 op 3) 7)==5) (.Lf (some ((28,1,0,0,0,0,0,0)))) (.Lf (some ((29,1,0,0,0,0,0,0)))))) (.br (!x3||(andI u8 op 7==2||(!andI u8 op 7==3||(decide (i64.wrap (andI u8 (shrI u8 op 3) 7)<4)||decide (0<=i64.wrap (i64.wrap (andI u8 (shrI u8 op 3) 7)-4)/\i64.wrap (i64.wrap (andI u8 (shrI u8 op 3) 7)-4)<4))))) (.br (x3) (.br (andI u8 op 7==2) (.Lf (some ((24,x4)))) (.br (andI u8 op 7==3) (.br (decide (i64.wrap (andI u8 (shrI u8 op 3) 7)<4)) (.Lf (some ((bif i64.wrap (i64.wrap (andI u8 (shrI u8 op 3) 7)-2)==0 then 34 else 33,2,0,0,0,0,0,0)))) (.Lf (some ((bif i64.wrap (i64.wrap (andI u8 (shrI u8 op 3) 7)-4)==0 then 32 else bif i64.wrap (i64.wrap (andI u8 (shrI u8 op 3) 7)-4)== ↑(0+1) then 11 else bif i64.wrap (i64.wrap (andI u8 (shrI u8 op 3) 7)-4)== ↑(0+1+1) then 36 else 35,1,0,0,0,0,0,0))))) (.br (andI u8 op 7==4) (.Lf (some ((25,x4)))) (.br (andI u8 op 7==5) (.Lf (some ((30,x2)))) (.br (andI u8 op 7==6) (.Lf (some ((13,2,0,0,0,i64.wrap (andI u8 (shrI u8 op 3) 7),0,0)))) (.Lf (some ((27,1,0,0,0,0,0,i64.wrap (andI u8 (shrI u8 op 3) 7)))))))))) (.Lf none)) (.Lf none)))
def ZQR (op:Int):QT6:=getO ZuP.Df (ZCR op).val
def ZCS (op:Int):Bool:=okB (ZCR op).val
def ZQQ:En:=Zg ZHo ZuP (λa=>some (ZCS a)) (λa=>ZQR a)
theorem ZQP:Za prog 242 ZQQ:=
 pureP 614741495173873727 [] [] ZHo ZuP trivial Tryz.func242 Tryz.call242 trivial (t:=λa=>ZCR a)
abbrev Zi0:List Sh:=[Sh.one (R.int i64),Sh.one (R.int u8)]
abbrev Zi1:Rs:=Rs.one (Sh.agg (R.Pq (R.int i64) (R.Pq (R.int i64) (R.Pq (R.int i64) (R.Pq (R.int i64) (R.Pq (R.int i64) (R.Pq (R.int i64) (R.Pq (R.int i64) (R.int i64)))))))))
def ZfD (chip:Int) (op:Int):RT (Option TI):=
 let x1:QT6:=(37,1,0,0,0,0,0,0)
 let x2:QT6:=(2,1,i64.wrap (andI u8 (shrI u8 op 3) 7),i64.wrap (andI u8 op 7),0,0,0,0)
 let x3:QT6:=(12,1,0,i64.wrap (andI u8 op 7),0,i64.wrap (andI u8 (shrI u8 op 3) 7),0,0)
 .br (chip==2) (.br (ZQZ op).2 (.Lf (some (ZQZ op).1)) (.br (ZiZ op).2 (.Lf (some (ZiZ op).1)) (.br (!shrI u8 op 6==0||ZQO op) (.br (shrI u8 op 6==0) (.Lf (some (Z0e op))) (.br (shrI u8 op 6==1) (.br (op==118) (.Lf (some (x1))) (.Lf (some (x2)))) (.br (shrI u8 op 6==2) (.Lf (some (x3))) (.br (ZCS op) (.Lf (some (ZQR op))) (.Lf none))))) (.Lf none)))) (.br (ZiZ op).2 (.Lf (some (ZiZ op).1)) (.br (!shrI u8 op 6==0||ZQO op) (.br (shrI u8 op 6==0) (.Lf (some (Z0e op))) (.br (shrI u8 op 6==1) (.br (op==118) (.Lf (some (x1))) (.Lf (some (x2)))) (.br (shrI u8 op 6==2) (.Lf (some (x3))) (.br (ZCS op) (.Lf (some (ZQR op))) (.Lf none))))) (.Lf none)))
def ZoS (chip:Int) (op:Int):QT6:=getO Zi1.Df (ZfD chip op).val
def ZlL (chip:Int) (op:Int):Bool:=okB (ZfD chip op).val
def ZVx:En:=Zg Zi0 Zi1 (λa=>some (ZlL a.1 a.2)) (λa=>ZoS a.1 a.2)
theorem ZLm:Za prog 182 ZVx:=
 pureP 17594467746303 [(239,ZQY),(240,ZyL),(241,ZXV),(242,ZQQ)] [] Zi0 Zi1 ⟨ZQW,ZDN,ZVo,ZQP,Tv⟩ Tryz.func182 Tryz.call182 trivial (t:=λa=>ZfD a.1 a.2)
abbrev Z1Z:List Sh:=[Sh.one (R.int i64)]
abbrev Z10:Rs:=Rs.one (Sh.one R.bool)
def rOnT (chip:Int):RT (Bool):=
 .Lf (chip==2)
def rOn (chip:Int):Bool:=(rOnT chip).val
def rOnE:En:=Zg Z1Z Z10 (λ_=>none) (λa=>rOn a)
theorem Zei:Za prog 146 rOnE:=
 pureQ 7 [] [] Z1Z Z10 trivial Tryz.func146 Tryz.call146 trivial (t:=λa=>rOnT a)
abbrev Zx6:List Sh:=[Sh.one (R.int u8)]
abbrev Zx7:Rs:=Rs.one (Sh.one R.bool)
def ZGy (b:Int):RT (Bool):=
 let x1:=i64.wrap (i64.wrap (i64.wrap (i64.wrap (0+1)+1)+1)+1)
 let x2:=i64.wrap (x1+1)
 let x3:=i64.wrap (x2+1)
 let x4:=bif andI u8 (shrI u8 b (i64.wrap (0+1))) 1==1 then !!andI u8 (shrI u8 b 0) 1==1 else !andI u8 (shrI u8 b 0) 1==1
 let x5:=bif andI u8 (shrI u8 b (i64.wrap (i64.wrap (0+1)+1))) 1==1 then !x4 else x4
 let x6:=bif andI u8 (shrI u8 b (i64.wrap (i64.wrap (i64.wrap (0+1)+1)+1))) 1==1 then !x5 else x5
 let x7:=bif andI u8 (shrI u8 b x1) 1==1 then !x6 else x6
 let x8:=bif andI u8 (shrI u8 b x2) 1==1 then !x7 else x7
 let x9:=bif andI u8 (shrI u8 b x3) 1==1 then !x8 else x8
 .Lf (bif andI u8 (shrI u8 b (i64.wrap (x3+1))) 1==1 then !x9 else x9)
def Zm0 (b:Int):Bool:=(ZGy b).val
def Zti:En:=Zg Zx6 Zx7 (λ_=>none) (λa=>Zm0 a)
theorem Zri:Za prog 266 Zti:=
 ZG9 (P:=prog) (n:=31) (k:=10) (l:=[]) (ol:=[]) trivial Tryz.func266 rfl (by kernel_rfl) Tryz.call266 trivial (ts:=Zx6) (rs:=Zx7) (t:=λa=>ZGy a) (λa=>by kernel_rfl)
abbrev ZXl:List Sh:=[Sh.one R.bool,Sh.one R.bool,Sh.one R.bool]
abbrev ZXm:Rs:=Rs.one (Sh.one R.bool)
def Z15 (a:Bool) (b:Bool) (c:Bool):RT (Bool):=
 .Lf (bif a then b||bif a then c||b&&c else b&&c else bif a then c||b&&c else b&&c)
def rMaj (a:Bool) (b:Bool) (c:Bool):Bool:=(Z15 a b c).val
def ZJz:En:=Zg ZXl ZXm (λ_=>none) (λa=>rMaj a.1 a.2.1 a.2.2)
theorem ZnF:Za prog 264 ZJz:=
 pureQ 127 [] [] ZXl ZXm trivial Tryz.func264 Tryz.call264 trivial (t:=λa=>Z15 a.1 a.2.1 a.2.2)
abbrev ZXf:List Sh:=[Sh.one R.bool]
abbrev ZXg:Rs:=Rs.one (Sh.one (R.int i64))
def Z1Y (b:Bool):RT (Int):=
 .br (b) (.Lf (1)) (.Lf (0))
def rOne (b:Bool):Int:=(Z1Y b).val
def ZUL:En:=Zg ZXf ZXg (λ_=>none) (λa=>rOne a)
theorem ZBl:Za prog 267 ZUL:=
 pureQ 7 [] [] ZXf ZXg trivial Tryz.func267 Tryz.call267 trivial (t:=λa=>Z1Y a)
abbrev ZxX:List Sh:=[Sh.one (R.int u8)]
abbrev ZxY:Rs:=Rs.one (Sh.one (R.int i64))
def Zlu (n:Int):RT (Int):=
 .Lf (i64.wrap (IntKind.i8.wrap n))
def Zeh (n:Int):Int:=(Zlu n).val
def Zs9:En:=Zg ZxX ZxY (λ_=>none) (λa=>Zeh a)
theorem Zrb:Za prog 309 Zs9:=
 pureQ 7 [] [] ZxX ZxY trivial Tryz.func309 Tryz.call309 trivial (t:=λa=>Zlu a)
abbrev ZW4:List Sh:=[Sh.one (R.int u8),Sh.one (R.int u8),Sh.one R.bool]
abbrev ZW5:Rs:=Rs.tup [Sh.one (R.int u8),Sh.one R.bool,Sh.one R.bool,Sh.one R.bool]
def ZUv (a:Int) (b:Int) (c:Bool):RT (QT21):=
 let x1:=decide (i64.wrap (i64.wrap (Zeh a+Zeh b)+rOne c)< -128)
 let x2:=i64.wrap (i64.wrap (i64.wrap a+i64.wrap b)+rOne c)
 let x3:=u8.wrap x2
 let x4:=decide (x2>255)
 let x5:=decide (i64.wrap (i64.wrap (i64.wrap (andI u8 a 15)+i64.wrap (andI u8 b 15))+rOne c)>15)
 .Lf ((bif x1 then x3 else x3,bif x1 then x4 else x4,bif x1 then x5 else x5,x1||decide (i64.wrap (i64.wrap (Zeh a+Zeh b)+rOne c)>127)))
def rSum (a:Int) (b:Int) (c:Bool):QT21:=(ZUv a b c).val
def ZUw:En:=Zg ZW4 ZW5 (λ_=>none) (λa=>rSum a.1 a.2.1 a.2.2)
theorem ZA5:Za prog 260 ZUw:=
 pureQ 8191 [(267,ZUL),(309,Zs9)] [] ZW4 ZW5 ⟨ZBl,Zrb,Tv⟩ Tryz.func260 Tryz.call260 trivial (t:=λa=>ZUv a.1 a.2.1 a.2.2)
abbrev ZPG:List Sh:=[Sh.one (R.int u8),Sh.one (R.int u8),Sh.one R.bool]
abbrev ZPH:Rs:=Rs.tup [Sh.one (R.int u8),Sh.one R.bool,Sh.one R.bool,Sh.one R.bool]
def ZGU (a:Int) (b:Int) (c:Bool):RT (QT21):=
 let x1:=decide (i64.wrap (i64.wrap (Zeh a-Zeh b)-rOne c)< -128)
 let x2:=i64.wrap (i64.wrap (i64.wrap a-i64.wrap b)-rOne c)
 let x3:=u8.wrap x2
 let x4:=decide (x2<0)
 let x5:=decide (i64.wrap (i64.wrap (i64.wrap (i64.wrap (andI u8 a 15)+i64.wrap (u8.wrap (15-andI u8 b 15)))+1)-rOne c)>15)
 .Lf ((bif x1 then x3 else x3,bif x1 then x4 else x4,bif x1 then x5 else x5,x1||decide (i64.wrap (i64.wrap (Zeh a-Zeh b)-rOne c)>127)))
def ZcF (a:Int) (b:Int) (c:Bool):QT21:=(ZGU a b c).val
def ZGV:En:=Zg ZPG ZPH (λ_=>none) (λa=>ZcF a.1 a.2.1 a.2.2)
theorem Zuf:Za prog 261 ZGV:=
 pureQ 8191 [(267,ZUL),(309,Zs9)] [] ZPG ZPH ⟨ZBl,Zrb,Tv⟩ Tryz.func261 Tryz.call261 trivial (t:=λa=>ZGU a.1 a.2.1 a.2.2)
abbrev ZPg:List Sh:=[Sh.one (R.int u8),Sh.one (R.int u8)]
abbrev ZPh:Rs:=Rs.one (Sh.one (R.int u16))
def ZXn (h:Int) (l:Int):RT (Int):=
 .Lf (orI u16 (shlI u16 (u16.wrap h) 8) (u16.wrap l))
def ZcO (h:Int) (l:Int):Int:=(ZXn h l).val
def ZnJ:En:=Zg ZPg ZPh (λ_=>none) (λa=>ZcO a.1 a.2)
theorem ZiK:Za prog 172 ZnJ:=
 pureQ 31 [] [] ZPg ZPh trivial Tryz.func172 Tryz.call172 trivial (t:=λa=>ZXn a.1 a.2)
abbrev ZXE:List Sh:=[Sh.one R.bool,Sh.one (R.int i64)]
abbrev ZPN:Rs:=Rs.one (Sh.one (R.int u8))
def ZUX (b:Bool) (n:Int):RT (Option (Int)):=
 .br (!b||decide (0<=n)) (.br (b) (.Lf (some (shlI u8 1 n))) (.Lf (some (0)))) (.Lf none)
def rBit (b:Bool) (n:Int):Int:=getO ZPN.Df (ZUX b n).val
def ZdO (b:Bool) (n:Int):Bool:=okB (ZUX b n).val
def ZUY:En:=Zg ZXE ZPN (λa=>some (ZdO a.1 a.2)) (λa=>rBit a.1 a.2)
theorem ZCn:Za prog 265 ZUY:=
 pureP 31 [] [] ZXE ZPN trivial Tryz.func265 Tryz.call265 trivial (t:=λa=>ZUX a.1 a.2)
abbrev ZOU:List Sh:=[Sh.one (R.int i64),Sh.agg rcF7]
abbrev ZBk:Rs:=Rs.one (Sh.one (R.int u8))
def Zx8 (chip:Int) (f:TF):RT (Option (Int)):=
 let x1:=orI u8 (orI u8 (orI u8 (orI u8 (rBit f.1 7) (rBit f.2.1 6)) (rBit f.2.2.2.1 4)) (rBit f.2.2.2.2.1 2)) (rBit f.2.2.2.2.2.2 0)
 .br (!ZdO f.1 7||(!ZdO f.2.1 6||(!ZdO f.2.2.2.1 4||(!ZdO f.2.2.2.2.1 2||ZdO f.2.2.2.2.2.2 0)))) (.br (!ZdO f.1 7||(!ZdO f.2.1 6||(!ZdO f.2.2.2.1 4||ZdO f.2.2.2.2.1 2))) (.br (!ZdO f.1 7||(!ZdO f.2.1 6||ZdO f.2.2.2.1 4)) (.br (!ZdO f.1 7||ZdO f.2.1 6) (.br (ZdO f.1 7) (.br (!rOn chip||(!ZdO f.2.2.1 5||ZdO f.2.2.2.2.2.1 1)) (.br (!rOn chip||ZdO f.2.2.1 5) (.br (rOn chip) (.Lf (some (orI u8 (orI u8 x1 (rBit f.2.2.1 5)) (rBit f.2.2.2.2.2.1 1)))) (.Lf (some (orI u8 x1 2)))) (.Lf none)) (.Lf none)) (.Lf none)) (.Lf none)) (.Lf none)) (.Lf none)) (.Lf none)
def ZUJ (chip:Int) (f:TF):Int:=getO ZBk.Df (Zx8 chip f).val
def ZGz (chip:Int) (f:TF):Bool:=okB (Zx8 chip f).val
def ZXe:En:=Zg ZOU ZBk (λa=>some (ZGz a.1 a.2)) (λa=>ZUJ a.1 a.2)
theorem ZUI:Za prog 221 ZXe:=
 pureP 63 [(146,rOnE),(265,ZUY)] [] ZOU ZBk ⟨Zei,ZCn,Tv⟩ Tryz.func221 Tryz.call221 trivial (t:=λa=>Zx8 a.1 a.2)
abbrev ZxQ:List Sh:=[Sh.one (R.int i64),Sh.one (R.int u8)]
abbrev ZxR:Rs:=Rs.one (Sh.agg rcF7)
def Zs6 (chip:Int) (b:Int):RT TF:=
 .Lf ((andI u8 b 128 !=0,andI u8 b 64 !=0,rOn chip&&andI u8 b 32 !=0,andI u8 b 16 !=0,andI u8 b 4 !=0,rOn chip&&andI u8 b 2 !=0,andI u8 b 1 !=0))
def Zs7 (chip:Int) (b:Int):TF:=(Zs6 chip b).val
def ZF7:En:=Zg ZxQ ZxR (λ_=>none) (λa=>Zs7 a.1 a.2)
theorem ZJe:Za prog 259 ZF7:=
 pureQ 63 [(146,rOnE)] [] ZxQ ZxR ⟨Zei,Tv⟩ Tryz.func259 Tryz.call259 trivial (t:=λa=>Zs6 a.1 a.2)
abbrev Z12:List Sh:=[Sh.one (R.int u8)]
abbrev Z13:Rs:=Rs.one (Sh.agg rcF7)
def rOfT (r:Int):RT TF:=
 .Lf ((decide (r>=128),r==0,false,false,Zm0 r,false,false))
def rOf (r:Int):TF:=(rOfT r).val
def rOfE:En:=Zg Z12 Z13 (λ_=>none) (λa=>rOf a)
theorem ZGC:Za prog 262 rOfE:=
 pureQ 7 [(266,Zti)] [] Z12 Z13 ⟨Zri,Tv⟩ Tryz.func262 Tryz.call262 trivial (t:=λa=>rOfT a)
abbrev ZOY:List Sh:=[Sh.one (R.int i64),Sh.agg rcF7,Sh.one R.bool,Sh.one R.bool]
abbrev ZOZ:Rs:=Rs.one (Sh.agg rcF7)
def Zrk (chip:Int) (f:TF) (k:Bool) (v:Bool):RT TF:=
 .Lf ((f.1,f.2.1,rOn chip&&bif rOn chip then k else k,f.2.2.2.1,f.2.2.2.2.1,bif rOn chip then rOn chip&&v else rOn chip&&v,f.2.2.2.2.2.2))
def Zqq (chip:Int) (f:TF) (k:Bool) (v:Bool):TF:=(Zrk chip f k v).val
def Zx9:En:=Zg ZOY ZOZ (λ_=>none) (λa=>Zqq a.1 a.2.1 a.2.2.1 a.2.2.2)
theorem Zly:Za prog 263 Zx9:=
 pureQ 511 [(146,rOnE)] [] ZOY ZOZ ⟨Zei,Tv⟩ Tryz.func263 Tryz.call263 trivial (t:=λa=>Zrk a.1 a.2.1 a.2.2.1 a.2.2.2)
abbrev ZPl:List Sh:=[Sh.agg Ze4,Sh.one (R.int i64)]
abbrev ZGM:Rs:=Rs.one (Sh.one (R.int u8))
def ZB9 (r:TR) (n:Int):RT (Option (Int)):=
 .br (decide (0<=andI i64 n 7/\andI i64 n 7<8)) (.Lf (some (bif andI i64 n 7==0 then r.2.1 else bif andI i64 n 7== ↑(0+1) then r.2.2.1 else bif andI i64 n 7== ↑(0+1+1) then r.2.2.2.1 else bif andI i64 n 7== ↑(0+1+1+1) then r.2.2.2.2.1 else bif andI i64 n 7== ↑(0+1+1+1+1) then r.2.2.2.2.2.1 else bif andI i64 n 7== ↑(0+1+1+1+1+1) then r.2.2.2.2.2.2.1 else bif andI i64 n 7== ↑(0+1+1+1+1+1+1) then 0 else r.1))) (.Lf none)
def rGet (r:TR) (n:Int):Int:=getO ZGM.Df (ZB9 r n).val
def ZCb (r:TR) (n:Int):Bool:=okB (ZB9 r n).val
def Z17:En:=Zg ZPl ZGM (λa=>some (ZCb a.1 a.2)) (λa=>rGet a.1 a.2)
theorem ZPk:Za prog 163 Z17:=
 pureP 31 [] [] ZPl ZGM trivial Tryz.func163 Tryz.call163 trivial (t:=λa=>ZB9 a.1 a.2)
abbrev ZW8:List Sh:=[Sh.agg Ze4,Sh.one (R.int i64),Sh.one (R.int u8)]
abbrev ZW9:Rs:=Rs.one (Sh.agg Ze4)
def ZZk (r:TR) (n:Int) (v:Int):RT TR:=
 .Lf ((bif andI i64 n 7==0 then r.1 else bif andI i64 n 7==1 then r.1 else bif andI i64 n 7==2 then r.1 else bif andI i64 n 7==3 then r.1 else bif andI i64 n 7==4 then r.1 else bif andI i64 n 7==5 then r.1 else bif andI i64 n 7==7 then v else r.1,bif andI i64 n 7==0 then v else r.2.1,bif andI i64 n 7==0 then r.2.2.1 else bif andI i64 n 7==1 then v else r.2.2.1,bif andI i64 n 7==0 then r.2.2.2.1 else bif andI i64 n 7==1 then r.2.2.2.1 else bif andI i64 n 7==2 then v else r.2.2.2.1,bif andI i64 n 7==0 then r.2.2.2.2.1 else bif andI i64 n 7==1 then r.2.2.2.2.1 else bif andI i64 n 7==2 then r.2.2.2.2.1 else bif andI i64 n 7==3 then v else r.2.2.2.2.1,bif andI i64 n 7==0 then r.2.2.2.2.2.1 else bif andI i64 n 7==1 then r.2.2.2.2.2.1 else bif andI i64 n 7==2 then r.2.2.2.2.2.1 else bif andI i64 n 7==3 then r.2.2.2.2.2.1 else bif andI i64 n 7==4 then v else r.2.2.2.2.2.1,bif andI i64 n 7==0 then r.2.2.2.2.2.2.1 else bif andI i64 n 7==1 then r.2.2.2.2.2.2.1 else bif andI i64 n 7==2 then r.2.2.2.2.2.2.1 else bif andI i64 n 7==3 then r.2.2.2.2.2.2.1 else bif andI i64 n 7==4 then r.2.2.2.2.2.2.1 else bif andI i64 n 7==5 then v else r.2.2.2.2.2.2.1,r.2.2.2.2.2.2.2))
def rSet (r:TR) (n:Int) (v:Int):TR:=(ZZk r n v).val
def ZJh:En:=Zg ZW8 ZW9 (λ_=>none) (λa=>rSet a.1 a.2.1 a.2.2)
theorem ZA7:Za prog 205 ZJh:=
 pureQ 9162596991 [] [] ZW8 ZW9 trivial Tryz.func205 Tryz.call205 trivial (t:=λa=>ZZk a.1 a.2.1 a.2.2)
abbrev ZBj:List Sh:=[Sh.agg Ze4,Sh.one (R.int i64)]
abbrev Ztj:Rs:=Rs.one (Sh.one (R.int u16))
def Zrj (r:TR) (n:Int):RT (Option (Int)):=
 .br (andI i64 n 3==3) (.Lf (some r.2.2.2.2.2.2.2.2.1)) (.br (!ZCb r (i64.wrap (2*andI i64 n 3))||ZCb r (i64.wrap (i64.wrap (2*andI i64 n 3)+1))) (.br (ZCb r (i64.wrap (2*andI i64 n 3))) (.Lf (some (ZcO (rGet r (i64.wrap (2*andI i64 n 3))) (rGet r (i64.wrap (i64.wrap (2*andI i64 n 3)+1)))))) (.Lf none)) (.Lf none))
def Zak (r:TR) (n:Int):Int:=getO Ztj.Df (Zrj r n).val
def ZOT (r:TR) (n:Int):Bool:=okB (Zrj r n).val
def Z1X:En:=Zg ZBj Ztj (λa=>some (ZOT a.1 a.2)) (λa=>Zak a.1 a.2)
theorem ZUH:Za prog 158 Z1X:=
 pureP 31 [(163,Z17),(172,ZnJ)] [] ZBj Ztj ⟨ZPk,ZiK,Tv⟩ Tryz.func158 Tryz.call158 trivial (t:=λa=>Zrj a.1 a.2)
abbrev Zrc:List Sh:=[Sh.agg Ze4,Sh.one (R.int i64),Sh.one (R.int u16)]
abbrev Zrd:Rs:=Rs.one (Sh.agg Ze4)
def Zgn (r:TR) (n:Int) (v:Int):RT TR:=
 .br (andI i64 n 3==3) (.Lf ((r.1,r.2.1,r.2.2.1,r.2.2.2.1,r.2.2.2.2.1,r.2.2.2.2.2.1,r.2.2.2.2.2.2.1,r.2.2.2.2.2.2.2.1,v,r.2.2.2.2.2.2.2.2.2))) (.Lf (rSet (rSet r (i64.wrap (2*andI i64 n 3)) (u8.wrap (shrI u16 v 8))) (i64.wrap (i64.wrap (2*andI i64 n 3)+1)) (u8.wrap v)))
def Zn (r:TR) (n:Int) (v:Int):TR:=(Zgn r n v).val
def Zgo:En:=Zg Zrc Zrd (λ_=>none) (λa=>Zn a.1 a.2.1 a.2.2)
theorem ZmU:Za prog 206 Zgo:=
 pureQ 127 [(205,ZJh)] [] Zrc Zrd ⟨ZA7,Tv⟩ Tryz.func206 Tryz.call206 trivial (t:=λa=>Zgn a.1 a.2.1 a.2.2)
abbrev ZOV:List Sh:=[Sh.one (R.int i64),Sh.agg Ze4]
abbrev ZGA:Rs:=Rs.one (Sh.one (R.int u16))
def ZOW (chip:Int) (r:TR):RT (Option (Int)):=
 .br (ZGz chip r.2.2.2.2.2.2.2.1) (.Lf (some (ZcO r.1 (ZUJ chip r.2.2.2.2.2.2.2.1)))) (.Lf none)
def rPSW (chip:Int) (r:TR):Int:=getO ZGA.Df (ZOW chip r).val
def ZZs (chip:Int) (r:TR):Bool:=okB (ZOW chip r).val
def rPSWE:En:=Zg ZOV ZGA (λa=>some (ZZs a.1 a.2)) (λa=>rPSW a.1 a.2)
theorem ZZr:Za prog 171 rPSWE:=
 pureP 31 [(172,ZnJ),(221,ZXe)] [] ZOV ZGA ⟨ZiK,ZUI,Tv⟩ Tryz.func171 Tryz.call171 trivial (t:=λa=>ZOW a.1 a.2)
abbrev ZxZ:List Sh:=[Sh.one (R.int i64),Sh.agg Ze4,Sh.one (R.int u16)]
abbrev Zx0:Rs:=Rs.one (Sh.agg Ze4)
def Zlv (chip:Int) (r:TR) (v:Int):RT TR:=
 .Lf ((u8.wrap (shrI u16 v 8),r.2.1,r.2.2.1,r.2.2.2.1,r.2.2.2.2.1,r.2.2.2.2.2.1,r.2.2.2.2.2.2.1,Zs7 chip (u8.wrap v),r.2.2.2.2.2.2.2.2))
def Zgp (chip:Int) (r:TR) (v:Int):TR:=(Zlv chip r v).val
def Zta:En:=Zg ZxZ Zx0 (λ_=>none) (λa=>Zgp a.1 a.2.1 a.2.2)
theorem ZJg:Za prog 207 Zta:=
 pureQ 127 [(259,ZF7)] [] ZxZ Zx0 ⟨ZJe,Tv⟩ Tryz.func207 Tryz.call207 trivial (t:=λa=>Zlv a.1 a.2.1 a.2.2)
abbrev Z2a:List Sh:=[Sh.one (R.int i64),Sh.one (R.int i64),Sh.one (R.int u8),Sh.one (R.int u8),Sh.agg rcF7]
abbrev Z2b:Rs:=Rs.tup [Sh.one (R.int u8),Sh.agg rcF7]
def rDoT (chip:Int) (op:Int) (a:Int) (b:Int) (f:TF):RT (QT2):=
 let x1:=bif andI i64 op 7==0 then andI i64 op 7==0 else andI i64 op 7==1
 let x2:=bif andI i64 op 7==2 then andI i64 op 7==2 else bif andI i64 op 7==3 then andI i64 op 7==3 else andI i64 op 7==7
 let x3:Int:=bif x1 then bif andI i64 op 7==1 then (rSum a b f.2.2.2.2.2.2).1 else (rSum a b false).1 else bif x2 then bif andI i64 op 7==3 then (ZcF a b f.2.2.2.2.2.2).1 else (ZcF a b false).1 else bif andI i64 op 7==4 then bif rOn chip then andI u8 a b else andI u8 a b else bif andI i64 op 7==5 then xorI u8 a b else bif andI i64 op 7==6 then orI u8 a b else 0
 let x4:=rOf x3
 let x5:=x4.2
 let x6:=x5.2
 let x7:=x6.2.2
 let x8:=Zqq chip (x4.1,x5.1,x6.1,bif x1 then bif andI i64 op 7==1 then (rSum a b f.2.2.2.2.2.2).2.2.1 else (rSum a b false).2.2.1 else bif x2 then bif andI i64 op 7==3 then (ZcF a b f.2.2.2.2.2.2).2.2.1 else (ZcF a b false).2.2.1 else andI i64 op 7==4&&(rOn chip||andI u8 (orI u8 a b) 8 !=0),x7.1,x7.2.1,bif x1 then bif andI i64 op 7==1 then (rSum a b f.2.2.2.2.2.2).2.1 else (rSum a b false).2.1 else x2&&bif andI i64 op 7==3 then (ZcF a b f.2.2.2.2.2.2).2.1 else (ZcF a b false).2.1) (rMaj (decide (a>=128)) (bif x1 then decide (b>=128) else bif x2 then !decide (b>=128) else decide (b>=128)) (decide (x3>=128))) (bif x1 then bif andI i64 op 7==1 then (rSum a b f.2.2.2.2.2.2).2.2.2 else (rSum a b false).2.2.2 else x2&&bif andI i64 op 7==3 then (ZcF a b f.2.2.2.2.2.2).2.2.2 else (ZcF a b false).2.2.2)
 .br (andI i64 op 7==7) (.Lf ((a,x8))) (.Lf ((x3,x8)))
def rDo (chip:Int) (op:Int) (a:Int) (b:Int) (f:TF):QT2:=(rDoT chip op a b f).val
def rDoE:En:=Zg Z2a Z2b (λ_=>none) (λa=>rDo a.1 a.2.1 a.2.2.1 a.2.2.2.1 a.2.2.2.2)
theorem Z19:Za prog 208 rDoE:=
 pureQ 1246707057321695066193919 [(146,rOnE),(260,ZUw),(261,ZGV),(262,rOfE),(263,Zx9),(264,ZJz)] [] Z2a Z2b ⟨Zei,ZA5,Zuf,ZGC,Zly,ZnF,Tv⟩ Tryz.func208 Tryz.call208 trivial (t:=λa=>rDoT a.1 a.2.1 a.2.2.1 a.2.2.2.1 a.2.2.2.2)
abbrev ZXq:List Sh:=[Sh.one (R.int i64),Sh.one (R.int u8),Sh.agg rcF7]
abbrev ZXr:Rs:=Rs.tup [Sh.one (R.int u8),Sh.agg rcF7]
def ZZy (chip:Int) (v:Int) (f:TF):RT (QT2):=
 .Lf (((rSum v 1 false).1,Zqq chip ((rOf (rSum v 1 false).1).1,(rOf (rSum v 1 false).1).2.1,(rOf (rSum v 1 false).1).2.2.1,(rSum v 1 false).2.2.1,(rOf (rSum v 1 false).1).2.2.2.2.1,(rOf (rSum v 1 false).1).2.2.2.2.2.1,f.2.2.2.2.2.2) (rMaj (decide (v>=128)) false (decide ((rSum v 1 false).1>=128))) (rSum v 1 false).2.2.2))
def rInr (chip:Int) (v:Int) (f:TF):QT2:=(ZZy chip v f).val
def Z16:En:=Zg ZXq ZXr (λ_=>none) (λa=>rInr a.1 a.2.1 a.2.2)
theorem ZZx:Za prog 218 Z16:=
 pureQ 8191 [(260,ZUw),(262,rOfE),(263,Zx9),(264,ZJz)] [] ZXq ZXr ⟨ZA5,ZGC,Zly,ZnF,Tv⟩ Tryz.func218 Tryz.call218 trivial (t:=λa=>ZZy a.1 a.2.1 a.2.2)
abbrev ZXx:List Sh:=[Sh.one (R.int i64),Sh.one (R.int u8),Sh.agg rcF7]
abbrev ZXy:Rs:=Rs.tup [Sh.one (R.int u8),Sh.agg rcF7]
def ZZI (chip:Int) (v:Int) (f:TF):RT (QT2):=
 .Lf (((ZcF v 1 false).1,Zqq chip ((rOf (ZcF v 1 false).1).1,(rOf (ZcF v 1 false).1).2.1,(rOf (ZcF v 1 false).1).2.2.1,(ZcF v 1 false).2.2.1,(rOf (ZcF v 1 false).1).2.2.2.2.1,(rOf (ZcF v 1 false).1).2.2.2.2.2.1,f.2.2.2.2.2.2) (rMaj (decide (v>=128)) true (decide ((ZcF v 1 false).1>=128))) (ZcF v 1 false).2.2.2))
def rDcr (chip:Int) (v:Int) (f:TF):QT2:=(ZZI chip v f).val
def Z2c:En:=Zg ZXx ZXy (λ_=>none) (λa=>rDcr a.1 a.2.1 a.2.2)
theorem ZZH:Za prog 219 Z2c:=
 pureQ 8191 [(261,ZGV),(262,rOfE),(263,Zx9),(264,ZJz)] [] ZXx ZXy ⟨Zuf,ZGC,Zly,ZnF,Tv⟩ Tryz.func219 Tryz.call219 trivial (t:=λa=>ZZI a.1 a.2.1 a.2.2)
abbrev ZXo:List Sh:=[Sh.one (R.int i64),Sh.one (R.int u16),Sh.agg rcF7]
abbrev ZXp:Rs:=Rs.tup [Sh.one (R.int u16),Sh.agg rcF7]
def ZZv (chip:Int) (v:Int) (f:TF):RT (QT2):=
 .Lf ((u16.wrap (v+1),f.1,f.2.1,bif rOn chip then v==65535 else f.2.2.1,f.2.2.2))
def rInx (chip:Int) (v:Int) (f:TF):QT2:=(ZZv chip v f).val
def ZZw:En:=Zg ZXo ZXp (λ_=>none) (λa=>rInx a.1 a.2.1 a.2.2)
theorem ZZu:Za prog 209 ZZw:=
 pureQ 255 [(146,rOnE)] [] ZXo ZXp ⟨Zei,Tv⟩ Tryz.func209 Tryz.call209 trivial (t:=λa=>ZZv a.1 a.2.1 a.2.2)
abbrev ZXv:List Sh:=[Sh.one (R.int i64),Sh.one (R.int u16),Sh.agg rcF7]
abbrev ZXw:Rs:=Rs.tup [Sh.one (R.int u16),Sh.agg rcF7]
def ZZF (chip:Int) (v:Int) (f:TF):RT (QT2):=
 .Lf ((u16.wrap (v-1),f.1,f.2.1,bif rOn chip then v==0 else f.2.2.1,f.2.2.2))
def rDcx (chip:Int) (v:Int) (f:TF):QT2:=(ZZF chip v f).val
def ZZG:En:=Zg ZXv ZXw (λ_=>none) (λa=>rDcx a.1 a.2.1 a.2.2)
theorem ZZE:Za prog 210 ZZG:=
 pureQ 255 [(146,rOnE)] [] ZXv ZXw ⟨Zei,Tv⟩ Tryz.func210 Tryz.call210 trivial (t:=λa=>ZZF a.1 a.2.1 a.2.2)
abbrev ZXz:List Sh:=[Sh.one (R.int i64),Sh.one (R.int u16),Sh.one (R.int u16),Sh.agg rcF7]
abbrev ZXA:Rs:=Rs.tup [Sh.one (R.int u16),Sh.agg rcF7]
def ZZK (chip:Int) (a:Int) (b:Int) (f:TF):RT (QT2):=
 .Lf ((u16.wrap (a+b),f.1,f.2.1,f.2.2.1,f.2.2.2.1,f.2.2.2.2.1,bif rOn chip then decide (i64.wrap (i64.wrap (IntKind.i16.wrap a)+i64.wrap (IntKind.i16.wrap b))< -32768)||decide (i64.wrap (i64.wrap (IntKind.i16.wrap a)+i64.wrap (IntKind.i16.wrap b))>32767) else f.2.2.2.2.2.1,decide (i64.wrap (i64.wrap a+i64.wrap b)>65535)))
def rDad (chip:Int) (a:Int) (b:Int) (f:TF):QT2:=(ZZK chip a b f).val
def ZZL:En:=Zg ZXz ZXA (λ_=>none) (λa=>rDad a.1 a.2.1 a.2.2.1 a.2.2.2)
theorem ZZJ:Za prog 211 ZZL:=
 pureQ 2047 [(146,rOnE)] [] ZXz ZXA ⟨Zei,Tv⟩ Tryz.func211 Tryz.call211 trivial (t:=λa=>ZZK a.1 a.2.1 a.2.2.1 a.2.2.2)
abbrev ZPC:List Sh:=[Sh.one (R.int u16),Sh.one (R.int u16)]
abbrev ZPE:Rs:=Rs.tup [Sh.one (R.int u16),Sh.agg rcF7]
def ZPD (a:Int) (b:Int):RT (QT2):=
 let x1:=ZcF (u8.wrap (shrI u16 a 8)) (u8.wrap (shrI u16 b 8)) (ZcF (u8.wrap a) (u8.wrap b) false).2.1
 let x2:=x1.1
 let x3:=x2==0
 let x4:=ZcO x2 (ZcF (u8.wrap a) (u8.wrap b) false).1
 let x5:=decide (x2>=128)
 let x6:=rMaj (decide (a>=32768)) (decide (b<32768)) x5
 let x7:=x1.2
 let x8:=x7.2
 let x9:=x8.1
 let x10:=Zm0 x2
 let x11:=x8.2
 let x12:=x7.1
 .Lf ((bif x3 then x4 else x4,bif x3 then x5 else x5,x3&&(ZcF (u8.wrap a) (u8.wrap b) false).1==0,bif x3 then x6 else x6,bif x3 then x9 else x9,bif x3 then x10 else x10,bif x3 then x11 else x11,bif x3 then x12 else x12))
def Zyh (a:Int) (b:Int):QT2:=(ZPD a b).val
def ZPF:En:=Zg ZPC ZPE (λ_=>none) (λa=>Zyh a.1 a.2)
theorem ZUV:Za prog 214 ZPF:=
 pureQ 16383 [(172,ZnJ),(261,ZGV),(264,ZJz),(266,Zti)] [] ZPC ZPE ⟨ZiK,Zuf,ZnF,Zri,Tv⟩ Tryz.func214 Tryz.call214 trivial (t:=λa=>ZPD a.1 a.2)
abbrev ZXB:List Sh:=[Sh.one (R.int i64),Sh.one (R.int u8),Sh.agg rcF7]
abbrev ZXC:Rs:=Rs.tup [Sh.one (R.int u8),Sh.agg rcF7]
def ZZN (chip:Int) (a:Int) (f:TF):RT (QT2):=
 let x1:Int:=bif f.2.2.2.1||decide (andI u8 a 15>9) then 6 else 0
 let x2:=rSum a (bif f.2.2.2.2.2.2||decide (a>153) then u8.wrap (x1+96) else x1) false
 let x3:=x2.1
 let x4:=rOf x3
 let x5:=x4.2
 let x6:=x5.2
 let x7:=x2.2.2
 let x8:=x6.2.2
 .Lf ((x3,Zqq chip (x4.1,x5.1,x6.1,x7.1,x8.1,x8.2.1,f.2.2.2.2.2.2||decide (a>153)) (rMaj (decide (a>=128)) false (decide (x3>=128))) x7.2))
def rDaa (chip:Int) (a:Int) (f:TF):QT2:=(ZZN chip a f).val
def ZZO:En:=Zg ZXB ZXC (λ_=>none) (λa=>rDaa a.1 a.2.1 a.2.2)
theorem ZZM:Za prog 212 ZZO:=
 pureQ 32767 [(260,ZUw),(262,rOfE),(263,Zx9),(264,ZJz)] [] ZXB ZXC ⟨ZA5,ZGC,Zly,ZnF,Tv⟩ Tryz.func212 Tryz.call212 trivial (t:=λa=>ZZN a.1 a.2.1 a.2.2)
abbrev ZOz:List Sh:=[Sh.one (R.int i64),Sh.one (R.int u8),Sh.one R.bool]
abbrev ZGg:Rs:=Rs.tup [Sh.one (R.int u8),Sh.one R.bool]
def ZOA (op:Int) (a:Int) (c:Bool):RT (Option (Int×Bool)):=
 .br (andI i64 op 3==0||(andI i64 op 3==1||(!andI i64 op 3==2||ZdO c 0))) (.br (andI i64 op 3==0) (.Lf (some ((orI u8 (shlI u8 a 1) (shrI u8 a 7),decide (a>=128))))) (.br (andI i64 op 3==1) (.Lf (some ((orI u8 (shrI u8 a 1) (shlI u8 a 7),andI u8 a 1==1)))) (.br (andI i64 op 3==2) (.Lf (some ((orI u8 (shlI u8 a 1) (rBit c 0),decide (a>=128))))) (.br (ZdO c 7) (.Lf (some ((orI u8 (shrI u8 a 1) (rBit c 7),andI u8 a 1==1)))) (.Lf none))))) (.Lf none)
def rRot (op:Int) (a:Int) (c:Bool):Int×Bool:=getO ZGg.Df (ZOA op a c).val
def ZZn (op:Int) (a:Int) (c:Bool):Bool:=okB (ZOA op a c).val
def rRotE:En:=Zg ZOz ZGg (λa=>some (ZZn a.1 a.2.1 a.2.2)) (λa=>rRot a.1 a.2.1 a.2.2)
theorem ZZm:Za prog 213 rRotE:=
 pureP 537396479 [(265,ZUY)] [] ZOz ZGg ⟨ZCn,Tv⟩ Tryz.func213 Tryz.call213 trivial (t:=λa=>ZOA a.1 a.2.1 a.2.2)
abbrev ZPR:List Sh:=[Sh.one (R.int u16)]
abbrev ZPS:Rs:=Rs.tup [Sh.one (R.int u16),Sh.one R.bool]
def ZXG (v:Int):RT (Int×Bool):=
 .Lf ((orI u16 (shrI u16 v 1) (andI u16 v 32768),andI u16 v 1==1))
def Zuk (v:Int):Int×Bool:=(ZXG v).val
def ZPT:En:=Zg ZPR ZPS (λ_=>none) (λa=>Zuk a)
theorem ZUZ:Za prog 215 ZPT:=
 pureQ 15 [] [] ZPR ZPS trivial Tryz.func215 Tryz.call215 trivial (t:=λa=>ZXG a)
abbrev ZBe:List Sh:=[Sh.one (R.int u16),Sh.one R.bool]
abbrev Zte:Rs:=Rs.tup [Sh.one (R.int u16),Sh.one R.bool,Sh.one R.bool]
def Zx3 (v:Int) (c:Bool):RT (Option (Int×Bool×Bool)):=
 .br (ZdO c 0) (.Lf (some ((orI u16 (shlI u16 v 1) (u16.wrap (rBit c 0)),decide (v>=32768),andI u16 (orI u16 (shlI u16 v 1) (u16.wrap (rBit c 0))) 32768 !=andI u16 v 32768)))) (.Lf none)
def Zx4 (v:Int) (c:Bool):Int×Bool×Bool:=getO Zte.Df (Zx3 v c).val
def ZOI (v:Int) (c:Bool):Bool:=okB (Zx3 v c).val
def Z1W:En:=Zg ZBe Zte (λa=>some (ZOI a.1 a.2)) (λa=>Zx4 a.1 a.2)
theorem ZUA:Za prog 216 Z1W:=
 pureP 255 [(265,ZUY)] [] ZBe Zte ⟨ZCn,Tv⟩ Tryz.func216 Tryz.call216 trivial (t:=λa=>Zx3 a.1 a.2)
abbrev ZGZ:List Sh:=[Sh.one R.bool,Sh.one (R.int i64)]
abbrev Zui:Rs:=Rs.one (Sh.one (R.int u8))
def ZCo (b:Bool) (n:Int):RT (Option (Int)):=
 .br (decide (0<=n)) (.Lf (some (u8.wrap (shlI i64 (rOne b) n)))) (.Lf none)
def Zgv (b:Bool) (n:Int):Int:=getO Zui.Df (ZCo b n).val
def Zax (b:Bool) (n:Int):Bool:=okB (ZCo b n).val
def ZPP:En:=Zg ZGZ Zui (λa=>some (Zax a.1 a.2)) (λa=>Zgv a.1 a.2)
theorem ZPO:Za prog 217 ZPP:=
 pureP 31 [(267,ZUL)] [] ZGZ Zui ⟨ZBl,Tv⟩ Tryz.func217 Tryz.call217 trivial (t:=λa=>ZCo a.1 a.2)
abbrev ZOC:List Sh:=[Sh.agg Zt,Sh.agg (R.Pq R.bool (R.Pq R.bool rcF7))]
abbrev ZGh:Rs:=Rs.tup [Sh.one (R.int u8),Sh.agg Zt]
def ZOD (c:TC) (l:QT0):RT (Option (Int×TC)):=
 let x1:=bif c.2.2.2.2.2.2.2.2.2.2.1 then c.2.2.2.2.2.2.2.2.2.2.2.1 else c.2.2.1
 .br (!Zax l.2.2.2.1 7||(!Zax c.2.2.2.2.2.2.2.1 6||(!Zax l.2.2.2.2.2.2.1 5||(!Zax l.2.2.2.2.2.2.2.1 4||Zax x1 3)))) (.br (!Zax l.2.2.2.1 7||(!Zax c.2.2.2.2.2.2.2.1 6||(!Zax l.2.2.2.2.2.2.1 5||Zax l.2.2.2.2.2.2.2.1 4))) (.br (!Zax l.2.2.2.1 7||(!Zax c.2.2.2.2.2.2.2.1 6||Zax l.2.2.2.2.2.2.1 5)) (.br (!Zax l.2.2.2.1 7||Zax c.2.2.2.2.2.2.2.1 6) (.br (Zax l.2.2.2.1 7) (.Lf (some ((orI u8 (orI u8 (orI u8 (orI u8 (orI u8 (Zgv l.2.2.2.1 7) (Zgv c.2.2.2.2.2.2.2.1 6)) (Zgv l.2.2.2.2.2.2.1 5)) (Zgv l.2.2.2.2.2.2.2.1 4)) (Zgv x1 3)) (andI u8 c.2.2.2.2.2.1 7),c.1,c.2.1,c.2.2.1,c.2.2.2.1,c.2.2.2.2.1,c.2.2.2.2.2.1,c.2.2.2.2.2.2.1,c.2.2.2.2.2.2.2.1,c.2.2.2.2.2.2.2.2.1,c.2.2.2.2.2.2.2.2.2.1,false,false,c.2.2.2.2.2.2.2.2.2.2.2.2)))) (.Lf none)) (.Lf none)) (.Lf none)) (.Lf none)) (.Lf none)
def rRim (c:TC) (l:QT0):Int×TC:=getO ZGh.Df (ZOD c l).val
def ZZp (c:TC) (l:QT0):Bool:=okB (ZOD c l).val
def rRimE:En:=Zg ZOC ZGh (λa=>some (ZZp a.1 a.2)) (λa=>rRim a.1 a.2)
theorem ZZo:Za prog 159 rRimE:=
 pureP 255 [(217,ZPP)] [] ZOC ZGh ⟨ZPO,Tv⟩ Tryz.func159 Tryz.call159 trivial (t:=λa=>ZOD a.1 a.2)
abbrev ZW6:List Sh:=[Sh.agg Zt,Sh.one (R.int u8)]
abbrev ZW7:Rs:=Rs.one (Sh.agg Zt)
def ZOu (c:TC) (a:Int):RT TC:=
 .Lf ((c.1,c.2.1,c.2.2.1,c.2.2.2.1,c.2.2.2.2.1,bif andI u8 a 8 !=0 then andI u8 a 7 else c.2.2.2.2.2.1,c.2.2.2.2.2.2.1,!andI u8 a 16 !=0&&c.2.2.2.2.2.2.2.1,c.2.2.2.2.2.2.2.2.1,c.2.2.2.2.2.2.2.2.2.1,c.2.2.2.2.2.2.2.2.2.2.1,c.2.2.2.2.2.2.2.2.2.2.2.1,bif andI u8 a 64 !=0 then andI u8 a 128 !=0 else c.2.2.2.2.2.2.2.2.2.2.2.2))
def rSim (c:TC) (a:Int):TC:=(ZOu c a).val
def Z1V:En:=Zg ZW6 ZW7 (λ_=>none) (λa=>rSim a.1 a.2)
theorem ZZj:Za prog 160 Z1V:=
 pureQ 31 [] [] ZW6 ZW7 trivial Tryz.func160 Tryz.call160 trivial (t:=λa=>ZOu a.1 a.2)
abbrev ZGK:List Sh:=[Sh.one (R.int i64),Sh.agg rcF7]
abbrev ZGL:Rs:=Rs.one (Sh.one R.bool)
def ZB8 (c:Int) (f:TF):RT (Bool):=
 .br (c==0) (.Lf (!f.2.1)) (.br (c==1) (.Lf f.2.1) (.br (c==2) (.Lf (!f.2.2.2.2.2.2)) (.br (c==3) (.Lf f.2.2.2.2.2.2) (.br (c==4) (.Lf (!f.2.2.2.2.1)) (.br (c==5) (.Lf f.2.2.2.2.1) (.br (c==6) (.Lf (!f.1)) (.br (c==7) (.Lf f.1) (.br (c==8) (.Lf (!f.2.2.1)) (.br (c==9) (.Lf f.2.2.1) (.br (c==10) (.Lf f.2.2.2.2.2.1) (.Lf (c==11))))))))))))
def ZeI (c:Int) (f:TF):Bool:=(ZB8 c f).val
def ZPj:En:=Zg ZGK ZGL (λ_=>none) (λa=>ZeI a.1 a.2)
theorem ZPi:Za prog 220 ZPj:=
 pureQ 2397219371124831 [] [] ZGK ZGL trivial Tryz.func220 Tryz.call220 trivial (t:=λa=>ZB8 a.1 a.2)
abbrev ZxL:List Sh:=[Sh.one (R.int i64)]
abbrev ZxM:Rs:=Rs.one (Sh.one (R.int u16))
def Zs3 (s:Int):RT (Int):=
 .br (s==1) (.Lf (36)) (.br (s==2) (.Lf (60)) (.br (s==3) (.Lf (52)) (.br (s==4) (.Lf (44)) (.Lf (0)))))
def Zk (s:Int):Int:=(Zs3 s).val
def ZF6:En:=Zg ZxL ZxM (λ_=>none) (λa=>Zk a)
theorem ZJb:Za prog 152 ZF6:=
 pureQ 1367 [] [] ZxL ZxM trivial Tryz.func152 Tryz.call152 trivial (t:=λa=>Zs3 a)
abbrev ZnK:List Sh:=[Sh.one (R.int i64)]
abbrev ZnL:Rs:=Rs.one (Sh.one R.bool)
def Zj1 (s:Int):RT (Bool):=
 .Lf (decide (s>=1)&&decide (s<=4))
def Zc (s:Int):Bool:=(Zj1 s).val
def Zhb:En:=Zg ZnK ZnL (λ_=>none) (λa=>Zc a)
theorem Zgt:Za prog 104 Zhb:=
 pureQ 7 [] [] ZnK ZnL trivial Tryz.func104 Tryz.call104 trivial (t:=λa=>Zj1 a)
abbrev Zq9:List Sh:=[Sh.one (R.int u8)]
abbrev Zra:Rs:=Rs.tup [Sh.agg (R.Pq (R.int i64) (R.Pq (R.int i64) (R.Pq (R.int i64) (R.Pq (R.int i64) (R.Pq (R.int i64) (R.Pq (R.int i64) (R.Pq (R.int i64) (R.int i64)))))))),Sh.one R.bool]
def ZxV (op:Int):RT (TI×Bool):=
 .br (op==8) (.Lf (((40,1,0,0,0,0,0,0),true))) (.br (op==16) (.Lf (((41,1,0,0,0,0,0,0),true))) (.br (op==24) (.Lf (((42,1,0,0,0,0,0,0),true))) (.br (op==32) (.Lf (((38,1,0,0,0,0,0,0),true))) (.br (op==40) (.Lf (((43,2,0,0,0,0,0,0),true))) (.br (op==48) (.Lf (((39,1,0,0,0,0,0,0),true))) (.br (op==56) (.Lf (((44,2,0,0,0,0,0,0),true))) (.br (op==203) (.Lf (((45,1,0,0,0,0,10,0),true))) (.br (op==217) (.Lf (((46,1,0,0,0,0,0,0),true))) (.br (op==221) (.Lf (((24,3,0,0,0,0,8,0),true))) (.br (op==237) (.Lf (((47,1,0,0,0,0,0,0),true))) (.br (op==253) (.Lf (((24,3,0,0,0,0,9,0),true))) (.Lf (((0,0,0,0,0,0,0,0),false))))))))))))))
def Zs8 (op:Int):TI×Bool:=(ZxV op).val
def ZxW:En:=Zg Zq9 Zra (λ_=>none) (λa=>Zs8 a)
theorem ZA6:Za prog 173 ZxW:=
 pureQ 314146179375 [] [] Zq9 Zra trivial Tryz.func173 Tryz.call173 trivial (t:=λa=>ZxV a)
abbrev ZO0:List Sh:=[Sh.one (R.int i64),Sh.one (R.int i64),Sh.one (R.int i64),Sh.one (R.int i64)]
abbrev ZBm:Rs:=Rs.one (Sh.agg (R.Pq (R.int i64) (R.Pq (R.int i64) (R.Pq (R.int i64) (R.Pq (R.int i64) (R.Pq (R.int i64) (R.Pq (R.int i64) (R.Pq (R.int i64) (R.int i64)))))))))
def ZO1 (y:Int) (z:Int) (p:Int) (q:Int):RT (Option TI):=
 let x1:=decide (0<=i64.wrap (y-4)/\i64.wrap (y-4)<4)
 .br (z==0) (.Lf (some ((1,1,0,0,0,0,0,0)))) (.br (z==1) (.br (q==0) (.Lf (some ((4,3,0,0,p,0,0,0)))) (.Lf (some ((18,1,0,0,p,0,0,0))))) (.br (!z==2||((bif y==0 then y==0 else y==2)||((bif y==1 then y==1 else y==3)||x1))) (.br (z==2) (.br (bif y==0 then y==0 else y==2) (.Lf (some ((10,1,0,0,p,0,0,0)))) (.br (bif y==1 then y==1 else y==3) (.Lf (some ((9,1,0,0,p,0,0,0)))) (.Lf (some ((bif i64.wrap (y-4)==0 then 8 else bif i64.wrap (y-4)== ↑(0+1) then 7 else bif i64.wrap (y-4)== ↑(0+1+1) then 6 else 5,3,0,0,0,0,0,0)))))) (.br (!z==3||decide (0<=q/\q<2)) (.br (z==3) (.Lf (some ((bif q==0 then 16 else 17,1,0,0,p,0,0,0)))) (.br (z==4) (.Lf (some ((14,1,y,0,0,0,0,0)))) (.br (z==5) (.Lf (some ((15,1,y,0,0,0,0,0)))) (.br (z==6) (.Lf (some ((3,2,y,0,0,0,0,0)))) (.br (decide (y<4)) (.Lf (some ((23,1,0,0,0,y,0,0)))) (.br (x1) (.Lf (some ((bif i64.wrap (y-4)==0 then 19 else bif i64.wrap (y-4)== ↑(0+1) then 20 else bif i64.wrap (y-4)== ↑(0+1+1) then 21 else 22,1,0,0,0,0,0,0)))) (.Lf none))))))) (.Lf none))) (.Lf none)))
def Z11 (y:Int) (z:Int) (p:Int) (q:Int):QT6:=getO ZBm.Df (ZO1 y z p q).val
def ZXi (y:Int) (z:Int) (p:Int) (q:Int):Bool:=okB (ZO1 y z p q).val
def ZXh:En:=Zg ZO0 ZBm (λa=>some (ZXi a.1 a.2.1 a.2.2.1 a.2.2.2)) (λa=>Z11 a.1 a.2.1 a.2.2.1 a.2.2.2)
theorem ZUM:Za prog 174 ZXh:=
 pureP 19211217472071167 [] [] ZO0 ZBm trivial Tryz.func174 Tryz.call174 trivial (t:=λa=>ZO1 a.1 a.2.1 a.2.2.1 a.2.2.2)
abbrev ZGB:List Sh:=[Sh.one (R.int i64),Sh.one (R.int i64),Sh.one (R.int i64),Sh.one (R.int i64)]
abbrev Ztk:Rs:=Rs.one (Sh.agg (R.Pq (R.int i64) (R.Pq (R.int i64) (R.Pq (R.int i64) (R.Pq (R.int i64) (R.Pq (R.int i64) (R.Pq (R.int i64) (R.Pq (R.int i64) (R.int i64)))))))))
def ZBn (y:Int) (z:Int) (p:Int) (q:Int):RT (Option TI):=
 .br (z==0) (.Lf (some ((26,1,0,0,0,0,y,0)))) (.br (z==1) (.br (q==0) (.Lf (some ((31,1,0,0,p,0,0,0)))) (.br (y==5) (.Lf (some ((28,1,0,0,0,0,0,0)))) (.br (y==7) (.Lf (some ((29,1,0,0,0,0,0,0)))) (.Lf (some ((26,1,0,0,0,0,11,0))))))) (.br (z==2||(!z==3||((bif y==0 then y==0 else y==1)||(y==2||(y==3||decide (0<=i64.wrap (y-4)/\i64.wrap (y-4)<4)))))) (.br (z==2) (.Lf (some ((24,3,0,0,0,0,y,0)))) (.br (z==3) (.br (bif y==0 then y==0 else y==1) (.Lf (some ((24,3,0,0,0,0,11,0)))) (.br (y==2) (.Lf (some ((34,2,0,0,0,0,0,0)))) (.br (y==3) (.Lf (some ((33,2,0,0,0,0,0,0)))) (.Lf (some ((bif i64.wrap (y-4)==0 then 32 else bif i64.wrap (y-4)== ↑(0+1) then 11 else bif i64.wrap (y-4)== ↑(0+1+1) then 36 else 35,1,0,0,0,0,0,0))))))) (.br (z==4) (.Lf (some ((25,3,0,0,0,0,y,0)))) (.br (z==5) (.br (q==0) (.Lf (some ((30,1,0,0,p,0,0,0)))) (.Lf (some ((25,3,0,0,0,0,11,0))))) (.br (z==6) (.Lf (some ((13,2,0,0,0,y,0,0)))) (.Lf (some ((27,1,0,0,0,0,0,y))))))))) (.Lf none)))
def ZXj (y:Int) (z:Int) (p:Int) (q:Int):QT6:=getO Ztk.Df (ZBn y z p q).val
def ZO4 (y:Int) (z:Int) (p:Int) (q:Int):Bool:=okB (ZBn y z p q).val
def ZO3:En:=Zg ZGB Ztk (λa=>some (ZO4 a.1 a.2.1 a.2.2.1 a.2.2.2)) (λa=>ZXj a.1 a.2.1 a.2.2.1 a.2.2.2)
theorem ZO2:Za prog 175 ZO3:=
 pureP 2324988294374376959 [] [] ZGB Ztk trivial Tryz.func175 Tryz.call175 trivial (t:=λa=>ZBn a.1 a.2.1 a.2.2.1 a.2.2.2)
abbrev ZiM:List Sh:=[Sh.one (R.int i64),Sh.one (R.int u8)]
abbrev ZiN:Rs:=Rs.one (Sh.agg (R.Pq (R.int i64) (R.Pq (R.int i64) (R.Pq (R.int i64) (R.Pq (R.int i64) (R.Pq (R.int i64) (R.Pq (R.int i64) (R.Pq (R.int i64) (R.int i64)))))))))
def ZfA (chip:Int) (op:Int):RT (Option TI):=
 .br ((Zs8 op).2&&rOn chip) (.Lf (some (Zs8 op).1)) (.br (!shrI u8 op 6==0||ZXi (i64.wrap (andI u8 (shrI u8 op 3) 7)) (i64.wrap (andI u8 op 7)) (shrI i64 (i64.wrap (andI u8 (shrI u8 op 3) 7)) 1) (andI i64 (i64.wrap (andI u8 (shrI u8 op 3) 7)) 1)) (.br (shrI u8 op 6==0) (.Lf (some (Z11 (i64.wrap (andI u8 (shrI u8 op 3) 7)) (i64.wrap (andI u8 op 7)) (shrI i64 (i64.wrap (andI u8 (shrI u8 op 3) 7)) 1) (andI i64 (i64.wrap (andI u8 (shrI u8 op 3) 7)) 1)))) (.br (shrI u8 op 6==1) (.br (op==118) (.Lf (some ((37,1,0,0,0,0,0,0)))) (.Lf (some ((2,1,i64.wrap (andI u8 (shrI u8 op 3) 7),i64.wrap (andI u8 op 7),0,0,0,0))))) (.br (shrI u8 op 6==2) (.Lf (some ((12,1,0,i64.wrap (andI u8 op 7),0,i64.wrap (andI u8 (shrI u8 op 3) 7),0,0)))) (.br (ZO4 (i64.wrap (andI u8 (shrI u8 op 3) 7)) (i64.wrap (andI u8 op 7)) (shrI i64 (i64.wrap (andI u8 (shrI u8 op 3) 7)) 1) (andI i64 (i64.wrap (andI u8 (shrI u8 op 3) 7)) 1)) (.Lf (some (ZXj (i64.wrap (andI u8 (shrI u8 op 3) 7)) (i64.wrap (andI u8 op 7)) (shrI i64 (i64.wrap (andI u8 (shrI u8 op 3) 7)) 1) (andI i64 (i64.wrap (andI u8 (shrI u8 op 3) 7)) 1)))) (.Lf none))))) (.Lf none))
def Zb (chip:Int) (op:Int):QT6:=getO ZiN.Df (ZfA chip op).val
def ZlB (chip:Int) (op:Int):Bool:=okB (ZfA chip op).val
def ZUW:En:=Zg ZiM ZiN (λa=>some (ZlB a.1 a.2)) (λa=>Zb a.1 a.2)
theorem ZKg:Za prog 107 ZUW:=
 pureP 70644158956031 [(146,rOnE),(173,ZxW),(174,ZXh),(175,ZO3)] [] ZiM ZiN ⟨Zei,ZA6,ZUM,ZO2,Tv⟩ Tryz.func107 Tryz.call107 trivial (t:=λa=>ZfA a.1 a.2)
end
end Go.Proofs.YtghoimllhpjkjaaGreat
