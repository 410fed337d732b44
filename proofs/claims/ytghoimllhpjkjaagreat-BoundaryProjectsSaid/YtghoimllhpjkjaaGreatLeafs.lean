import Derived.Test.YtghoimllhpjkjaaGreatS3D
import Derived.Test.YtghoimllhpjkjaaGreatProg
open Go.Proofs.Tryz (prog)
open Go.IntKind (u8 u16 i64)
set_option linter.unusedSimpArgs false
open Go Go.S3 Go.Proofs
set_option linter.unusedVariables false
set_option maxRecDepth 100000
namespace Go.Proofs.YtghoimllhpjkjaaGreat
noncomputable section
abbrev Zyi:List Sh:=[Sh.one (R.int u8)]
abbrev Zn1:Rs:=Rs.one (Sh.one R.bool)
def ZuB (b:Int):RT (Option (Bool)):=
 let x1:=andI u8 (andI u8 b (u8.wrap (b-1))) (u8.wrap (andI u8 b (u8.wrap (b-1))-1))
 let x2:= !x1 !=0
 let x3:=andI u8 x1 (u8.wrap (x1-1))
 let x4:=x3 !=0
 let x5:=andI u8 x3 (u8.wrap (x3-1))
 let x6:= !x5 !=0
 let x7:=andI u8 x5 (u8.wrap (x5-1))
 let x8:=x7 !=0
 let x9:=andI u8 x7 (u8.wrap (x7-1))
 let x10:= !x9 !=0
 let x11:=andI u8 x9 (u8.wrap (x9-1))
 let x12:=x11 !=0
 let x13:=andI u8 x11 (u8.wrap (x11-1))
 let x14:= !x13 !=0
 .br (!b !=0||(!andI u8 b (u8.wrap (b-1)) !=0||(x2||(!x4||(x6||(!x8||(x10||(!x12||(x14|| !andI u8 x13 (u8.wrap (x13-1)) !=0))))))))) (.leaf (some (!b !=0||andI u8 b (u8.wrap (b-1)) !=0&&(x2||x4&&(x6||x8&&(x10||x12&&x14)))))) (.leaf none)
def ZuC (b:Int):Bool:=getO Zn1.dflt (ZuB b).val
def ZlF (b:Int):Bool:=okB (ZuB b).val
def ZGB:Entry:=Zg Zyi Zn1 (λa=>some (ZlF a)) (λa=>ZuC a)
theorem ZJA:Za prog 334 ZGB:=
 ZnO (P:=prog) (n:=15) (k:=10) (l:=[]) (ol:=[]) trivial Tryz.func334 rfl (by kernel_rfl) Tryz.call334 trivial (ts:=Zyi) (rs:=Zn1) (t:=λa=>ZuB a) (λa=>by kernel_rfl)
abbrev ZWI:List Sh:=[Sh.one R.bool,Sh.one R.bool,Sh.one R.bool]
abbrev ZWJ:Rs:=Rs.one (Sh.one R.bool)
def Z0W (a:Bool) (b:Bool) (c:Bool):RT (Bool):=
 .leaf (bif a then b||bif a then c||b&&c else b&&c else bif a then c||b&&c else b&&c)
def pMaj (a:Bool) (b:Bool) (c:Bool):Bool:=(Z0W a b c).val
def ZJK:Entry:=Zg ZWI ZWJ (λ_=>none) (λa=>pMaj a.1 a.2.1 a.2.2)
theorem ZoE:Za prog 315 ZJK:=
 pureQ 127 [] [] ZWI ZWJ trivial Tryz.func315 Tryz.call315 trivial (t:=λa=>Z0W a.1 a.2.1 a.2.2)
abbrev ZWF:List Sh:=[Sh.one R.bool]
abbrev ZWG:Rs:=Rs.one (Sh.one (R.int i64))
def Z0U (b:Bool):RT (Int):=
 .br (b) (.leaf (1)) (.leaf (0))
def pOne (b:Bool):Int:=(Z0U b).val
def ZYW:Entry:=Zg ZWF ZWG (λ_=>none) (λa=>pOne a)
theorem ZPL:Za prog 332 ZYW:=
 pureQ 7 [] [] ZWF ZWG trivial Tryz.func332 Tryz.call332 trivial (t:=λa=>Z0U a)
abbrev Zyd:List Sh:=[Sh.one (R.int i64)]
abbrev Zye:Rs:=Rs.one (Sh.one R.bool)
def ZlD (n:Int):RT (Bool):=
 .leaf (decide (n< -128)||decide (n>127))
def ZnU (n:Int):Bool:=(ZlD n).val
def Zus:Entry:=Zg Zyd Zye (λ_=>none) (λa=>ZnU a)
theorem Zrr:Za prog 333 Zus:=
 pureQ 7 [] [] Zyd Zye trivial Tryz.func333 Tryz.call333 trivial (t:=λa=>ZlD a)
abbrev ZWB:List Sh:=[Sh.one (R.int u8),Sh.one (R.int u8),Sh.one R.bool]
abbrev ZWC:Rs:=Rs.tup [Sh.one (R.int u8),Sh.one R.bool,Sh.one R.bool,Sh.one R.bool]
def ZYI (a:Int) (b:Int) (c:Bool):RT (QT19):=
 let x1:=i64.wrap (i64.wrap (i64.wrap a+i64.wrap b)+pOne c)
 .leaf ((u8.wrap x1,decide (x1>255),decide (i64.wrap (i64.wrap (i64.wrap (andI u8 a 15)+i64.wrap (andI u8 b 15))+pOne c)>15),ZnU (i64.wrap (i64.wrap (i64.wrap (IntKind.i8.wrap a)+i64.wrap (IntKind.i8.wrap b))+pOne c))))
def pSum (a:Int) (b:Int) (c:Bool):QT19:=(ZYI a b c).val
def ZTZ:Entry:=Zg ZWB ZWC (λ_=>none) (λa=>pSum a.1 a.2.1 a.2.2)
theorem ZB5:Za prog 312 ZTZ:=
 pureQ 4095 [(332,ZYW),(333,Zus)] [] ZWB ZWC ⟨ZPL,Zrr,Tv⟩ Tryz.func312 Tryz.call312 trivial (t:=λa=>ZYI a.1 a.2.1 a.2.2)
abbrev ZQo:List Sh:=[Sh.one (R.int u8),Sh.one (R.int u8),Sh.one R.bool]
abbrev ZQq:Rs:=Rs.tup [Sh.one (R.int u8),Sh.one R.bool,Sh.one R.bool,Sh.one R.bool]
def ZQp (a:Int) (b:Int) (c:Bool):RT (QT19):=
 let x1:=i64.wrap (i64.wrap (i64.wrap a-i64.wrap b)-pOne c)
 .leaf ((u8.wrap x1,decide (x1<0),decide (i64.wrap (i64.wrap (i64.wrap (i64.wrap (i64.wrap (andI u8 a 15)+15)-i64.wrap (andI u8 b 15))+1)-pOne c)>15),ZnU (i64.wrap (i64.wrap (i64.wrap (IntKind.i8.wrap a)-i64.wrap (IntKind.i8.wrap b))-pOne c))))
def ZhW (a:Int) (b:Int) (c:Bool):QT19:=(ZQp a b c).val
def ZGT:Entry:=Zg ZQo ZQq (λ_=>none) (λa=>ZhW a.1 a.2.1 a.2.2)
theorem Zvy:Za prog 313 ZGT:=
 pureQ 4095 [(332,ZYW),(333,Zus)] [] ZQo ZQq ⟨ZPL,Zrr,Tv⟩ Tryz.func313 Tryz.call313 trivial (t:=λa=>ZQp a.1 a.2.1 a.2.2)
abbrev ZCY:List Sh:=[Sh.one (R.int u8),Sh.one (R.int u8)]
abbrev ZCZ:Rs:=Rs.one (Sh.one (R.int u16))
def ZWM (h:Int) (l:Int):RT (Int):=
 .leaf (orI u16 (shlI u16 (u16.wrap h) 8) (u16.wrap l))
def ZP0 (h:Int) (l:Int):Int:=(ZWM h l).val
def ZGK:Entry:=Zg ZCY ZCZ (λ_=>none) (λa=>ZP0 a.1 a.2)
theorem ZlG:Za prog 236 ZGK:=
 pureQ 31 [] [] ZCY ZCZ trivial Tryz.func236 Tryz.call236 trivial (t:=λa=>ZWM a.1 a.2)
abbrev ZWP:List Sh:=[Sh.one R.bool,Sh.one (R.int i64)]
abbrev ZQA:Rs:=Rs.one (Sh.one (R.int u8))
def ZUt (b:Bool) (n:Int):RT (Option (Int)):=
 .br (!b||decide (0<=n)) (.br (b) (.leaf (some (shlI u8 1 n))) (.leaf (some (0)))) (.leaf none)
def pBit (b:Bool) (n:Int):Int:=getO ZQA.dflt (ZUt b n).val
def ZeH (b:Bool) (n:Int):Bool:=okB (ZUt b n).val
def Z02:Entry:=Zg ZWP ZQA (λa=>some (ZeH a.1 a.2)) (λa=>pBit a.1 a.2)
theorem ZZk:Za prog 335 Z02:=
 pureP 31 [] [] ZWP ZQA trivial Tryz.func335 Tryz.call335 trivial (t:=λa=>ZUt a.1 a.2)
abbrev ZPI:List Sh:=[Sh.one (R.int i64),Sh.agg rcF7]
abbrev ZCh:Rs:=Rs.one (Sh.one (R.int u8))
def Zyj (chip:Int) (f:TF):RT (Option (Int)):=
 let x1:=orI u8 (orI u8 (orI u8 (orI u8 (pBit f.1 7) (pBit f.2.1 6)) (pBit f.2.2.2.1 4)) (pBit f.2.2.2.2.1 2)) (pBit f.2.2.2.2.2.2 0)
 .br (!ZeH f.1 7||(!ZeH f.2.1 6||(!ZeH f.2.2.2.1 4||(!ZeH f.2.2.2.2.1 2||ZeH f.2.2.2.2.2.2 0)))) (.br (!ZeH f.1 7||(!ZeH f.2.1 6||(!ZeH f.2.2.2.1 4||ZeH f.2.2.2.2.1 2))) (.br (!ZeH f.1 7||(!ZeH f.2.1 6||ZeH f.2.2.2.1 4)) (.br (!ZeH f.1 7||ZeH f.2.1 6) (.br (ZeH f.1 7) (.br (!chip==2||(!ZeH f.2.2.1 5||ZeH f.2.2.2.2.2.1 1)) (.br (!chip==2||ZeH f.2.2.1 5) (.br (chip==2) (.leaf (some (orI u8 (orI u8 x1 (pBit f.2.2.1 5)) (pBit f.2.2.2.2.2.1 1)))) (.leaf (some (orI u8 x1 2)))) (.leaf none)) (.leaf none)) (.leaf none)) (.leaf none)) (.leaf none)) (.leaf none)) (.leaf none)
def ZUa (chip:Int) (f:TF):Int:=getO ZCh.dflt (Zyj chip f).val
def ZGC (chip:Int) (f:TF):Bool:=okB (Zyj chip f).val
def ZWE:Entry:=Zg ZPI ZCh (λa=>some (ZGC a.1 a.2)) (λa=>ZUa a.1 a.2)
theorem ZT9:Za prog 324 ZWE:=
 pureP 63 [(335,Z02)] [] ZPI ZCh ⟨ZZk,Tv⟩ Tryz.func324 Tryz.call324 trivial (t:=λa=>Zyj a.1 a.2)
abbrev Zyb:List Sh:=[Sh.one (R.int i64),Sh.one (R.int u8)]
abbrev Zyc:Rs:=Rs.one (Sh.agg rcF7)
def Zuq (chip:Int) (b:Int):RT TF:=
 .leaf ((andI u8 b 128 !=0,andI u8 b 64 !=0,chip==2&&andI u8 b 32 !=0,andI u8 b 16 !=0,andI u8 b 4 !=0,chip==2&&andI u8 b 2 !=0,andI u8 b 1 !=0))
def Zur (chip:Int) (b:Int):TF:=(Zuq chip b).val
def ZGv:Entry:=Zg Zyb Zyc (λ_=>none) (λa=>Zur a.1 a.2)
theorem ZJx:Za prog 323 ZGv:=
 pureQ 63 [] [] Zyb Zyc trivial Tryz.func323 Tryz.call323 trivial (t:=λa=>Zuq a.1 a.2)
abbrev Z0V:List Sh:=[Sh.one (R.int u8)]
abbrev ZYY:Rs:=Rs.one (Sh.agg rcF7)
def pOfT (r:Int):RT (Option TF):=
 .br (ZlF r) (.leaf (some ((decide (r>=128),r==0,false,false,ZuC r,false,false)))) (.leaf none)
def pOf (r:Int):TF:=getO ZYY.dflt (pOfT r).val
def pOfC (r:Int):Bool:=okB (pOfT r).val
def pOfE:Entry:=Zg Z0V ZYY (λa=>some (pOfC a)) (λa=>pOf a)
theorem Zyk:Za prog 314 pOfE:=
 pureP 7 [(334,ZGB)] [] Z0V ZYY ⟨ZJA,Tv⟩ Tryz.func314 Tryz.call314 trivial (t:=λa=>pOfT a)
def Zpx:Entry:=.tree (ZS (envX prog [] [] 141872468127 8) Tryz.f310)
theorem Zpw:Za prog 310 Zpx:=Zaq (P:=prog) (n:=141872468127) (k:=8) (l:=[]) (ol:=[]) trivial Tryz.func310 rfl (by kernel_rfl) Tryz.call310 trivial
abbrev ZP8:List Sh:=[Sh.agg ZeU,Sh.one (R.int i64)]
abbrev ZP9:Rs:=Rs.one (Sh.one (R.int u8))
def ZY4 (r:TR) (n:Int):RT (Int):=
 .br (andI i64 n 7==0) (.leaf r.2.1) (.br (andI i64 n 7==1) (.leaf r.2.2.1) (.br (andI i64 n 7==2) (.leaf r.2.2.2.1) (.br (andI i64 n 7==3) (.leaf r.2.2.2.2.1) (.br (andI i64 n 7==4) (.leaf r.2.2.2.2.2.1) (.br (andI i64 n 7==5) (.leaf r.2.2.2.2.2.2.1) (.br (andI i64 n 7==7) (.leaf r.1) (.leaf (0))))))))
def pGet (r:TR) (n:Int):Int:=(ZY4 r n).val
def Z0Y:Entry:=Zg ZP8 ZP9 (λ_=>none) (λa=>pGet a.1 a.2)
theorem ZP7:Za prog 287 Z0Y:=
 pureQ 63 [(310,Zpx)] [] ZP8 ZP9 ⟨Zpw,Tv⟩ Tryz.func287 Tryz.call287 trivial (t:=λa=>ZY4 a.1 a.2)
abbrev ZPr:List Sh:=[Sh.agg ZeU,Sh.one (R.int i64),Sh.one (R.int u8)]
abbrev ZPs:Rs:=Rs.one (Sh.agg ZeU)
def ZYL (r:TR) (n:Int) (v:Int):RT TR:=
 .br (andI i64 n 7==0) (.leaf ((r.1,v,r.2.2))) (.br (andI i64 n 7==1) (.leaf ((r.1,r.2.1,v,r.2.2.2))) (.br (andI i64 n 7==2) (.leaf ((r.1,r.2.1,r.2.2.1,v,r.2.2.2.2))) (.br (andI i64 n 7==3) (.leaf ((r.1,r.2.1,r.2.2.1,r.2.2.2.1,v,r.2.2.2.2.2))) (.br (andI i64 n 7==4) (.leaf ((r.1,r.2.1,r.2.2.1,r.2.2.2.1,r.2.2.2.2.1,v,r.2.2.2.2.2.2))) (.br (andI i64 n 7==5) (.leaf ((r.1,r.2.1,r.2.2.1,r.2.2.2.1,r.2.2.2.2.1,r.2.2.2.2.2.1,v,r.2.2.2.2.2.2.2))) (.br (andI i64 n 7==7) (.leaf ((v,r.2))) (.leaf (r))))))))
def pSet (r:TR) (n:Int) (v:Int):TR:=(ZYL r n v).val
def Z0R:Entry:=Zg ZPr ZPs (λ_=>none) (λa=>pSet a.1 a.2.1 a.2.2)
theorem ZPq:Za prog 268 Z0R:=
 pureQ 255 [(310,Zpx)] [] ZPr ZPs ⟨Zpw,Tv⟩ Tryz.func268 Tryz.call268 trivial (t:=λa=>ZYL a.1 a.2.1 a.2.2)
abbrev ZCf:List Sh:=[Sh.agg ZeU,Sh.one (R.int i64)]
abbrev ZCg:Rs:=Rs.one (Sh.one (R.int u16))
def ZPF (r:TR) (n:Int):RT (Int):=
 .br (andI i64 n 3==3) (.leaf r.2.2.2.2.2.2.2.2.1) (.leaf (ZP0 (pGet r (i64.wrap (2*andI i64 n 3))) (pGet r (i64.wrap (i64.wrap (2*andI i64 n 3)+1)))))
def ZYT (r:TR) (n:Int):Int:=(ZPF r n).val
def Z0T:Entry:=Zg ZCf ZCg (λ_=>none) (λa=>ZYT a.1 a.2)
theorem ZT8:Za prog 286 Z0T:=
 pureQ 31 [(236,ZGK),(287,Z0Y)] [] ZCf ZCg ⟨ZlG,ZP7,Tv⟩ Tryz.func286 Tryz.call286 trivial (t:=λa=>ZPF a.1 a.2)
abbrev Zj6:List Sh:=[Sh.agg ZeU,Sh.one (R.int i64),Sh.one (R.int u16)]
abbrev Zj7:Rs:=Rs.one (Sh.agg ZeU)
def ZnV (r:TR) (n:Int) (v:Int):RT TR:=
 .br (andI i64 n 3==3) (.leaf ((r.1,r.2.1,r.2.2.1,r.2.2.2.1,r.2.2.2.2.1,r.2.2.2.2.2.1,r.2.2.2.2.2.2.1,r.2.2.2.2.2.2.2.1,v,r.2.2.2.2.2.2.2.2.2))) (.leaf (pSet (pSet r (i64.wrap (2*andI i64 n 3)) (u8.wrap (shrI u16 v 8))) (i64.wrap (i64.wrap (2*andI i64 n 3)+1)) (u8.wrap v)))
def Zut (r:TR) (n:Int) (v:Int):TR:=(ZnV r n v).val
def ZPt:Entry:=Zg Zj6 Zj7 (λ_=>none) (λa=>Zut a.1 a.2.1 a.2.2)
theorem ZB6:Za prog 269 ZPt:=
 pureQ 127 [(268,Z0R)] [] Zj6 Zj7 ⟨ZPq,Tv⟩ Tryz.func269 Tryz.call269 trivial (t:=λa=>ZnV a.1 a.2.1 a.2.2)
abbrev ZPJ:List Sh:=[Sh.one (R.int i64),Sh.agg ZeU]
abbrev ZGD:Rs:=Rs.one (Sh.one (R.int u16))
def ZUb (chip:Int) (r:TR):RT (Option (Int)):=
 .br (ZGC chip r.2.2.2.2.2.2.2.1) (.leaf (some (ZP0 r.1 (ZUa chip r.2.2.2.2.2.2.2.1)))) (.leaf none)
def pPSW (chip:Int) (r:TR):Int:=getO ZGD.dflt (ZUb chip r).val
def ZYV (chip:Int) (r:TR):Bool:=okB (ZUb chip r).val
def pPSWE:Entry:=Zg ZPJ ZGD (λa=>some (ZYV a.1 a.2)) (λa=>pPSW a.1 a.2)
theorem ZYU:Za prog 290 pPSWE:=
 pureP 31 [(236,ZGK),(324,ZWE)] [] ZPJ ZGD ⟨ZlG,ZT9,Tv⟩ Tryz.func290 Tryz.call290 trivial (t:=λa=>ZUb a.1 a.2)
abbrev ZnW:List Sh:=[Sh.one (R.int i64),Sh.agg ZeU,Sh.one (R.int u16)]
abbrev ZnX:Rs:=Rs.one (Sh.agg ZeU)
def Zuu (chip:Int) (r:TR) (v:Int):RT TR:=
 .leaf ((u8.wrap (shrI u16 v 8),r.2.1,r.2.2.1,r.2.2.2.1,r.2.2.2.2.1,r.2.2.2.2.2.1,r.2.2.2.2.2.2.1,Zur chip (u8.wrap v),r.2.2.2.2.2.2.2.2))
def ZB8 (chip:Int) (r:TR) (v:Int):TR:=(Zuu chip r v).val
def ZT1:Entry:=Zg ZnW ZnX (λ_=>none) (λa=>ZB8 a.1 a.2.1 a.2.2)
theorem ZJy:Za prog 281 ZT1:=
 pureQ 127 [(323,ZGv)] [] ZnW ZnX ⟨ZJx,Tv⟩ Tryz.func281 Tryz.call281 trivial (t:=λa=>Zuu a.1 a.2.1 a.2.2)
abbrev ZGG:List Sh:=[Sh.one (R.int i64),Sh.one (R.int i64),Sh.one (R.int u8),Sh.one (R.int u8)]
abbrev ZuN:Rs:=Rs.tup [Sh.one (R.int u8),Sh.agg rcF7]
def ZoF (chip:Int) (op:Int) (a:Int) (b:Int):RT (Option (QT2)):=
 let x1:Int:=bif op==4 then andI u8 a b else bif op==5 then xorI u8 a b else bif op==6 then orI u8 a b else 0
 let x2:=pOf x1
 let x3:=x2.2
 let x4:=x3.2
 .br (pOfC x1) (.leaf (some ((x1,x2.1,x3.1,bif chip==2 then pMaj (decide (a>=128)) (decide (b>=128)) (decide (x1>=128)) else x4.1,op==4&&(chip==2||andI u8 (orI u8 a b) 8 !=0),x4.2.2)))) (.leaf none)
def ZGH (chip:Int) (op:Int) (a:Int) (b:Int):QT2:=getO ZuN.dflt (ZoF chip op a b).val
def ZuO (chip:Int) (op:Int) (a:Int) (b:Int):Bool:=okB (ZoF chip op a b).val
def ZPV:Entry:=Zg ZGG ZuN (λa=>some (ZuO a.1 a.2.1 a.2.2.1 a.2.2.2)) (λa=>ZGH a.1 a.2.1 a.2.2.1 a.2.2.2)
theorem ZPU:Za prog 311 ZPV:=
 pureP 8858394623 [(314,pOfE),(315,ZJK)] [] ZGG ZuN ⟨Zyk,ZoE,Tv⟩ Tryz.func311 Tryz.call311 trivial (t:=λa=>ZoF a.1 a.2.1 a.2.2.1 a.2.2.2)
abbrev ZY9:List Sh:=[Sh.one (R.int i64),Sh.one (R.int i64),Sh.one (R.int u8),Sh.one (R.int u8),Sh.agg rcF7]
abbrev ZUm:Rs:=Rs.tup [Sh.one (R.int u8),Sh.agg rcF7]
def pDoT (chip:Int) (op:Int) (a:Int) (b:Int) (f:TF):RT (Option (QT2)):=
 let x1:=decide (andI i64 op 7>=4)&&decide (andI i64 op 7<=6)
 let x2:=f.2.2.2.2.2.2&&(andI i64 op 7==1||andI i64 op 7==3)
 let x3:=ZhW a b x2
 let x4:=x3.1
 let x5:=pOf x4
 let x6:=x5.2
 let x7:=x6.2
 let x8:=x3.2
 let x9:=x8.2
 let x10:=x7.2.2
 let x11:TF:=(x5.1,x6.1,bif chip==2 then pMaj (decide (a>=128)) (decide (b<128)) (decide (x4>=128)) else x7.1,x9.1,x10.1,bif chip==2 then x9.2 else x10.2.1,x8.1)
 let x12:=pSum a b x2
 let x13:=x12.1
 let x14:=pOf x13
 let x15:=x14.2
 let x16:=x15.2
 let x17:=x12.2
 let x18:=x17.2
 let x19:=x16.2.2
 let x20:TF:=(x14.1,x15.1,bif chip==2 then pMaj (decide (a>=128)) (decide (b>=128)) (decide (x13>=128)) else x16.1,x18.1,x19.1,bif chip==2 then x18.2 else x19.2.1,x17.1)
 .br (!x1||ZuO chip (andI i64 op 7) a b) (.br (x1) (.leaf (some (ZGH chip (andI i64 op 7) a b))) (.br (andI i64 op 7 !=0&&andI i64 op 7 !=1) (.br (pOfC x4) (.br (andI i64 op 7==7) (.leaf (some ((a,x11)))) (.leaf (some ((x4,x11))))) (.leaf none)) (.br (pOfC x13) (.br (andI i64 op 7==7) (.leaf (some ((a,x20)))) (.leaf (some ((x13,x20))))) (.leaf none)))) (.leaf none)
def pDo (chip:Int) (op:Int) (a:Int) (b:Int) (f:TF):QT2:=getO ZUm.dflt (pDoT chip op a b f).val
def pDoC (chip:Int) (op:Int) (a:Int) (b:Int) (f:TF):Bool:=okB (pDoT chip op a b f).val
def pDoE:Entry:=Zg ZY9 ZUm (λa=>some (pDoC a.1 a.2.1 a.2.2.1 a.2.2.2.1 a.2.2.2.2)) (λa=>pDo a.1 a.2.1 a.2.2.1 a.2.2.2.1 a.2.2.2.2)
theorem Z01:Za prog 271 pDoE:=
 pureP 1048575 [(311,ZPV),(312,ZTZ),(313,ZGT),(314,pOfE),(315,ZJK)] [] ZY9 ZUm ⟨ZPU,ZB5,Zvy,Zyk,ZoE,Tv⟩ Tryz.func271 Tryz.call271 trivial (t:=λa=>pDoT a.1 a.2.1 a.2.2.1 a.2.2.2.1 a.2.2.2.2)
abbrev Zyh:List Sh:=[Sh.one (R.int i64),Sh.one (R.int u8),Sh.one (R.int u8),Sh.one R.bool,Sh.one R.bool,Sh.one R.bool,Sh.agg rcF7]
abbrev ZnZ:Rs:=Rs.one (Sh.agg rcF7)
def ZlE (chip:Int) (v:Int) (r:Int) (half:Bool) (over:Bool) (x:Bool) (f:TF):RT (Option TF):=
 .br (pOfC r) (.leaf (some (((pOf r).1,(pOf r).2.1,bif chip==2 then pMaj (decide (v>=128)) x (decide (r>=128)) else (pOf r).2.2.1,half,(pOf r).2.2.2.2.1,bif chip==2 then over else (pOf r).2.2.2.2.2.1,f.2.2.2.2.2.2)))) (.leaf none)
def Zn0 (chip:Int) (v:Int) (r:Int) (half:Bool) (over:Bool) (x:Bool) (f:TF):TF:=getO ZnZ.dflt (ZlE chip v r half over x f).val
def Zi0 (chip:Int) (v:Int) (r:Int) (half:Bool) (over:Bool) (x:Bool) (f:TF):Bool:=okB (ZlE chip v r half over x f).val
def Zuv:Entry:=Zg Zyh ZnZ (λa=>some (Zi0 a.1 a.2.1 a.2.2.1 a.2.2.2.1 a.2.2.2.2.1 a.2.2.2.2.2.1 a.2.2.2.2.2.2)) (λa=>Zn0 a.1 a.2.1 a.2.2.1 a.2.2.2.1 a.2.2.2.2.1 a.2.2.2.2.2.1 a.2.2.2.2.2.2)
theorem Zrs:Za prog 316 Zuv:=
 pureP 65535 [(314,pOfE),(315,ZJK)] [] Zyh ZnZ ⟨Zyk,ZoE,Tv⟩ Tryz.func316 Tryz.call316 trivial (t:=λa=>ZlE a.1 a.2.1 a.2.2.1 a.2.2.2.1 a.2.2.2.2.1 a.2.2.2.2.2.1 a.2.2.2.2.2.2)
abbrev ZP4:List Sh:=[Sh.one (R.int i64),Sh.one (R.int u8),Sh.agg rcF7]
abbrev ZGL:Rs:=Rs.tup [Sh.one (R.int u8),Sh.agg rcF7]
def ZUg (chip:Int) (v:Int) (f:TF):RT (Option (QT2)):=
 .br (Zi0 chip v (pSum v 1 false).1 (pSum v 1 false).2.2.1 (pSum v 1 false).2.2.2 false f) (.leaf (some (((pSum v 1 false).1,Zn0 chip v (pSum v 1 false).1 (pSum v 1 false).2.2.1 (pSum v 1 false).2.2.2 false f)))) (.leaf none)
def pInr (chip:Int) (v:Int) (f:TF):QT2:=getO ZGL.dflt (ZUg chip v f).val
def ZY2 (chip:Int) (v:Int) (f:TF):Bool:=okB (ZUg chip v f).val
def pInrE:Entry:=Zg ZP4 ZGL (λa=>some (ZY2 a.1 a.2.1 a.2.2)) (λa=>pInr a.1 a.2.1 a.2.2)
theorem ZY1:Za prog 273 pInrE:=
 pureP 4095 [(312,ZTZ),(316,Zuv)] [] ZP4 ZGL ⟨ZB5,Zrs,Tv⟩ Tryz.func273 Tryz.call273 trivial (t:=λa=>ZUg a.1 a.2.1 a.2.2)
abbrev ZQu:List Sh:=[Sh.one (R.int i64),Sh.one (R.int u8),Sh.agg rcF7]
abbrev ZGV:Rs:=Rs.tup [Sh.one (R.int u8),Sh.agg rcF7]
def ZUp (chip:Int) (v:Int) (f:TF):RT (Option (QT2)):=
 .br (Zi0 chip v (ZhW v 1 false).1 (ZhW v 1 false).2.2.1 (ZhW v 1 false).2.2.2 true f) (.leaf (some (((ZhW v 1 false).1,Zn0 chip v (ZhW v 1 false).1 (ZhW v 1 false).2.2.1 (ZhW v 1 false).2.2.2 true f)))) (.leaf none)
def pDcr (chip:Int) (v:Int) (f:TF):QT2:=getO ZGV.dflt (ZUp chip v f).val
def ZZf (chip:Int) (v:Int) (f:TF):Bool:=okB (ZUp chip v f).val
def pDcrE:Entry:=Zg ZQu ZGV (λa=>some (ZZf a.1 a.2.1 a.2.2)) (λa=>pDcr a.1 a.2.1 a.2.2)
theorem ZZe:Za prog 274 pDcrE:=
 pureP 4095 [(313,ZGT),(316,Zuv)] [] ZQu ZGV ⟨Zvy,Zrs,Tv⟩ Tryz.func274 Tryz.call274 trivial (t:=λa=>ZUp a.1 a.2.1 a.2.2)
abbrev ZP1:List Sh:=[Sh.one (R.int i64),Sh.one (R.int u16),Sh.agg rcF7]
abbrev ZP2:Rs:=Rs.tup [Sh.one (R.int u16),Sh.agg rcF7]
def ZY0 (chip:Int) (v:Int) (f:TF):RT (QT2):=
 .leaf ((u16.wrap (v+1),f.1,f.2.1,bif chip==2 then v==65535 else f.2.2.1,f.2.2.2))
def pInx (chip:Int) (v:Int) (f:TF):QT2:=(ZY0 chip v f).val
def pInxE:Entry:=Zg ZP1 ZP2 (λ_=>none) (λa=>pInx a.1 a.2.1 a.2.2)
theorem ZYZ:Za prog 275 pInxE:=
 pureQ 255 [] [] ZP1 ZP2 trivial Tryz.func275 Tryz.call275 trivial (t:=λa=>ZY0 a.1 a.2.1 a.2.2)
abbrev ZQr:List Sh:=[Sh.one (R.int i64),Sh.one (R.int u16),Sh.agg rcF7]
abbrev ZQs:Rs:=Rs.tup [Sh.one (R.int u16),Sh.agg rcF7]
def ZZd (chip:Int) (v:Int) (f:TF):RT (QT2):=
 .leaf ((u16.wrap (v-1),f.1,f.2.1,bif chip==2 then v==0 else f.2.2.1,f.2.2.2))
def pDcx (chip:Int) (v:Int) (f:TF):QT2:=(ZZd chip v f).val
def pDcxE:Entry:=Zg ZQr ZQs (λ_=>none) (λa=>pDcx a.1 a.2.1 a.2.2)
theorem ZZc:Za prog 276 pDcxE:=
 pureQ 255 [] [] ZQr ZQs trivial Tryz.func276 Tryz.call276 trivial (t:=λa=>ZZd a.1 a.2.1 a.2.2)
abbrev ZQv:List Sh:=[Sh.one (R.int i64),Sh.one (R.int u16),Sh.one (R.int u16),Sh.agg rcF7]
abbrev ZQw:Rs:=Rs.tup [Sh.one (R.int u16),Sh.agg rcF7]
def ZZh (chip:Int) (a:Int) (b:Int) (f:TF):RT (QT2):=
 .leaf ((u16.wrap (a+b),f.1,f.2.1,f.2.2.1,f.2.2.2.1,f.2.2.2.2.1,bif chip==2 then andI u16 (andI u16 (xorI u16 a (u16.wrap (a+b))) (xorI u16 b (u16.wrap (a+b)))) 32768 !=0 else f.2.2.2.2.2.1,decide (u16.wrap (a+b)<a)))
def pDad (chip:Int) (a:Int) (b:Int) (f:TF):QT2:=(ZZh chip a b f).val
def pDadE:Entry:=Zg ZQv ZQw (λ_=>none) (λa=>pDad a.1 a.2.1 a.2.2.1 a.2.2.2)
theorem ZZg:Za prog 277 pDadE:=
 pureQ 2047 [] [] ZQv ZQw trivial Tryz.func277 Tryz.call277 trivial (t:=λa=>ZZh a.1 a.2.1 a.2.2.1 a.2.2.2)
abbrev ZDd:List Sh:=[Sh.one (R.int u16),Sh.one (R.int u16)]
abbrev Zvx:Rs:=Rs.tup [Sh.one (R.int u16),Sh.agg rcF7]
def ZGS (a:Int) (b:Int):RT (Option (QT2)):=
 let x1:=ZhW (u8.wrap (shrI u16 a 8)) (u8.wrap (shrI u16 b 8)) (ZhW (u8.wrap a) (u8.wrap b) false).2.1
 let x2:=x1.1
 let x3:=pOf x2
 let x4:=x1.2
 let x5:=x4.2
 .br (pOfC x2) (.leaf (some ((ZP0 x2 (ZhW (u8.wrap a) (u8.wrap b) false).1,x3.1,x2==0&&(ZhW (u8.wrap a) (u8.wrap b) false).1==0,pMaj (decide (a>=32768)) (decide (b<32768)) (decide (x2>=128)),x5.1,x3.2.2.2.2.1,x5.2,x4.1)))) (.leaf none)
def ZY8 (a:Int) (b:Int):QT2:=getO Zvx.dflt (ZGS a b).val
def ZQm (a:Int) (b:Int):Bool:=okB (ZGS a b).val
def Z00:Entry:=Zg ZDd Zvx (λa=>some (ZQm a.1 a.2)) (λa=>ZY8 a.1 a.2)
theorem ZUl:Za prog 283 Z00:=
 pureP 32767 [(236,ZGK),(313,ZGT),(314,pOfE),(315,ZJK)] [] ZDd Zvx ⟨ZlG,Zvy,Zyk,ZoE,Tv⟩ Tryz.func283 Tryz.call283 trivial (t:=λa=>ZGS a.1 a.2)
abbrev ZQy:List Sh:=[Sh.one (R.int i64),Sh.one (R.int u8),Sh.agg rcF7]
abbrev ZGY:Rs:=Rs.tup [Sh.one (R.int u8),Sh.agg rcF7]
def ZUr (chip:Int) (a:Int) (f:TF):RT (Option (QT2)):=
 let x1:Int:=bif f.2.2.2.1||decide (andI u8 a 15>9) then 6 else 0
 let x2:=pSum a (bif f.2.2.2.2.2.2||decide (a>153) then u8.wrap (x1+96) else x1) false
 let x3:=x2.1
 let x4:=pOf x3
 let x5:=x4.2
 let x6:=x5.2
 let x7:=x2.2.2
 let x8:=x6.2.2
 .br (pOfC x3) (.leaf (some ((x3,x4.1,x5.1,bif chip==2 then pMaj (decide (a>=128)) false (decide (x3>=128)) else x6.1,x7.1,x8.1,bif chip==2 then x7.2 else x8.2.1,f.2.2.2.2.2.2||decide (a>153))))) (.leaf none)
def pDaa (chip:Int) (a:Int) (f:TF):QT2:=getO ZGY.dflt (ZUr chip a f).val
def ZZj (chip:Int) (a:Int) (f:TF):Bool:=okB (ZUr chip a f).val
def pDaaE:Entry:=Zg ZQy ZGY (λa=>some (ZZj a.1 a.2.1 a.2.2)) (λa=>pDaa a.1 a.2.1 a.2.2)
theorem ZZi:Za prog 278 pDaaE:=
 pureP 32767 [(312,ZTZ),(314,pOfE),(315,ZJK)] [] ZQy ZGY ⟨ZB5,Zyk,ZoE,Tv⟩ Tryz.func278 Tryz.call278 trivial (t:=λa=>ZUr a.1 a.2.1 a.2.2)
abbrev ZWK:List Sh:=[Sh.one R.bool]
abbrev ZWL:Rs:=Rs.one (Sh.one (R.int u8))
def Z0X (c:Bool):RT (Int):=
 .br (c) (.leaf (1)) (.leaf (0))
def pLow (c:Bool):Int:=(Z0X c).val
def ZJL:Entry:=Zg ZWK ZWL (λ_=>none) (λa=>pLow a)
theorem ZCX:Za prog 320 ZJL:=
 pureQ 7 [] [] ZWK ZWL trivial Tryz.func320 Tryz.call320 trivial (t:=λa=>Z0X a)
def ZgE:Entry:=.tree (ZS (envX prog [] [] 7 8) Tryz.f317)
theorem Zkp:Za prog 317 ZgE:=Zaq (P:=prog) (n:=7) (k:=8) (l:=[]) (ol:=[]) trivial Tryz.func317 rfl (by kernel_rfl) Tryz.call317 trivial
def ZgD:Entry:=.tree (ZS (envX prog [] [] 7 8) Tryz.f318)
theorem Zko:Za prog 318 ZgD:=Zaq (P:=prog) (n:=7) (k:=8) (l:=[]) (ol:=[]) trivial Tryz.func318 rfl (by kernel_rfl) Tryz.call318 trivial
def ZgC:Entry:=.tree (ZS (envX prog [(320,ZJL)] [] 15 8) Tryz.f319)
theorem Zkn:Za prog 319 ZgC:=Zaq (P:=prog) (n:=15) (k:=8) (l:=[(320,ZJL)]) (ol:=[]) ⟨ZCX,Tv⟩ Tryz.func319 rfl (by kernel_rfl) Tryz.call319 trivial
def ZgB:Entry:=.tree (ZS (envX prog [(320,ZJL)] [] 15 8) Tryz.f321)
theorem Zkm:Za prog 321 ZgB:=Zaq (P:=prog) (n:=15) (k:=8) (l:=[(320,ZJL)]) (ol:=[]) ⟨ZCX,Tv⟩ Tryz.func321 rfl (by kernel_rfl) Tryz.call321 trivial
abbrev ZPv:List Sh:=[Sh.one (R.int i64),Sh.one (R.int u8),Sh.one R.bool]
abbrev ZGy:Rs:=Rs.tup [Sh.one (R.int u8),Sh.one R.bool]
def ZT3 (op:Int) (a:Int) (c:Bool):RT (Option (Int×Bool)):=
 .br (andI i64 op 3==0||(andI i64 op 3== ↑(0+1)||(andI i64 op 3== ↑(0+1+1)||andI i64 op 3== ↑(0+1+1+1)))) (.leaf (some ((bif andI i64 op 3==0 then orI u8 (shlI u8 a 1) (shrI u8 a 7) else bif andI i64 op 3== ↑(0+1) then orI u8 (shrI u8 a 1) (shlI u8 a 7) else bif andI i64 op 3== ↑(0+1+1) then orI u8 (shlI u8 a 1) (pLow c) else orI u8 (shrI u8 a 1) (shlI u8 (pLow c) 7),bif andI i64 op 3==0 then decide (a>=128) else bif andI i64 op 3== ↑(0+1) then andI u8 a 1==1 else bif andI i64 op 3== ↑(0+1+1) then decide (a>=128) else andI u8 a 1==1)))) (.leaf none)
def pRot (op:Int) (a:Int) (c:Bool):Int×Bool:=getO ZGy.dflt (ZT3 op a c).val
def ZYN (op:Int) (a:Int) (c:Bool):Bool:=okB (ZT3 op a c).val
def pRotE:Entry:=Zg ZPv ZGy (λa=>some (ZYN a.1 a.2.1 a.2.2)) (λa=>pRot a.1 a.2.1 a.2.2)
theorem ZYM:Za prog 279 pRotE:=
 pureP 511 [(317,ZgE),(318,ZgD),(319,ZgC),(321,ZgB)] [] ZPv ZGy ⟨Zkp,Zko,Zkn,Zkm,Tv⟩ Tryz.func279 Tryz.call279 trivial (t:=λa=>ZT3 a.1 a.2.1 a.2.2)
abbrev ZDf:List Sh:=[Sh.one (R.int u16)]
abbrev ZDg:Rs:=Rs.tup [Sh.one (R.int u16),Sh.one R.bool]
def ZWQ (v:Int):RT (Int×Bool):=
 .leaf ((orI u16 (shrI u16 v 1) (andI u16 v 32768),andI u16 v 1==1))
def Z04 (v:Int):Int×Bool:=(ZWQ v).val
def Z03:Entry:=Zg ZDf ZDg (λ_=>none) (λa=>Z04 a)
theorem ZUu:Za prog 284 Z03:=
 pureQ 15 [] [] ZDf ZDg trivial Tryz.func284 Tryz.call284 trivial (t:=λa=>ZWQ a)
abbrev ZCc:List Sh:=[Sh.one (R.int u16),Sh.one R.bool]
abbrev ZCd:Rs:=Rs.tup [Sh.one (R.int u16),Sh.one R.bool,Sh.one R.bool]
def ZPD (v:Int) (c:Bool):RT (Int×Bool×Bool):=
 .leaf ((orI u16 (shlI u16 v 1) (u16.wrap (pLow c)),decide (v>=32768),andI u16 (xorI u16 (orI u16 (shlI u16 v 1) (u16.wrap (pLow c))) v) 32768 !=0))
def ZYS (v:Int) (c:Bool):Int×Bool×Bool:=(ZPD v c).val
def Z0S:Entry:=Zg ZCc ZCd (λ_=>none) (λa=>ZYS a.1 a.2)
theorem ZT7:Za prog 285 Z0S:=
 pureQ 127 [(320,ZJL)] [] ZCc ZCd ⟨ZCX,Tv⟩ Tryz.func285 Tryz.call285 trivial (t:=λa=>ZPD a.1 a.2)
abbrev ZPu:List Sh:=[Sh.one R.bool,Sh.one (R.int i64)]
abbrev ZB9:Rs:=Rs.one (Sh.one (R.int u8))
def ZGx (b:Bool) (n:Int):RT (Option (Int)):=
 .br (!b||decide (0<=n)) (.br (b) (.leaf (some (shlI u8 1 n))) (.leaf (some (0)))) (.leaf none)
def Zyg (b:Bool) (n:Int):Int:=getO ZB9.dflt (ZGx b n).val
def ZcS (b:Bool) (n:Int):Bool:=okB (ZGx b n).val
def ZWD:Entry:=Zg ZPu ZB9 (λa=>some (ZcS a.1 a.2)) (λa=>Zyg a.1 a.2)
theorem ZT2:Za prog 282 ZWD:=
 pureP 31 [] [] ZPu ZB9 trivial Tryz.func282 Tryz.call282 trivial (t:=λa=>ZGx a.1 a.2)
abbrev ZPx:List Sh:=[Sh.agg Zx,Sh.agg (R.pair R.bool (R.pair R.bool rcF7))]
abbrev ZGz:Rs:=Rs.tup [Sh.one (R.int u8),Sh.agg Zx]
def ZT5 (c:TC) (l:QT0):RT (Option (Int×TC)):=
 let x1:=bif c.2.2.2.2.2.2.2.2.2.2.1 then c.2.2.2.2.2.2.2.2.2.2.2.1 else c.2.2.1
 .br (!ZcS l.2.2.2.1 7||(!ZcS c.2.2.2.2.2.2.2.1 6||(!ZcS l.2.2.2.2.2.2.1 5||(!ZcS l.2.2.2.2.2.2.2.1 4||ZcS x1 3)))) (.br (!ZcS l.2.2.2.1 7||(!ZcS c.2.2.2.2.2.2.2.1 6||(!ZcS l.2.2.2.2.2.2.1 5||ZcS l.2.2.2.2.2.2.2.1 4))) (.br (!ZcS l.2.2.2.1 7||(!ZcS c.2.2.2.2.2.2.2.1 6||ZcS l.2.2.2.2.2.2.1 5)) (.br (!ZcS l.2.2.2.1 7||ZcS c.2.2.2.2.2.2.2.1 6) (.br (ZcS l.2.2.2.1 7) (.leaf (some ((orI u8 (orI u8 (orI u8 (orI u8 (orI u8 (Zyg l.2.2.2.1 7) (Zyg c.2.2.2.2.2.2.2.1 6)) (Zyg l.2.2.2.2.2.2.1 5)) (Zyg l.2.2.2.2.2.2.2.1 4)) (Zyg x1 3)) (andI u8 c.2.2.2.2.2.1 7),c.1,c.2.1,c.2.2.1,c.2.2.2.1,c.2.2.2.2.1,c.2.2.2.2.2.1,c.2.2.2.2.2.2.1,c.2.2.2.2.2.2.2.1,c.2.2.2.2.2.2.2.2.1,c.2.2.2.2.2.2.2.2.2.1,false,false,c.2.2.2.2.2.2.2.2.2.2.2.2)))) (.leaf none)) (.leaf none)) (.leaf none)) (.leaf none)) (.leaf none)
def pRim (c:TC) (l:QT0):Int×TC:=getO ZGz.dflt (ZT5 c l).val
def ZYP (c:TC) (l:QT0):Bool:=okB (ZT5 c l).val
def pRimE:Entry:=Zg ZPx ZGz (λa=>some (ZYP a.1 a.2)) (λa=>pRim a.1 a.2)
theorem ZYO:Za prog 227 pRimE:=
 pureP 255 [(282,ZWD)] [] ZPx ZGz ⟨ZT2,Tv⟩ Tryz.func227 Tryz.call227 trivial (t:=λa=>ZT5 a.1 a.2)
abbrev ZPn:List Sh:=[Sh.agg Zx,Sh.one (R.int u8)]
abbrev ZPo:Rs:=Rs.one (Sh.agg Zx)
def ZYK (c:TC) (a:Int):RT TC:=
 .leaf ((c.1,c.2.1,c.2.2.1,c.2.2.2.1,c.2.2.2.2.1,bif andI u8 a 8 !=0 then andI u8 a 7 else c.2.2.2.2.2.1,c.2.2.2.2.2.2.1,!andI u8 a 16 !=0&&c.2.2.2.2.2.2.2.1,c.2.2.2.2.2.2.2.2.1,c.2.2.2.2.2.2.2.2.2.1,c.2.2.2.2.2.2.2.2.2.2.1,c.2.2.2.2.2.2.2.2.2.2.2.1,bif andI u8 a 64 !=0 then andI u8 a 128 !=0 else c.2.2.2.2.2.2.2.2.2.2.2.2))
def pSim (c:TC) (a:Int):TC:=(ZYK c a).val
def pSimE:Entry:=Zg ZPn ZPo (λ_=>none) (λa=>pSim a.1 a.2)
theorem ZYJ:Za prog 228 pSimE:=
 pureQ 31 [] [] ZPn ZPo trivial Tryz.func228 Tryz.call228 trivial (t:=λa=>ZYK a.1 a.2)
abbrev ZuQ:List Sh:=[Sh.one (R.int i64),Sh.agg rcF7]
abbrev ZuR:Rs:=Rs.one (Sh.one R.bool)
def ZC0 (c:Int) (f:TF):RT (Bool):=
 .br (bif c==0 then c==0 else c==1) (.leaf (f.2.1==(c==1))) (.br (bif c==2 then c==2 else c==3) (.leaf (f.2.2.2.2.2.2==(c==3))) (.br (bif c==4 then c==4 else c==5) (.leaf (f.2.2.2.2.1==(c==5))) (.br (bif c==6 then c==6 else c==7) (.leaf (f.1==(c==7))) (.br (bif c==8 then c==8 else c==9) (.leaf (f.2.2.1==(c==9))) (.br (c==10) (.leaf f.2.2.2.2.2.1) (.leaf (c==11)))))))
def ZP6 (c:Int) (f:TF):Bool:=(ZC0 c f).val
def ZY3:Entry:=Zg ZuQ ZuR (λ_=>none) (λa=>ZP6 a.1 a.2)
theorem ZP5:Za prog 322 ZY3:=
 pureQ 70644700037215 [] [] ZuQ ZuR trivial Tryz.func322 Tryz.call322 trivial (t:=λa=>ZC0 a.1 a.2)
abbrev ZnS:List Sh:=[Sh.one (R.int i64)]
abbrev ZnT:Rs:=Rs.one (Sh.one (R.int u16))
def Zup (s:Int):RT (Int):=
 .br (s==1) (.leaf (36)) (.br (s==2) (.leaf (60)) (.br (s==3) (.leaf (52)) (.br (s==4) (.leaf (44)) (.leaf (0)))))
def ZB4 (s:Int):Int:=(Zup s).val
def ZTY:Entry:=Zg ZnS ZnT (λ_=>none) (λa=>ZB4 a)
theorem ZJw:Za prog 177 ZTY:=
 pureQ 1367 [] [] ZnS ZnT trivial Tryz.func177 Tryz.call177 trivial (t:=λa=>Zup a)
abbrev ZGI:List Sh:=[Sh.one (R.int u8)]
abbrev ZGJ:Rs:=Rs.tup [Sh.agg (R.pair (R.int i64) (R.pair (R.int i64) (R.pair (R.int i64) (R.pair (R.int i64) (R.pair (R.int i64) (R.pair (R.int i64) (R.pair (R.int i64) (R.int i64)))))))),Sh.one R.bool]
def ZPX (op:Int):RT (TI×Bool):=
 .br (op==8) (.leaf (((40,1,0,0,0,0,0,0),true))) (.br (op==16) (.leaf (((41,1,0,0,0,0,0,0),true))) (.br (op==24) (.leaf (((42,1,0,0,0,0,0,0),true))) (.br (op==32) (.leaf (((38,1,0,0,0,0,0,0),true))) (.br (op==40) (.leaf (((43,2,0,0,0,0,0,0),true))) (.br (op==48) (.leaf (((39,1,0,0,0,0,0,0),true))) (.br (op==56) (.leaf (((44,2,0,0,0,0,0,0),true))) (.br (op==203) (.leaf (((45,1,0,0,0,0,10,0),true))) (.br (op==217) (.leaf (((46,1,0,0,0,0,0,0),true))) (.br (op==221) (.leaf (((24,3,0,0,0,0,8,0),true))) (.br (op==237) (.leaf (((47,1,0,0,0,0,0,0),true))) (.br (op==253) (.leaf (((24,3,0,0,0,0,9,0),true))) (.leaf (((0,0,0,0,0,0,0,0),false))))))))))))))
def ZPZ (op:Int):TI×Bool:=(ZPX op).val
def ZPY:Entry:=Zg ZGI ZGJ (λ_=>none) (λa=>ZPZ a)
theorem ZPW:Za prog 239 ZPY:=
 pureQ 314146179375 [] [] ZGI ZGJ trivial Tryz.func239 Tryz.call239 trivial (t:=λa=>ZPX a)
abbrev Zrx:List Sh:=[Sh.one (R.int u8)]
abbrev Zry:Rs:=Rs.tup [Sh.agg (R.pair (R.int i64) (R.pair (R.int i64) (R.pair (R.int i64) (R.pair (R.int i64) (R.pair (R.int i64) (R.pair (R.int i64) (R.pair (R.int i64) (R.int i64)))))))),Sh.one R.bool]
def Zym (op:Int):RT (TI×Bool):=
 .br (bif op==0 then op==0 else bif op==8 then op==8 else bif op==16 then op==16 else bif op==24 then op==24 else bif op==32 then op==32 else bif op==40 then op==40 else bif op==48 then op==48 else op==56) (.leaf (((1,1,0,0,0,0,0,0),true))) (.br (bif op==195 then op==195 else op==203) (.leaf (((24,3,0,0,0,0,11,0),true))) (.br (bif op==201 then op==201 else op==217) (.leaf (((26,1,0,0,0,0,11,0),true))) (.br (bif op==205 then op==205 else bif op==221 then op==221 else bif op==237 then op==237 else op==253) (.leaf (((25,3,0,0,0,0,11,0),true))) (.leaf (((0,0,0,0,0,0,0,0),false))))))
def Zi1 (op:Int):TI×Bool:=(Zym op).val
def Zyn:Entry:=Zg Zrx Zry (λ_=>none) (λa=>Zi1 a)
theorem ZDc:Za prog 240 Zyn:=
 pureQ 8945711 [] [] Zrx Zry trivial Tryz.func240 Tryz.call240 trivial (t:=λa=>Zym a)
abbrev ZPM:List Sh:=[Sh.one (R.int u8)]
abbrev ZCi:Rs:=Rs.one (Sh.agg (R.pair (R.int i64) (R.pair (R.int i64) (R.pair (R.int i64) (R.pair (R.int i64) (R.pair (R.int i64) (R.pair (R.int i64) (R.pair (R.int i64) (R.int i64)))))))))
def ZPN (op:Int):RT (Option TI):=
 let x1:QT28:=(0,0,i64.wrap (andI u8 (shrI u8 op 4) 3),0,0,0)
 let x2:QT21:=(1,x1)
 let x3:=decide (i64.wrap (andI u8 (shrI u8 op 3) 7)<4)&&andI u8 op 8 !=0
 let x4:=decide (0<=i64.wrap (i64.wrap (andI u8 (shrI u8 op 3) 7)-4)/\i64.wrap (i64.wrap (andI u8 (shrI u8 op 3) 7)-4)<4)
 let x5:=i64.wrap (i64.wrap (andI u8 (shrI u8 op 3) 7)-4)==0
 let x6:=i64.wrap (i64.wrap (andI u8 (shrI u8 op 3) 7)-4)== ↑(0+1)
 let x7:=i64.wrap (i64.wrap (andI u8 (shrI u8 op 3) 7)-4)== ↑(0+1+1)
 let x8:QT28:=(i64.wrap (andI u8 (shrI u8 op 3) 7),0,0,0,0,0)
 let x9:QT21:=(1,x8)
 .br (andI u8 op 7==1) (.br (andI u8 op 8 !=0) (.leaf (some ((18,x2)))) (.leaf (some ((4,3,x1))))) (.br (!andI u8 op 7==2||(x3||(decide (i64.wrap (andI u8 (shrI u8 op 3) 7)<4)||x4))) (.br (andI u8 op 7==2) (.br (x3) (.leaf (some ((9,x2)))) (.br (decide (i64.wrap (andI u8 (shrI u8 op 3) 7)<4)) (.leaf (some ((10,x2)))) (.leaf (some ((bif x5 then 8 else bif x6 then 7 else bif x7 then 6 else 5,3,0,0,0,0,0,0)))))) (.br (andI u8 op 7==3) (.br (andI u8 op 8 !=0) (.leaf (some ((17,x2)))) (.leaf (some ((16,x2))))) (.br (andI u8 op 7==4) (.leaf (some ((14,x9)))) (.br (andI u8 op 7==5) (.leaf (some ((15,x9)))) (.br (andI u8 op 7==6) (.leaf (some ((3,2,x8)))) (.br (decide (i64.wrap (andI u8 (shrI u8 op 3) 7)<4)) (.leaf (some ((23,1,0,0,0,i64.wrap (andI u8 (shrI u8 op 3) 7),0,0)))) (.br (x4) (.leaf (some ((bif x5 then 19 else bif x6 then 20 else bif x7 then 21 else 22,1,0,0,0,0,0,0)))) (.leaf none)))))))) (.leaf none))
def ZYX (op:Int):QT6:=getO ZCi.dflt (ZPN op).val
def ZPO (op:Int):Bool:=okB (ZPN op).val
def ZWH:Entry:=Zg ZPM ZCi (λa=>some (ZPO a)) (λa=>ZYX a)
theorem ZUd:Za prog 241 ZWH:=
 pureP 614758941389750335 [] [] ZPM ZCi trivial Tryz.func241 Tryz.call241 trivial (t:=λa=>ZPN a)
abbrev ZGE:List Sh:=[Sh.one (R.int u8)]
abbrev ZuD:Rs:=Rs.one (Sh.agg (R.pair (R.int i64) (R.pair (R.int i64) (R.pair (R.int i64) (R.pair (R.int i64) (R.pair (R.int i64) (R.pair (R.int i64) (R.pair (R.int i64) (R.int i64)))))))))
def ZCj (op:Int):RT (Option TI):=
 let x1:QT28:=(0,0,0,0,i64.wrap (andI u8 (shrI u8 op 3) 7),0)
 let x2:QT21:=(1,0,0,i64.wrap (andI u8 (shrI u8 op 4) 3),0,0,0)
 let x3:=andI u8 op 7==2||(!andI u8 op 7==3||(!decide (i64.wrap (andI u8 (shrI u8 op 3) 7)<4)||decide (0<=i64.wrap (i64.wrap (andI u8 (shrI u8 op 3) 7)-2)/\i64.wrap (i64.wrap (andI u8 (shrI u8 op 3) 7)-2)<2)))
 let x4:QT21:=(3,x1)
 .br (andI u8 op 7==0) (.leaf (some ((26,1,x1)))) (.br (andI u8 op 7==1) (.br (!andI u8 op 8 !=0) (.leaf (some ((31,x2)))) (.br (i64.wrap (andI u8 (shrI u8 op 3) 7)==5) (.leaf (some ((28,1,0,0,0,0,0,0)))) (.leaf (some ((29,1,0,0,0,0,0,0)))))) (.br (!x3||(andI u8 op 7==2||(!andI u8 op 7==3||(decide (i64.wrap (andI u8 (shrI u8 op 3) 7)<4)||decide (0<=i64.wrap (i64.wrap (andI u8 (shrI u8 op 3) 7)-4)/\i64.wrap (i64.wrap (andI u8 (shrI u8 op 3) 7)-4)<4))))) (.br (x3) (.br (andI u8 op 7==2) (.leaf (some ((24,x4)))) (.br (andI u8 op 7==3) (.br (decide (i64.wrap (andI u8 (shrI u8 op 3) 7)<4)) (.leaf (some ((bif i64.wrap (i64.wrap (andI u8 (shrI u8 op 3) 7)-2)==0 then 34 else 33,2,0,0,0,0,0,0)))) (.leaf (some ((bif i64.wrap (i64.wrap (andI u8 (shrI u8 op 3) 7)-4)==0 then 32 else bif i64.wrap (i64.wrap (andI u8 (shrI u8 op 3) 7)-4)== ↑(0+1) then 11 else bif i64.wrap (i64.wrap (andI u8 (shrI u8 op 3) 7)-4)== ↑(0+1+1) then 36 else 35,1,0,0,0,0,0,0))))) (.br (andI u8 op 7==4) (.leaf (some ((25,x4)))) (.br (andI u8 op 7==5) (.leaf (some ((30,x2)))) (.br (andI u8 op 7==6) (.leaf (some ((13,2,0,0,0,i64.wrap (andI u8 (shrI u8 op 3) 7),0,0)))) (.leaf (some ((27,1,0,0,0,0,0,i64.wrap (andI u8 (shrI u8 op 3) 7)))))))))) (.leaf none)) (.leaf none)))
def ZPR (op:Int):QT6:=getO ZuD.dflt (ZCj op).val
def ZCk (op:Int):Bool:=okB (ZCj op).val
def ZPQ:Entry:=Zg ZGE ZuD (λa=>some (ZCk a)) (λa=>ZPR a)
theorem ZPP:Za prog 242 ZPQ:=
 pureP 614741495173873727 [] [] ZGE ZuD trivial Tryz.func242 Tryz.call242 trivial (t:=λa=>ZCj a)
abbrev Zi2:List Sh:=[Sh.one (R.int i64),Sh.one (R.int u8)]
abbrev Zi3:Rs:=Rs.one (Sh.agg (R.pair (R.int i64) (R.pair (R.int i64) (R.pair (R.int i64) (R.pair (R.int i64) (R.pair (R.int i64) (R.pair (R.int i64) (R.pair (R.int i64) (R.int i64)))))))))
def Zfu (chip:Int) (op:Int):RT (Option TI):=
 let x1:QT6:=(37,1,0,0,0,0,0,0)
 let x2:QT6:=(2,1,i64.wrap (andI u8 (shrI u8 op 3) 7),i64.wrap (andI u8 op 7),0,0,0,0)
 let x3:QT6:=(12,1,0,i64.wrap (andI u8 op 7),0,i64.wrap (andI u8 (shrI u8 op 3) 7),0,0)
 .br (chip==2) (.br (ZPZ op).2 (.leaf (some (ZPZ op).1)) (.br (Zi1 op).2 (.leaf (some (Zi1 op).1)) (.br (!shrI u8 op 6==0||ZPO op) (.br (shrI u8 op 6==0) (.leaf (some (ZYX op))) (.br (shrI u8 op 6==1) (.br (op==118) (.leaf (some (x1))) (.leaf (some (x2)))) (.br (shrI u8 op 6==2) (.leaf (some (x3))) (.br (ZCk op) (.leaf (some (ZPR op))) (.leaf none))))) (.leaf none)))) (.br (Zi1 op).2 (.leaf (some (Zi1 op).1)) (.br (!shrI u8 op 6==0||ZPO op) (.br (shrI u8 op 6==0) (.leaf (some (ZYX op))) (.br (shrI u8 op 6==1) (.br (op==118) (.leaf (some (x1))) (.leaf (some (x2)))) (.br (shrI u8 op 6==2) (.leaf (some (x3))) (.br (ZCk op) (.leaf (some (ZPR op))) (.leaf none))))) (.leaf none)))
def ZoJ (chip:Int) (op:Int):QT6:=getO Zi3.dflt (Zfu chip op).val
def ZlH (chip:Int) (op:Int):Bool:=okB (Zfu chip op).val
def ZUn:Entry:=Zg Zi2 Zi3 (λa=>some (ZlH a.1 a.2)) (λa=>ZoJ a.1 a.2)
theorem ZKr:Za prog 182 ZUn:=
 pureP 17594467746303 [(239,ZPY),(240,Zyn),(241,ZWH),(242,ZPQ)] [] Zi2 Zi3 ⟨ZPW,ZDc,ZUd,ZPP,Tv⟩ Tryz.func182 Tryz.call182 trivial (t:=λa=>Zfu a.1 a.2)
abbrev Z0y:List Sh:=[Sh.one (R.int i64)]
abbrev Z0z:Rs:=Rs.one (Sh.one R.bool)
def rOnT (chip:Int):RT (Bool):=
 .leaf (chip==2)
def rOn (chip:Int):Bool:=(rOnT chip).val
def rOnE:Entry:=Zg Z0y Z0z (λ_=>none) (λa=>rOn a)
theorem Zd9:Za prog 146 rOnE:=
 pureQ 7 [] [] Z0y Z0z trivial Tryz.func146 Tryz.call146 trivial (t:=λa=>rOnT a)
abbrev ZxJ:List Sh:=[Sh.one (R.int u8)]
abbrev ZxK:Rs:=Rs.one (Sh.one R.bool)
def ZFM (b:Int):RT (Bool):=
 let x1:=i64.wrap (i64.wrap (i64.wrap (i64.wrap (0+1)+1)+1)+1)
 let x2:=i64.wrap (x1+1)
 let x3:=i64.wrap (x2+1)
 let x4:=bif andI u8 (shrI u8 b (i64.wrap (0+1))) 1==1 then !!andI u8 (shrI u8 b 0) 1==1 else !andI u8 (shrI u8 b 0) 1==1
 let x5:=bif andI u8 (shrI u8 b (i64.wrap (i64.wrap (0+1)+1))) 1==1 then !x4 else x4
 let x6:=bif andI u8 (shrI u8 b (i64.wrap (i64.wrap (i64.wrap (0+1)+1)+1))) 1==1 then !x5 else x5
 let x7:=bif andI u8 (shrI u8 b x1) 1==1 then !x6 else x6
 let x8:=bif andI u8 (shrI u8 b x2) 1==1 then !x7 else x7
 let x9:=bif andI u8 (shrI u8 b x3) 1==1 then !x8 else x8
 .leaf (bif andI u8 (shrI u8 b (i64.wrap (x3+1))) 1==1 then !x9 else x9)
def ZmR (b:Int):Bool:=(ZFM b).val
def Zs9:Entry:=Zg ZxJ ZxK (λ_=>none) (λa=>ZmR a)
theorem Zra:Za prog 266 Zs9:=
 ZGq (P:=prog) (n:=31) (k:=10) (l:=[]) (ol:=[]) trivial Tryz.func266 rfl (by kernel_rfl) Tryz.call266 trivial (ts:=ZxJ) (rs:=ZxK) (t:=λa=>ZFM a) (λa=>by kernel_rfl)
abbrev ZV8:List Sh:=[Sh.one R.bool,Sh.one R.bool,Sh.one R.bool]
abbrev ZV9:Rs:=Rs.one (Sh.one R.bool)
def Z0E (a:Bool) (b:Bool) (c:Bool):RT (Bool):=
 .leaf (bif a then b||bif a then c||b&&c else b&&c else bif a then c||b&&c else b&&c)
def rMaj (a:Bool) (b:Bool) (c:Bool):Bool:=(Z0E a b c).val
def ZIC:Entry:=Zg ZV8 ZV9 (λ_=>none) (λa=>rMaj a.1 a.2.1 a.2.2)
theorem Znw:Za prog 264 ZIC:=
 pureQ 127 [] [] ZV8 ZV9 trivial Tryz.func264 Tryz.call264 trivial (t:=λa=>Z0E a.1 a.2.1 a.2.2)
abbrev ZV2:List Sh:=[Sh.one R.bool]
abbrev ZV3:Rs:=Rs.one (Sh.one (R.int i64))
def Z0x (b:Bool):RT (Int):=
 .br (b) (.leaf (1)) (.leaf (0))
def rOne (b:Bool):Int:=(Z0x b).val
def ZTC:Entry:=Zg ZV2 ZV3 (λ_=>none) (λa=>rOne a)
theorem ZAP:Za prog 267 ZTC:=
 pureQ 7 [] [] ZV2 ZV3 trivial Tryz.func267 Tryz.call267 trivial (t:=λa=>Z0x a)
abbrev ZxA:List Sh:=[Sh.one (R.int u8)]
abbrev ZxB:Rs:=Rs.one (Sh.one (R.int i64))
def Zlt (n:Int):RT (Int):=
 .leaf (i64.wrap (IntKind.i8.wrap n))
def Zd8 (n:Int):Int:=(Zlt n).val
def Zs0:Entry:=Zg ZxA ZxB (λ_=>none) (λa=>Zd8 a)
theorem Zq3:Za prog 309 Zs0:=
 pureQ 7 [] [] ZxA ZxB trivial Tryz.func309 Tryz.call309 trivial (t:=λa=>Zlt a)
abbrev ZVR:List Sh:=[Sh.one (R.int u8),Sh.one (R.int u8),Sh.one R.bool]
abbrev ZVS:Rs:=Rs.tup [Sh.one (R.int u8),Sh.one R.bool,Sh.one R.bool,Sh.one R.bool]
def ZTm (a:Int) (b:Int) (c:Bool):RT (QT19):=
 let x1:=decide (i64.wrap (i64.wrap (Zd8 a+Zd8 b)+rOne c)< -128)
 let x2:=i64.wrap (i64.wrap (i64.wrap a+i64.wrap b)+rOne c)
 let x3:=u8.wrap x2
 let x4:=decide (x2>255)
 let x5:=decide (i64.wrap (i64.wrap (i64.wrap (andI u8 a 15)+i64.wrap (andI u8 b 15))+rOne c)>15)
 .leaf ((bif x1 then x3 else x3,bif x1 then x4 else x4,bif x1 then x5 else x5,x1||decide (i64.wrap (i64.wrap (Zd8 a+Zd8 b)+rOne c)>127)))
def rSum (a:Int) (b:Int) (c:Bool):QT19:=(ZTm a b c).val
def ZTn:Entry:=Zg ZVR ZVS (λ_=>none) (λa=>rSum a.1 a.2.1 a.2.2)
theorem ZAy:Za prog 260 ZTn:=
 pureQ 8191 [(267,ZTC),(309,Zs0)] [] ZVR ZVS ⟨ZAP,Zq3,Tv⟩ Tryz.func260 Tryz.call260 trivial (t:=λa=>ZTm a.1 a.2.1 a.2.2)
abbrev ZOK:List Sh:=[Sh.one (R.int u8),Sh.one (R.int u8),Sh.one R.bool]
abbrev ZOL:Rs:=Rs.tup [Sh.one (R.int u8),Sh.one R.bool,Sh.one R.bool,Sh.one R.bool]
def ZF9 (a:Int) (b:Int) (c:Bool):RT (QT19):=
 let x1:=decide (i64.wrap (i64.wrap (Zd8 a-Zd8 b)-rOne c)< -128)
 let x2:=i64.wrap (i64.wrap (i64.wrap a-i64.wrap b)-rOne c)
 let x3:=u8.wrap x2
 let x4:=decide (x2<0)
 let x5:=decide (i64.wrap (i64.wrap (i64.wrap (i64.wrap (andI u8 a 15)+i64.wrap (u8.wrap (15-andI u8 b 15)))+1)-rOne c)>15)
 .leaf ((bif x1 then x3 else x3,bif x1 then x4 else x4,bif x1 then x5 else x5,x1||decide (i64.wrap (i64.wrap (Zd8 a-Zd8 b)-rOne c)>127)))
def ZcB (a:Int) (b:Int) (c:Bool):QT19:=(ZF9 a b c).val
def ZGa:Entry:=Zg ZOK ZOL (λ_=>none) (λa=>ZcB a.1 a.2.1 a.2.2)
theorem Zt7:Za prog 261 ZGa:=
 pureQ 8191 [(267,ZTC),(309,Zs0)] [] ZOK ZOL ⟨ZAP,Zq3,Tv⟩ Tryz.func261 Tryz.call261 trivial (t:=λa=>ZF9 a.1 a.2.1 a.2.2)
abbrev ZOl:List Sh:=[Sh.one (R.int u8),Sh.one (R.int u8)]
abbrev ZOm:Rs:=Rs.one (Sh.one (R.int u16))
def ZWa (h:Int) (l:Int):RT (Int):=
 .leaf (orI u16 (shlI u16 (u16.wrap h) 8) (u16.wrap l))
def ZcN (h:Int) (l:Int):Int:=(ZWa h l).val
def ZnA:Entry:=Zg ZOl ZOm (λ_=>none) (λa=>ZcN a.1 a.2)
theorem ZiN:Za prog 172 ZnA:=
 pureQ 31 [] [] ZOl ZOm trivial Tryz.func172 Tryz.call172 trivial (t:=λa=>ZWa a.1 a.2)
abbrev ZWr:List Sh:=[Sh.one R.bool,Sh.one (R.int i64)]
abbrev ZOR:Rs:=Rs.one (Sh.one (R.int u8))
def ZTO (b:Bool) (n:Int):RT (Option (Int)):=
 .br (!b||decide (0<=n)) (.br (b) (.leaf (some (shlI u8 1 n))) (.leaf (some (0)))) (.leaf none)
def rBit (b:Bool) (n:Int):Int:=getO ZOR.dflt (ZTO b n).val
def ZdJ (b:Bool) (n:Int):Bool:=okB (ZTO b n).val
def ZTP:Entry:=Zg ZWr ZOR (λa=>some (ZdJ a.1 a.2)) (λa=>rBit a.1 a.2)
theorem ZBR:Za prog 265 ZTP:=
 pureP 31 [] [] ZWr ZOR trivial Tryz.func265 Tryz.call265 trivial (t:=λa=>ZTO a.1 a.2)
abbrev ZN0:List Sh:=[Sh.one (R.int i64),Sh.agg rcF7]
abbrev ZAO:Rs:=Rs.one (Sh.one (R.int u8))
def ZxL (chip:Int) (f:TF):RT (Option (Int)):=
 let x1:=orI u8 (orI u8 (orI u8 (orI u8 (rBit f.1 7) (rBit f.2.1 6)) (rBit f.2.2.2.1 4)) (rBit f.2.2.2.2.1 2)) (rBit f.2.2.2.2.2.2 0)
 .br (!ZdJ f.1 7||(!ZdJ f.2.1 6||(!ZdJ f.2.2.2.1 4||(!ZdJ f.2.2.2.2.1 2||ZdJ f.2.2.2.2.2.2 0)))) (.br (!ZdJ f.1 7||(!ZdJ f.2.1 6||(!ZdJ f.2.2.2.1 4||ZdJ f.2.2.2.2.1 2))) (.br (!ZdJ f.1 7||(!ZdJ f.2.1 6||ZdJ f.2.2.2.1 4)) (.br (!ZdJ f.1 7||ZdJ f.2.1 6) (.br (ZdJ f.1 7) (.br (!rOn chip||(!ZdJ f.2.2.1 5||ZdJ f.2.2.2.2.2.1 1)) (.br (!rOn chip||ZdJ f.2.2.1 5) (.br (rOn chip) (.leaf (some (orI u8 (orI u8 x1 (rBit f.2.2.1 5)) (rBit f.2.2.2.2.2.1 1)))) (.leaf (some (orI u8 x1 2)))) (.leaf none)) (.leaf none)) (.leaf none)) (.leaf none)) (.leaf none)) (.leaf none)) (.leaf none)
def ZTA (chip:Int) (f:TF):Int:=getO ZAO.dflt (ZxL chip f).val
def ZFN (chip:Int) (f:TF):Bool:=okB (ZxL chip f).val
def ZV1:Entry:=Zg ZN0 ZAO (λa=>some (ZFN a.1 a.2)) (λa=>ZTA a.1 a.2)
theorem ZTz:Za prog 221 ZV1:=
 pureP 63 [(146,rOnE),(265,ZTP)] [] ZN0 ZAO ⟨Zd9,ZBR,Tv⟩ Tryz.func221 Tryz.call221 trivial (t:=λa=>ZxL a.1 a.2)
abbrev Zxt:List Sh:=[Sh.one (R.int i64),Sh.one (R.int u8)]
abbrev Zxu:Rs:=Rs.one (Sh.agg rcF7)
def ZsX (chip:Int) (b:Int):RT TF:=
 .leaf ((andI u8 b 128 !=0,andI u8 b 64 !=0,rOn chip&&andI u8 b 32 !=0,andI u8 b 16 !=0,andI u8 b 4 !=0,rOn chip&&andI u8 b 2 !=0,andI u8 b 1 !=0))
def ZsY (chip:Int) (b:Int):TF:=(ZsX chip b).val
def ZFl:Entry:=Zg Zxt Zxu (λ_=>none) (λa=>ZsY a.1 a.2)
theorem ZIh:Za prog 259 ZFl:=
 pureQ 63 [(146,rOnE)] [] Zxt Zxu ⟨Zd9,Tv⟩ Tryz.func259 Tryz.call259 trivial (t:=λa=>ZsX a.1 a.2)
abbrev Z0B:List Sh:=[Sh.one (R.int u8)]
abbrev Z0C:Rs:=Rs.one (Sh.agg rcF7)
def rOfT (r:Int):RT TF:=
 .leaf ((decide (r>=128),r==0,false,false,ZmR r,false,false))
def rOf (r:Int):TF:=(rOfT r).val
def rOfE:Entry:=Zg Z0B Z0C (λ_=>none) (λa=>rOf a)
theorem ZFQ:Za prog 262 rOfE:=
 pureQ 7 [(266,Zs9)] [] Z0B Z0C ⟨Zra,Tv⟩ Tryz.func262 Tryz.call262 trivial (t:=λa=>rOfT a)
abbrev ZN4:List Sh:=[Sh.one (R.int i64),Sh.agg rcF7,Sh.one R.bool,Sh.one R.bool]
abbrev ZN5:Rs:=Rs.one (Sh.agg rcF7)
def Zrc (chip:Int) (f:TF) (k:Bool) (v:Bool):RT TF:=
 .leaf ((f.1,f.2.1,rOn chip&&bif rOn chip then k else k,f.2.2.2.1,f.2.2.2.2.1,bif rOn chip then rOn chip&&v else rOn chip&&v,f.2.2.2.2.2.2))
def Zqb (chip:Int) (f:TF) (k:Bool) (v:Bool):TF:=(Zrc chip f k v).val
def ZxM:Entry:=Zg ZN4 ZN5 (λ_=>none) (λa=>Zqb a.1 a.2.1 a.2.2.1 a.2.2.2)
theorem Zlx:Za prog 263 ZxM:=
 pureQ 511 [(146,rOnE)] [] ZN4 ZN5 ⟨Zd9,Tv⟩ Tryz.func263 Tryz.call263 trivial (t:=λa=>Zrc a.1 a.2.1 a.2.2.1 a.2.2.2)
abbrev ZOq:List Sh:=[Sh.agg ZeU,Sh.one (R.int i64)]
abbrev ZF1:Rs:=Rs.one (Sh.one (R.int u8))
def ZBC (r:TR) (n:Int):RT (Option (Int)):=
 .br (decide (0<=andI i64 n 7/\andI i64 n 7<8)) (.leaf (some (bif andI i64 n 7==0 then r.2.1 else bif andI i64 n 7== ↑(0+1) then r.2.2.1 else bif andI i64 n 7== ↑(0+1+1) then r.2.2.2.1 else bif andI i64 n 7== ↑(0+1+1+1) then r.2.2.2.2.1 else bif andI i64 n 7== ↑(0+1+1+1+1) then r.2.2.2.2.2.1 else bif andI i64 n 7== ↑(0+1+1+1+1+1) then r.2.2.2.2.2.2.1 else bif andI i64 n 7== ↑(0+1+1+1+1+1+1) then 0 else r.1))) (.leaf none)
def rGet (r:TR) (n:Int):Int:=getO ZF1.dflt (ZBC r n).val
def ZBE (r:TR) (n:Int):Bool:=okB (ZBC r n).val
def Z0G:Entry:=Zg ZOq ZF1 (λa=>some (ZBE a.1 a.2)) (λa=>rGet a.1 a.2)
theorem ZOp:Za prog 163 Z0G:=
 pureP 31 [] [] ZOq ZF1 trivial Tryz.func163 Tryz.call163 trivial (t:=λa=>ZBC a.1 a.2)
abbrev ZVV:List Sh:=[Sh.agg ZeU,Sh.one (R.int i64),Sh.one (R.int u8)]
abbrev ZVW:Rs:=Rs.one (Sh.agg ZeU)
def ZX6 (r:TR) (n:Int) (v:Int):RT TR:=
 .leaf ((bif andI i64 n 7==0 then r.1 else bif andI i64 n 7==1 then r.1 else bif andI i64 n 7==2 then r.1 else bif andI i64 n 7==3 then r.1 else bif andI i64 n 7==4 then r.1 else bif andI i64 n 7==5 then r.1 else bif andI i64 n 7==7 then v else r.1,bif andI i64 n 7==0 then v else r.2.1,bif andI i64 n 7==0 then r.2.2.1 else bif andI i64 n 7==1 then v else r.2.2.1,bif andI i64 n 7==0 then r.2.2.2.1 else bif andI i64 n 7==1 then r.2.2.2.1 else bif andI i64 n 7==2 then v else r.2.2.2.1,bif andI i64 n 7==0 then r.2.2.2.2.1 else bif andI i64 n 7==1 then r.2.2.2.2.1 else bif andI i64 n 7==2 then r.2.2.2.2.1 else bif andI i64 n 7==3 then v else r.2.2.2.2.1,bif andI i64 n 7==0 then r.2.2.2.2.2.1 else bif andI i64 n 7==1 then r.2.2.2.2.2.1 else bif andI i64 n 7==2 then r.2.2.2.2.2.1 else bif andI i64 n 7==3 then r.2.2.2.2.2.1 else bif andI i64 n 7==4 then v else r.2.2.2.2.2.1,bif andI i64 n 7==0 then r.2.2.2.2.2.2.1 else bif andI i64 n 7==1 then r.2.2.2.2.2.2.1 else bif andI i64 n 7==2 then r.2.2.2.2.2.2.1 else bif andI i64 n 7==3 then r.2.2.2.2.2.2.1 else bif andI i64 n 7==4 then r.2.2.2.2.2.2.1 else bif andI i64 n 7==5 then v else r.2.2.2.2.2.2.1,r.2.2.2.2.2.2.2))
def rSet (r:TR) (n:Int) (v:Int):TR:=(ZX6 r n v).val
def ZIk:Entry:=Zg ZVV ZVW (λ_=>none) (λa=>rSet a.1 a.2.1 a.2.2)
theorem ZAB:Za prog 205 ZIk:=
 pureQ 9162596991 [] [] ZVV ZVW trivial Tryz.func205 Tryz.call205 trivial (t:=λa=>ZX6 a.1 a.2.1 a.2.2)
abbrev ZAN:List Sh:=[Sh.agg ZeU,Sh.one (R.int i64)]
abbrev Zta:Rs:=Rs.one (Sh.one (R.int u16))
def Zrb (r:TR) (n:Int):RT (Option (Int)):=
 .br (andI i64 n 3==3) (.leaf (some r.2.2.2.2.2.2.2.2.1)) (.br (!ZBE r (i64.wrap (2*andI i64 n 3))||ZBE r (i64.wrap (i64.wrap (2*andI i64 n 3)+1))) (.br (ZBE r (i64.wrap (2*andI i64 n 3))) (.leaf (some (ZcN (rGet r (i64.wrap (2*andI i64 n 3))) (rGet r (i64.wrap (i64.wrap (2*andI i64 n 3)+1)))))) (.leaf none)) (.leaf none))
def Zal (r:TR) (n:Int):Int:=getO Zta.dflt (Zrb r n).val
def ZNZ (r:TR) (n:Int):Bool:=okB (Zrb r n).val
def Z0w:Entry:=Zg ZAN Zta (λa=>some (ZNZ a.1 a.2)) (λa=>Zal a.1 a.2)
theorem ZTy:Za prog 158 Z0w:=
 pureP 31 [(163,Z0G),(172,ZnA)] [] ZAN Zta ⟨ZOp,ZiN,Tv⟩ Tryz.func158 Tryz.call158 trivial (t:=λa=>Zrb a.1 a.2)
abbrev Zq4:List Sh:=[Sh.agg ZeU,Sh.one (R.int i64),Sh.one (R.int u16)]
abbrev Zq5:Rs:=Rs.one (Sh.agg ZeU)
def Zgg (r:TR) (n:Int) (v:Int):RT TR:=
 .br (andI i64 n 3==3) (.leaf ((r.1,r.2.1,r.2.2.1,r.2.2.2.1,r.2.2.2.2.1,r.2.2.2.2.2.1,r.2.2.2.2.2.2.1,r.2.2.2.2.2.2.2.1,v,r.2.2.2.2.2.2.2.2.2))) (.leaf (rSet (rSet r (i64.wrap (2*andI i64 n 3)) (u8.wrap (shrI u16 v 8))) (i64.wrap (i64.wrap (2*andI i64 n 3)+1)) (u8.wrap v)))
def Zr (r:TR) (n:Int) (v:Int):TR:=(Zgg r n v).val
def Zgh:Entry:=Zg Zq4 Zq5 (λ_=>none) (λa=>Zr a.1 a.2.1 a.2.2)
theorem ZmK:Za prog 206 Zgh:=
 pureQ 127 [(205,ZIk)] [] Zq4 Zq5 ⟨ZAB,Tv⟩ Tryz.func206 Tryz.call206 trivial (t:=λa=>Zgg a.1 a.2.1 a.2.2)
abbrev ZN1:List Sh:=[Sh.one (R.int i64),Sh.agg ZeU]
abbrev ZFO:Rs:=Rs.one (Sh.one (R.int u16))
def ZN2 (chip:Int) (r:TR):RT (Option (Int)):=
 .br (ZFN chip r.2.2.2.2.2.2.2.1) (.leaf (some (ZcN r.1 (ZTA chip r.2.2.2.2.2.2.2.1)))) (.leaf none)
def rPSW (chip:Int) (r:TR):Int:=getO ZFO.dflt (ZN2 chip r).val
def ZYe (chip:Int) (r:TR):Bool:=okB (ZN2 chip r).val
def rPSWE:Entry:=Zg ZN1 ZFO (λa=>some (ZYe a.1 a.2)) (λa=>rPSW a.1 a.2)
theorem ZYd:Za prog 171 rPSWE:=
 pureP 31 [(172,ZnA),(221,ZV1)] [] ZN1 ZFO ⟨ZiN,ZTz,Tv⟩ Tryz.func171 Tryz.call171 trivial (t:=λa=>ZN2 a.1 a.2)
abbrev ZxC:List Sh:=[Sh.one (R.int i64),Sh.agg ZeU,Sh.one (R.int u16)]
abbrev ZxD:Rs:=Rs.one (Sh.agg ZeU)
def Zlu (chip:Int) (r:TR) (v:Int):RT TR:=
 .leaf ((u8.wrap (shrI u16 v 8),r.2.1,r.2.2.1,r.2.2.2.1,r.2.2.2.2.1,r.2.2.2.2.2.1,r.2.2.2.2.2.2.1,ZsY chip (u8.wrap v),r.2.2.2.2.2.2.2.2))
def Zgi (chip:Int) (r:TR) (v:Int):TR:=(Zlu chip r v).val
def Zs1:Entry:=Zg ZxC ZxD (λ_=>none) (λa=>Zgi a.1 a.2.1 a.2.2)
theorem ZIj:Za prog 207 Zs1:=
 pureQ 127 [(259,ZFl)] [] ZxC ZxD ⟨ZIh,Tv⟩ Tryz.func207 Tryz.call207 trivial (t:=λa=>Zlu a.1 a.2.1 a.2.2)
abbrev Z0J:List Sh:=[Sh.one (R.int i64),Sh.one (R.int i64),Sh.one (R.int u8),Sh.one (R.int u8),Sh.agg rcF7]
abbrev Z0K:Rs:=Rs.tup [Sh.one (R.int u8),Sh.agg rcF7]
def rDoT (chip:Int) (op:Int) (a:Int) (b:Int) (f:TF):RT (QT2):=
 let x1:=bif andI i64 op 7==0 then andI i64 op 7==0 else andI i64 op 7==1
 let x2:=bif andI i64 op 7==2 then andI i64 op 7==2 else bif andI i64 op 7==3 then andI i64 op 7==3 else andI i64 op 7==7
 let x3:Int:=bif x1 then bif andI i64 op 7==1 then (rSum a b f.2.2.2.2.2.2).1 else (rSum a b false).1 else bif x2 then bif andI i64 op 7==3 then (ZcB a b f.2.2.2.2.2.2).1 else (ZcB a b false).1 else bif andI i64 op 7==4 then bif rOn chip then andI u8 a b else andI u8 a b else bif andI i64 op 7==5 then xorI u8 a b else bif andI i64 op 7==6 then orI u8 a b else 0
 let x4:=rOf x3
 let x5:=x4.2
 let x6:=x5.2
 let x7:=x6.2.2
 let x8:=Zqb chip (x4.1,x5.1,x6.1,bif x1 then bif andI i64 op 7==1 then (rSum a b f.2.2.2.2.2.2).2.2.1 else (rSum a b false).2.2.1 else bif x2 then bif andI i64 op 7==3 then (ZcB a b f.2.2.2.2.2.2).2.2.1 else (ZcB a b false).2.2.1 else andI i64 op 7==4&&(rOn chip||andI u8 (orI u8 a b) 8 !=0),x7.1,x7.2.1,bif x1 then bif andI i64 op 7==1 then (rSum a b f.2.2.2.2.2.2).2.1 else (rSum a b false).2.1 else x2&&bif andI i64 op 7==3 then (ZcB a b f.2.2.2.2.2.2).2.1 else (ZcB a b false).2.1) (rMaj (decide (a>=128)) (bif x1 then decide (b>=128) else bif x2 then !decide (b>=128) else decide (b>=128)) (decide (x3>=128))) (bif x1 then bif andI i64 op 7==1 then (rSum a b f.2.2.2.2.2.2).2.2.2 else (rSum a b false).2.2.2 else x2&&bif andI i64 op 7==3 then (ZcB a b f.2.2.2.2.2.2).2.2.2 else (ZcB a b false).2.2.2)
 .br (andI i64 op 7==7) (.leaf ((a,x8))) (.leaf ((x3,x8)))
def rDo (chip:Int) (op:Int) (a:Int) (b:Int) (f:TF):QT2:=(rDoT chip op a b f).val
def rDoE:Entry:=Zg Z0J Z0K (λ_=>none) (λa=>rDo a.1 a.2.1 a.2.2.1 a.2.2.2.1 a.2.2.2.2)
theorem Z0I:Za prog 208 rDoE:=
 pureQ 1246707057321695066193919 [(146,rOnE),(260,ZTn),(261,ZGa),(262,rOfE),(263,ZxM),(264,ZIC)] [] Z0J Z0K ⟨Zd9,ZAy,Zt7,ZFQ,Zlx,Znw,Tv⟩ Tryz.func208 Tryz.call208 trivial (t:=λa=>rDoT a.1 a.2.1 a.2.2.1 a.2.2.2.1 a.2.2.2.2)
abbrev ZWd:List Sh:=[Sh.one (R.int i64),Sh.one (R.int u8),Sh.agg rcF7]
abbrev ZWe:Rs:=Rs.tup [Sh.one (R.int u8),Sh.agg rcF7]
def ZYk (chip:Int) (v:Int) (f:TF):RT (QT2):=
 .leaf (((rSum v 1 false).1,Zqb chip ((rOf (rSum v 1 false).1).1,(rOf (rSum v 1 false).1).2.1,(rOf (rSum v 1 false).1).2.2.1,(rSum v 1 false).2.2.1,(rOf (rSum v 1 false).1).2.2.2.2.1,(rOf (rSum v 1 false).1).2.2.2.2.2.1,f.2.2.2.2.2.2) (rMaj (decide (v>=128)) false (decide ((rSum v 1 false).1>=128))) (rSum v 1 false).2.2.2))
def rInr (chip:Int) (v:Int) (f:TF):QT2:=(ZYk chip v f).val
def Z0F:Entry:=Zg ZWd ZWe (λ_=>none) (λa=>rInr a.1 a.2.1 a.2.2)
theorem ZYj:Za prog 218 Z0F:=
 pureQ 8191 [(260,ZTn),(262,rOfE),(263,ZxM),(264,ZIC)] [] ZWd ZWe ⟨ZAy,ZFQ,Zlx,Znw,Tv⟩ Tryz.func218 Tryz.call218 trivial (t:=λa=>ZYk a.1 a.2.1 a.2.2)
abbrev ZWk:List Sh:=[Sh.one (R.int i64),Sh.one (R.int u8),Sh.agg rcF7]
abbrev ZWl:Rs:=Rs.tup [Sh.one (R.int u8),Sh.agg rcF7]
def ZYt (chip:Int) (v:Int) (f:TF):RT (QT2):=
 .leaf (((ZcB v 1 false).1,Zqb chip ((rOf (ZcB v 1 false).1).1,(rOf (ZcB v 1 false).1).2.1,(rOf (ZcB v 1 false).1).2.2.1,(ZcB v 1 false).2.2.1,(rOf (ZcB v 1 false).1).2.2.2.2.1,(rOf (ZcB v 1 false).1).2.2.2.2.2.1,f.2.2.2.2.2.2) (rMaj (decide (v>=128)) true (decide ((ZcB v 1 false).1>=128))) (ZcB v 1 false).2.2.2))
def rDcr (chip:Int) (v:Int) (f:TF):QT2:=(ZYt chip v f).val
def Z0L:Entry:=Zg ZWk ZWl (λ_=>none) (λa=>rDcr a.1 a.2.1 a.2.2)
theorem ZYs:Za prog 219 Z0L:=
 pureQ 8191 [(261,ZGa),(262,rOfE),(263,ZxM),(264,ZIC)] [] ZWk ZWl ⟨Zt7,ZFQ,Zlx,Znw,Tv⟩ Tryz.func219 Tryz.call219 trivial (t:=λa=>ZYt a.1 a.2.1 a.2.2)
abbrev ZWb:List Sh:=[Sh.one (R.int i64),Sh.one (R.int u16),Sh.agg rcF7]
abbrev ZWc:Rs:=Rs.tup [Sh.one (R.int u16),Sh.agg rcF7]
def ZYh (chip:Int) (v:Int) (f:TF):RT (QT2):=
 .leaf ((u16.wrap (v+1),f.1,f.2.1,bif rOn chip then v==65535 else f.2.2.1,f.2.2.2))
def rInx (chip:Int) (v:Int) (f:TF):QT2:=(ZYh chip v f).val
def ZYi:Entry:=Zg ZWb ZWc (λ_=>none) (λa=>rInx a.1 a.2.1 a.2.2)
theorem ZYg:Za prog 209 ZYi:=
 pureQ 255 [(146,rOnE)] [] ZWb ZWc ⟨Zd9,Tv⟩ Tryz.func209 Tryz.call209 trivial (t:=λa=>ZYh a.1 a.2.1 a.2.2)
abbrev ZWi:List Sh:=[Sh.one (R.int i64),Sh.one (R.int u16),Sh.agg rcF7]
abbrev ZWj:Rs:=Rs.tup [Sh.one (R.int u16),Sh.agg rcF7]
def ZYq (chip:Int) (v:Int) (f:TF):RT (QT2):=
 .leaf ((u16.wrap (v-1),f.1,f.2.1,bif rOn chip then v==0 else f.2.2.1,f.2.2.2))
def rDcx (chip:Int) (v:Int) (f:TF):QT2:=(ZYq chip v f).val
def ZYr:Entry:=Zg ZWi ZWj (λ_=>none) (λa=>rDcx a.1 a.2.1 a.2.2)
theorem ZYp:Za prog 210 ZYr:=
 pureQ 255 [(146,rOnE)] [] ZWi ZWj ⟨Zd9,Tv⟩ Tryz.func210 Tryz.call210 trivial (t:=λa=>ZYq a.1 a.2.1 a.2.2)
abbrev ZWm:List Sh:=[Sh.one (R.int i64),Sh.one (R.int u16),Sh.one (R.int u16),Sh.agg rcF7]
abbrev ZWn:Rs:=Rs.tup [Sh.one (R.int u16),Sh.agg rcF7]
def ZYv (chip:Int) (a:Int) (b:Int) (f:TF):RT (QT2):=
 .leaf ((u16.wrap (a+b),f.1,f.2.1,f.2.2.1,f.2.2.2.1,f.2.2.2.2.1,bif rOn chip then decide (i64.wrap (i64.wrap (IntKind.i16.wrap a)+i64.wrap (IntKind.i16.wrap b))< -32768)||decide (i64.wrap (i64.wrap (IntKind.i16.wrap a)+i64.wrap (IntKind.i16.wrap b))>32767) else f.2.2.2.2.2.1,decide (i64.wrap (i64.wrap a+i64.wrap b)>65535)))
def rDad (chip:Int) (a:Int) (b:Int) (f:TF):QT2:=(ZYv chip a b f).val
def ZYw:Entry:=Zg ZWm ZWn (λ_=>none) (λa=>rDad a.1 a.2.1 a.2.2.1 a.2.2.2)
theorem ZYu:Za prog 211 ZYw:=
 pureQ 2047 [(146,rOnE)] [] ZWm ZWn ⟨Zd9,Tv⟩ Tryz.func211 Tryz.call211 trivial (t:=λa=>ZYv a.1 a.2.1 a.2.2.1 a.2.2.2)
abbrev ZOG:List Sh:=[Sh.one (R.int u16),Sh.one (R.int u16)]
abbrev ZOI:Rs:=Rs.tup [Sh.one (R.int u16),Sh.agg rcF7]
def ZOH (a:Int) (b:Int):RT (QT2):=
 let x1:=ZcB (u8.wrap (shrI u16 a 8)) (u8.wrap (shrI u16 b 8)) (ZcB (u8.wrap a) (u8.wrap b) false).2.1
 let x2:=x1.1
 let x3:=x2==0
 let x4:=ZcN x2 (ZcB (u8.wrap a) (u8.wrap b) false).1
 let x5:=decide (x2>=128)
 let x6:=rMaj (decide (a>=32768)) (decide (b<32768)) x5
 let x7:=x1.2
 let x8:=x7.2
 let x9:=x8.1
 let x10:=ZmR x2
 let x11:=x8.2
 let x12:=x7.1
 .leaf ((bif x3 then x4 else x4,bif x3 then x5 else x5,x3&&(ZcB (u8.wrap a) (u8.wrap b) false).1==0,bif x3 then x6 else x6,bif x3 then x9 else x9,bif x3 then x10 else x10,bif x3 then x11 else x11,bif x3 then x12 else x12))
def ZxV (a:Int) (b:Int):QT2:=(ZOH a b).val
def ZOJ:Entry:=Zg ZOG ZOI (λ_=>none) (λa=>ZxV a.1 a.2)
theorem ZTM:Za prog 214 ZOJ:=
 pureQ 16383 [(172,ZnA),(261,ZGa),(264,ZIC),(266,Zs9)] [] ZOG ZOI ⟨ZiN,Zt7,Znw,Zra,Tv⟩ Tryz.func214 Tryz.call214 trivial (t:=λa=>ZOH a.1 a.2)
abbrev ZWo:List Sh:=[Sh.one (R.int i64),Sh.one (R.int u8),Sh.agg rcF7]
abbrev ZWp:Rs:=Rs.tup [Sh.one (R.int u8),Sh.agg rcF7]
def ZYy (chip:Int) (a:Int) (f:TF):RT (QT2):=
 let x1:Int:=bif f.2.2.2.1||decide (andI u8 a 15>9) then 6 else 0
 let x2:=rSum a (bif f.2.2.2.2.2.2||decide (a>153) then u8.wrap (x1+96) else x1) false
 let x3:=x2.1
 let x4:=rOf x3
 let x5:=x4.2
 let x6:=x5.2
 let x7:=x2.2.2
 let x8:=x6.2.2
 .leaf ((x3,Zqb chip (x4.1,x5.1,x6.1,x7.1,x8.1,x8.2.1,f.2.2.2.2.2.2||decide (a>153)) (rMaj (decide (a>=128)) false (decide (x3>=128))) x7.2))
def rDaa (chip:Int) (a:Int) (f:TF):QT2:=(ZYy chip a f).val
def ZYz:Entry:=Zg ZWo ZWp (λ_=>none) (λa=>rDaa a.1 a.2.1 a.2.2)
theorem ZYx:Za prog 212 ZYz:=
 pureQ 32767 [(260,ZTn),(262,rOfE),(263,ZxM),(264,ZIC)] [] ZWo ZWp ⟨ZAy,ZFQ,Zlx,Znw,Tv⟩ Tryz.func212 Tryz.call212 trivial (t:=λa=>ZYy a.1 a.2.1 a.2.2)
abbrev ZNF:List Sh:=[Sh.one (R.int i64),Sh.one (R.int u8),Sh.one R.bool]
abbrev ZFu:Rs:=Rs.tup [Sh.one (R.int u8),Sh.one R.bool]
def ZNG (op:Int) (a:Int) (c:Bool):RT (Option (Int×Bool)):=
 .br (andI i64 op 3==0||(andI i64 op 3==1||(!andI i64 op 3==2||ZdJ c 0))) (.br (andI i64 op 3==0) (.leaf (some ((orI u8 (shlI u8 a 1) (shrI u8 a 7),decide (a>=128))))) (.br (andI i64 op 3==1) (.leaf (some ((orI u8 (shrI u8 a 1) (shlI u8 a 7),andI u8 a 1==1)))) (.br (andI i64 op 3==2) (.leaf (some ((orI u8 (shlI u8 a 1) (rBit c 0),decide (a>=128))))) (.br (ZdJ c 7) (.leaf (some ((orI u8 (shrI u8 a 1) (rBit c 7),andI u8 a 1==1)))) (.leaf none))))) (.leaf none)
def rRot (op:Int) (a:Int) (c:Bool):Int×Bool:=getO ZFu.dflt (ZNG op a c).val
def ZX9 (op:Int) (a:Int) (c:Bool):Bool:=okB (ZNG op a c).val
def rRotE:Entry:=Zg ZNF ZFu (λa=>some (ZX9 a.1 a.2.1 a.2.2)) (λa=>rRot a.1 a.2.1 a.2.2)
theorem ZX8:Za prog 213 rRotE:=
 pureP 537396479 [(265,ZTP)] [] ZNF ZFu ⟨ZBR,Tv⟩ Tryz.func213 Tryz.call213 trivial (t:=λa=>ZNG a.1 a.2.1 a.2.2)
abbrev ZOV:List Sh:=[Sh.one (R.int u16)]
abbrev ZOW:Rs:=Rs.tup [Sh.one (R.int u16),Sh.one R.bool]
def ZWt (v:Int):RT (Int×Bool):=
 .leaf ((orI u16 (shrI u16 v 1) (andI u16 v 32768),andI u16 v 1==1))
def Zuc (v:Int):Int×Bool:=(ZWt v).val
def ZOX:Entry:=Zg ZOV ZOW (λ_=>none) (λa=>Zuc a)
theorem ZTQ:Za prog 215 ZOX:=
 pureQ 15 [] [] ZOV ZOW trivial Tryz.func215 Tryz.call215 trivial (t:=λa=>ZWt a)
abbrev ZAI:List Sh:=[Sh.one (R.int u16),Sh.one R.bool]
abbrev Zs5:Rs:=Rs.tup [Sh.one (R.int u16),Sh.one R.bool,Sh.one R.bool]
def ZxG (v:Int) (c:Bool):RT (Option (Int×Bool×Bool)):=
 .br (ZdJ c 0) (.leaf (some ((orI u16 (shlI u16 v 1) (u16.wrap (rBit c 0)),decide (v>=32768),andI u16 (orI u16 (shlI u16 v 1) (u16.wrap (rBit c 0))) 32768 !=andI u16 v 32768)))) (.leaf none)
def ZxH (v:Int) (c:Bool):Int×Bool×Bool:=getO Zs5.dflt (ZxG v c).val
def ZNO (v:Int) (c:Bool):Bool:=okB (ZxG v c).val
def Z0v:Entry:=Zg ZAI Zs5 (λa=>some (ZNO a.1 a.2)) (λa=>ZxH a.1 a.2)
theorem ZTr:Za prog 216 Z0v:=
 pureP 255 [(265,ZTP)] [] ZAI Zs5 ⟨ZBR,Tv⟩ Tryz.func216 Tryz.call216 trivial (t:=λa=>ZxG a.1 a.2)
abbrev ZGe:List Sh:=[Sh.one R.bool,Sh.one (R.int i64)]
abbrev Zua:Rs:=Rs.one (Sh.one (R.int u8))
def ZBS (b:Bool) (n:Int):RT (Option (Int)):=
 .br (decide (0<=n)) (.leaf (some (u8.wrap (shlI i64 (rOne b) n)))) (.leaf none)
def Zgn (b:Bool) (n:Int):Int:=getO Zua.dflt (ZBS b n).val
def Zax (b:Bool) (n:Int):Bool:=okB (ZBS b n).val
def ZOT:Entry:=Zg ZGe Zua (λa=>some (Zax a.1 a.2)) (λa=>Zgn a.1 a.2)
theorem ZOS:Za prog 217 ZOT:=
 pureP 31 [(267,ZTC)] [] ZGe Zua ⟨ZAP,Tv⟩ Tryz.func217 Tryz.call217 trivial (t:=λa=>ZBS a.1 a.2)
abbrev ZNI:List Sh:=[Sh.agg Zx,Sh.agg (R.pair R.bool (R.pair R.bool rcF7))]
abbrev ZFv:Rs:=Rs.tup [Sh.one (R.int u8),Sh.agg Zx]
def ZNJ (c:TC) (l:QT0):RT (Option (Int×TC)):=
 let x1:=bif c.2.2.2.2.2.2.2.2.2.2.1 then c.2.2.2.2.2.2.2.2.2.2.2.1 else c.2.2.1
 .br (!Zax l.2.2.2.1 7||(!Zax c.2.2.2.2.2.2.2.1 6||(!Zax l.2.2.2.2.2.2.1 5||(!Zax l.2.2.2.2.2.2.2.1 4||Zax x1 3)))) (.br (!Zax l.2.2.2.1 7||(!Zax c.2.2.2.2.2.2.2.1 6||(!Zax l.2.2.2.2.2.2.1 5||Zax l.2.2.2.2.2.2.2.1 4))) (.br (!Zax l.2.2.2.1 7||(!Zax c.2.2.2.2.2.2.2.1 6||Zax l.2.2.2.2.2.2.1 5)) (.br (!Zax l.2.2.2.1 7||Zax c.2.2.2.2.2.2.2.1 6) (.br (Zax l.2.2.2.1 7) (.leaf (some ((orI u8 (orI u8 (orI u8 (orI u8 (orI u8 (Zgn l.2.2.2.1 7) (Zgn c.2.2.2.2.2.2.2.1 6)) (Zgn l.2.2.2.2.2.2.1 5)) (Zgn l.2.2.2.2.2.2.2.1 4)) (Zgn x1 3)) (andI u8 c.2.2.2.2.2.1 7),c.1,c.2.1,c.2.2.1,c.2.2.2.1,c.2.2.2.2.1,c.2.2.2.2.2.1,c.2.2.2.2.2.2.1,c.2.2.2.2.2.2.2.1,c.2.2.2.2.2.2.2.2.1,c.2.2.2.2.2.2.2.2.2.1,false,false,c.2.2.2.2.2.2.2.2.2.2.2.2)))) (.leaf none)) (.leaf none)) (.leaf none)) (.leaf none)) (.leaf none)
def rRim (c:TC) (l:QT0):Int×TC:=getO ZFv.dflt (ZNJ c l).val
def ZYb (c:TC) (l:QT0):Bool:=okB (ZNJ c l).val
def rRimE:Entry:=Zg ZNI ZFv (λa=>some (ZYb a.1 a.2)) (λa=>rRim a.1 a.2)
theorem ZYa:Za prog 159 rRimE:=
 pureP 255 [(217,ZOT)] [] ZNI ZFv ⟨ZOS,Tv⟩ Tryz.func159 Tryz.call159 trivial (t:=λa=>ZNJ a.1 a.2)
abbrev ZVT:List Sh:=[Sh.agg Zx,Sh.one (R.int u8)]
abbrev ZVU:Rs:=Rs.one (Sh.agg Zx)
def ZNA (c:TC) (a:Int):RT TC:=
 .leaf ((c.1,c.2.1,c.2.2.1,c.2.2.2.1,c.2.2.2.2.1,bif andI u8 a 8 !=0 then andI u8 a 7 else c.2.2.2.2.2.1,c.2.2.2.2.2.2.1,!andI u8 a 16 !=0&&c.2.2.2.2.2.2.2.1,c.2.2.2.2.2.2.2.2.1,c.2.2.2.2.2.2.2.2.2.1,c.2.2.2.2.2.2.2.2.2.2.1,c.2.2.2.2.2.2.2.2.2.2.2.1,bif andI u8 a 64 !=0 then andI u8 a 128 !=0 else c.2.2.2.2.2.2.2.2.2.2.2.2))
def rSim (c:TC) (a:Int):TC:=(ZNA c a).val
def Z0u:Entry:=Zg ZVT ZVU (λ_=>none) (λa=>rSim a.1 a.2)
theorem ZX5:Za prog 160 Z0u:=
 pureQ 31 [] [] ZVT ZVU trivial Tryz.func160 Tryz.call160 trivial (t:=λa=>ZNA a.1 a.2)
abbrev ZFZ:List Sh:=[Sh.one (R.int i64),Sh.agg rcF7]
abbrev ZF0:Rs:=Rs.one (Sh.one R.bool)
def ZBB (c:Int) (f:TF):RT (Bool):=
 .br (c==0) (.leaf (!f.2.1)) (.br (c==1) (.leaf f.2.1) (.br (c==2) (.leaf (!f.2.2.2.2.2.2)) (.br (c==3) (.leaf f.2.2.2.2.2.2) (.br (c==4) (.leaf (!f.2.2.2.2.1)) (.br (c==5) (.leaf f.2.2.2.2.1) (.br (c==6) (.leaf (!f.1)) (.br (c==7) (.leaf f.1) (.br (c==8) (.leaf (!f.2.2.1)) (.br (c==9) (.leaf f.2.2.1) (.br (c==10) (.leaf f.2.2.2.2.2.1) (.leaf (c==11))))))))))))
def Zey (c:Int) (f:TF):Bool:=(ZBB c f).val
def ZOo:Entry:=Zg ZFZ ZF0 (λ_=>none) (λa=>Zey a.1 a.2)
theorem ZOn:Za prog 220 ZOo:=
 pureQ 2397219371124831 [] [] ZFZ ZF0 trivial Tryz.func220 Tryz.call220 trivial (t:=λa=>ZBB a.1 a.2)
abbrev Zxo:List Sh:=[Sh.one (R.int i64)]
abbrev Zxp:Rs:=Rs.one (Sh.one (R.int u16))
def ZsU (s:Int):RT (Int):=
 .br (s==1) (.leaf (36)) (.br (s==2) (.leaf (60)) (.br (s==3) (.leaf (52)) (.br (s==4) (.leaf (44)) (.leaf (0)))))
def Zi (s:Int):Int:=(ZsU s).val
def ZFk:Entry:=Zg Zxo Zxp (λ_=>none) (λa=>Zi a)
theorem ZIe:Za prog 152 ZFk:=
 pureQ 1367 [] [] Zxo Zxp trivial Tryz.func152 Tryz.call152 trivial (t:=λa=>ZsU a)
abbrev ZnB:List Sh:=[Sh.one (R.int i64)]
abbrev ZnC:Rs:=Rs.one (Sh.one R.bool)
def ZjZ (s:Int):RT (Bool):=
 .leaf (decide (s>=1)&&decide (s<=4))
def Zc (s:Int):Bool:=(ZjZ s).val
def Zg3:Entry:=Zg ZnB ZnC (λ_=>none) (λa=>Zc a)
theorem Zgm:Za prog 104 Zg3:=
 pureQ 7 [] [] ZnB ZnC trivial Tryz.func104 Tryz.call104 trivial (t:=λa=>ZjZ a)
abbrev Zq1:List Sh:=[Sh.one (R.int u8)]
abbrev Zq2:Rs:=Rs.tup [Sh.agg (R.pair (R.int i64) (R.pair (R.int i64) (R.pair (R.int i64) (R.pair (R.int i64) (R.pair (R.int i64) (R.pair (R.int i64) (R.pair (R.int i64) (R.int i64)))))))),Sh.one R.bool]
def Zxy (op:Int):RT (TI×Bool):=
 .br (op==8) (.leaf (((40,1,0,0,0,0,0,0),true))) (.br (op==16) (.leaf (((41,1,0,0,0,0,0,0),true))) (.br (op==24) (.leaf (((42,1,0,0,0,0,0,0),true))) (.br (op==32) (.leaf (((38,1,0,0,0,0,0,0),true))) (.br (op==40) (.leaf (((43,2,0,0,0,0,0,0),true))) (.br (op==48) (.leaf (((39,1,0,0,0,0,0,0),true))) (.br (op==56) (.leaf (((44,2,0,0,0,0,0,0),true))) (.br (op==203) (.leaf (((45,1,0,0,0,0,10,0),true))) (.br (op==217) (.leaf (((46,1,0,0,0,0,0,0),true))) (.br (op==221) (.leaf (((24,3,0,0,0,0,8,0),true))) (.br (op==237) (.leaf (((47,1,0,0,0,0,0,0),true))) (.br (op==253) (.leaf (((24,3,0,0,0,0,9,0),true))) (.leaf (((0,0,0,0,0,0,0,0),false))))))))))))))
def ZsZ (op:Int):TI×Bool:=(Zxy op).val
def Zxz:Entry:=Zg Zq1 Zq2 (λ_=>none) (λa=>ZsZ a)
theorem ZAA:Za prog 173 Zxz:=
 pureQ 314146179375 [] [] Zq1 Zq2 trivial Tryz.func173 Tryz.call173 trivial (t:=λa=>Zxy a)
abbrev ZN6:List Sh:=[Sh.one (R.int i64),Sh.one (R.int i64),Sh.one (R.int i64),Sh.one (R.int i64)]
abbrev ZAQ:Rs:=Rs.one (Sh.agg (R.pair (R.int i64) (R.pair (R.int i64) (R.pair (R.int i64) (R.pair (R.int i64) (R.pair (R.int i64) (R.pair (R.int i64) (R.pair (R.int i64) (R.int i64)))))))))
def ZN7 (y:Int) (z:Int) (p:Int) (q:Int):RT (Option TI):=
 let x1:=decide (0<=i64.wrap (y-4)/\i64.wrap (y-4)<4)
 .br (z==0) (.leaf (some ((1,1,0,0,0,0,0,0)))) (.br (z==1) (.br (q==0) (.leaf (some ((4,3,0,0,p,0,0,0)))) (.leaf (some ((18,1,0,0,p,0,0,0))))) (.br (!z==2||((bif y==0 then y==0 else y==2)||((bif y==1 then y==1 else y==3)||x1))) (.br (z==2) (.br (bif y==0 then y==0 else y==2) (.leaf (some ((10,1,0,0,p,0,0,0)))) (.br (bif y==1 then y==1 else y==3) (.leaf (some ((9,1,0,0,p,0,0,0)))) (.leaf (some ((bif i64.wrap (y-4)==0 then 8 else bif i64.wrap (y-4)== ↑(0+1) then 7 else bif i64.wrap (y-4)== ↑(0+1+1) then 6 else 5,3,0,0,0,0,0,0)))))) (.br (!z==3||decide (0<=q/\q<2)) (.br (z==3) (.leaf (some ((bif q==0 then 16 else 17,1,0,0,p,0,0,0)))) (.br (z==4) (.leaf (some ((14,1,y,0,0,0,0,0)))) (.br (z==5) (.leaf (some ((15,1,y,0,0,0,0,0)))) (.br (z==6) (.leaf (some ((3,2,y,0,0,0,0,0)))) (.br (decide (y<4)) (.leaf (some ((23,1,0,0,0,y,0,0)))) (.br (x1) (.leaf (some ((bif i64.wrap (y-4)==0 then 19 else bif i64.wrap (y-4)== ↑(0+1) then 20 else bif i64.wrap (y-4)== ↑(0+1+1) then 21 else 22,1,0,0,0,0,0,0)))) (.leaf none))))))) (.leaf none))) (.leaf none)))
def Z0A (y:Int) (z:Int) (p:Int) (q:Int):QT6:=getO ZAQ.dflt (ZN7 y z p q).val
def ZV5 (y:Int) (z:Int) (p:Int) (q:Int):Bool:=okB (ZN7 y z p q).val
def ZV4:Entry:=Zg ZN6 ZAQ (λa=>some (ZV5 a.1 a.2.1 a.2.2.1 a.2.2.2)) (λa=>Z0A a.1 a.2.1 a.2.2.1 a.2.2.2)
theorem ZTD:Za prog 174 ZV4:=
 pureP 19211217472071167 [] [] ZN6 ZAQ trivial Tryz.func174 Tryz.call174 trivial (t:=λa=>ZN7 a.1 a.2.1 a.2.2.1 a.2.2.2)
abbrev ZFP:List Sh:=[Sh.one (R.int i64),Sh.one (R.int i64),Sh.one (R.int i64),Sh.one (R.int i64)]
abbrev Ztb:Rs:=Rs.one (Sh.agg (R.pair (R.int i64) (R.pair (R.int i64) (R.pair (R.int i64) (R.pair (R.int i64) (R.pair (R.int i64) (R.pair (R.int i64) (R.pair (R.int i64) (R.int i64)))))))))
def ZAR (y:Int) (z:Int) (p:Int) (q:Int):RT (Option TI):=
 .br (z==0) (.leaf (some ((26,1,0,0,0,0,y,0)))) (.br (z==1) (.br (q==0) (.leaf (some ((31,1,0,0,p,0,0,0)))) (.br (y==5) (.leaf (some ((28,1,0,0,0,0,0,0)))) (.br (y==7) (.leaf (some ((29,1,0,0,0,0,0,0)))) (.leaf (some ((26,1,0,0,0,0,11,0))))))) (.br (z==2||(!z==3||((bif y==0 then y==0 else y==1)||(y==2||(y==3||decide (0<=i64.wrap (y-4)/\i64.wrap (y-4)<4)))))) (.br (z==2) (.leaf (some ((24,3,0,0,0,0,y,0)))) (.br (z==3) (.br (bif y==0 then y==0 else y==1) (.leaf (some ((24,3,0,0,0,0,11,0)))) (.br (y==2) (.leaf (some ((34,2,0,0,0,0,0,0)))) (.br (y==3) (.leaf (some ((33,2,0,0,0,0,0,0)))) (.leaf (some ((bif i64.wrap (y-4)==0 then 32 else bif i64.wrap (y-4)== ↑(0+1) then 11 else bif i64.wrap (y-4)== ↑(0+1+1) then 36 else 35,1,0,0,0,0,0,0))))))) (.br (z==4) (.leaf (some ((25,3,0,0,0,0,y,0)))) (.br (z==5) (.br (q==0) (.leaf (some ((30,1,0,0,p,0,0,0)))) (.leaf (some ((25,3,0,0,0,0,11,0))))) (.br (z==6) (.leaf (some ((13,2,0,0,0,y,0,0)))) (.leaf (some ((27,1,0,0,0,0,0,y))))))))) (.leaf none)))
def ZV6 (y:Int) (z:Int) (p:Int) (q:Int):QT6:=getO Ztb.dflt (ZAR y z p q).val
def ZOa (y:Int) (z:Int) (p:Int) (q:Int):Bool:=okB (ZAR y z p q).val
def ZN9:Entry:=Zg ZFP Ztb (λa=>some (ZOa a.1 a.2.1 a.2.2.1 a.2.2.2)) (λa=>ZV6 a.1 a.2.1 a.2.2.1 a.2.2.2)
theorem ZN8:Za prog 175 ZN9:=
 pureP 2324988294374376959 [] [] ZFP Ztb trivial Tryz.func175 Tryz.call175 trivial (t:=λa=>ZAR a.1 a.2.1 a.2.2.1 a.2.2.2)
abbrev ZiO:List Sh:=[Sh.one (R.int i64),Sh.one (R.int u8)]
abbrev ZiP:Rs:=Rs.one (Sh.agg (R.pair (R.int i64) (R.pair (R.int i64) (R.pair (R.int i64) (R.pair (R.int i64) (R.pair (R.int i64) (R.pair (R.int i64) (R.pair (R.int i64) (R.int i64)))))))))
def Zfs (chip:Int) (op:Int):RT (Option TI):=
 .br ((ZsZ op).2&&rOn chip) (.leaf (some (ZsZ op).1)) (.br (!shrI u8 op 6==0||ZV5 (i64.wrap (andI u8 (shrI u8 op 3) 7)) (i64.wrap (andI u8 op 7)) (shrI i64 (i64.wrap (andI u8 (shrI u8 op 3) 7)) 1) (andI i64 (i64.wrap (andI u8 (shrI u8 op 3) 7)) 1)) (.br (shrI u8 op 6==0) (.leaf (some (Z0A (i64.wrap (andI u8 (shrI u8 op 3) 7)) (i64.wrap (andI u8 op 7)) (shrI i64 (i64.wrap (andI u8 (shrI u8 op 3) 7)) 1) (andI i64 (i64.wrap (andI u8 (shrI u8 op 3) 7)) 1)))) (.br (shrI u8 op 6==1) (.br (op==118) (.leaf (some ((37,1,0,0,0,0,0,0)))) (.leaf (some ((2,1,i64.wrap (andI u8 (shrI u8 op 3) 7),i64.wrap (andI u8 op 7),0,0,0,0))))) (.br (shrI u8 op 6==2) (.leaf (some ((12,1,0,i64.wrap (andI u8 op 7),0,i64.wrap (andI u8 (shrI u8 op 3) 7),0,0)))) (.br (ZOa (i64.wrap (andI u8 (shrI u8 op 3) 7)) (i64.wrap (andI u8 op 7)) (shrI i64 (i64.wrap (andI u8 (shrI u8 op 3) 7)) 1) (andI i64 (i64.wrap (andI u8 (shrI u8 op 3) 7)) 1)) (.leaf (some (ZV6 (i64.wrap (andI u8 (shrI u8 op 3) 7)) (i64.wrap (andI u8 op 7)) (shrI i64 (i64.wrap (andI u8 (shrI u8 op 3) 7)) 1) (andI i64 (i64.wrap (andI u8 (shrI u8 op 3) 7)) 1)))) (.leaf none))))) (.leaf none))
def Zb (chip:Int) (op:Int):QT6:=getO ZiP.dflt (Zfs chip op).val
def ZlA (chip:Int) (op:Int):Bool:=okB (Zfs chip op).val
def ZTN:Entry:=Zg ZiO ZiP (λa=>some (ZlA a.1 a.2)) (λa=>Zb a.1 a.2)
theorem ZJj:Za prog 107 ZTN:=
 pureP 70644158956031 [(146,rOnE),(173,Zxz),(174,ZV4),(175,ZN9)] [] ZiO ZiP ⟨Zd9,ZAA,ZTD,ZN8,Tv⟩ Tryz.func107 Tryz.call107 trivial (t:=λa=>Zfs a.1 a.2)
end
end Go.Proofs.YtghoimllhpjkjaaGreat
