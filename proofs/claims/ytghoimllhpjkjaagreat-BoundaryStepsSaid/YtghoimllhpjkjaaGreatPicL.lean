import Derived.Test.YtghoimllhpjkjaaGreatProg
import Derived.Test.YtghoimllhpjkjaaGreatS3Box1
open Go.Proofs.Tryz (prog)
open Go.IntKind (u8 u16 i64)
set_option linter.unusedSimpArgs false
open Go Go.S3 Go.Proofs
set_option linter.unusedVariables false
set_option maxRecDepth 100000
namespace Go.Proofs.YtghoimllhpjkjaaGreat
noncomputable section
abbrev Z1v:List Sh:=[Sh.one (R.int u8),Sh.one (R.int i64)]
abbrev ZYH:Rs:=Rs.one (Sh.one R.bool)
def vOnT (s:Int) (l:Int):RT (Option (Bool)):=
 .br (decide (0<=l)) (.Lf (some (andI u8 (shrI u8 s l) 1==1))) (.Lf none)
def vOn (s:Int) (l:Int):Bool:=getO ZYH.Df (vOnT s l).val
def vOnC (s:Int) (l:Int):Bool:=okB (vOnT s l).val
def vOnE:En:=Zg Z1v ZYH (λa=>some (vOnC a.1 a.2)) (λa=>vOn a.1 a.2)
theorem ZWN:Za prog 339 vOnE:=
 pureP 31 [] [] Z1v ZYH trivial Tryz.func339 Tryz.call339 trivial (t:=λa=>vOnT a.1 a.2)
abbrev ZMV:List Sh:=[Sh.one (R.int i64),Sh.one (R.int i64)]
abbrev ZMW:Rs:=Rs.one (Sh.one (R.int i64))
def ZWJ (l:Int) (k:Int):RT (Int):=
 .Lf (andI i64 (i64.wrap (i64.wrap (andI i64 l 7-andI i64 k 7)+15)) 7)
def ZjK (l:Int) (k:Int):Int:=(ZWJ l k).val
def ZFp:En:=Zg ZMV ZMW (λ_=>none) (λa=>ZjK a.1 a.2)
theorem Zsy:Za prog 338 ZFp:=
 pureQ 31 [] [] ZMV ZMW trivial Tryz.func338 Tryz.call338 trivial (t:=λa=>ZWJ a.1 a.2)
abbrev ZM7:List Sh:=[Sh.one (R.int u8),Sh.one (R.int i64)]
abbrev ZAu:Rs:=Rs.one (Sh.one (R.int i64))
def ZTW:LS:={n:=29,Sl:=[(0,.code (Sh.one (R.int u8))),(1,.code (Sh.one (R.int i64))),(5,.code (Sh.one (R.int i64))),(6,.code (Sh.one (R.int i64)))],Bx:=[],Sg:=[]}
def Zip (a:Int×Int×Int×Int×PUnit):RT (Option (Go1 (Int×Int×Int×Int×PUnit))):=
 .br (decide (a.2.2.2.1<8)) (.br (vOnC a.1 a.2.2.2.1) (.Lf (some (Go1.cont (a.1,a.2.1,bif vOn a.1 a.2.2.2.1&&(decide (a.2.2.1<0)||decide (ZjK a.2.2.2.1 a.2.1<ZjK a.2.2.1 a.2.1)) then a.2.2.2.1 else a.2.2.1,i64.wrap (a.2.2.2.1+1),PUnit.unit)))) (.Lf none)) (.Lf (some (Go1.brk (a.1,a.2.1,a.2.2.1,a.2.2.2.1,PUnit.unit))))
def ZFw:Ora:=Za2 false ZTW Zip (λa=>9)
theorem ZIV:ZaH (envX prog [(338,ZFp),(339,vOnE)] [] 127 8) (.block 0 (.loop (Z7 Tryz.f329.body 0))) ZFw:=
 loopP ⟨Zsy,ZWN,Tv⟩
def Zw8 (s:Int) (k:Int):RT (Option (Int)):=
 let x1:=runF false Zip (λa=>9) (s,k,-1,0,())
 .br (okB x1) (.Lf (some (getO (false,s,k,-1,0,()) x1).2.2.2.1)) (.Lf none)
def ZhN (s:Int) (k:Int):Int:=getO ZAu.Df (Zw8 s k).val
def ZqI (s:Int) (k:Int):Bool:=okB (Zw8 s k).val
def ZM8:En:=Zg ZM7 ZAu (λa=>some (ZqI a.1 a.2)) (λa=>ZhN a.1 a.2)
theorem ZFv:Za prog 329 ZM8:=
 pureP 127 [(338,ZFp),(339,vOnE)] [(0,ZFw)] ZM7 ZAu ⟨Zsy,ZWN,Tv⟩ Tryz.func329 Tryz.call329 ⟨ZIV,Tv⟩ (t:=λa=>Zw8 a.1 a.2)
abbrev ZFD:List Sh:=[Sh.one (R.int u8),Sh.one (R.int u8),Sh.one R.bool]
abbrev ZFE:Rs:=Rs.one (Sh.one (R.int u8))
def ZNe (m:Int) (s:Int) (p:Bool):RT (Int):=
 .br (p) (.Lf (Zcx u8 s m)) (.Lf (s))
def ZkJ (m:Int) (s:Int) (p:Bool):Int:=(ZNe m s p).val
def ZAx:En:=Zg ZFD ZFE (λ_=>none) (λa=>ZkJ a.1 a.2.1 a.2.2)
theorem Zxb:Za prog 330 ZAx:=
 pureQ 127 [] [] ZFD ZFE trivial Tryz.func330 Tryz.call330 trivial (t:=λa=>ZNe a.1 a.2.1 a.2.2)
abbrev ZM0:List Sh:=[Sh.one (R.int u8),Sh.one (R.int u8),Sh.one (R.int u8),Sh.one (R.int i64),Sh.one R.bool]
abbrev ZAq:Rs:=Rs.one (Sh.one (R.int i64))
def Zw7 (r:Int) (m:Int) (s:Int) (k:Int) (p:Bool):RT (Option (Int)):=
 .br (ZqI (Zcx u8 r m) k) (.br (ZqI (ZkJ m s p) k) (.br (decide (ZhN (Zcx u8 r m) k>=0)&&(decide (ZhN (ZkJ m s p) k<0)||decide (ZjK (ZhN (Zcx u8 r m) k) k<ZjK (ZhN (ZkJ m s p) k) k))) (.Lf (some (ZhN (Zcx u8 r m) k))) (.Lf (some (-1)))) (.Lf none)) (.Lf none)
def ZYG (r:Int) (m:Int) (s:Int) (k:Int) (p:Bool):Int:=getO ZAq.Df (Zw7 r m s k p).val
def ZM1 (r:Int) (m:Int) (s:Int) (k:Int) (p:Bool):Bool:=okB (Zw7 r m s k p).val
def ZWK:En:=Zg ZM0 ZAq (λa=>some (ZM1 a.1 a.2.1 a.2.2.1 a.2.2.2.1 a.2.2.2.2)) (λa=>ZYG a.1 a.2.1 a.2.2.1 a.2.2.2.1 a.2.2.2.2)
theorem ZTQ:Za prog 328 ZWK:=
 pureP 8191 [(329,ZM8),(330,ZAx),(338,ZFp)] [] ZM0 ZAq ⟨ZFv,Zxb,Zsy,Tv⟩ Tryz.func328 Tryz.call328 trivial (t:=λa=>Zw7 a.1 a.2.1 a.2.2.1 a.2.2.2.1 a.2.2.2.2)
abbrev ZWO:List Sh:=[]
abbrev ZWP:Rs:=Rs.one (Sh.agg Zba)
def Z1w:RT PICT:=
 .Lf ((0,false,false,false,false,0,0,false,false,false,false,false,0,0,0,0,7,0,0,false))
def vNew:PICT:=(Z1w).val
def ZYJ:En:=Zg ZWO ZWP (λ_=>none) (λa=>vNew)
theorem ZM5:Za prog 189 ZYJ:=
 pureQ 1 [] [] ZWO ZWP trivial Tryz.func189 Tryz.call189 trivial (t:=λa=>Z1w)
abbrev ZFq:List Sh:=[Sh.agg Zba,Sh.one (R.int u8)]
abbrev ZFr:Rs:=Rs.one (Sh.agg Zba)
def ZMY (p:PICT) (l:Int):RT PICT:=
 let x1:=p.2.2.2.2.2.2.2.2.2.2.2.2.2
 .Lf ((p.1,p.2.1,p.2.2.1,p.2.2.2.1,p.2.2.2.2.1,p.2.2.2.2.2.1,p.2.2.2.2.2.2.1,p.2.2.2.2.2.2.2.1,p.2.2.2.2.2.2.2.2.1,p.2.2.2.2.2.2.2.2.2.1,p.2.2.2.2.2.2.2.2.2.2.1,p.2.2.2.2.2.2.2.2.2.2.2.1,l,andI u8 (orI u8 x1.1 (Zcx u8 l p.2.2.2.2.2.2.2.2.2.2.2.2.1)) l,x1.2))
def ZFs (p:PICT) (l:Int):PICT:=(ZMY p l).val
def ZMZ:En:=Zg ZFq ZFr (λ_=>none) (λa=>ZFs a.1 a.2)
theorem ZMX:Za prog 191 ZMZ:=
 pureQ 31 [] [] ZFq ZFr trivial Tryz.func191 Tryz.call191 trivial (t:=λa=>ZMY a.1 a.2)
abbrev ZWG:List Sh:=[Sh.agg Zba]
abbrev ZWH:Rs:=Rs.one (Sh.one (R.int u8))
def Z1t (p:PICT):RT (Int):=
 .br p.2.1 (.Lf p.2.2.2.2.2.2.2.2.2.2.2.2.1) (.Lf p.2.2.2.2.2.2.2.2.2.2.2.2.2.1)
def vReq (p:PICT):Int:=(Z1t p).val
def ZYF:En:=Zg ZWG ZWH (λ_=>none) (λa=>vReq a)
theorem ZMP:Za prog 304 ZYF:=
 pureQ 7 [] [] ZWG ZWH trivial Tryz.func304 Tryz.call304 trivial (t:=λa=>Z1t a)
abbrev ZWL:List Sh:=[Sh.agg Zba]
abbrev ZM3:Rs:=Rs.one (Sh.one (R.int i64))
def ZM2 (p:PICT):RT (Option (Int)):=
 let x1:=p.2.2.2.2.2.2.2.2.2.2.2.2.2.2
 let x2:=x1.2
 let x3:=x2.1
 let x4:=x1.1
 let x5:=x2.2.1
 .br (ZM1 (vReq p) x3 x4 x5 p.2.2.2.2.2.2.2.2.2.1) (.Lf (some (ZYG (vReq p) x3 x4 x5 p.2.2.2.2.2.2.2.2.2.1))) (.Lf none)
def vPck (p:PICT):Int:=getO ZM3.Df (ZM2 p).val
def ZIU (p:PICT):Bool:=okB (ZM2 p).val
def ZTR:En:=Zg ZWL ZM3 (λa=>some (ZIU a)) (λa=>vPck a)
theorem ZAr:Za prog 299 ZTR:=
 pureP 7 [(304,ZYF),(328,ZWK)] [] ZWL ZM3 ⟨ZMP,ZTQ,Tv⟩ Tryz.func299 Tryz.call299 trivial (t:=λa=>ZM2 a)
abbrev ZWQ:List Sh:=[Sh.agg Zba]
abbrev ZM6:Rs:=Rs.one (Sh.one R.bool)
def ZTU (p:PICT):RT (Option (Bool)):=
 .br (ZIU p) (.Lf (some (decide (vPck p>=0)))) (.Lf none)
def vInt (p:PICT):Bool:=getO ZM6.Df (ZTU p).val
def ZTV (p:PICT):Bool:=okB (ZTU p).val
def Z1x:En:=Zg ZWQ ZM6 (λa=>some (ZTV a)) (λa=>vInt a)
theorem ZYK:Za prog 248 Z1x:=
 pureP 7 [(299,ZTR)] [] ZWQ ZM6 ⟨ZAr,Tv⟩ Tryz.func248 Tryz.call248 trivial (t:=λa=>ZTU a)
abbrev ZFy:List Sh:=[Sh.agg Zba,Sh.one (R.int u8)]
abbrev ZFz:Rs:=Rs.one (Sh.agg Zba)
def ZNa (p:PICT) (v:Int):RT PICT:=
 .Lf ((2,andI u8 v 8 !=0,andI u8 v 4 !=0,andI u8 v 2 !=0,andI u8 v 1 !=0,andI u8 v 224,0,false,false,false,false,false,p.2.2.2.2.2.2.2.2.2.2.2.2.1,0,0,0,7,0,0,false))
def Zmm (p:PICT) (v:Int):PICT:=(ZNa p v).val
def ZNb:En:=Zg ZFy ZFz (λ_=>none) (λa=>Zmm a.1 a.2)
theorem ZM9:Za prog 306 ZNb:=
 pureQ 63 [(189,ZYJ)] [] ZFy ZFz ⟨ZM5,Tv⟩ Tryz.func306 Tryz.call306 trivial (t:=λa=>ZNa a.1 a.2)
abbrev ZqJ:List Sh:=[Sh.agg Zba,Sh.one (R.int u8)]
abbrev ZqK:Rs:=Rs.one (Sh.agg Zba)
def Zw9 (p:PICT) (v:Int):RT PICT:=
 let x1:=p.2.2.2.2.2.2.2.2.2.2.2.2.2
 let x2:=x1.2
 let x3:=x2.2
 let x4:=x3.1
 .Lf ((bif p.1==2 then bif !p.2.2.2.1 then 3 else bif p.2.2.2.2.1 then 4 else 0 else bif p.1==3 then bif p.2.2.2.2.1 then 4 else 0 else bif p.1==4 then 0 else p.1,p.2.1,p.2.2.1,p.2.2.2.1,p.2.2.2.2.1,p.2.2.2.2.2.1,bif p.1==2 then v else p.2.2.2.2.2.2.1,bif p.1==2 then p.2.2.2.2.2.2.2.1 else bif p.1==3 then p.2.2.2.2.2.2.2.1 else bif p.1==4 then andI u8 v 2 !=0 else p.2.2.2.2.2.2.2.1,p.2.2.2.2.2.2.2.2.1,p.2.2.2.2.2.2.2.2.2.1,p.2.2.2.2.2.2.2.2.2.2.1,p.2.2.2.2.2.2.2.2.2.2.2.1,p.2.2.2.2.2.2.2.2.2.2.2.2.1,x1.1,x2.1,bif p.1==2 then x4 else bif p.1==3 then x4 else bif p.1==4 then x4 else v,x3.2))
def ZFx (p:PICT) (v:Int):PICT:=(Zw9 p v).val
def Zxa:En:=Zg ZqJ ZqK (λ_=>none) (λa=>ZFx a.1 a.2)
theorem ZAv:Za prog 305 Zxa:=
 pureQ 71307327 [] [] ZqJ ZqK trivial Tryz.func305 Tryz.call305 trivial (t:=λa=>Zw9 a.1 a.2)
abbrev ZM4:List Sh:=[Sh.agg Zba,Sh.one (R.int u8)]
abbrev ZAt:Rs:=Rs.one (Sh.agg Zba)
def ZFt (p:PICT) (v:Int):RT (Option PICT):=
 let x1:=p.2.2.2.2.2.2.2.2.2.2.2.2.2
 let x2:=x1.2
 let x3:=x2.2
 let x4:=x3.1
 let x5:=x2.1
 let x6:=ZkJ x4 x5 p.2.2.2.2.2.2.2.2.2.1
 let x7:=x3.2
 let x8:=x7.1
 let x9:=ZhN x6 x8
 let x10:=decide (x9>=0)
 let x11:= !x10||decide (0<=x9)
 let x12:=shrI u8 v 5==0||(!shrI u8 v 5==1||x11)
 let x13:= !x12
 let x14:=shrI u8 v 5==0||(shrI u8 v 5==1||(!shrI u8 v 5==3||decide (0<=i64.wrap (andI u8 v 7))))
 let x15:= !x14
 let x16:=shrI u8 v 5==0||(shrI u8 v 5==1||(shrI u8 v 5==3||(shrI u8 v 5==4||(!shrI u8 v 5==5||x11))))
 let x17:Int:=bif x10 then Zcx u8 x5 (shlI u8 1 x9) else x5
 let x18:=Zcx u8 x5 (shlI u8 1 (i64.wrap (andI u8 v 7)))
 .br (ZqI x6 x8) (.br (x13||(x15||(!x16||(shrI u8 v 5==0||(shrI u8 v 5==1||(shrI u8 v 5==3||(shrI u8 v 5==4||(shrI u8 v 5==5||(shrI u8 v 5==6||(!shrI u8 v 5==7||decide (0<=i64.wrap (andI u8 v 7)))))))))))) (.br (x13||(x15||x16)) (.br (x13||x14) (.br (x12) (.Lf (some ((p.1,p.2.1,p.2.2.1,p.2.2.2.1,p.2.2.2.2.1,p.2.2.2.2.2.1,p.2.2.2.2.2.2.1,p.2.2.2.2.2.2.2.1,!shrI u8 v 5==0&&bif shrI u8 v 5==1 then p.2.2.2.2.2.2.2.2.1 else bif shrI u8 v 5==3 then p.2.2.2.2.2.2.2.2.1 else shrI u8 v 5==4||p.2.2.2.2.2.2.2.2.1,p.2.2.2.2.2.2.2.2.2.1,p.2.2.2.2.2.2.2.2.2.2.1,p.2.2.2.2.2.2.2.2.2.2.2.1,p.2.2.2.2.2.2.2.2.2.2.2.2.1,x1.1,bif shrI u8 v 5==0 then x5 else bif shrI u8 v 5==1 then x17 else bif shrI u8 v 5==3 then x18 else bif shrI u8 v 5==4 then x5 else bif shrI u8 v 5==5 then x17 else bif shrI u8 v 5==6 then x5 else bif shrI u8 v 5==7 then x18 else x5,x4,bif shrI u8 v 5==0 then x8 else bif shrI u8 v 5==1 then x8 else bif shrI u8 v 5==3 then x8 else bif shrI u8 v 5==4 then x8 else bif shrI u8 v 5==5 then bif x10 then x9 else x8 else bif shrI u8 v 5==6 then i64.wrap (andI u8 v 7) else bif shrI u8 v 5==7 then i64.wrap (andI u8 v 7) else x8,x7.2)))) (.Lf none)) (.Lf none)) (.Lf none)) (.Lf none)) (.Lf none)
def Z1u (p:PICT) (v:Int):PICT:=getO ZAt.Df (ZFt p v).val
def ZFu (p:PICT) (v:Int):Bool:=okB (ZFt p v).val
def ZWM:En:=Zg ZM4 ZAt (λa=>some (ZFu a.1 a.2)) (λa=>Z1u a.1 a.2)
theorem ZTS:Za prog 307 ZWM:=
 pureP 4899995593813786751 [(329,ZM8),(330,ZAx)] [] ZM4 ZAt ⟨ZFv,Zxb,Tv⟩ Tryz.func307 Tryz.call307 trivial (t:=λa=>ZFt a.1 a.2)
abbrev ZFg:List Sh:=[Sh.agg Zba,Sh.one R.bool,Sh.one (R.int u8)]
abbrev Zst:Rs:=Rs.one (Sh.agg Zba)
def Zss (p:PICT) (h:Bool) (v:Int):RT (Option PICT):=
 .br (h||(andI u8 v 16 !=0||(!andI u8 v 8==0||ZFu p v))) (.br (h) (.Lf (some (ZFx p v))) (.br (andI u8 v 16 !=0) (.Lf (some ((2,(Zmm p v).2.1,(Zmm p v).2.2.1,(Zmm p v).2.2.2.1,(Zmm p v).2.2.2.2.1,(Zmm p v).2.2.2.2.2.1,0,false,false,false,false,false,(Zmm p v).2.2.2.2.2.2.2.2.2.2.2.2.1,0,0,0,7,0,0,false)))) (.br (andI u8 v 8==0) (.Lf (some (Z1u p v))) (.Lf (some ((p.1,p.2.1,p.2.2.1,p.2.2.2.1,p.2.2.2.2.1,p.2.2.2.2.2.1,p.2.2.2.2.2.2.1,p.2.2.2.2.2.2.2.1,p.2.2.2.2.2.2.2.2.1,bif andI u8 v 64 !=0 then andI u8 v 32 !=0 else p.2.2.2.2.2.2.2.2.2.1,bif andI u8 v 2 !=0 then andI u8 v 1 !=0 else p.2.2.2.2.2.2.2.2.2.2.1,p.2.2.2.2.2.2.2.2.2.2.2.1||andI u8 v 4 !=0,p.2.2.2.2.2.2.2.2.2.2.2.2))))))) (.Lf none)
def ZMM (p:PICT) (h:Bool) (v:Int):PICT:=getO Zst.Df (Zss p h v).val
def Zsu (p:PICT) (h:Bool) (v:Int):Bool:=okB (Zss p h v).val
def ZML:En:=Zg ZFg Zst (λa=>some (Zsu a.1 a.2.1 a.2.2)) (λa=>ZMM a.1 a.2.1 a.2.2)
theorem ZMJ:Za prog 256 ZML:=
 pureP 528639 [(305,Zxa),(306,ZNb),(307,ZWM)] [] ZFg Zst ⟨ZAv,ZM9,ZTS,Tv⟩ Tryz.func256 Tryz.call256 trivial (t:=λa=>Zss a.1 a.2.1 a.2.2)
abbrev ZMN:List Sh:=[Sh.agg Zba,Sh.one (R.int i64)]
abbrev ZAo:Rs:=Rs.one (Sh.agg Zba)
def ZFl (p:PICT) (x:Int):RT (Option PICT):=
 let x1:=p.2.2.2.2.2.2.2.2.2.2.2.2.2
 let x2:=x1.2
 .br (decide (0<=x)) (.br (decide (0<=x)) (.Lf (some ((p.1,p.2.1,p.2.2.1,p.2.2.2.1,p.2.2.2.2.1,p.2.2.2.2.2.1,p.2.2.2.2.2.2.1,p.2.2.2.2.2.2.2.1,p.2.2.2.2.2.2.2.2.1,p.2.2.2.2.2.2.2.2.2.1,p.2.2.2.2.2.2.2.2.2.2.1,p.2.2.2.2.2.2.2.2.2.2.2.1,p.2.2.2.2.2.2.2.2.2.2.2.2.1,Zcx u8 x1.1 (shlI u8 1 x),orI u8 x2.1 (shlI u8 1 x),x2.2)))) (.Lf none)) (.Lf none)
def ZYE (p:PICT) (x:Int):PICT:=getO ZAo.Df (ZFl p x).val
def Zmj (p:PICT) (x:Int):Bool:=okB (ZFl p x).val
def ZMO:En:=Zg ZMN ZAo (λa=>some (Zmj a.1 a.2)) (λa=>ZYE a.1 a.2)
theorem ZFj:Za prog 302 ZMO:=
 pureP 31 [] [] ZMN ZAo trivial Tryz.func302 Tryz.call302 trivial (t:=λa=>ZFl a.1 a.2)
abbrev ZNc:List Sh:=[Sh.agg Zba,Sh.one (R.int i64)]
abbrev ZAw:Rs:=Rs.one (Sh.agg Zba)
def ZFC (p:PICT) (x:Int):RT (Option PICT):=
 let x1:=p.2.2.2.2.2.2.2.2.2.2.2.2.2
 let x2:=x1.2
 let x3:=x2.2
 let x4:=x3.2
 .br (decide (0<=x)) (.Lf (some ((p.1,p.2.1,p.2.2.1,p.2.2.2.1,p.2.2.2.2.1,p.2.2.2.2.2.1,p.2.2.2.2.2.2.1,p.2.2.2.2.2.2.2.1,p.2.2.2.2.2.2.2.2.1,p.2.2.2.2.2.2.2.2.2.1,p.2.2.2.2.2.2.2.2.2.2.1,p.2.2.2.2.2.2.2.2.2.2.2.1,p.2.2.2.2.2.2.2.2.2.2.2.2.1,x1.1,Zcx u8 x2.1 (shlI u8 1 x),x3.1,bif p.2.2.2.2.2.2.2.2.1 then x else x4.1,x4.2)))) (.Lf none)
def ZYM (p:PICT) (x:Int):PICT:=getO ZAw.Df (ZFC p x).val
def Zmn (p:PICT) (x:Int):Bool:=okB (ZFC p x).val
def ZNd:En:=Zg ZNc ZAw (λa=>some (Zmn a.1 a.2)) (λa=>ZYM a.1 a.2)
theorem ZFA:Za prog 303 ZNd:=
 pureP 31 [] [] ZNc ZAw trivial Tryz.func303 Tryz.call303 trivial (t:=λa=>ZFC a.1 a.2)
abbrev ZMQ:List Sh:=[Sh.agg Zba,Sh.one R.bool]
abbrev ZAp:Rs:=Rs.tup [Sh.agg Zba,Sh.one (R.int u8)]
def ZFm (p:PICT) (h:Bool):RT (Option (PICT×Int)):=
 let x1:= !p.2.2.2.2.2.2.2.2.2.2.2.1
 let x2:=h||(x1||ZIU p)
 let x3:= !x2
 let x4:PICT:=(p.1,p.2.1,p.2.2.1,p.2.2.2.1,p.2.2.2.2.1,p.2.2.2.2.2.1,p.2.2.2.2.2.2.1,p.2.2.2.2.2.2.2.1,p.2.2.2.2.2.2.2.2.1,p.2.2.2.2.2.2.2.2.2.1,p.2.2.2.2.2.2.2.2.2.2.1,false,p.2.2.2.2.2.2.2.2.2.2.2.2)
 let x5:=Zmj x4 (vPck p)
 let x6:=ZYE x4 (vPck p)
 let x7:=x6.2
 let x8:=x7.2
 let x9:=x8.2
 let x10:=x9.2
 let x11:=x10.2
 let x12:=x11.2
 let x13:=x12.2
 let x14:=x13.1
 let x15:=p.2.2.2.2.2.2.2.2.2.2.2.2.2.2
 let x16:=ZYM x6 (vPck p)
 .br (x3||(h||(x1||(decide (vPck p<0)||(!x5||(!x14||Zmn x6 (vPck p))))))) (.br (x3||(h||(x1||(decide (vPck p<0)||x5)))) (.br (x2) (.br (h) (.Lf (some ((p,x15.2.1)))) (.br p.2.2.2.2.2.2.2.2.2.2.2.1 (.br (decide (vPck p<0)) (.Lf (some ((x4,0)))) (.Lf (some (((R.sel Zba x14 x16 x6),u8.wrap (i64.wrap (128+vPck p))))))) (.br p.2.2.2.2.2.2.2.2.2.2.1 (.Lf (some ((p,x15.1)))) (.Lf (some ((p,vReq p))))))) (.Lf none)) (.Lf none)) (.Lf none)
def ZTP (p:PICT) (h:Bool):PICT×Int:=getO ZAp.Df (ZFm p h).val
def ZFo (p:PICT) (h:Bool):Bool:=okB (ZFm p h).val
def ZWI:En:=Zg ZMQ ZAp (λa=>some (ZFo a.1 a.2)) (λa=>ZTP a.1 a.2)
theorem ZTN:Za prog 254 ZWI:=
 pureP 8589938943 [(299,ZTR),(302,ZMO),(303,ZNd),(304,ZYF)] [] ZMQ ZAp ⟨ZAr,ZFj,ZFA,ZMP,Tv⟩ Tryz.func254 Tryz.call254 trivial (t:=λa=>ZFm a.1 a.2)
abbrev ZWR:List Sh:=[Sh.agg Zba]
abbrev ZNf:Rs:=Rs.tup [Sh.agg Zba,Sh.one (R.int u8)]
def ZTX (p:PICT):RT (Option (PICT×Int)):=
 let x1:=p.2.2.2.2.2.2.2.2.2.2.2.2.2
 let x2:=x1.2
 let x3:=x2.2
 let x4:=x3.2
 let x5:=x4.2
 let x6:=x5.1
 let x7:=x6==0
 let x8:= !x7
 let x9:=x8||ZIU p
 let x10:=p.2.2.2.2.2.2.2.2.2.2.2.2.1
 let x11:=x1.1
 let x12:=x2.1
 let x13:=x3.1
 let x14:=x4.1
 let x15:PICT:=(p.1,p.2.1,p.2.2.1,p.2.2.2.1,p.2.2.2.2.1,p.2.2.2.2.2.1,p.2.2.2.2.2.2.1,p.2.2.2.2.2.2.2.1,p.2.2.2.2.2.2.2.2.1,p.2.2.2.2.2.2.2.2.2.1,p.2.2.2.2.2.2.2.2.2.2.1,p.2.2.2.2.2.2.2.2.2.2.2.1,x10,x11,x12,x13,x14,1,7,true)
 let x16:=ZYE x15 (vPck p)
 let x17:=x16.2
 let x18:=x17.2
 let x19:=x18.2
 let x20:=x19.2
 let x21:=x20.2
 let x22:=x21.2
 let x23:=x22.2
 let x24:=x23.2
 let x25:=x24.2
 let x26:=x25.2
 let x27:=x26.2
 let x28:=x27.2
 let x29:=x28.2
 let x30:=x29.2
 let x31:=x30.2
 let x32:=x31.2
 let x33:=x5.2
 let x34:PICT:=(p.1,p.2.1,p.2.2.1,p.2.2.2.1,p.2.2.2.2.1,p.2.2.2.2.2.1,p.2.2.2.2.2.2.1,p.2.2.2.2.2.2.2.1,p.2.2.2.2.2.2.2.2.1,p.2.2.2.2.2.2.2.2.2.1,p.2.2.2.2.2.2.2.2.2.2.1,p.2.2.2.2.2.2.2.2.2.2.2.1,x10,x11,x12,x13,x14,2,x33)
 let x35:=x33.1
 let x36:=andI i64 x35 7
 let x37:=x33.2
 let x38:=p.2.2.2.2.2.2.2.1&& !x37
 let x39:PICT:=(p.1,p.2.1,p.2.2.1,p.2.2.2.1,p.2.2.2.2.1,p.2.2.2.2.2.1,p.2.2.2.2.2.2.1,p.2.2.2.2.2.2.2.1,p.2.2.2.2.2.2.2.2.1,p.2.2.2.2.2.2.2.2.2.1,p.2.2.2.2.2.2.2.2.2.2.1,p.2.2.2.2.2.2.2.2.2.2.2.1,x10,x11,x12,x13,x14,0,x33)
 let x40:=ZYM x39 x36
 let x41:=x40.2
 let x42:=x41.2
 let x43:=x42.2
 let x44:=x43.2
 let x45:=x44.2
 let x46:=x45.2
 let x47:Int:=bif x38 then x46.1 else p.2.2.2.2.2.2.1
 let x48:=x46.2
 let x49:=x48.2
 let x50:=x49.2
 let x51:=x50.2
 let x52:=x51.2
 let x53:=x52.2
 let x54:=x53.2
 let x55:=x54.2
 let x56:=x55.2
 let x57:=x56.2
 let x58:=x57.2
 let x59:=x58.2
 .br (!x9||(x8||(!decide (vPck p>=0)||Zmj x15 (vPck p)))) (.br (x9) (.br (x7) (.Lf (some (((bif decide (vPck p>=0) then x16.1 else p.1,bif decide (vPck p>=0) then x17.1 else p.2.1,bif decide (vPck p>=0) then x18.1 else p.2.2.1,bif decide (vPck p>=0) then x19.1 else p.2.2.2.1,bif decide (vPck p>=0) then x20.1 else p.2.2.2.2.1,bif decide (vPck p>=0) then x21.1 else p.2.2.2.2.2.1,bif decide (vPck p>=0) then x22.1 else p.2.2.2.2.2.2.1,bif decide (vPck p>=0) then x23.1 else p.2.2.2.2.2.2.2.1,bif decide (vPck p>=0) then x24.1 else p.2.2.2.2.2.2.2.2.1,bif decide (vPck p>=0) then x25.1 else p.2.2.2.2.2.2.2.2.2.1,bif decide (vPck p>=0) then x26.1 else p.2.2.2.2.2.2.2.2.2.2.1,bif decide (vPck p>=0) then x27.1 else p.2.2.2.2.2.2.2.2.2.2.2.1,bif decide (vPck p>=0) then x28.1 else x10,bif decide (vPck p>=0) then x29.1 else x11,bif decide (vPck p>=0) then x30.1 else x12,bif decide (vPck p>=0) then x31.1 else x13,bif decide (vPck p>=0) then x32.1 else x14,bif decide (vPck p>=0) then x32.2.1 else 1,bif decide (vPck p>=0) then vPck p else 7,!decide (vPck p>=0)),205)))) (.br (x6==1) (.br p.2.2.1 (.Lf (some ((x34,u8.wrap (andI u8 p.2.2.2.2.2.1 224+u8.wrap (i64.wrap (4*x36))))))) (.Lf (some ((x34,u8.wrap (andI u8 p.2.2.2.2.2.1 192+u8.wrap (i64.wrap (8*x36)))))))) (.br (!x38||Zmn x39 x36) (.Lf (some (((bif x38 then x40.1 else p.1,bif x38 then x41.1 else p.2.1,bif x38 then x42.1 else p.2.2.1,bif x38 then x43.1 else p.2.2.2.1,bif x38 then x44.1 else p.2.2.2.2.1,bif x38 then x45.1 else p.2.2.2.2.2.1,x47,bif x38 then x48.1 else p.2.2.2.2.2.2.2.1,bif x38 then x49.1 else p.2.2.2.2.2.2.2.2.1,bif x38 then x50.1 else p.2.2.2.2.2.2.2.2.2.1,bif x38 then x51.1 else p.2.2.2.2.2.2.2.2.2.2.1,bif x38 then x52.1 else p.2.2.2.2.2.2.2.2.2.2.2.1,bif x38 then x53.1 else x10,bif x38 then x54.1 else x11,bif x38 then x55.1 else x12,bif x38 then x56.1 else x13,bif x38 then x57.1 else x14,bif x38 then x58.1 else 0,bif x38 then x59.1 else x35,bif x38 then x59.2 else x37),x47)))) (.Lf none)))) (.Lf none)) (.Lf none)
def vAck (p:PICT):PICT×Int:=getO ZNf.Df (ZTX p).val
def ZTY (p:PICT):Bool:=okB (ZTX p).val
def Z1y:En:=Zg ZWR ZNf (λa=>some (ZTY a)) (λa=>vAck a)
theorem ZYN:Za prog 253 Z1y:=
 pureP 134219839 [(299,ZTR),(302,ZMO),(303,ZNd)] [] ZWR ZNf ⟨ZAr,ZFj,ZFA,Tv⟩ Tryz.func253 Tryz.call253 trivial (t:=λa=>ZTX a)
abbrev Zw3:List Sh:=[Sh.agg (R.Pq (R.int u16) (R.Pq (R.int u8) (R.int i64))),Sh.one (R.int i64),Sh.one (R.int u8)]
abbrev Zw4:Rs:=Rs.one (Sh.agg (R.Pq (R.int u16) (R.Pq (R.int u8) (R.int i64))))
def ZFh (d:QT7) (r:Int) (v:Int):RT (QT7):=
 .Lf ((bif andI i64 r 3==0 then orI u16 (andI u16 d.1 65280) (u16.wrap v) else bif andI i64 r 3==1 then orI u16 (andI u16 d.1 255) (shlI u16 (u16.wrap v) 8) else d.1,bif andI i64 r 3==0 then d.2.1 else bif andI i64 r 3==1 then d.2.1 else bif andI i64 r 3==2 then v else d.2.1,bif andI i64 r 3==0 then d.2.2 else bif andI i64 r 3==1 then d.2.2 else bif andI i64 r 3==2 then d.2.2 else i64.wrap v))
def ZAn (d:QT7) (r:Int) (v:Int):QT7:=(ZFh d r v).val
def ZFi:En:=Zg Zw3 Zw4 (λ_=>none) (λa=>ZAn a.1 a.2.1 a.2.2)
theorem ZIT:Za prog 257 ZFi:=
 pureQ 2149585023 [] [] Zw3 Zw4 trivial Tryz.func257 Tryz.call257 trivial (t:=λa=>ZFh a.1 a.2.1 a.2.2)
abbrev ZFn:List Sh:=[Sh.agg (R.Pq (R.int u16) (R.Pq (R.int u8) (R.int i64))),Sh.one (R.int i64)]
abbrev Zsw:Rs:=Rs.one (Sh.one (R.int u8))
def Zsv (d:QT7) (r:Int):RT (Option (Int)):=
 .br (decide (0<=andI i64 r 3/\andI i64 r 3<4)) (.Lf (some (bif andI i64 r 3==0 then u8.wrap d.1 else bif andI i64 r 3==iN (0+1) then u8.wrap (shrI u16 d.1 8) else bif andI i64 r 3==iN (0+1+1) then d.2.1 else u8.wrap d.2.2))) (.Lf none)
def ZMU (d:QT7) (r:Int):Int:=getO Zsw.Df (Zsv d r).val
def Zsx (d:QT7) (r:Int):Bool:=okB (Zsv d r).val
def ZMT:En:=Zg ZFn Zsw (λa=>some (Zsx a.1 a.2)) (λa=>ZMU a.1 a.2)
theorem ZMR:Za prog 255 ZMT:=
 pureP 31 [] [] ZFn Zsw trivial Tryz.func255 Tryz.call255 trivial (t:=λa=>Zsv a.1 a.2)
abbrev ZqG:List Sh:=[Sh.agg (R.Pq (R.int u16) (R.Pq (R.int u8) (R.int i64)))]
abbrev ZqH:Rs:=Rs.one (Sh.one R.bool)
def Zw6 (d:QT7):RT (Bool):=
 .Lf (decide (d.2.2>0))
def Zcq (d:QT7):Bool:=(Zw6 d).val
def Zml:En:=Zg ZqG ZqH (λ_=>none) (λa=>Zcq a)
theorem Zmk:Za prog 250 Zml:=
 pureQ 7 [] [] ZqG ZqH trivial Tryz.func250 Tryz.call250 trivial (t:=λa=>Zw6 a)
abbrev Zmh:List Sh:=[Sh.agg (R.Pq (R.int u16) (R.Pq (R.int u8) (R.int i64)))]
abbrev Zmi:Rs:=Rs.tup [Sh.agg (R.Pq (R.int u16) (R.Pq (R.int u8) (R.int i64))),Sh.agg (R.Pq (R.int u16) (R.int u8)),Sh.one R.bool]
def ZjJ (d:QT7):RT ((QT7)×(Int×Int)×Bool):=
 .br (!Zcq d) (.Lf (((0,0,0),(0,0),false))) (.Lf (((u16.wrap (d.1+1),d.2.1,i64.wrap (d.2.2-1)),(d.1,d.2.1),true)))
def Zio (d:QT7):(QT7)×(Int×Int)×Bool:=(ZjJ d).val
def ZqF:En:=Zg Zmh Zmi (λ_=>none) (λa=>Zio a)
theorem Zw5:Za prog 196 ZqF:=
 pureQ 63 [(250,Zml)] [] Zmh Zmi ⟨Zmk,Tv⟩ Tryz.func196 Tryz.call196 trivial (t:=λa=>ZjJ a)
end
end Go.Proofs.YtghoimllhpjkjaaGreat
