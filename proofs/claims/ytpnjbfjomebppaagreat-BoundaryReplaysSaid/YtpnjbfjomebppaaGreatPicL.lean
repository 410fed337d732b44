import Derived.Test.YtpnjbfjomebppaaGreatProg
import Derived.Test.YtpnjbfjomebppaaGreatS3Box1
open Go.Proofs.Tryz (prog)
open Go.IntKind (u8 u16 i64)
set_option linter.unusedSimpArgs false
open Go Go.S3 Go.Proofs
set_option linter.unusedVariables false
set_option maxRecDepth 100000
namespace Go.Proofs.YtpnjbfjomebppaaGreat
noncomputable section
abbrev Z04:List Sh:=[So Ka,So Kc]
abbrev ZYl:Rs:=Rs.one (So R.bool)
def vOnT (s:Int) (l:Int):RT (Option (Bool)):=
 .br (decide (0<=l)) (Ls (andI u8 (shrI u8 s l) 1==1)) Ln
def vOn (s:Int) (l:Int):Bool:=getO ZYl.Df (vOnT s l).val
def vOnC (s:Int) (l:Int):Bool:=okB (vOnT s l).val
def vOnE:En:=Zg Z04 ZYl (λa=>some (vOnC a.1 a.2)) (λa=>vOn a.1 a.2)
theorem ZWr:Za prog 391 vOnE:=
 pureP 31 [] [] Z04 ZYl trivial Tryz.func391 Tryz.call391 trivial (t:=λa=>vOnT a.1 a.2)
abbrev ZMW:List Sh:=[So Kc,So Kc]
abbrev ZMX:Rs:=Rs.one (So Kc)
def ZWn (l:Int) (k:Int):RT (Int):=
 .Lf (andI i64 (i64.wrap (i64.wrap (andI i64 l 7-andI i64 k 7)+15)) 7)
def ZjN (l:Int) (k:Int):Int:=(ZWn l k).val
def ZFA:En:=Zg ZMW ZMX (λ_=>none) (λa=>ZjN a.1 a.2)
theorem ZsQ:Za prog 390 ZFA:=
 pureQ 31 [] [] ZMW ZMX trivial Tryz.func390 Tryz.call390 trivial (t:=λa=>ZWn a.1 a.2)
def ZTF:LS:={n:=29,Sl:=[(0,.code (So Ka)),(1,.code (So Kc)),(5,.code (So Kc)),(6,.code (So Kc))],Bx:=[],Sg:=[]}
def Zis (a:Int×Int×Int×Int×PUnit):RT (Option (Go1 (Int×Int×Int×Int×PUnit))):=
 .br (decide (a.2.2.2.1<8)) (.br (vOnC a.1 a.2.2.2.1) (Ls (Go1.cont (a.1,a.2.1,bif vOn a.1 a.2.2.2.1&&(decide (a.2.2.1<0)||decide (ZjN a.2.2.2.1 a.2.1<ZjN a.2.2.1 a.2.1)) then a.2.2.2.1 else a.2.2.1,i64.wrap (a.2.2.2.1+1),PUnit.unit))) Ln) (Ls (Go1.brk (a.1,a.2.1,a.2.2.1,a.2.2.2.1,PUnit.unit)))
def ZFH:Ora:=ZaB false ZTF Zis (λa=>9)
theorem ZIS:Zal (envX prog [(390,ZFA),(391,vOnE)] [] 127 8) (.block 0 (.loop (ZQ Tryz.f379.body 0))) ZFH:=
 loopP ⟨ZsQ,ZWr,Tv⟩
def Zxx (s:Int) (k:Int):RT (Option (Int)):=
 let x1:=runF false Zis (λa=>9) (s,k,-1,0,())
 .br (okB x1) (Ls (getO (false,s,k,-1,0,()) x1).2.2.2.1) Ln
def ZhN (s:Int) (k:Int):Int:=getO ZMX.Df (Zxx s k).val
def ZqS (s:Int) (k:Int):Bool:=okB (Zxx s k).val
def ZM9:En:=Zg Z04 ZMX (λa=>some (ZqS a.1 a.2)) (λa=>ZhN a.1 a.2)
theorem ZFG:Za prog 379 ZM9:=
 pureP 127 [(390,ZFA),(391,vOnE)] [(0,ZFH)] Z04 ZMX ⟨ZsQ,ZWr,Tv⟩ Tryz.func379 Tryz.call379 ⟨ZIS,Tv⟩ (t:=λa=>Zxx a.1 a.2)
abbrev ZFO:List Sh:=[So Ka,So Ka,So R.bool]
abbrev ZFP:Rs:=Rs.one (So Ka)
def ZNf (m:Int) (s:Int) (p:Bool):RT (Int):=
 .br (p) (.Lf (Zce u8 s m)) (.Lf (s))
def ZkT (m:Int) (s:Int) (p:Bool):Int:=(ZNf m s p).val
def ZAS:En:=Zg ZFO ZFP (λ_=>none) (λa=>ZkT a.1 a.2.1 a.2.2)
theorem ZxA:Za prog 380 ZAS:=
 pureQ 127 [] [] ZFO ZFP trivial Tryz.func380 Tryz.call380 trivial (t:=λa=>ZNf a.1 a.2.1 a.2.2)
abbrev ZM1:List Sh:=[So Ka,So Ka,So Ka,So Kc,So R.bool]
def Zxw (r:Int) (m:Int) (s:Int) (k:Int) (p:Bool):RT (Option (Int)):=
 .br (ZqS (Zce u8 r m) k) (.br (ZqS (ZkT m s p) k) (.br (decide (ZhN (Zce u8 r m) k>=0)&&(decide (ZhN (ZkT m s p) k<0)||decide (ZjN (ZhN (Zce u8 r m) k) k<ZjN (ZhN (ZkT m s p) k) k))) (Ls (ZhN (Zce u8 r m) k)) (Ls (-1))) Ln) Ln
def ZYk (r:Int) (m:Int) (s:Int) (k:Int) (p:Bool):Int:=getO ZMX.Df (Zxw r m s k p).val
def ZM2 (r:Int) (m:Int) (s:Int) (k:Int) (p:Bool):Bool:=okB (Zxw r m s k p).val
def ZWo:En:=Zg ZM1 ZMX (λa=>some (ZM2 a.1 a.2.1 a.2.2.1 a.2.2.2.1 a.2.2.2.2)) (λa=>ZYk a.1 a.2.1 a.2.2.1 a.2.2.2.1 a.2.2.2.2)
theorem ZTz:Za prog 378 ZWo:=
 pureP 8191 [(379,ZM9),(380,ZAS),(390,ZFA)] [] ZM1 ZMX ⟨ZFG,ZxA,ZsQ,Tv⟩ Tryz.func378 Tryz.call378 trivial (t:=λa=>Zxw a.1 a.2.1 a.2.2.1 a.2.2.2.1 a.2.2.2.2)
abbrev ZWs:List Sh:=[]
abbrev ZWt:Rs:=Rs.one (Sh.agg Za8)
def Z05:RT PICT:=
 .Lf ((0,false,false,false,false,0,0,false,false,false,false,false,0,0,0,0,7,0,0,false))
def vNew:PICT:=(Z05).val
def ZYn:En:=Zg ZWs ZWt (λ_=>none) (λa=>vNew)
theorem ZM6:Za prog 101 ZYn:=
 pureQ 1 [] [] ZWs ZWt trivial Tryz.func101 Tryz.call101 trivial (t:=λa=>Z05)
abbrev ZFB:List Sh:=[Sh.agg Za8,So Ka]
def ZMZ (p:PICT) (l:Int):RT PICT:=
 let x1:=p.2.2.2.2.2.2.2.2.2.2.2.2.2
 .Lf ((p.1,p.2.1,p.2.2.1,p.2.2.2.1,p.2.2.2.2.1,p.2.2.2.2.2.1,p.2.2.2.2.2.2.1,p.2.2.2.2.2.2.2.1,p.2.2.2.2.2.2.2.2.1,p.2.2.2.2.2.2.2.2.2.1,p.2.2.2.2.2.2.2.2.2.2.1,p.2.2.2.2.2.2.2.2.2.2.2.1,l,andI u8 (orI u8 x1.1 (Zce u8 l p.2.2.2.2.2.2.2.2.2.2.2.2.1)) l,x1.2))
def ZFD (p:PICT) (l:Int):PICT:=(ZMZ p l).val
def ZM0:En:=Zg ZFB ZWt (λ_=>none) (λa=>ZFD a.1 a.2)
theorem ZMY:Za prog 174 ZM0:=
 pureQ 31 [] [] ZFB ZWt trivial Tryz.func174 Tryz.call174 trivial (t:=λa=>ZMZ a.1 a.2)
abbrev ZWk:List Sh:=[Sh.agg Za8]
def Z02 (p:PICT):RT (Int):=
 .br p.2.1 (.Lf p.2.2.2.2.2.2.2.2.2.2.2.2.1) (.Lf p.2.2.2.2.2.2.2.2.2.2.2.2.2.1)
def vReq (p:PICT):Int:=(Z02 p).val
def ZYj:En:=Zg ZWk ZFP (λ_=>none) (λa=>vReq a)
theorem ZMQ:Za prog 338 ZYj:=
 pureQ 7 [] [] ZWk ZFP trivial Tryz.func338 Tryz.call338 trivial (t:=λa=>Z02 a)
def ZM3 (p:PICT):RT (Option (Int)):=
 let x1:=p.2.2.2.2.2.2.2.2.2.2.2.2.2.2
 let x2:=x1.2
 let x3:=x2.1
 let x4:=x1.1
 let x5:=x2.2.1
 .br (ZM2 (vReq p) x3 x4 x5 p.2.2.2.2.2.2.2.2.2.1) (Ls (ZYk (vReq p) x3 x4 x5 p.2.2.2.2.2.2.2.2.2.1)) Ln
def vPck (p:PICT):Int:=getO ZMX.Df (ZM3 p).val
def ZIR (p:PICT):Bool:=okB (ZM3 p).val
def ZTA:En:=Zg ZWk ZMX (λa=>some (ZIR a)) (λa=>vPck a)
theorem ZAM:Za prog 333 ZTA:=
 pureP 7 [(338,ZYj),(378,ZWo)] [] ZWk ZMX ⟨ZMQ,ZTz,Tv⟩ Tryz.func333 Tryz.call333 trivial (t:=λa=>ZM3 a)
def ZTD (p:PICT):RT (Option (Bool)):=
 .br (ZIR p) (Ls (decide (vPck p>=0))) Ln
def vInt (p:PICT):Bool:=getO ZYl.Df (ZTD p).val
def ZTE (p:PICT):Bool:=okB (ZTD p).val
def Z06:En:=Zg ZWk ZYl (λa=>some (ZTE a)) (λa=>vInt a)
theorem ZYo:Za prog 249 Z06:=
 pureP 7 [(333,ZTA)] [] ZWk ZYl ⟨ZAM,Tv⟩ Tryz.func249 Tryz.call249 trivial (t:=λa=>ZTD a)
def ZNb (p:PICT) (v:Int):RT PICT:=
 .Lf ((2,andI u8 v 8 !=0,andI u8 v 4 !=0,andI u8 v 2 !=0,andI u8 v 1 !=0,andI u8 v 224,0,false,false,false,false,false,p.2.2.2.2.2.2.2.2.2.2.2.2.1,0,0,0,7,0,0,false))
def Zmx (p:PICT) (v:Int):PICT:=(ZNb p v).val
def ZNc:En:=Zg ZFB ZWt (λ_=>none) (λa=>Zmx a.1 a.2)
theorem ZNa:Za prog 342 ZNc:=
 pureQ 63 [(101,ZYn)] [] ZFB ZWt ⟨ZM6,Tv⟩ Tryz.func342 Tryz.call342 trivial (t:=λa=>ZNb a.1 a.2)
def Zxy (p:PICT) (v:Int):RT PICT:=
 let x1:=p.2.2.2.2.2.2.2.2.2.2.2.2.2
 let x2:=x1.2
 let x3:=x2.2
 let x4:=x3.1
 .Lf ((bif p.1==2 then bif !p.2.2.2.1 then 3 else bif p.2.2.2.2.1 then 4 else 0 else bif p.1==3 then bif p.2.2.2.2.1 then 4 else 0 else bif p.1==4 then 0 else p.1,p.2.1,p.2.2.1,p.2.2.2.1,p.2.2.2.2.1,p.2.2.2.2.2.1,bif p.1==2 then v else p.2.2.2.2.2.2.1,bif p.1==2 then p.2.2.2.2.2.2.2.1 else bif p.1==3 then p.2.2.2.2.2.2.2.1 else bif p.1==4 then andI u8 v 2 !=0 else p.2.2.2.2.2.2.2.1,p.2.2.2.2.2.2.2.2.1,p.2.2.2.2.2.2.2.2.2.1,p.2.2.2.2.2.2.2.2.2.2.1,p.2.2.2.2.2.2.2.2.2.2.2.1,p.2.2.2.2.2.2.2.2.2.2.2.2.1,x1.1,x2.1,bif p.1==2 then x4 else bif p.1==3 then x4 else bif p.1==4 then x4 else v,x3.2))
def ZFI (p:PICT) (v:Int):PICT:=(Zxy p v).val
def Zxz:En:=Zg ZFB ZWt (λ_=>none) (λa=>ZFI a.1 a.2)
theorem ZAQ:Za prog 341 Zxz:=
 pureQ 71307327 [] [] ZFB ZWt trivial Tryz.func341 Tryz.call341 trivial (t:=λa=>Zxy a.1 a.2)
def ZFE (p:PICT) (v:Int):RT (Option PICT):=
 let x1:=p.2.2.2.2.2.2.2.2.2.2.2.2.2
 let x2:=x1.2
 let x3:=x2.2
 let x4:=x3.1
 let x5:=x2.1
 let x6:=ZkT x4 x5 p.2.2.2.2.2.2.2.2.2.1
 let x7:=x3.2
 let x8:=x7.1
 let x9:=ZhN x6 x8
 let x10:=decide (x9>=0)
 let x11:= !x10||decide (0<=x9)
 let x12:=shrI u8 v 5==0||(!shrI u8 v 5==1||x11)
 let x13:= !x12
 let x14:=shrI u8 v 5==0||(shrI u8 v 5==1||(!shrI u8 v 5==3||decide (0<=i64.wrap (andI u8 v 7))))
 let x15:= !x14
 let x16:=shrI u8 v 5==0||(shrI u8 v 5==1||(shrI u8 v 5==3||(shrI u8 v 5==4||(!shrI u8 v 5==5||x11))))
 let x17:Int:=bif x10 then Zce u8 x5 (shlI u8 1 x9) else x5
 let x18:=Zce u8 x5 (shlI u8 1 (i64.wrap (andI u8 v 7)))
 .br (ZqS x6 x8) (.br (x13||(x15||(!x16||(shrI u8 v 5==0||(shrI u8 v 5==1||(shrI u8 v 5==3||(shrI u8 v 5==4||(shrI u8 v 5==5||(shrI u8 v 5==6||(!shrI u8 v 5==7||decide (0<=i64.wrap (andI u8 v 7)))))))))))) (.br (x13||(x15||x16)) (.br (x13||x14) (.br (x12) (Ls ((p.1,p.2.1,p.2.2.1,p.2.2.2.1,p.2.2.2.2.1,p.2.2.2.2.2.1,p.2.2.2.2.2.2.1,p.2.2.2.2.2.2.2.1,!shrI u8 v 5==0&&bif shrI u8 v 5==1 then p.2.2.2.2.2.2.2.2.1 else bif shrI u8 v 5==3 then p.2.2.2.2.2.2.2.2.1 else shrI u8 v 5==4||p.2.2.2.2.2.2.2.2.1,p.2.2.2.2.2.2.2.2.2.1,p.2.2.2.2.2.2.2.2.2.2.1,p.2.2.2.2.2.2.2.2.2.2.2.1,p.2.2.2.2.2.2.2.2.2.2.2.2.1,x1.1,bif shrI u8 v 5==0 then x5 else bif shrI u8 v 5==1 then x17 else bif shrI u8 v 5==3 then x18 else bif shrI u8 v 5==4 then x5 else bif shrI u8 v 5==5 then x17 else bif shrI u8 v 5==6 then x5 else bif shrI u8 v 5==7 then x18 else x5,x4,bif shrI u8 v 5==0 then x8 else bif shrI u8 v 5==1 then x8 else bif shrI u8 v 5==3 then x8 else bif shrI u8 v 5==4 then x8 else bif shrI u8 v 5==5 then bif x10 then x9 else x8 else bif shrI u8 v 5==6 then i64.wrap (andI u8 v 7) else bif shrI u8 v 5==7 then i64.wrap (andI u8 v 7) else x8,x7.2))) Ln) Ln) Ln) Ln) Ln
def Z03 (p:PICT) (v:Int):PICT:=getO ZWt.Df (ZFE p v).val
def ZFF (p:PICT) (v:Int):Bool:=okB (ZFE p v).val
def ZWq:En:=Zg ZFB ZWt (λa=>some (ZFF a.1 a.2)) (λa=>Z03 a.1 a.2)
theorem ZTB:Za prog 343 ZWq:=
 pureP 4899995593813786751 [(379,ZM9),(380,ZAS)] [] ZFB ZWt ⟨ZFG,ZxA,Tv⟩ Tryz.func343 Tryz.call343 trivial (t:=λa=>ZFE a.1 a.2)
abbrev ZFr:List Sh:=[Sh.agg Za8,So R.bool,So Ka]
def ZsK (p:PICT) (h:Bool) (v:Int):RT (Option PICT):=
 .br (h||(andI u8 v 16 !=0||(!andI u8 v 8==0||ZFF p v))) (.br (h) (Ls (ZFI p v)) (.br (andI u8 v 16 !=0) (Ls ((2,(Zmx p v).2.1,(Zmx p v).2.2.1,(Zmx p v).2.2.2.1,(Zmx p v).2.2.2.2.1,(Zmx p v).2.2.2.2.2.1,0,false,false,false,false,false,(Zmx p v).2.2.2.2.2.2.2.2.2.2.2.2.1,0,0,0,7,0,0,false))) (.br (andI u8 v 8==0) (Ls (Z03 p v)) (Ls ((p.1,p.2.1,p.2.2.1,p.2.2.2.1,p.2.2.2.2.1,p.2.2.2.2.2.1,p.2.2.2.2.2.2.1,p.2.2.2.2.2.2.2.1,p.2.2.2.2.2.2.2.2.1,bif andI u8 v 64 !=0 then andI u8 v 32 !=0 else p.2.2.2.2.2.2.2.2.2.1,bif andI u8 v 2 !=0 then andI u8 v 1 !=0 else p.2.2.2.2.2.2.2.2.2.2.1,p.2.2.2.2.2.2.2.2.2.2.2.1||andI u8 v 4 !=0,p.2.2.2.2.2.2.2.2.2.2.2.2)))))) Ln
def ZMN (p:PICT) (h:Bool) (v:Int):PICT:=getO ZWt.Df (ZsK p h v).val
def ZsM (p:PICT) (h:Bool) (v:Int):Bool:=okB (ZsK p h v).val
def ZMM:En:=Zg ZFr ZWt (λa=>some (ZsM a.1 a.2.1 a.2.2)) (λa=>ZMN a.1 a.2.1 a.2.2)
theorem ZMK:Za prog 266 ZMM:=
 pureP 528639 [(341,Zxz),(342,ZNc),(343,ZWq)] [] ZFr ZWt ⟨ZAQ,ZNa,ZTB,Tv⟩ Tryz.func266 Tryz.call266 trivial (t:=λa=>ZsK a.1 a.2.1 a.2.2)
abbrev ZMO:List Sh:=[Sh.agg Za8,So Kc]
def ZFw (p:PICT) (x:Int):RT (Option PICT):=
 let x1:=p.2.2.2.2.2.2.2.2.2.2.2.2.2
 let x2:=x1.2
 .br (decide (0<=x)) (.br (decide (0<=x)) (Ls ((p.1,p.2.1,p.2.2.1,p.2.2.2.1,p.2.2.2.2.1,p.2.2.2.2.2.1,p.2.2.2.2.2.2.1,p.2.2.2.2.2.2.2.1,p.2.2.2.2.2.2.2.2.1,p.2.2.2.2.2.2.2.2.2.1,p.2.2.2.2.2.2.2.2.2.2.1,p.2.2.2.2.2.2.2.2.2.2.2.1,p.2.2.2.2.2.2.2.2.2.2.2.2.1,Zce u8 x1.1 (shlI u8 1 x),orI u8 x2.1 (shlI u8 1 x),x2.2))) Ln) Ln
def ZYi (p:PICT) (x:Int):PICT:=getO ZWt.Df (ZFw p x).val
def Zmu (p:PICT) (x:Int):Bool:=okB (ZFw p x).val
def ZMP:En:=Zg ZMO ZWt (λa=>some (Zmu a.1 a.2)) (λa=>ZYi a.1 a.2)
theorem ZFu:Za prog 336 ZMP:=
 pureP 31 [] [] ZMO ZWt trivial Tryz.func336 Tryz.call336 trivial (t:=λa=>ZFw a.1 a.2)
def ZFN (p:PICT) (x:Int):RT (Option PICT):=
 let x1:=p.2.2.2.2.2.2.2.2.2.2.2.2.2
 let x2:=x1.2
 let x3:=x2.2
 let x4:=x3.2
 .br (decide (0<=x)) (Ls ((p.1,p.2.1,p.2.2.1,p.2.2.2.1,p.2.2.2.2.1,p.2.2.2.2.2.1,p.2.2.2.2.2.2.1,p.2.2.2.2.2.2.2.1,p.2.2.2.2.2.2.2.2.1,p.2.2.2.2.2.2.2.2.2.1,p.2.2.2.2.2.2.2.2.2.2.1,p.2.2.2.2.2.2.2.2.2.2.2.1,p.2.2.2.2.2.2.2.2.2.2.2.2.1,x1.1,Zce u8 x2.1 (shlI u8 1 x),x3.1,bif p.2.2.2.2.2.2.2.2.1 then x else x4.1,x4.2))) Ln
def ZYq (p:PICT) (x:Int):PICT:=getO ZWt.Df (ZFN p x).val
def Zmy (p:PICT) (x:Int):Bool:=okB (ZFN p x).val
def ZNe:En:=Zg ZMO ZWt (λa=>some (Zmy a.1 a.2)) (λa=>ZYq a.1 a.2)
theorem ZFL:Za prog 337 ZNe:=
 pureP 31 [] [] ZMO ZWt trivial Tryz.func337 Tryz.call337 trivial (t:=λa=>ZFN a.1 a.2)
abbrev ZMR:List Sh:=[Sh.agg Za8,So R.bool]
abbrev ZAK:Rs:=Rs.tup [Sh.agg Za8,So Ka]
def ZFx (p:PICT) (h:Bool):RT (Option (PICT×Int)):=
 let x1:= !p.2.2.2.2.2.2.2.2.2.2.2.1
 let x2:=h||(x1||ZIR p)
 let x3:= !x2
 let x4:PICT:=(p.1,p.2.1,p.2.2.1,p.2.2.2.1,p.2.2.2.2.1,p.2.2.2.2.2.1,p.2.2.2.2.2.2.1,p.2.2.2.2.2.2.2.1,p.2.2.2.2.2.2.2.2.1,p.2.2.2.2.2.2.2.2.2.1,p.2.2.2.2.2.2.2.2.2.2.1,false,p.2.2.2.2.2.2.2.2.2.2.2.2)
 let x5:=Zmu x4 (vPck p)
 let x6:=ZYi x4 (vPck p)
 let x7:=x6.2
 let x8:=x7.2
 let x9:=x8.2
 let x10:=x9.2
 let x11:=x10.2
 let x12:=x11.2
 let x13:=x12.2
 let x14:=x13.1
 let x15:=p.2.2.2.2.2.2.2.2.2.2.2.2.2.2
 let x16:=ZYq x6 (vPck p)
 .br (x3||(h||(x1||(decide (vPck p<0)||(!x5||(!x14||Zmy x6 (vPck p))))))) (.br (x3||(h||(x1||(decide (vPck p<0)||x5)))) (.br (x2) (.br (h) (Ls ((p,x15.2.1))) (.br p.2.2.2.2.2.2.2.2.2.2.2.1 (.br (decide (vPck p<0)) (Ls ((x4,0))) (Ls (((R.sel Za8 x14 x16 x6),u8.wrap (i64.wrap (128+vPck p)))))) (.br p.2.2.2.2.2.2.2.2.2.2.1 (Ls ((p,x15.1))) (Ls ((p,vReq p)))))) Ln) Ln) Ln
def ZTy (p:PICT) (h:Bool):PICT×Int:=getO ZAK.Df (ZFx p h).val
def ZFz (p:PICT) (h:Bool):Bool:=okB (ZFx p h).val
def ZWm:En:=Zg ZMR ZAK (λa=>some (ZFz a.1 a.2)) (λa=>ZTy a.1 a.2)
theorem ZTw:Za prog 257 ZWm:=
 pureP 8589938943 [(333,ZTA),(336,ZMP),(337,ZNe),(338,ZYj)] [] ZMR ZAK ⟨ZAM,ZFu,ZFL,ZMQ,Tv⟩ Tryz.func257 Tryz.call257 trivial (t:=λa=>ZFx a.1 a.2)
def ZTG (p:PICT):RT (Option (PICT×Int)):=
 let x1:=p.2.2.2.2.2.2.2.2.2.2.2.2.2
 let x2:=x1.2
 let x3:=x2.2
 let x4:=x3.2
 let x5:=x4.2
 let x6:=x5.1
 let x7:=x6==0
 let x8:= !x7
 let x9:=x8||ZIR p
 let x10:=p.2.2.2.2.2.2.2.2.2.2.2.2.1
 let x11:=x1.1
 let x12:=x2.1
 let x13:=x3.1
 let x14:=x4.1
 let x15:PICT:=(p.1,p.2.1,p.2.2.1,p.2.2.2.1,p.2.2.2.2.1,p.2.2.2.2.2.1,p.2.2.2.2.2.2.1,p.2.2.2.2.2.2.2.1,p.2.2.2.2.2.2.2.2.1,p.2.2.2.2.2.2.2.2.2.1,p.2.2.2.2.2.2.2.2.2.2.1,p.2.2.2.2.2.2.2.2.2.2.2.1,x10,x11,x12,x13,x14,1,7,true)
 let x16:=ZYi x15 (vPck p)
 let x17:=x16.2
 let x18:=x17.2
 let x19:=x18.2
 let x20:=x19.2
 let x21:=x20.2
 let x22:=x21.2
 let x23:=x22.2
 let x24:=x23.2
 let x25:=x24.2
 let x26:=x25.2
 let x27:=x26.2
 let x28:=x27.2
 let x29:=x28.2
 let x30:=x29.2
 let x31:=x30.2
 let x32:=x31.2
 let x33:=x5.2
 let x34:PICT:=(p.1,p.2.1,p.2.2.1,p.2.2.2.1,p.2.2.2.2.1,p.2.2.2.2.2.1,p.2.2.2.2.2.2.1,p.2.2.2.2.2.2.2.1,p.2.2.2.2.2.2.2.2.1,p.2.2.2.2.2.2.2.2.2.1,p.2.2.2.2.2.2.2.2.2.2.1,p.2.2.2.2.2.2.2.2.2.2.2.1,x10,x11,x12,x13,x14,2,x33)
 let x35:=x33.1
 let x36:=andI i64 x35 7
 let x37:=x33.2
 let x38:=p.2.2.2.2.2.2.2.1&& !x37
 let x39:PICT:=(p.1,p.2.1,p.2.2.1,p.2.2.2.1,p.2.2.2.2.1,p.2.2.2.2.2.1,p.2.2.2.2.2.2.1,p.2.2.2.2.2.2.2.1,p.2.2.2.2.2.2.2.2.1,p.2.2.2.2.2.2.2.2.2.1,p.2.2.2.2.2.2.2.2.2.2.1,p.2.2.2.2.2.2.2.2.2.2.2.1,x10,x11,x12,x13,x14,0,x33)
 let x40:=ZYq x39 x36
 let x41:=x40.2
 let x42:=x41.2
 let x43:=x42.2
 let x44:=x43.2
 let x45:=x44.2
 let x46:=x45.2
 let x47:Int:=bif x38 then x46.1 else p.2.2.2.2.2.2.1
 let x48:=x46.2
 let x49:=x48.2
 let x50:=x49.2
 let x51:=x50.2
 let x52:=x51.2
 let x53:=x52.2
 let x54:=x53.2
 let x55:=x54.2
 let x56:=x55.2
 let x57:=x56.2
 let x58:=x57.2
 let x59:=x58.2
 .br (!x9||(x8||(!decide (vPck p>=0)||Zmu x15 (vPck p)))) (.br (x9) (.br (x7) (Ls (((bif decide (vPck p>=0) then x16.1 else p.1,bif decide (vPck p>=0) then x17.1 else p.2.1,bif decide (vPck p>=0) then x18.1 else p.2.2.1,bif decide (vPck p>=0) then x19.1 else p.2.2.2.1,bif decide (vPck p>=0) then x20.1 else p.2.2.2.2.1,bif decide (vPck p>=0) then x21.1 else p.2.2.2.2.2.1,bif decide (vPck p>=0) then x22.1 else p.2.2.2.2.2.2.1,bif decide (vPck p>=0) then x23.1 else p.2.2.2.2.2.2.2.1,bif decide (vPck p>=0) then x24.1 else p.2.2.2.2.2.2.2.2.1,bif decide (vPck p>=0) then x25.1 else p.2.2.2.2.2.2.2.2.2.1,bif decide (vPck p>=0) then x26.1 else p.2.2.2.2.2.2.2.2.2.2.1,bif decide (vPck p>=0) then x27.1 else p.2.2.2.2.2.2.2.2.2.2.2.1,bif decide (vPck p>=0) then x28.1 else x10,bif decide (vPck p>=0) then x29.1 else x11,bif decide (vPck p>=0) then x30.1 else x12,bif decide (vPck p>=0) then x31.1 else x13,bif decide (vPck p>=0) then x32.1 else x14,bif decide (vPck p>=0) then x32.2.1 else 1,bif decide (vPck p>=0) then vPck p else 7,!decide (vPck p>=0)),205))) (.br (x6==1) (.br p.2.2.1 (Ls ((x34,u8.wrap (andI u8 p.2.2.2.2.2.1 224+u8.wrap (i64.wrap (4*x36)))))) (Ls ((x34,u8.wrap (andI u8 p.2.2.2.2.2.1 192+u8.wrap (i64.wrap (8*x36))))))) (.br (!x38||Zmy x39 x36) (Ls (((bif x38 then x40.1 else p.1,bif x38 then x41.1 else p.2.1,bif x38 then x42.1 else p.2.2.1,bif x38 then x43.1 else p.2.2.2.1,bif x38 then x44.1 else p.2.2.2.2.1,bif x38 then x45.1 else p.2.2.2.2.2.1,x47,bif x38 then x48.1 else p.2.2.2.2.2.2.2.1,bif x38 then x49.1 else p.2.2.2.2.2.2.2.2.1,bif x38 then x50.1 else p.2.2.2.2.2.2.2.2.2.1,bif x38 then x51.1 else p.2.2.2.2.2.2.2.2.2.2.1,bif x38 then x52.1 else p.2.2.2.2.2.2.2.2.2.2.2.1,bif x38 then x53.1 else x10,bif x38 then x54.1 else x11,bif x38 then x55.1 else x12,bif x38 then x56.1 else x13,bif x38 then x57.1 else x14,bif x38 then x58.1 else 0,bif x38 then x59.1 else x35,bif x38 then x59.2 else x37),x47))) Ln))) Ln) Ln
def vAck (p:PICT):PICT×Int:=getO ZAK.Df (ZTG p).val
def ZTH (p:PICT):Bool:=okB (ZTG p).val
def Z07:En:=Zg ZWk ZAK (λa=>some (ZTH a)) (λa=>vAck a)
theorem ZYr:Za prog 256 Z07:=
 pureP 134219839 [(333,ZTA),(336,ZMP),(337,ZNe)] [] ZWk ZAK ⟨ZAM,ZFu,ZFL,Tv⟩ Tryz.func256 Tryz.call256 trivial (t:=λa=>ZTG a)
abbrev Zxs:List Sh:=[Sh.agg (R.Pq Kb (R.Pq Ka Kc)),So Kc,So Ka]
abbrev Zxt:Rs:=Rs.one (Sh.agg (R.Pq Kb (R.Pq Ka Kc)))
def ZFs (d:QT7) (r:Int) (v:Int):RT (QT7):=
 .Lf ((bif andI i64 r 3==0 then orI u16 (andI u16 d.1 65280) (u16.wrap v) else bif andI i64 r 3==1 then orI u16 (andI u16 d.1 255) (shlI u16 (u16.wrap v) 8) else d.1,bif andI i64 r 3==0 then d.2.1 else bif andI i64 r 3==1 then d.2.1 else bif andI i64 r 3==2 then v else d.2.1,bif andI i64 r 3==0 then d.2.2 else bif andI i64 r 3==1 then d.2.2 else bif andI i64 r 3==2 then d.2.2 else i64.wrap v))
def ZAI (d:QT7) (r:Int) (v:Int):QT7:=(ZFs d r v).val
def ZFt:En:=Zg Zxs Zxt (λ_=>none) (λa=>ZAI a.1 a.2.1 a.2.2)
theorem ZIQ:Za prog 267 ZFt:=
 pureQ 2149585023 [] [] Zxs Zxt trivial Tryz.func267 Tryz.call267 trivial (t:=λa=>ZFs a.1 a.2.1 a.2.2)
abbrev ZFy:List Sh:=[Sh.agg (R.Pq Kb (R.Pq Ka Kc)),So Kc]
def ZsN (d:QT7) (r:Int):RT (Option (Int)):=
 .br (decide (0<=andI i64 r 3/\andI i64 r 3<4)) (Ls (bif andI i64 r 3==0 then u8.wrap d.1 else bif andI i64 r 3==iN (0+1) then u8.wrap (shrI u16 d.1 8) else bif andI i64 r 3==iN (0+1+1) then d.2.1 else u8.wrap d.2.2)) Ln
def ZMV (d:QT7) (r:Int):Int:=getO ZFP.Df (ZsN d r).val
def ZsP (d:QT7) (r:Int):Bool:=okB (ZsN d r).val
def ZMU:En:=Zg ZFy ZFP (λa=>some (ZsP a.1 a.2)) (λa=>ZMV a.1 a.2)
theorem ZMS:Za prog 258 ZMU:=
 pureP 31 [] [] ZFy ZFP trivial Tryz.func258 Tryz.call258 trivial (t:=λa=>ZsN a.1 a.2)
abbrev ZqQ:List Sh:=[Sh.agg (R.Pq Kb (R.Pq Ka Kc))]
def Zxv (d:QT7):RT (Bool):=
 .Lf (decide (d.2.2>0))
def Zb7 (d:QT7):Bool:=(Zxv d).val
def Zmw:En:=Zg ZqQ ZYl (λ_=>none) (λa=>Zb7 a)
theorem Zmv:Za prog 251 Zmw:=
 pureQ 7 [] [] ZqQ ZYl trivial Tryz.func251 Tryz.call251 trivial (t:=λa=>Zxv a)
abbrev Zmt:Rs:=Rs.tup [Sh.agg (R.Pq Kb (R.Pq Ka Kc)),Sh.agg (R.Pq Kb Ka),So R.bool]
def ZjM (d:QT7):RT ((QT7)×(Int×Int)×Bool):=
 .br (!Zb7 d) (.Lf (((0,0,0),(0,0),false))) (.Lf (((u16.wrap (d.1+1),d.2.1,i64.wrap (d.2.2-1)),(d.1,d.2.1),true)))
def Zir (d:QT7):(QT7)×(Int×Int)×Bool:=(ZjM d).val
def ZqP:En:=Zg ZqQ Zmt (λ_=>none) (λa=>Zir a)
theorem Zxu:Za prog 181 ZqP:=
 pureQ 63 [(251,Zmw)] [] ZqQ Zmt ⟨Zmv,Tv⟩ Tryz.func181 Tryz.call181 trivial (t:=λa=>ZjM a)
