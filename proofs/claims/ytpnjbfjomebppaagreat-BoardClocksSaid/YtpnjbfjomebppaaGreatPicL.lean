import Derived.Test.YtpnjbfjomebppaaGreatProg
import Derived.Test.YtpnjbfjomebppaaGreatS3Box1
open Go.Proofs.Tryz (prog)
open Go.IntKind (u8 u16 i64)
set_option linter.unusedSimpArgs false
open Go Go.S3 Go.Proofs
set_option linter.unusedVariables false
set_option maxRecDepth 100000
namespace Go.Proofs.YtpnjbfjomebppaaGreat
noncomputable section
abbrev Z6m:List Sh:=[So Ka,So Kc]
abbrev Z3l:Rs:=Rs.one (So R.bool)
def vOnT (s:Int) (l:Int):RT (Option (Bool)):=
 .br (decide (0<=l)) (Ls (andI u8 (shrI u8 s l) 1==1)) Ln
def vOn (s:Int) (l:Int):Bool:=getO Z3l.Df (vOnT s l).val
def vOnC (s:Int) (l:Int):Bool:=okB (vOnT s l).val
def vOnE:En:=Zf Z6m Z3l (λa=>some (vOnC a.1 a.2)) (λa=>vOn a.1 a.2)
theorem Z1j:Za prog 391 vOnE:=
 pureP 31 [] [] Z6m Z3l trivial Tryz.func391 Tryz.call391 trivial (t:=λa=>vOnT a.1 a.2)
abbrev ZQi:List Sh:=[So Kc,So Kc]
abbrev ZQj:Rs:=Rs.one (So Kc)
def ZIc (l:Int) (k:Int):RT (Int):=
 .Lf (andI i64 (i64.wrap (i64.wrap (andI i64 l 7-andI i64 k 7)+15)) 7)
def Zdn (l:Int) (k:Int):Int:=(ZIc l k).val
def ZId:En:=Zf ZQi ZQj (λ_=>none) (λa=>Zdn a.1 a.2)
theorem Zul:Za prog 390 ZId:=
 pureQ 31 [] [] ZQi ZQj trivial Tryz.func390 Tryz.call390 trivial (t:=λa=>ZIc a.1 a.2)
def ZX2:LS:={n:=29,Sl:=[(0,.code (So Ka)),(1,.code (So Kc)),(5,.code (So Kc)),(6,.code (So Kc))],Bx:=[],Sg:=[]}
def Zc7 (a:QT23):RT (Option (Go1 (QT23))):=
 .br (decide (a.2.2.2.1<8)) (.br (vOnC a.1 a.2.2.2.1) (Ls (Go1.cont (a.1,a.2.1,bif vOn a.1 a.2.2.2.1&&(decide (a.2.2.1<0)||decide (Zdn a.2.2.2.1 a.2.1<Zdn a.2.2.1 a.2.1)) then a.2.2.2.1 else a.2.2.1,i64.wrap (a.2.2.2.1+1),PUnit.unit))) Ln) (Ls (Go1.brk (a.1,a.2.1,a.2.2.1,a.2.2.2.1,PUnit.unit)))
def ZIh:Ora:=Zbn false ZX2 Zc7 (λa=>9)
theorem ZL3:ZaU (envX prog [(390,ZId),(391,vOnE)] [] 127 8) (.block 0 (.loop (Z7 Tryz.f379.body 0))) ZIh:=
 loopP ⟨Zul,Z1j,Tv⟩
def Zl0 (s:Int) (k:Int):RT (Option (Int)):=
 let x1:=runF false Zc7 (λa=>9) (s,k,-1,0,())
 .br (okB x1) (Ls (getO (false,s,k,-1,0,()) x1).2.2.2.1) Ln
def Zdy (s:Int) (k:Int):Int:=getO ZQj.Df (Zl0 s k).val
def Zit (s:Int) (k:Int):Bool:=okB (Zl0 s k).val
def ZQs:En:=Zf Z6m ZQj (λa=>some (Zit a.1 a.2)) (λa=>Zdy a.1 a.2)
theorem ZIg:Za prog 379 ZQs:=
 pureP 127 [(390,ZId),(391,vOnE)] [(0,ZIh)] Z6m ZQj ⟨Zul,Z1j,Tv⟩ Tryz.func379 Tryz.call379 ⟨ZL3,Tv⟩ (t:=λa=>Zl0 a.1 a.2)
abbrev ZIm:List Sh:=[So Ka,So Ka,So R.bool]
abbrev ZIn:Rs:=Rs.one (So Ka)
def ZkK (m:Int) (s:Int) (p:Bool):RT (Int):=
 .br (p) (.Lf (Z4 u8 s m)) (.Lf (s))
def ZcI (m:Int) (s:Int) (p:Bool):Int:=(ZkK m s p).val
def ZC4:En:=Zf ZIm ZIn (λ_=>none) (λa=>ZcI a.1 a.2.1 a.2.2)
theorem Zzq:Za prog 380 ZC4:=
 pureQ 127 [] [] ZIm ZIn trivial Tryz.func380 Tryz.call380 trivial (t:=λa=>ZkK a.1 a.2.1 a.2.2)
abbrev ZQm:List Sh:=[So Ka,So Ka,So Ka,So Kc,So R.bool]
def ZlZ (r:Int) (m:Int) (s:Int) (k:Int) (p:Bool):RT (Option (Int)):=
 .br (Zit (Z4 u8 r m) k) (.br (Zit (ZcI m s p) k) (.br (decide (Zdy (Z4 u8 r m) k>=0)&&(decide (Zdy (ZcI m s p) k<0)||decide (Zdn (Zdy (Z4 u8 r m) k) k<Zdn (Zdy (ZcI m s p) k) k))) (Ls (Zdy (Z4 u8 r m) k)) (Ls (-1))) Ln) Ln
def ZCX (r:Int) (m:Int) (s:Int) (k:Int) (p:Bool):Int:=getO ZQj.Df (ZlZ r m s k p).val
def Zsm (r:Int) (m:Int) (s:Int) (k:Int) (p:Bool):Bool:=okB (ZlZ r m s k p).val
def Z1g:En:=Zf ZQm ZQj (λa=>some (Zsm a.1 a.2.1 a.2.2.1 a.2.2.2.1 a.2.2.2.2)) (λa=>ZCX a.1 a.2.1 a.2.2.1 a.2.2.2.1 a.2.2.2.2)
theorem ZXX:Za prog 378 Z1g:=
 pureP 8191 [(379,ZQs),(380,ZC4),(390,ZId)] [] ZQm ZQj ⟨ZIg,Zzq,Zul,Tv⟩ Tryz.func378 Tryz.call378 trivial (t:=λa=>ZlZ a.1 a.2.1 a.2.2.1 a.2.2.2.1 a.2.2.2.2)
abbrev Z1k:List Sh:=[]
abbrev Z1l:Rs:=Rs.one (Sh.agg ZY)
def Z6n:RT PICT:=
 .Lf ((0,false,false,false,false,0,0,false,false,false,false,false,0,0,0,0,7,0,0,false))
def vNew:PICT:=(Z6n).val
def Z3n:En:=Zf Z1k Z1l (λ_=>none) (λa=>vNew)
theorem ZQp:Za prog 101 Z3n:=
 pureQ 1 [] [] Z1k Z1l trivial Tryz.func101 Tryz.call101 trivial (t:=λa=>Z6n)
abbrev ZIe:List Sh:=[Sh.agg ZY,So Ka]
def ZCV (p:PICT) (l:Int):RT PICT:=
 let x1:=p.2.2.2.2.2.2.2.2.2.2.2.2.2
 .Lf ((p.1,p.2.1,p.2.2.1,p.2.2.2.1,p.2.2.2.2.1,p.2.2.2.2.2.1,p.2.2.2.2.2.2.1,p.2.2.2.2.2.2.2.1,p.2.2.2.2.2.2.2.2.1,p.2.2.2.2.2.2.2.2.2.1,p.2.2.2.2.2.2.2.2.2.2.1,p.2.2.2.2.2.2.2.2.2.2.2.1,l,andI u8 (orI u8 x1.1 (Z4 u8 l p.2.2.2.2.2.2.2.2.2.2.2.2.1)) l,x1.2))
def ZaL (p:PICT) (l:Int):PICT:=(ZCV p l).val
def ZQl:En:=Zf ZIe Z1l (λ_=>none) (λa=>ZaL a.1 a.2)
theorem ZQk:Za prog 174 ZQl:=
 pureQ 31 [] [] ZIe Z1l trivial Tryz.func174 Tryz.call174 trivial (t:=λa=>ZCV a.1 a.2)
abbrev Z1d:List Sh:=[Sh.agg ZY]
def Z3i (p:PICT):RT (Int):=
 .br p.2.1 (.Lf p.2.2.2.2.2.2.2.2.2.2.2.2.1) (.Lf p.2.2.2.2.2.2.2.2.2.2.2.2.2.1)
def vReq (p:PICT):Int:=(Z3i p).val
def Z3j:En:=Zf Z1d ZIn (λ_=>none) (λa=>vReq a)
theorem ZQd:Za prog 338 Z3j:=
 pureQ 7 [] [] Z1d ZIn trivial Tryz.func338 Tryz.call338 trivial (t:=λa=>Z3i a)
def ZCZ (p:PICT):RT (Option (Int)):=
 let x1:=p.2.2.2.2.2.2.2.2.2.2.2.2.2.2
 let x2:=x1.2
 let x3:=x2.1
 let x4:=x1.1
 let x5:=x2.2.1
 .br (Zsm (vReq p) x3 x4 x5 p.2.2.2.2.2.2.2.2.2.1) (Ls (ZCX (vReq p) x3 x4 x5 p.2.2.2.2.2.2.2.2.2.1)) Ln
def vPck (p:PICT):Int:=getO ZQj.Df (ZCZ p).val
def ZrT (p:PICT):Bool:=okB (ZCZ p).val
def ZXY:En:=Zf Z1d ZQj (λa=>some (ZrT a)) (λa=>vPck a)
theorem ZCY:Za prog 333 ZXY:=
 pureP 7 [(338,Z3j),(378,Z1g)] [] Z1d ZQj ⟨ZQd,ZXX,Tv⟩ Tryz.func333 Tryz.call333 trivial (t:=λa=>ZCZ a)
def ZL1 (p:PICT):RT (Option (Bool)):=
 .br (ZrT p) (Ls (decide (vPck p>=0))) Ln
def vInt (p:PICT):Bool:=getO Z3l.Df (ZL1 p).val
def ZL2 (p:PICT):Bool:=okB (ZL1 p).val
def Z6o:En:=Zf Z1d Z3l (λa=>some (ZL2 a)) (λa=>vInt a)
theorem Z3o:Za prog 249 Z6o:=
 pureP 7 [(333,ZXY)] [] Z1d Z3l ⟨ZCY,Tv⟩ Tryz.func249 Tryz.call249 trivial (t:=λa=>ZL1 a)
def ZQu (p:PICT) (v:Int):RT PICT:=
 .Lf ((2,andI u8 v 8 !=0,andI u8 v 4 !=0,andI u8 v 2 !=0,andI u8 v 1 !=0,andI u8 v 224,0,false,false,false,false,false,p.2.2.2.2.2.2.2.2.2.2.2.2.1,0,0,0,7,0,0,false))
def Zl1 (p:PICT) (v:Int):PICT:=(ZQu p v).val
def ZQv:En:=Zf ZIe Z1l (λ_=>none) (λa=>Zl1 a.1 a.2)
theorem ZQt:Za prog 342 ZQv:=
 pureQ 63 [(101,Z3n)] [] ZIe Z1l ⟨ZQp,Tv⟩ Tryz.func342 Tryz.call342 trivial (t:=λa=>ZQu a.1 a.2)
def ZnG (p:PICT) (v:Int):RT PICT:=
 let x1:=p.2.2.2.2.2.2.2.2.2.2.2.2.2
 let x2:=x1.2
 let x3:=x2.2
 let x4:=x3.1
 .Lf ((bif p.1==2 then bif !p.2.2.2.1 then 3 else bif p.2.2.2.2.1 then 4 else 0 else bif p.1==3 then bif p.2.2.2.2.1 then 4 else 0 else bif p.1==4 then 0 else p.1,p.2.1,p.2.2.1,p.2.2.2.1,p.2.2.2.2.1,p.2.2.2.2.2.1,bif p.1==2 then v else p.2.2.2.2.2.2.1,bif p.1==2 then p.2.2.2.2.2.2.2.1 else bif p.1==3 then p.2.2.2.2.2.2.2.1 else bif p.1==4 then andI u8 v 2 !=0 else p.2.2.2.2.2.2.2.1,p.2.2.2.2.2.2.2.2.1,p.2.2.2.2.2.2.2.2.2.1,p.2.2.2.2.2.2.2.2.2.2.1,p.2.2.2.2.2.2.2.2.2.2.2.1,p.2.2.2.2.2.2.2.2.2.2.2.2.1,x1.1,x2.1,bif p.1==2 then x4 else bif p.1==3 then x4 else bif p.1==4 then x4 else v,x3.2))
def ZmF (p:PICT) (v:Int):PICT:=(ZnG p v).val
def Zzo:En:=Zf ZIe Z1l (λ_=>none) (λa=>ZmF a.1 a.2)
theorem ZC2:Za prog 341 Zzo:=
 pureQ 71307327 [] [] ZIe Z1l trivial Tryz.func341 Tryz.call341 trivial (t:=λa=>ZnG a.1 a.2)
def Zsn (p:PICT) (v:Int):RT (Option PICT):=
 let x1:=p.2.2.2.2.2.2.2.2.2.2.2.2.2
 let x2:=x1.2
 let x3:=x2.2
 let x4:=x3.1
 let x5:=x2.1
 let x6:=ZcI x4 x5 p.2.2.2.2.2.2.2.2.2.1
 let x7:=x3.2
 let x8:=x7.1
 let x9:=Zdy x6 x8
 let x10:=decide (x9>=0)
 let x11:= !x10||decide (0<=x9)
 let x12:=shrI u8 v 5==0||(!shrI u8 v 5==1||x11)
 let x13:= !x12
 let x14:=shrI u8 v 5==0||(shrI u8 v 5==1||(!shrI u8 v 5==3||decide (0<=i64.wrap (andI u8 v 7))))
 let x15:= !x14
 let x16:=shrI u8 v 5==0||(shrI u8 v 5==1||(shrI u8 v 5==3||(shrI u8 v 5==4||(!shrI u8 v 5==5||x11))))
 let x17:Int:=bif x10 then Z4 u8 x5 (shlI u8 1 x9) else x5
 let x18:=Z4 u8 x5 (shlI u8 1 (i64.wrap (andI u8 v 7)))
 .br (Zit x6 x8) (.br (x13||(x15||(!x16||(shrI u8 v 5==0||(shrI u8 v 5==1||(shrI u8 v 5==3||(shrI u8 v 5==4||(shrI u8 v 5==5||(shrI u8 v 5==6||(!shrI u8 v 5==7||decide (0<=i64.wrap (andI u8 v 7)))))))))))) (.br (x13||(x15||x16)) (.br (x13||x14) (.br (x12) (Ls ((p.1,p.2.1,p.2.2.1,p.2.2.2.1,p.2.2.2.2.1,p.2.2.2.2.2.1,p.2.2.2.2.2.2.1,p.2.2.2.2.2.2.2.1,!shrI u8 v 5==0&&bif shrI u8 v 5==1 then p.2.2.2.2.2.2.2.2.1 else bif shrI u8 v 5==3 then p.2.2.2.2.2.2.2.2.1 else shrI u8 v 5==4||p.2.2.2.2.2.2.2.2.1,p.2.2.2.2.2.2.2.2.2.1,p.2.2.2.2.2.2.2.2.2.2.1,p.2.2.2.2.2.2.2.2.2.2.2.1,p.2.2.2.2.2.2.2.2.2.2.2.2.1,x1.1,bif shrI u8 v 5==0 then x5 else bif shrI u8 v 5==1 then x17 else bif shrI u8 v 5==3 then x18 else bif shrI u8 v 5==4 then x5 else bif shrI u8 v 5==5 then x17 else bif shrI u8 v 5==6 then x5 else bif shrI u8 v 5==7 then x18 else x5,x4,bif shrI u8 v 5==0 then x8 else bif shrI u8 v 5==1 then x8 else bif shrI u8 v 5==3 then x8 else bif shrI u8 v 5==4 then x8 else bif shrI u8 v 5==5 then bif x10 then x9 else x8 else bif shrI u8 v 5==6 then i64.wrap (andI u8 v 7) else bif shrI u8 v 5==7 then i64.wrap (andI u8 v 7) else x8,x7.2))) Ln) Ln) Ln) Ln) Ln
def ZX1 (p:PICT) (v:Int):PICT:=getO Z1l.Df (Zsn p v).val
def Zso (p:PICT) (v:Int):Bool:=okB (Zsn p v).val
def Z1i:En:=Zf ZIe Z1l (λa=>some (Zso a.1 a.2)) (λa=>ZX1 a.1 a.2)
theorem ZXZ:Za prog 343 Z1i:=
 pureP 4899995593813786751 [(379,ZQs),(380,ZC4)] [] ZIe Z1l ⟨ZIg,Zzq,Tv⟩ Tryz.func343 Tryz.call343 trivial (t:=λa=>Zsn a.1 a.2)
abbrev ZH6:List Sh:=[Sh.agg ZY,So R.bool,So Ka]
def ZkF (p:PICT) (h:Bool) (v:Int):RT (Option PICT):=
 .br (h||(andI u8 v 16 !=0||(!andI u8 v 8==0||Zso p v))) (.br (h) (Ls (ZmF p v)) (.br (andI u8 v 16 !=0) (Ls ((2,(Zl1 p v).2.1,(Zl1 p v).2.2.1,(Zl1 p v).2.2.2.1,(Zl1 p v).2.2.2.2.1,(Zl1 p v).2.2.2.2.2.1,0,false,false,false,false,false,(Zl1 p v).2.2.2.2.2.2.2.2.2.2.2.2.1,0,0,0,7,0,0,false))) (.br (andI u8 v 8==0) (Ls (ZX1 p v)) (Ls ((p.1,p.2.1,p.2.2.1,p.2.2.2.1,p.2.2.2.2.1,p.2.2.2.2.2.1,p.2.2.2.2.2.2.1,p.2.2.2.2.2.2.2.1,p.2.2.2.2.2.2.2.2.1,bif andI u8 v 64 !=0 then andI u8 v 32 !=0 else p.2.2.2.2.2.2.2.2.2.1,bif andI u8 v 2 !=0 then andI u8 v 1 !=0 else p.2.2.2.2.2.2.2.2.2.2.1,p.2.2.2.2.2.2.2.2.2.2.2.1||andI u8 v 4 !=0,p.2.2.2.2.2.2.2.2.2.2.2.2)))))) Ln
def Zby (p:PICT) (h:Bool) (v:Int):PICT:=getO Z1l.Df (ZkF p h v).val
def ZkG (p:PICT) (h:Bool) (v:Int):Bool:=okB (ZkF p h v).val
def ZQa:En:=Zf ZH6 Z1l (λa=>some (ZkG a.1 a.2.1 a.2.2)) (λa=>Zby a.1 a.2.1 a.2.2)
theorem ZP9:Za prog 266 ZQa:=
 pureP 528639 [(341,Zzo),(342,ZQv),(343,Z1i)] [] ZH6 Z1l ⟨ZC2,ZQt,ZXZ,Tv⟩ Tryz.func266 Tryz.call266 trivial (t:=λa=>ZkF a.1 a.2.1 a.2.2)
abbrev ZQb:List Sh:=[Sh.agg ZY,So Kc]
def Zsh (p:PICT) (x:Int):RT (Option PICT):=
 let x1:=p.2.2.2.2.2.2.2.2.2.2.2.2.2
 let x2:=x1.2
 .br (decide (0<=x)) (.br (decide (0<=x)) (Ls ((p.1,p.2.1,p.2.2.1,p.2.2.2.1,p.2.2.2.2.1,p.2.2.2.2.2.1,p.2.2.2.2.2.2.1,p.2.2.2.2.2.2.2.1,p.2.2.2.2.2.2.2.2.1,p.2.2.2.2.2.2.2.2.2.1,p.2.2.2.2.2.2.2.2.2.2.1,p.2.2.2.2.2.2.2.2.2.2.2.1,p.2.2.2.2.2.2.2.2.2.2.2.2.1,Z4 u8 x1.1 (shlI u8 1 x),orI u8 x2.1 (shlI u8 1 x),x2.2))) Ln) Ln
def ZCT (p:PICT) (x:Int):PICT:=getO Z1l.Df (Zsh p x).val
def ZgV (p:PICT) (x:Int):Bool:=okB (Zsh p x).val
def ZQc:En:=Zf ZQb Z1l (λa=>some (ZgV a.1 a.2)) (λa=>ZCT a.1 a.2)
theorem ZH8:Za prog 336 ZQc:=
 pureP 31 [] [] ZQb Z1l trivial Tryz.func336 Tryz.call336 trivial (t:=λa=>Zsh a.1 a.2)
def Zzp (p:PICT) (x:Int):RT (Option PICT):=
 let x1:=p.2.2.2.2.2.2.2.2.2.2.2.2.2
 let x2:=x1.2
 let x3:=x2.2
 let x4:=x3.2
 .br (decide (0<=x)) (Ls ((p.1,p.2.1,p.2.2.1,p.2.2.2.1,p.2.2.2.2.1,p.2.2.2.2.2.1,p.2.2.2.2.2.2.1,p.2.2.2.2.2.2.2.1,p.2.2.2.2.2.2.2.2.1,p.2.2.2.2.2.2.2.2.2.1,p.2.2.2.2.2.2.2.2.2.2.1,p.2.2.2.2.2.2.2.2.2.2.2.1,p.2.2.2.2.2.2.2.2.2.2.2.2.1,x1.1,Z4 u8 x2.1 (shlI u8 1 x),x3.1,bif p.2.2.2.2.2.2.2.2.1 then x else x4.1,x4.2))) Ln
def ZL4 (p:PICT) (x:Int):PICT:=getO Z1l.Df (Zzp p x).val
def Ziu (p:PICT) (x:Int):Bool:=okB (Zzp p x).val
def ZQx:En:=Zf ZQb Z1l (λa=>some (Ziu a.1 a.2)) (λa=>ZL4 a.1 a.2)
theorem ZIk:Za prog 337 ZQx:=
 pureP 31 [] [] ZQb Z1l trivial Tryz.func337 Tryz.call337 trivial (t:=λa=>Zzp a.1 a.2)
abbrev ZQe:List Sh:=[Sh.agg ZY,So R.bool]
abbrev ZCU:Rs:=Rs.tup [Sh.agg ZY,So Ka]
def Zsk (p:PICT) (h:Bool):RT (Option (PICT×Int)):=
 let x1:= !p.2.2.2.2.2.2.2.2.2.2.2.1
 let x2:=h||(x1||ZrT p)
 let x3:= !x2
 let x4:PICT:=(p.1,p.2.1,p.2.2.1,p.2.2.2.1,p.2.2.2.2.1,p.2.2.2.2.2.1,p.2.2.2.2.2.2.1,p.2.2.2.2.2.2.2.1,p.2.2.2.2.2.2.2.2.1,p.2.2.2.2.2.2.2.2.2.1,p.2.2.2.2.2.2.2.2.2.2.1,false,p.2.2.2.2.2.2.2.2.2.2.2.2)
 let x5:=ZgV x4 (vPck p)
 let x6:=ZCT x4 (vPck p)
 let x7:=x6.2
 let x8:=x7.2
 let x9:=x8.2
 let x10:=x9.2
 let x11:=x10.2
 let x12:=x11.2
 let x13:=x12.2
 let x14:=x13.1
 let x15:=p.2.2.2.2.2.2.2.2.2.2.2.2.2.2
 let x16:=ZL4 x6 (vPck p)
 .br (x3||(h||(x1||(decide (vPck p<0)||(!x5||(!x14||Ziu x6 (vPck p))))))) (.br (x3||(h||(x1||(decide (vPck p<0)||x5)))) (.br (x2) (.br (h) (Ls ((p,x15.2.1))) (.br p.2.2.2.2.2.2.2.2.2.2.2.1 (.br (decide (vPck p<0)) (Ls ((x4,0))) (Ls (((R.sel ZY x14 x16 x6),u8.wrap (i64.wrap (128+vPck p)))))) (.br p.2.2.2.2.2.2.2.2.2.2.1 (Ls ((p,x15.1))) (Ls ((p,vReq p)))))) Ln) Ln) Ln
def ZkJ (p:PICT) (h:Bool):PICT×Int:=getO ZCU.Df (Zsk p h).val
def Zsl (p:PICT) (h:Bool):Bool:=okB (Zsk p h).val
def Z1f:En:=Zf ZQe ZCU (λa=>some (Zsl a.1 a.2)) (λa=>ZkJ a.1 a.2)
theorem ZXW:Za prog 257 Z1f:=
 pureP 8589938943 [(333,ZXY),(336,ZQc),(337,ZQx),(338,Z3j)] [] ZQe ZCU ⟨ZCY,ZH8,ZIk,ZQd,Tv⟩ Tryz.func257 Tryz.call257 trivial (t:=λa=>Zsk a.1 a.2)
def ZL5 (p:PICT):RT (Option (PICT×Int)):=
 let x1:=p.2.2.2.2.2.2.2.2.2.2.2.2.2
 let x2:=x1.2
 let x3:=x2.2
 let x4:=x3.2
 let x5:=x4.2
 let x6:=x5.1
 let x7:=x6==0
 let x8:= !x7
 let x9:=x8||ZrT p
 let x10:=p.2.2.2.2.2.2.2.2.2.2.2.2.1
 let x11:=x1.1
 let x12:=x2.1
 let x13:=x3.1
 let x14:=x4.1
 let x15:PICT:=(p.1,p.2.1,p.2.2.1,p.2.2.2.1,p.2.2.2.2.1,p.2.2.2.2.2.1,p.2.2.2.2.2.2.1,p.2.2.2.2.2.2.2.1,p.2.2.2.2.2.2.2.2.1,p.2.2.2.2.2.2.2.2.2.1,p.2.2.2.2.2.2.2.2.2.2.1,p.2.2.2.2.2.2.2.2.2.2.2.1,x10,x11,x12,x13,x14,1,7,true)
 let x16:=ZCT x15 (vPck p)
 let x17:=x16.2
 let x18:=x17.2
 let x19:=x18.2
 let x20:=x19.2
 let x21:=x20.2
 let x22:=x21.2
 let x23:=x22.2
 let x24:=x23.2
 let x25:=x24.2
 let x26:=x25.2
 let x27:=x26.2
 let x28:=x27.2
 let x29:=x28.2
 let x30:=x29.2
 let x31:=x30.2
 let x32:=x31.2
 let x33:=x5.2
 let x34:PICT:=(p.1,p.2.1,p.2.2.1,p.2.2.2.1,p.2.2.2.2.1,p.2.2.2.2.2.1,p.2.2.2.2.2.2.1,p.2.2.2.2.2.2.2.1,p.2.2.2.2.2.2.2.2.1,p.2.2.2.2.2.2.2.2.2.1,p.2.2.2.2.2.2.2.2.2.2.1,p.2.2.2.2.2.2.2.2.2.2.2.1,x10,x11,x12,x13,x14,2,x33)
 let x35:=x33.1
 let x36:=andI i64 x35 7
 let x37:=x33.2
 let x38:=p.2.2.2.2.2.2.2.1&& !x37
 let x39:PICT:=(p.1,p.2.1,p.2.2.1,p.2.2.2.1,p.2.2.2.2.1,p.2.2.2.2.2.1,p.2.2.2.2.2.2.1,p.2.2.2.2.2.2.2.1,p.2.2.2.2.2.2.2.2.1,p.2.2.2.2.2.2.2.2.2.1,p.2.2.2.2.2.2.2.2.2.2.1,p.2.2.2.2.2.2.2.2.2.2.2.1,x10,x11,x12,x13,x14,0,x33)
 let x40:=ZL4 x39 x36
 let x41:=x40.2
 let x42:=x41.2
 let x43:=x42.2
 let x44:=x43.2
 let x45:=x44.2
 let x46:=x45.2
 let x47:Int:=bif x38 then x46.1 else p.2.2.2.2.2.2.1
 let x48:=x46.2
 let x49:=x48.2
 let x50:=x49.2
 let x51:=x50.2
 let x52:=x51.2
 let x53:=x52.2
 let x54:=x53.2
 let x55:=x54.2
 let x56:=x55.2
 let x57:=x56.2
 let x58:=x57.2
 let x59:=x58.2
 .br (!x9||(x8||(!decide (vPck p>=0)||ZgV x15 (vPck p)))) (.br (x9) (.br (x7) (Ls (((bif decide (vPck p>=0) then x16.1 else p.1,bif decide (vPck p>=0) then x17.1 else p.2.1,bif decide (vPck p>=0) then x18.1 else p.2.2.1,bif decide (vPck p>=0) then x19.1 else p.2.2.2.1,bif decide (vPck p>=0) then x20.1 else p.2.2.2.2.1,bif decide (vPck p>=0) then x21.1 else p.2.2.2.2.2.1,bif decide (vPck p>=0) then x22.1 else p.2.2.2.2.2.2.1,bif decide (vPck p>=0) then x23.1 else p.2.2.2.2.2.2.2.1,bif decide (vPck p>=0) then x24.1 else p.2.2.2.2.2.2.2.2.1,bif decide (vPck p>=0) then x25.1 else p.2.2.2.2.2.2.2.2.2.1,bif decide (vPck p>=0) then x26.1 else p.2.2.2.2.2.2.2.2.2.2.1,bif decide (vPck p>=0) then x27.1 else p.2.2.2.2.2.2.2.2.2.2.2.1,bif decide (vPck p>=0) then x28.1 else x10,bif decide (vPck p>=0) then x29.1 else x11,bif decide (vPck p>=0) then x30.1 else x12,bif decide (vPck p>=0) then x31.1 else x13,bif decide (vPck p>=0) then x32.1 else x14,bif decide (vPck p>=0) then x32.2.1 else 1,bif decide (vPck p>=0) then vPck p else 7,!decide (vPck p>=0)),205))) (.br (x6==1) (.br p.2.2.1 (Ls ((x34,u8.wrap (andI u8 p.2.2.2.2.2.1 224+u8.wrap (i64.wrap (4*x36)))))) (Ls ((x34,u8.wrap (andI u8 p.2.2.2.2.2.1 192+u8.wrap (i64.wrap (8*x36))))))) (.br (!x38||Ziu x39 x36) (Ls (((bif x38 then x40.1 else p.1,bif x38 then x41.1 else p.2.1,bif x38 then x42.1 else p.2.2.1,bif x38 then x43.1 else p.2.2.2.1,bif x38 then x44.1 else p.2.2.2.2.1,bif x38 then x45.1 else p.2.2.2.2.2.1,x47,bif x38 then x48.1 else p.2.2.2.2.2.2.2.1,bif x38 then x49.1 else p.2.2.2.2.2.2.2.2.1,bif x38 then x50.1 else p.2.2.2.2.2.2.2.2.2.1,bif x38 then x51.1 else p.2.2.2.2.2.2.2.2.2.2.1,bif x38 then x52.1 else p.2.2.2.2.2.2.2.2.2.2.2.1,bif x38 then x53.1 else x10,bif x38 then x54.1 else x11,bif x38 then x55.1 else x12,bif x38 then x56.1 else x13,bif x38 then x57.1 else x14,bif x38 then x58.1 else 0,bif x38 then x59.1 else x35,bif x38 then x59.2 else x37),x47))) Ln))) Ln) Ln
def vAck (p:PICT):PICT×Int:=getO ZCU.Df (ZL5 p).val
def ZL6 (p:PICT):Bool:=okB (ZL5 p).val
def Z6p:En:=Zf Z1d ZCU (λa=>some (ZL6 a)) (λa=>vAck a)
theorem Z3r:Za prog 256 Z6p:=
 pureP 134219839 [(333,ZXY),(336,ZQc),(337,ZQx)] [] Z1d ZCU ⟨ZCY,ZH8,ZIk,Tv⟩ Tryz.func256 Tryz.call256 trivial (t:=λa=>ZL5 a)
abbrev Zzl:List Sh:=[Sh.agg (R.Pq Kb (R.Pq Ka Kc)),So Kc,So Ka]
abbrev Zzm:Rs:=Rs.one (Sh.agg (R.Pq Kb (R.Pq Ka Kc)))
def Zuj (d:QT4) (r:Int) (v:Int):RT (QT4):=
 .Lf ((bif andI i64 r 3==0 then orI u16 (andI u16 d.1 65280) (u16.wrap v) else bif andI i64 r 3==1 then orI u16 (andI u16 d.1 255) (shlI u16 (u16.wrap v) 8) else d.1,bif andI i64 r 3==0 then d.2.1 else bif andI i64 r 3==1 then d.2.1 else bif andI i64 r 3==2 then v else d.2.1,bif andI i64 r 3==0 then d.2.2 else bif andI i64 r 3==1 then d.2.2 else bif andI i64 r 3==2 then d.2.2 else i64.wrap v))
def ZeA (d:QT4) (r:Int) (v:Int):QT4:=(Zuj d r v).val
def ZH7:En:=Zf Zzl Zzm (λ_=>none) (λa=>ZeA a.1 a.2.1 a.2.2)
theorem ZL0:Za prog 267 ZH7:=
 pureQ 2149585023 [] [] Zzl Zzm trivial Tryz.func267 Tryz.call267 trivial (t:=λa=>Zuj a.1 a.2.1 a.2.2)
abbrev ZIb:List Sh:=[Sh.agg (R.Pq Kb (R.Pq Ka Kc)),So Kc]
def ZkH (d:QT4) (r:Int):RT (Option (Int)):=
 .br (decide (0<=andI i64 r 3/\andI i64 r 3<4)) (Ls (bif andI i64 r 3==0 then u8.wrap d.1 else bif andI i64 r 3==iN (0+1) then u8.wrap (shrI u16 d.1 8) else bif andI i64 r 3==iN (0+1+1) then d.2.1 else u8.wrap d.2.2)) Ln
def Zis (d:QT4) (r:Int):Int:=getO ZIn.Df (ZkH d r).val
def ZkI (d:QT4) (r:Int):Bool:=okB (ZkH d r).val
def ZQh:En:=Zf ZIb ZIn (λa=>some (ZkI a.1 a.2)) (λa=>Zis a.1 a.2)
theorem ZQf:Za prog 258 ZQh:=
 pureP 31 [] [] ZIb ZIn trivial Tryz.func258 Tryz.call258 trivial (t:=λa=>ZkH a.1 a.2)
abbrev Zsi:List Sh:=[Sh.agg (R.Pq Kb (R.Pq Ka Kc))]
def ZnE (d:QT4):RT (Bool):=
 .Lf (decide (d.2.2>0))
def ZM (d:QT4):Bool:=(ZnE d).val
def ZnF:En:=Zf Zsi Z3l (λ_=>none) (λa=>ZM a)
theorem ZnD:Za prog 251 ZnF:=
 pureQ 7 [] [] Zsi Z3l trivial Tryz.func251 Tryz.call251 trivial (t:=λa=>ZnE a)
abbrev ZnC:Rs:=Rs.tup [Sh.agg (R.Pq Kb (R.Pq Ka Kc)),Sh.agg (R.Pq Kb Ka),So R.bool]
def ZfL (d:QT4):RT ((QT4)×(Int×Int)×Bool):=
 .br (!ZM d) (.Lf (((0,0,0),(0,0),false))) (.Lf (((u16.wrap (d.1+1),d.2.1,i64.wrap (d.2.2-1)),(d.1,d.2.1),true)))
def Zcb (d:QT4):(QT4)×(Int×Int)×Bool:=(ZfL d).val
def Zsg:En:=Zf Zsi ZnC (λ_=>none) (λa=>Zcb a)
theorem Zzn:Za prog 181 Zsg:=
 pureQ 63 [(251,ZnF)] [] Zsi ZnC ⟨ZnD,Tv⟩ Tryz.func181 Tryz.call181 trivial (t:=λa=>ZfL a)
