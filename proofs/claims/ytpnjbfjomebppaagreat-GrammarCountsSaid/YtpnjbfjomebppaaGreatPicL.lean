import Derived.Test.YtpnjbfjomebppaaGreatProg
import Derived.Test.YtpnjbfjomebppaaGreatS3Box1
open Go.Proofs.Tryz (prog)
open Go.IntKind (u8 u16 i64)
set_option linter.unusedSimpArgs false
open Go Go.S3 Go.Proofs
set_option linter.unusedVariables false
set_option maxRecDepth 100000
namespace Go.Proofs.YtpnjbfjomebppaaGreat
noncomputable section
abbrev ZM4:List Sh:=[Sh.one (R.int u8),Sh.one (R.int i64)]
abbrev ZLi:Rs:=Rs.one (Sh.one R.bool)
def vOnT (s:Int) (l:Int):RT (Option (Bool)):=
 .br (decide (0<=l)) (.Lf (some (andI u8 (shrI u8 s l) 1==1))) (.Lf none)
def vOn (s:Int) (l:Int):Bool:=getO ZLi.Df (vOnT s l).val
def vOnC (s:Int) (l:Int):Bool:=okB (vOnT s l).val
def vOnE:En:=Zi ZM4 ZLi (λa=>some (vOnC a.1 a.2)) (λa=>vOn a.1 a.2)
theorem ZJQ:Zd prog 391 vOnE:=
 pureP 31 [] [] ZM4 ZLi trivial Tryz.func391 Tryz.call391 trivial (t:=λa=>vOnT a.1 a.2)
abbrev ZDe:List Sh:=[Sh.one (R.int i64),Sh.one (R.int i64)]
abbrev ZDf:Rs:=Rs.one (Sh.one (R.int i64))
def ZJM (l:Int) (k:Int):RT (Int):=
 .Lf (andI i64 (i64.wrap (i64.wrap (andI i64 l 7-andI i64 k 7)+15)) 7)
def ZhQ (l:Int) (k:Int):Int:=(ZJM l k).val
def ZxD:En:=Zi ZDe ZDf (λ_=>none) (λa=>ZhQ a.1 a.2)
theorem Zn8:Zd prog 390 ZxD:=
 pureQ 31 [] [] ZDe ZDf trivial Tryz.func390 Tryz.call390 trivial (t:=λa=>ZJM a.1 a.2)
abbrev ZDq:List Sh:=[Sh.one (R.int u8),Sh.one (R.int i64)]
abbrev Zur:Rs:=Rs.one (Sh.one (R.int i64))
def ZHQ:LS:={n:=29,Sl:=[(0,.code (Sh.one (R.int u8))),(1,.code (Sh.one (R.int i64))),(5,.code (Sh.one (R.int i64))),(6,.code (Sh.one (R.int i64)))],Bx:=[],Sg:=[]}
def ZgK (a:Int×Int×Int×Int×PUnit):RT (Option (Go1 (Int×Int×Int×Int×PUnit))):=
 .br (decide (a.2.2.2.1<8)) (.br (vOnC a.1 a.2.2.2.1) (.Lf (some (Go1.cont (a.1,a.2.1,bif vOn a.1 a.2.2.2.1&&(decide (a.2.2.1<0)||decide (ZhQ a.2.2.2.1 a.2.1<ZhQ a.2.2.1 a.2.1)) then a.2.2.2.1 else a.2.2.1,i64.wrap (a.2.2.2.1+1),PUnit.unit)))) (.Lf none)) (.Lf (some (Go1.brk (a.1,a.2.1,a.2.2.1,a.2.2.2.1,PUnit.unit))))
def ZxK:Ora:=ZcQ false ZHQ ZgK (λa=>9)
theorem ZAk:Zb6 (envX prog [(390,ZxD),(391,vOnE)] [] 127 8) (.block 0 (.loop (ZaU Tryz.f379.body 0))) ZxK:=
 loopP ⟨Zn8,ZJQ,Tv⟩
def Zq9 (s:Int) (k:Int):RT (Option (Int)):=
 let x1:=runF false ZgK (λa=>9) (s,k,-1,0,())
 .br (okB x1) (.Lf (some (getO (false,s,k,-1,0,()) x1).2.2.2.1)) (.Lf none)
def Zgh (s:Int) (k:Int):Int:=getO Zur.Df (Zq9 s k).val
def ZmD (s:Int) (k:Int):Bool:=okB (Zq9 s k).val
def ZDr:En:=Zi ZDq Zur (λa=>some (ZmD a.1 a.2)) (λa=>Zgh a.1 a.2)
theorem ZxJ:Zd prog 379 ZDr:=
 pureP 127 [(390,ZxD),(391,vOnE)] [(0,ZxK)] ZDq Zur ⟨Zn8,ZJQ,Tv⟩ Tryz.func379 Tryz.call379 ⟨ZAk,Tv⟩ (t:=λa=>Zq9 a.1 a.2)
abbrev ZxR:List Sh:=[Sh.one (R.int u8),Sh.one (R.int u8),Sh.one R.bool]
abbrev ZxS:Rs:=Rs.one (Sh.one (R.int u8))
def ZDx (m:Int) (s:Int) (p:Bool):RT (Int):=
 .br (p) (.Lf (Zb1 u8 s m)) (.Lf (s))
def ZiF (m:Int) (s:Int) (p:Bool):Int:=(ZDx m s p).val
def Zuu:En:=Zi ZxR ZxS (λ_=>none) (λa=>ZiF a.1 a.2.1 a.2.2)
theorem Zrc:Zd prog 380 Zuu:=
 pureQ 127 [] [] ZxR ZxS trivial Tryz.func380 Tryz.call380 trivial (t:=λa=>ZDx a.1 a.2.1 a.2.2)
abbrev ZDj:List Sh:=[Sh.one (R.int u8),Sh.one (R.int u8),Sh.one (R.int u8),Sh.one (R.int i64),Sh.one R.bool]
abbrev Zun:Rs:=Rs.one (Sh.one (R.int i64))
def Zq8 (r:Int) (m:Int) (s:Int) (k:Int) (p:Bool):RT (Option (Int)):=
 .br (ZmD (Zb1 u8 r m) k) (.br (ZmD (ZiF m s p) k) (.br (decide (Zgh (Zb1 u8 r m) k>=0)&&(decide (Zgh (ZiF m s p) k<0)||decide (ZhQ (Zgh (Zb1 u8 r m) k) k<ZhQ (Zgh (ZiF m s p) k) k))) (.Lf (some (Zgh (Zb1 u8 r m) k))) (.Lf (some (-1)))) (.Lf none)) (.Lf none)
def ZLh (r:Int) (m:Int) (s:Int) (k:Int) (p:Bool):Int:=getO Zun.Df (Zq8 r m s k p).val
def ZDk (r:Int) (m:Int) (s:Int) (k:Int) (p:Bool):Bool:=okB (Zq8 r m s k p).val
def ZJN:En:=Zi ZDj Zun (λa=>some (ZDk a.1 a.2.1 a.2.2.1 a.2.2.2.1 a.2.2.2.2)) (λa=>ZLh a.1 a.2.1 a.2.2.1 a.2.2.2.1 a.2.2.2.2)
theorem ZHK:Zd prog 378 ZJN:=
 pureP 8191 [(379,ZDr),(380,Zuu),(390,ZxD)] [] ZDj Zun ⟨ZxJ,Zrc,Zn8,Tv⟩ Tryz.func378 Tryz.call378 trivial (t:=λa=>Zq8 a.1 a.2.1 a.2.2.1 a.2.2.2.1 a.2.2.2.2)
abbrev ZJR:List Sh:=[]
abbrev ZJS:Rs:=Rs.one (Sh.agg ZaQ)
def ZM5:RT PICT:=
 .Lf ((0,false,false,false,false,0,0,false,false,false,false,false,0,0,0,0,7,0,0,false))
def vNew:PICT:=(ZM5).val
def ZLk:En:=Zi ZJR ZJS (λ_=>none) (λa=>vNew)
theorem ZDo:Zd prog 101 ZLk:=
 pureQ 1 [] [] ZJR ZJS trivial Tryz.func101 Tryz.call101 trivial (t:=λa=>ZM5)
abbrev ZxE:List Sh:=[Sh.agg ZaQ,Sh.one (R.int u8)]
abbrev ZxF:Rs:=Rs.one (Sh.agg ZaQ)
def ZDh (p:PICT) (l:Int):RT PICT:=
 let x1:=p.2.2.2.2.2.2.2.2.2.2.2.2.2
 .Lf ((p.1,p.2.1,p.2.2.1,p.2.2.2.1,p.2.2.2.2.1,p.2.2.2.2.2.1,p.2.2.2.2.2.2.1,p.2.2.2.2.2.2.2.1,p.2.2.2.2.2.2.2.2.1,p.2.2.2.2.2.2.2.2.2.1,p.2.2.2.2.2.2.2.2.2.2.1,p.2.2.2.2.2.2.2.2.2.2.2.1,l,andI u8 (orI u8 x1.1 (Zb1 u8 l p.2.2.2.2.2.2.2.2.2.2.2.2.1)) l,x1.2))
def ZxG (p:PICT) (l:Int):PICT:=(ZDh p l).val
def ZDi:En:=Zi ZxE ZxF (λ_=>none) (λa=>ZxG a.1 a.2)
theorem ZDg:Zd prog 174 ZDi:=
 pureQ 31 [] [] ZxE ZxF trivial Tryz.func174 Tryz.call174 trivial (t:=λa=>ZDh a.1 a.2)
abbrev ZJJ:List Sh:=[Sh.agg ZaQ]
abbrev ZJK:Rs:=Rs.one (Sh.one (R.int u8))
def ZM2 (p:PICT):RT (Int):=
 .br p.2.1 (.Lf p.2.2.2.2.2.2.2.2.2.2.2.2.1) (.Lf p.2.2.2.2.2.2.2.2.2.2.2.2.2.1)
def vReq (p:PICT):Int:=(ZM2 p).val
def ZLg:En:=Zi ZJJ ZJK (λ_=>none) (λa=>vReq a)
theorem ZC8:Zd prog 338 ZLg:=
 pureQ 7 [] [] ZJJ ZJK trivial Tryz.func338 Tryz.call338 trivial (t:=λa=>ZM2 a)
abbrev ZJO:List Sh:=[Sh.agg ZaQ]
abbrev ZDm:Rs:=Rs.one (Sh.one (R.int i64))
def ZDl (p:PICT):RT (Option (Int)):=
 let x1:=p.2.2.2.2.2.2.2.2.2.2.2.2.2.2
 let x2:=x1.2
 let x3:=x2.1
 let x4:=x1.1
 let x5:=x2.2.1
 .br (ZDk (vReq p) x3 x4 x5 p.2.2.2.2.2.2.2.2.2.1) (.Lf (some (ZLh (vReq p) x3 x4 x5 p.2.2.2.2.2.2.2.2.2.1))) (.Lf none)
def vPck (p:PICT):Int:=getO ZDm.Df (ZDl p).val
def ZAj (p:PICT):Bool:=okB (ZDl p).val
def ZHL:En:=Zi ZJO ZDm (λa=>some (ZAj a)) (λa=>vPck a)
theorem Zuo:Zd prog 333 ZHL:=
 pureP 7 [(338,ZLg),(378,ZJN)] [] ZJO ZDm ⟨ZC8,ZHK,Tv⟩ Tryz.func333 Tryz.call333 trivial (t:=λa=>ZDl a)
abbrev ZJT:List Sh:=[Sh.agg ZaQ]
abbrev ZDp:Rs:=Rs.one (Sh.one R.bool)
def ZHO (p:PICT):RT (Option (Bool)):=
 .br (ZAj p) (.Lf (some (decide (vPck p>=0)))) (.Lf none)
def vInt (p:PICT):Bool:=getO ZDp.Df (ZHO p).val
def ZHP (p:PICT):Bool:=okB (ZHO p).val
def ZM6:En:=Zi ZJT ZDp (λa=>some (ZHP a)) (λa=>vInt a)
theorem ZLl:Zd prog 249 ZM6:=
 pureP 7 [(333,ZHL)] [] ZJT ZDp ⟨Zuo,Tv⟩ Tryz.func249 Tryz.call249 trivial (t:=λa=>ZHO a)
abbrev ZxM:List Sh:=[Sh.agg ZaQ,Sh.one (R.int u8)]
abbrev ZxN:Rs:=Rs.one (Sh.agg ZaQ)
def ZDt (p:PICT) (v:Int):RT PICT:=
 .Lf ((2,andI u8 v 8 !=0,andI u8 v 4 !=0,andI u8 v 2 !=0,andI u8 v 1 !=0,andI u8 v 224,0,false,false,false,false,false,p.2.2.2.2.2.2.2.2.2.2.2.2.1,0,0,0,7,0,0,false))
def ZjM (p:PICT) (v:Int):PICT:=(ZDt p v).val
def ZDu:En:=Zi ZxM ZxN (λ_=>none) (λa=>ZjM a.1 a.2)
theorem ZDs:Zd prog 342 ZDu:=
 pureQ 63 [(101,ZLk)] [] ZxM ZxN ⟨ZDo,Tv⟩ Tryz.func342 Tryz.call342 trivial (t:=λa=>ZDt a.1 a.2)
abbrev ZmE:List Sh:=[Sh.agg ZaQ,Sh.one (R.int u8)]
abbrev ZmF:Rs:=Rs.one (Sh.agg ZaQ)
def Zra (p:PICT) (v:Int):RT PICT:=
 let x1:=p.2.2.2.2.2.2.2.2.2.2.2.2.2
 let x2:=x1.2
 let x3:=x2.2
 let x4:=x3.1
 .Lf ((bif p.1==2 then bif !p.2.2.2.1 then 3 else bif p.2.2.2.2.1 then 4 else 0 else bif p.1==3 then bif p.2.2.2.2.1 then 4 else 0 else bif p.1==4 then 0 else p.1,p.2.1,p.2.2.1,p.2.2.2.1,p.2.2.2.2.1,p.2.2.2.2.2.1,bif p.1==2 then v else p.2.2.2.2.2.2.1,bif p.1==2 then p.2.2.2.2.2.2.2.1 else bif p.1==3 then p.2.2.2.2.2.2.2.1 else bif p.1==4 then andI u8 v 2 !=0 else p.2.2.2.2.2.2.2.1,p.2.2.2.2.2.2.2.2.1,p.2.2.2.2.2.2.2.2.2.1,p.2.2.2.2.2.2.2.2.2.2.1,p.2.2.2.2.2.2.2.2.2.2.2.1,p.2.2.2.2.2.2.2.2.2.2.2.2.1,x1.1,x2.1,bif p.1==2 then x4 else bif p.1==3 then x4 else bif p.1==4 then x4 else v,x3.2))
def ZxL (p:PICT) (v:Int):PICT:=(Zra p v).val
def Zrb:En:=Zi ZmE ZmF (λ_=>none) (λa=>ZxL a.1 a.2)
theorem Zus:Zd prog 341 Zrb:=
 pureQ 71307327 [] [] ZmE ZmF trivial Tryz.func341 Tryz.call341 trivial (t:=λa=>Zra a.1 a.2)
abbrev ZDn:List Sh:=[Sh.agg ZaQ,Sh.one (R.int u8)]
abbrev Zuq:Rs:=Rs.one (Sh.agg ZaQ)
def ZxH (p:PICT) (v:Int):RT (Option PICT):=
 let x1:=p.2.2.2.2.2.2.2.2.2.2.2.2.2
 let x2:=x1.2
 let x3:=x2.2
 let x4:=x3.1
 let x5:=x2.1
 let x6:=ZiF x4 x5 p.2.2.2.2.2.2.2.2.2.1
 let x7:=x3.2
 let x8:=x7.1
 let x9:=Zgh x6 x8
 let x10:=decide (x9>=0)
 let x11:= !x10||decide (0<=x9)
 let x12:=shrI u8 v 5==0||(!shrI u8 v 5==1||x11)
 let x13:= !x12
 let x14:=shrI u8 v 5==0||(shrI u8 v 5==1||(!shrI u8 v 5==3||decide (0<=i64.wrap (andI u8 v 7))))
 let x15:= !x14
 let x16:=shrI u8 v 5==0||(shrI u8 v 5==1||(shrI u8 v 5==3||(shrI u8 v 5==4||(!shrI u8 v 5==5||x11))))
 let x17:Int:=bif x10 then Zb1 u8 x5 (shlI u8 1 x9) else x5
 let x18:=Zb1 u8 x5 (shlI u8 1 (i64.wrap (andI u8 v 7)))
 .br (ZmD x6 x8) (.br (x13||(x15||(!x16||(shrI u8 v 5==0||(shrI u8 v 5==1||(shrI u8 v 5==3||(shrI u8 v 5==4||(shrI u8 v 5==5||(shrI u8 v 5==6||(!shrI u8 v 5==7||decide (0<=i64.wrap (andI u8 v 7)))))))))))) (.br (x13||(x15||x16)) (.br (x13||x14) (.br (x12) (.Lf (some ((p.1,p.2.1,p.2.2.1,p.2.2.2.1,p.2.2.2.2.1,p.2.2.2.2.2.1,p.2.2.2.2.2.2.1,p.2.2.2.2.2.2.2.1,!shrI u8 v 5==0&&bif shrI u8 v 5==1 then p.2.2.2.2.2.2.2.2.1 else bif shrI u8 v 5==3 then p.2.2.2.2.2.2.2.2.1 else shrI u8 v 5==4||p.2.2.2.2.2.2.2.2.1,p.2.2.2.2.2.2.2.2.2.1,p.2.2.2.2.2.2.2.2.2.2.1,p.2.2.2.2.2.2.2.2.2.2.2.1,p.2.2.2.2.2.2.2.2.2.2.2.2.1,x1.1,bif shrI u8 v 5==0 then x5 else bif shrI u8 v 5==1 then x17 else bif shrI u8 v 5==3 then x18 else bif shrI u8 v 5==4 then x5 else bif shrI u8 v 5==5 then x17 else bif shrI u8 v 5==6 then x5 else bif shrI u8 v 5==7 then x18 else x5,x4,bif shrI u8 v 5==0 then x8 else bif shrI u8 v 5==1 then x8 else bif shrI u8 v 5==3 then x8 else bif shrI u8 v 5==4 then x8 else bif shrI u8 v 5==5 then bif x10 then x9 else x8 else bif shrI u8 v 5==6 then i64.wrap (andI u8 v 7) else bif shrI u8 v 5==7 then i64.wrap (andI u8 v 7) else x8,x7.2)))) (.Lf none)) (.Lf none)) (.Lf none)) (.Lf none)) (.Lf none)
def ZM3 (p:PICT) (v:Int):PICT:=getO Zuq.Df (ZxH p v).val
def ZxI (p:PICT) (v:Int):Bool:=okB (ZxH p v).val
def ZJP:En:=Zi ZDn Zuq (λa=>some (ZxI a.1 a.2)) (λa=>ZM3 a.1 a.2)
theorem ZHM:Zd prog 343 ZJP:=
 pureP 4899995593813786751 [(379,ZDr),(380,Zuu)] [] ZDn Zuq ⟨ZxJ,Zrc,Tv⟩ Tryz.func343 Tryz.call343 trivial (t:=λa=>ZxH a.1 a.2)
abbrev Zxu:List Sh:=[Sh.agg ZaQ,Sh.one R.bool,Sh.one (R.int u8)]
abbrev Zn3:Rs:=Rs.one (Sh.agg ZaQ)
def Zn2 (p:PICT) (h:Bool) (v:Int):RT (Option PICT):=
 .br (h||(andI u8 v 16 !=0||(!andI u8 v 8==0||ZxI p v))) (.br (h) (.Lf (some (ZxL p v))) (.br (andI u8 v 16 !=0) (.Lf (some ((2,(ZjM p v).2.1,(ZjM p v).2.2.1,(ZjM p v).2.2.2.1,(ZjM p v).2.2.2.2.1,(ZjM p v).2.2.2.2.2.1,0,false,false,false,false,false,(ZjM p v).2.2.2.2.2.2.2.2.2.2.2.2.1,0,0,0,7,0,0,false)))) (.br (andI u8 v 8==0) (.Lf (some (ZM3 p v))) (.Lf (some ((p.1,p.2.1,p.2.2.1,p.2.2.2.1,p.2.2.2.2.1,p.2.2.2.2.2.1,p.2.2.2.2.2.2.1,p.2.2.2.2.2.2.2.1,p.2.2.2.2.2.2.2.2.1,bif andI u8 v 64 !=0 then andI u8 v 32 !=0 else p.2.2.2.2.2.2.2.2.2.1,bif andI u8 v 2 !=0 then andI u8 v 1 !=0 else p.2.2.2.2.2.2.2.2.2.2.1,p.2.2.2.2.2.2.2.2.2.2.2.1||andI u8 v 4 !=0,p.2.2.2.2.2.2.2.2.2.2.2.2))))))) (.Lf none)
def ZC5 (p:PICT) (h:Bool) (v:Int):PICT:=getO Zn3.Df (Zn2 p h v).val
def Zn4 (p:PICT) (h:Bool) (v:Int):Bool:=okB (Zn2 p h v).val
def ZC4:En:=Zi Zxu Zn3 (λa=>some (Zn4 a.1 a.2.1 a.2.2)) (λa=>ZC5 a.1 a.2.1 a.2.2)
theorem ZC2:Zd prog 266 ZC4:=
 pureP 528639 [(341,Zrb),(342,ZDu),(343,ZJP)] [] Zxu Zn3 ⟨Zus,ZDs,ZHM,Tv⟩ Tryz.func266 Tryz.call266 trivial (t:=λa=>Zn2 a.1 a.2.1 a.2.2)
abbrev ZC6:List Sh:=[Sh.agg ZaQ,Sh.one (R.int i64)]
abbrev Zul:Rs:=Rs.one (Sh.agg ZaQ)
def Zxz (p:PICT) (x:Int):RT (Option PICT):=
 let x1:=p.2.2.2.2.2.2.2.2.2.2.2.2.2
 let x2:=x1.2
 .br (decide (0<=x)) (.br (decide (0<=x)) (.Lf (some ((p.1,p.2.1,p.2.2.1,p.2.2.2.1,p.2.2.2.2.1,p.2.2.2.2.2.1,p.2.2.2.2.2.2.1,p.2.2.2.2.2.2.2.1,p.2.2.2.2.2.2.2.2.1,p.2.2.2.2.2.2.2.2.2.1,p.2.2.2.2.2.2.2.2.2.2.1,p.2.2.2.2.2.2.2.2.2.2.2.1,p.2.2.2.2.2.2.2.2.2.2.2.2.1,Zb1 u8 x1.1 (shlI u8 1 x),orI u8 x2.1 (shlI u8 1 x),x2.2)))) (.Lf none)) (.Lf none)
def ZLf (p:PICT) (x:Int):PICT:=getO Zul.Df (Zxz p x).val
def ZjJ (p:PICT) (x:Int):Bool:=okB (Zxz p x).val
def ZC7:En:=Zi ZC6 Zul (λa=>some (ZjJ a.1 a.2)) (λa=>ZLf a.1 a.2)
theorem Zxx:Zd prog 336 ZC7:=
 pureP 31 [] [] ZC6 Zul trivial Tryz.func336 Tryz.call336 trivial (t:=λa=>Zxz a.1 a.2)
abbrev ZDv:List Sh:=[Sh.agg ZaQ,Sh.one (R.int i64)]
abbrev Zut:Rs:=Rs.one (Sh.agg ZaQ)
def ZxQ (p:PICT) (x:Int):RT (Option PICT):=
 let x1:=p.2.2.2.2.2.2.2.2.2.2.2.2.2
 let x2:=x1.2
 let x3:=x2.2
 let x4:=x3.2
 .br (decide (0<=x)) (.Lf (some ((p.1,p.2.1,p.2.2.1,p.2.2.2.1,p.2.2.2.2.1,p.2.2.2.2.2.1,p.2.2.2.2.2.2.1,p.2.2.2.2.2.2.2.1,p.2.2.2.2.2.2.2.2.1,p.2.2.2.2.2.2.2.2.2.1,p.2.2.2.2.2.2.2.2.2.2.1,p.2.2.2.2.2.2.2.2.2.2.2.1,p.2.2.2.2.2.2.2.2.2.2.2.2.1,x1.1,Zb1 u8 x2.1 (shlI u8 1 x),x3.1,bif p.2.2.2.2.2.2.2.2.1 then x else x4.1,x4.2)))) (.Lf none)
def ZLn (p:PICT) (x:Int):PICT:=getO Zut.Df (ZxQ p x).val
def ZjN (p:PICT) (x:Int):Bool:=okB (ZxQ p x).val
def ZDw:En:=Zi ZDv Zut (λa=>some (ZjN a.1 a.2)) (λa=>ZLn a.1 a.2)
theorem ZxO:Zd prog 337 ZDw:=
 pureP 31 [] [] ZDv Zut trivial Tryz.func337 Tryz.call337 trivial (t:=λa=>ZxQ a.1 a.2)
abbrev ZC9:List Sh:=[Sh.agg ZaQ,Sh.one R.bool]
abbrev Zum:Rs:=Rs.tup [Sh.agg ZaQ,Sh.one (R.int u8)]
def ZxA (p:PICT) (h:Bool):RT (Option (PICT×Int)):=
 let x1:= !p.2.2.2.2.2.2.2.2.2.2.2.1
 let x2:=h||(x1||ZAj p)
 let x3:= !x2
 let x4:PICT:=(p.1,p.2.1,p.2.2.1,p.2.2.2.1,p.2.2.2.2.1,p.2.2.2.2.2.1,p.2.2.2.2.2.2.1,p.2.2.2.2.2.2.2.1,p.2.2.2.2.2.2.2.2.1,p.2.2.2.2.2.2.2.2.2.1,p.2.2.2.2.2.2.2.2.2.2.1,false,p.2.2.2.2.2.2.2.2.2.2.2.2)
 let x5:=ZjJ x4 (vPck p)
 let x6:=ZLf x4 (vPck p)
 let x7:=x6.2
 let x8:=x7.2
 let x9:=x8.2
 let x10:=x9.2
 let x11:=x10.2
 let x12:=x11.2
 let x13:=x12.2
 let x14:=x13.1
 let x15:=p.2.2.2.2.2.2.2.2.2.2.2.2.2.2
 let x16:=ZLn x6 (vPck p)
 .br (x3||(h||(x1||(decide (vPck p<0)||(!x5||(!x14||ZjN x6 (vPck p))))))) (.br (x3||(h||(x1||(decide (vPck p<0)||x5)))) (.br (x2) (.br (h) (.Lf (some ((p,x15.2.1)))) (.br p.2.2.2.2.2.2.2.2.2.2.2.1 (.br (decide (vPck p<0)) (.Lf (some ((x4,0)))) (.Lf (some (((R.sel ZaQ x14 x16 x6),u8.wrap (i64.wrap (128+vPck p))))))) (.br p.2.2.2.2.2.2.2.2.2.2.1 (.Lf (some ((p,x15.1)))) (.Lf (some ((p,vReq p))))))) (.Lf none)) (.Lf none)) (.Lf none)
def ZHJ (p:PICT) (h:Bool):PICT×Int:=getO Zum.Df (ZxA p h).val
def ZxC (p:PICT) (h:Bool):Bool:=okB (ZxA p h).val
def ZJL:En:=Zi ZC9 Zum (λa=>some (ZxC a.1 a.2)) (λa=>ZHJ a.1 a.2)
theorem ZHH:Zd prog 257 ZJL:=
 pureP 8589938943 [(333,ZHL),(336,ZC7),(337,ZDw),(338,ZLg)] [] ZC9 Zum ⟨Zuo,Zxx,ZxO,ZC8,Tv⟩ Tryz.func257 Tryz.call257 trivial (t:=λa=>ZxA a.1 a.2)
abbrev ZJU:List Sh:=[Sh.agg ZaQ]
abbrev ZDy:Rs:=Rs.tup [Sh.agg ZaQ,Sh.one (R.int u8)]
def ZHR (p:PICT):RT (Option (PICT×Int)):=
 let x1:=p.2.2.2.2.2.2.2.2.2.2.2.2.2
 let x2:=x1.2
 let x3:=x2.2
 let x4:=x3.2
 let x5:=x4.2
 let x6:=x5.1
 let x7:=x6==0
 let x8:= !x7
 let x9:=x8||ZAj p
 let x10:=p.2.2.2.2.2.2.2.2.2.2.2.2.1
 let x11:=x1.1
 let x12:=x2.1
 let x13:=x3.1
 let x14:=x4.1
 let x15:PICT:=(p.1,p.2.1,p.2.2.1,p.2.2.2.1,p.2.2.2.2.1,p.2.2.2.2.2.1,p.2.2.2.2.2.2.1,p.2.2.2.2.2.2.2.1,p.2.2.2.2.2.2.2.2.1,p.2.2.2.2.2.2.2.2.2.1,p.2.2.2.2.2.2.2.2.2.2.1,p.2.2.2.2.2.2.2.2.2.2.2.1,x10,x11,x12,x13,x14,1,7,true)
 let x16:=ZLf x15 (vPck p)
 let x17:=x16.2
 let x18:=x17.2
 let x19:=x18.2
 let x20:=x19.2
 let x21:=x20.2
 let x22:=x21.2
 let x23:=x22.2
 let x24:=x23.2
 let x25:=x24.2
 let x26:=x25.2
 let x27:=x26.2
 let x28:=x27.2
 let x29:=x28.2
 let x30:=x29.2
 let x31:=x30.2
 let x32:=x31.2
 let x33:=x5.2
 let x34:PICT:=(p.1,p.2.1,p.2.2.1,p.2.2.2.1,p.2.2.2.2.1,p.2.2.2.2.2.1,p.2.2.2.2.2.2.1,p.2.2.2.2.2.2.2.1,p.2.2.2.2.2.2.2.2.1,p.2.2.2.2.2.2.2.2.2.1,p.2.2.2.2.2.2.2.2.2.2.1,p.2.2.2.2.2.2.2.2.2.2.2.1,x10,x11,x12,x13,x14,2,x33)
 let x35:=x33.1
 let x36:=andI i64 x35 7
 let x37:=x33.2
 let x38:=p.2.2.2.2.2.2.2.1&& !x37
 let x39:PICT:=(p.1,p.2.1,p.2.2.1,p.2.2.2.1,p.2.2.2.2.1,p.2.2.2.2.2.1,p.2.2.2.2.2.2.1,p.2.2.2.2.2.2.2.1,p.2.2.2.2.2.2.2.2.1,p.2.2.2.2.2.2.2.2.2.1,p.2.2.2.2.2.2.2.2.2.2.1,p.2.2.2.2.2.2.2.2.2.2.2.1,x10,x11,x12,x13,x14,0,x33)
 let x40:=ZLn x39 x36
 let x41:=x40.2
 let x42:=x41.2
 let x43:=x42.2
 let x44:=x43.2
 let x45:=x44.2
 let x46:=x45.2
 let x47:Int:=bif x38 then x46.1 else p.2.2.2.2.2.2.1
 let x48:=x46.2
 let x49:=x48.2
 let x50:=x49.2
 let x51:=x50.2
 let x52:=x51.2
 let x53:=x52.2
 let x54:=x53.2
 let x55:=x54.2
 let x56:=x55.2
 let x57:=x56.2
 let x58:=x57.2
 let x59:=x58.2
 .br (!x9||(x8||(!decide (vPck p>=0)||ZjJ x15 (vPck p)))) (.br (x9) (.br (x7) (.Lf (some (((bif decide (vPck p>=0) then x16.1 else p.1,bif decide (vPck p>=0) then x17.1 else p.2.1,bif decide (vPck p>=0) then x18.1 else p.2.2.1,bif decide (vPck p>=0) then x19.1 else p.2.2.2.1,bif decide (vPck p>=0) then x20.1 else p.2.2.2.2.1,bif decide (vPck p>=0) then x21.1 else p.2.2.2.2.2.1,bif decide (vPck p>=0) then x22.1 else p.2.2.2.2.2.2.1,bif decide (vPck p>=0) then x23.1 else p.2.2.2.2.2.2.2.1,bif decide (vPck p>=0) then x24.1 else p.2.2.2.2.2.2.2.2.1,bif decide (vPck p>=0) then x25.1 else p.2.2.2.2.2.2.2.2.2.1,bif decide (vPck p>=0) then x26.1 else p.2.2.2.2.2.2.2.2.2.2.1,bif decide (vPck p>=0) then x27.1 else p.2.2.2.2.2.2.2.2.2.2.2.1,bif decide (vPck p>=0) then x28.1 else x10,bif decide (vPck p>=0) then x29.1 else x11,bif decide (vPck p>=0) then x30.1 else x12,bif decide (vPck p>=0) then x31.1 else x13,bif decide (vPck p>=0) then x32.1 else x14,bif decide (vPck p>=0) then x32.2.1 else 1,bif decide (vPck p>=0) then vPck p else 7,!decide (vPck p>=0)),205)))) (.br (x6==1) (.br p.2.2.1 (.Lf (some ((x34,u8.wrap (andI u8 p.2.2.2.2.2.1 224+u8.wrap (i64.wrap (4*x36))))))) (.Lf (some ((x34,u8.wrap (andI u8 p.2.2.2.2.2.1 192+u8.wrap (i64.wrap (8*x36)))))))) (.br (!x38||ZjN x39 x36) (.Lf (some (((bif x38 then x40.1 else p.1,bif x38 then x41.1 else p.2.1,bif x38 then x42.1 else p.2.2.1,bif x38 then x43.1 else p.2.2.2.1,bif x38 then x44.1 else p.2.2.2.2.1,bif x38 then x45.1 else p.2.2.2.2.2.1,x47,bif x38 then x48.1 else p.2.2.2.2.2.2.2.1,bif x38 then x49.1 else p.2.2.2.2.2.2.2.2.1,bif x38 then x50.1 else p.2.2.2.2.2.2.2.2.2.1,bif x38 then x51.1 else p.2.2.2.2.2.2.2.2.2.2.1,bif x38 then x52.1 else p.2.2.2.2.2.2.2.2.2.2.2.1,bif x38 then x53.1 else x10,bif x38 then x54.1 else x11,bif x38 then x55.1 else x12,bif x38 then x56.1 else x13,bif x38 then x57.1 else x14,bif x38 then x58.1 else 0,bif x38 then x59.1 else x35,bif x38 then x59.2 else x37),x47)))) (.Lf none)))) (.Lf none)) (.Lf none)
def vAck (p:PICT):PICT×Int:=getO ZDy.Df (ZHR p).val
def ZHS (p:PICT):Bool:=okB (ZHR p).val
def ZM7:En:=Zi ZJU ZDy (λa=>some (ZHS a)) (λa=>vAck a)
theorem ZLo:Zd prog 256 ZM7:=
 pureP 134219839 [(333,ZHL),(336,ZC7),(337,ZDw)] [] ZJU ZDy ⟨Zuo,Zxx,ZxO,Tv⟩ Tryz.func256 Tryz.call256 trivial (t:=λa=>ZHR a)
abbrev Zq4:List Sh:=[Sh.agg (R.Pq (R.int u16) (R.Pq (R.int u8) (R.int i64))),Sh.one (R.int i64),Sh.one (R.int u8)]
abbrev Zq5:Rs:=Rs.one (Sh.agg (R.Pq (R.int u16) (R.Pq (R.int u8) (R.int i64))))
def Zxv (d:QT6) (r:Int) (v:Int):RT (QT6):=
 .Lf ((bif andI i64 r 3==0 then orI u16 (andI u16 d.1 65280) (u16.wrap v) else bif andI i64 r 3==1 then orI u16 (andI u16 d.1 255) (shlI u16 (u16.wrap v) 8) else d.1,bif andI i64 r 3==0 then d.2.1 else bif andI i64 r 3==1 then d.2.1 else bif andI i64 r 3==2 then v else d.2.1,bif andI i64 r 3==0 then d.2.2 else bif andI i64 r 3==1 then d.2.2 else bif andI i64 r 3==2 then d.2.2 else i64.wrap v))
def Zuk (d:QT6) (r:Int) (v:Int):QT6:=(Zxv d r v).val
def Zxw:En:=Zi Zq4 Zq5 (λ_=>none) (λa=>Zuk a.1 a.2.1 a.2.2)
theorem ZAi:Zd prog 267 Zxw:=
 pureQ 2149585023 [] [] Zq4 Zq5 trivial Tryz.func267 Tryz.call267 trivial (t:=λa=>Zxv a.1 a.2.1 a.2.2)
abbrev ZxB:List Sh:=[Sh.agg (R.Pq (R.int u16) (R.Pq (R.int u8) (R.int i64))),Sh.one (R.int i64)]
abbrev Zn6:Rs:=Rs.one (Sh.one (R.int u8))
def Zn5 (d:QT6) (r:Int):RT (Option (Int)):=
 .br (decide (0<=andI i64 r 3/\andI i64 r 3<4)) (.Lf (some (bif andI i64 r 3==0 then u8.wrap d.1 else bif andI i64 r 3==iN (0+1) then u8.wrap (shrI u16 d.1 8) else bif andI i64 r 3==iN (0+1+1) then d.2.1 else u8.wrap d.2.2))) (.Lf none)
def ZDd (d:QT6) (r:Int):Int:=getO Zn6.Df (Zn5 d r).val
def Zn7 (d:QT6) (r:Int):Bool:=okB (Zn5 d r).val
def ZDc:En:=Zi ZxB Zn6 (λa=>some (Zn7 a.1 a.2)) (λa=>ZDd a.1 a.2)
theorem ZDa:Zd prog 258 ZDc:=
 pureP 31 [] [] ZxB Zn6 trivial Tryz.func258 Tryz.call258 trivial (t:=λa=>Zn5 a.1 a.2)
abbrev ZmB:List Sh:=[Sh.agg (R.Pq (R.int u16) (R.Pq (R.int u8) (R.int i64)))]
abbrev ZmC:Rs:=Rs.one (Sh.one R.bool)
def Zq7 (d:QT6):RT (Bool):=
 .Lf (decide (d.2.2>0))
def ZbT (d:QT6):Bool:=(Zq7 d).val
def ZjL:En:=Zi ZmB ZmC (λ_=>none) (λa=>ZbT a)
theorem ZjK:Zd prog 251 ZjL:=
 pureQ 7 [] [] ZmB ZmC trivial Tryz.func251 Tryz.call251 trivial (t:=λa=>Zq7 a)
abbrev ZjH:List Sh:=[Sh.agg (R.Pq (R.int u16) (R.Pq (R.int u8) (R.int i64)))]
abbrev ZjI:Rs:=Rs.tup [Sh.agg (R.Pq (R.int u16) (R.Pq (R.int u8) (R.int i64))),Sh.agg (R.Pq (R.int u16) (R.int u8)),Sh.one R.bool]
def ZhP (d:QT6):RT ((QT6)×(Int×Int)×Bool):=
 .br (!ZbT d) (.Lf (((0,0,0),(0,0),false))) (.Lf (((u16.wrap (d.1+1),d.2.1,i64.wrap (d.2.2-1)),(d.1,d.2.1),true)))
def ZgJ (d:QT6):(QT6)×(Int×Int)×Bool:=(ZhP d).val
def ZmA:En:=Zi ZjH ZjI (λ_=>none) (λa=>ZgJ a)
theorem Zq6:Zd prog 181 ZmA:=
 pureQ 63 [(251,ZjL)] [] ZjH ZjI ⟨ZjK,Tv⟩ Tryz.func181 Tryz.call181 trivial (t:=λa=>ZhP a)
end
end Go.Proofs.YtpnjbfjomebppaaGreat
