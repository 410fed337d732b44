import Derived.Test.YtghoimllhpjkjaaGreatProg
import Derived.Test.YtghoimllhpjkjaaGreatS3Box1
open Go.Proofs.Tryz (prog)
open Go.IntKind (u8 u16 i64)
set_option linter.unusedSimpArgs false
open Go Go.S3 Go.Proofs
set_option linter.unusedVariables false
set_option maxRecDepth 100000
namespace Go.Proofs.YtghoimllhpjkjaaGreat
noncomputable section
abbrev ZMa:List Sh:=[Sh.one (R.int u8),Sh.one (R.int i64)]
abbrev ZKq:Rs:=Rs.one (Sh.one R.bool)
def vOnT (s:Int) (l:Int):RT (Option (Bool)):=
 .br (decide (0<=l)) (.Lf (some (andI u8 (shrI u8 s l) 1==1))) (.Lf none)
def vOn (s:Int) (l:Int):Bool:=getO ZKq.Df (vOnT s l).val
def vOnC (s:Int) (l:Int):Bool:=okB (vOnT s l).val
def vOnE:En:=Zi ZMa ZKq (λa=>some (vOnC a.1 a.2)) (λa=>vOn a.1 a.2)
theorem ZI1:Zd prog 339 vOnE:=
 pureP 31 [] [] ZMa ZKq trivial Tryz.func339 Tryz.call339 trivial (t:=λa=>vOnT a.1 a.2)
abbrev ZCy:List Sh:=[Sh.one (R.int i64),Sh.one (R.int i64)]
abbrev ZCz:Rs:=Rs.one (Sh.one (R.int i64))
def ZIX (l:Int) (k:Int):RT (Int):=
 .Lf (andI i64 (i64.wrap (i64.wrap (andI i64 l 7-andI i64 k 7)+15)) 7)
def Zhx (l:Int) (k:Int):Int:=(ZIX l k).val
def Zw3:En:=Zi ZCy ZCz (λ_=>none) (λa=>Zhx a.1 a.2)
theorem ZnI:Zd prog 338 Zw3:=
 pureQ 31 [] [] ZCy ZCz trivial Tryz.func338 Tryz.call338 trivial (t:=λa=>ZIX a.1 a.2)
abbrev ZCK:List Sh:=[Sh.one (R.int u8),Sh.one (R.int i64)]
abbrev ZtT:Rs:=Rs.one (Sh.one (R.int i64))
def ZG7:LS:={n:=29,Sl:=[(0,.code (Sh.one (R.int u8))),(1,.code (Sh.one (R.int i64))),(5,.code (Sh.one (R.int i64))),(6,.code (Sh.one (R.int i64)))],Bx:=[],Sg:=[]}
def Zgv (a:Int×Int×Int×Int×PUnit):RT (Option (Go1 (Int×Int×Int×Int×PUnit))):=
 .br (decide (a.2.2.2.1<8)) (.br (vOnC a.1 a.2.2.2.1) (.Lf (some (Go1.cont (a.1,a.2.1,bif vOn a.1 a.2.2.2.1&&(decide (a.2.2.1<0)||decide (Zhx a.2.2.2.1 a.2.1<Zhx a.2.2.1 a.2.1)) then a.2.2.2.1 else a.2.2.1,i64.wrap (a.2.2.2.1+1),PUnit.unit)))) (.Lf none)) (.Lf (some (Go1.brk (a.1,a.2.1,a.2.2.1,a.2.2.2.1,PUnit.unit))))
def Zxa:Ora:=Zdo false ZG7 Zgv (λa=>9)
theorem ZzG:Zb9 (envX prog [(338,Zw3),(339,vOnE)] [] 127 8) (.block 0 (.loop (ZaV Tryz.f329.body 0))) Zxa:=
 loopP ⟨ZnI,ZI1,Tv⟩
def ZqG (s:Int) (k:Int):RT (Option (Int)):=
 let x1:=runF false Zgv (λa=>9) (s,k,-1,0,())
 .br (okB x1) (.Lf (some (getO (false,s,k,-1,0,()) x1).2.2.2.1)) (.Lf none)
def Zf3 (s:Int) (k:Int):Int:=getO ZtT.Df (ZqG s k).val
def Zmi (s:Int) (k:Int):Bool:=okB (ZqG s k).val
def ZCL:En:=Zi ZCK ZtT (λa=>some (Zmi a.1 a.2)) (λa=>Zf3 a.1 a.2)
theorem Zw9:Zd prog 329 ZCL:=
 pureP 127 [(338,Zw3),(339,vOnE)] [(0,Zxa)] ZCK ZtT ⟨ZnI,ZI1,Tv⟩ Tryz.func329 Tryz.call329 ⟨ZzG,Tv⟩ (t:=λa=>ZqG a.1 a.2)
abbrev Zxh:List Sh:=[Sh.one (R.int u8),Sh.one (R.int u8),Sh.one R.bool]
abbrev Zxi:Rs:=Rs.one (Sh.one (R.int u8))
def ZCR (m:Int) (s:Int) (p:Bool):RT (Int):=
 .br (p) (.Lf (ZbP u8 s m)) (.Lf (s))
def Zih (m:Int) (s:Int) (p:Bool):Int:=(ZCR m s p).val
def ZtW:En:=Zi Zxh Zxi (λ_=>none) (λa=>Zih a.1 a.2.1 a.2.2)
theorem ZqJ:Zd prog 330 ZtW:=
 pureQ 127 [] [] Zxh Zxi trivial Tryz.func330 Tryz.call330 trivial (t:=λa=>ZCR a.1 a.2.1 a.2.2)
abbrev ZCD:List Sh:=[Sh.one (R.int u8),Sh.one (R.int u8),Sh.one (R.int u8),Sh.one (R.int i64),Sh.one R.bool]
abbrev ZtP:Rs:=Rs.one (Sh.one (R.int i64))
def ZqF (r:Int) (m:Int) (s:Int) (k:Int) (p:Bool):RT (Option (Int)):=
 .br (Zmi (ZbP u8 r m) k) (.br (Zmi (Zih m s p) k) (.br (decide (Zf3 (ZbP u8 r m) k>=0)&&(decide (Zf3 (Zih m s p) k<0)||decide (Zhx (Zf3 (ZbP u8 r m) k) k<Zhx (Zf3 (Zih m s p) k) k))) (.Lf (some (Zf3 (ZbP u8 r m) k))) (.Lf (some (-1)))) (.Lf none)) (.Lf none)
def ZKp (r:Int) (m:Int) (s:Int) (k:Int) (p:Bool):Int:=getO ZtP.Df (ZqF r m s k p).val
def ZCE (r:Int) (m:Int) (s:Int) (k:Int) (p:Bool):Bool:=okB (ZqF r m s k p).val
def ZIY:En:=Zi ZCD ZtP (λa=>some (ZCE a.1 a.2.1 a.2.2.1 a.2.2.2.1 a.2.2.2.2)) (λa=>ZKp a.1 a.2.1 a.2.2.1 a.2.2.2.1 a.2.2.2.2)
theorem ZG1:Zd prog 328 ZIY:=
 pureP 8191 [(329,ZCL),(330,ZtW),(338,Zw3)] [] ZCD ZtP ⟨Zw9,ZqJ,ZnI,Tv⟩ Tryz.func328 Tryz.call328 trivial (t:=λa=>ZqF a.1 a.2.1 a.2.2.1 a.2.2.2.1 a.2.2.2.2)
abbrev ZI2:List Sh:=[]
abbrev ZI3:Rs:=Rs.one (Sh.agg ZaH)
def ZMb:RT PICT:=
 .Lf ((0,false,false,false,false,0,0,false,false,false,false,false,0,0,0,0,7,0,0,false))
def vNew:PICT:=(ZMb).val
def ZKs:En:=Zi ZI2 ZI3 (λ_=>none) (λa=>vNew)
theorem ZCI:Zd prog 189 ZKs:=
 pureQ 1 [] [] ZI2 ZI3 trivial Tryz.func189 Tryz.call189 trivial (t:=λa=>ZMb)
abbrev Zw4:List Sh:=[Sh.agg ZaH,Sh.one (R.int u8)]
abbrev Zw5:Rs:=Rs.one (Sh.agg ZaH)
def ZCB (p:PICT) (l:Int):RT PICT:=
 let x1:=p.2.2.2.2.2.2.2.2.2.2.2.2.2
 .Lf ((p.1,p.2.1,p.2.2.1,p.2.2.2.1,p.2.2.2.2.1,p.2.2.2.2.2.1,p.2.2.2.2.2.2.1,p.2.2.2.2.2.2.2.1,p.2.2.2.2.2.2.2.2.1,p.2.2.2.2.2.2.2.2.2.1,p.2.2.2.2.2.2.2.2.2.2.1,p.2.2.2.2.2.2.2.2.2.2.2.1,l,andI u8 (orI u8 x1.1 (ZbP u8 l p.2.2.2.2.2.2.2.2.2.2.2.2.1)) l,x1.2))
def Zw6 (p:PICT) (l:Int):PICT:=(ZCB p l).val
def ZCC:En:=Zi Zw4 Zw5 (λ_=>none) (λa=>Zw6 a.1 a.2)
theorem ZCA:Zd prog 191 ZCC:=
 pureQ 31 [] [] Zw4 Zw5 trivial Tryz.func191 Tryz.call191 trivial (t:=λa=>ZCB a.1 a.2)
abbrev ZIU:List Sh:=[Sh.agg ZaH]
abbrev ZIV:Rs:=Rs.one (Sh.one (R.int u8))
def ZL8 (p:PICT):RT (Int):=
 .br p.2.1 (.Lf p.2.2.2.2.2.2.2.2.2.2.2.2.1) (.Lf p.2.2.2.2.2.2.2.2.2.2.2.2.2.1)
def vReq (p:PICT):Int:=(ZL8 p).val
def ZKo:En:=Zi ZIU ZIV (λ_=>none) (λa=>vReq a)
theorem ZCs:Zd prog 304 ZKo:=
 pureQ 7 [] [] ZIU ZIV trivial Tryz.func304 Tryz.call304 trivial (t:=λa=>ZL8 a)
abbrev ZIZ:List Sh:=[Sh.agg ZaH]
abbrev ZCG:Rs:=Rs.one (Sh.one (R.int i64))
def ZCF (p:PICT):RT (Option (Int)):=
 let x1:=p.2.2.2.2.2.2.2.2.2.2.2.2.2.2
 let x2:=x1.2
 let x3:=x2.1
 let x4:=x1.1
 let x5:=x2.2.1
 .br (ZCE (vReq p) x3 x4 x5 p.2.2.2.2.2.2.2.2.2.1) (.Lf (some (ZKp (vReq p) x3 x4 x5 p.2.2.2.2.2.2.2.2.2.1))) (.Lf none)
def vPck (p:PICT):Int:=getO ZCG.Df (ZCF p).val
def ZzF (p:PICT):Bool:=okB (ZCF p).val
def ZG2:En:=Zi ZIZ ZCG (λa=>some (ZzF a)) (λa=>vPck a)
theorem ZtQ:Zd prog 299 ZG2:=
 pureP 7 [(304,ZKo),(328,ZIY)] [] ZIZ ZCG ⟨ZCs,ZG1,Tv⟩ Tryz.func299 Tryz.call299 trivial (t:=λa=>ZCF a)
abbrev ZI4:List Sh:=[Sh.agg ZaH]
abbrev ZCJ:Rs:=Rs.one (Sh.one R.bool)
def ZG5 (p:PICT):RT (Option (Bool)):=
 .br (ZzF p) (.Lf (some (decide (vPck p>=0)))) (.Lf none)
def vInt (p:PICT):Bool:=getO ZCJ.Df (ZG5 p).val
def ZG6 (p:PICT):Bool:=okB (ZG5 p).val
def ZMc:En:=Zi ZI4 ZCJ (λa=>some (ZG6 a)) (λa=>vInt a)
theorem ZKt:Zd prog 248 ZMc:=
 pureP 7 [(299,ZG2)] [] ZI4 ZCJ ⟨ZtQ,Tv⟩ Tryz.func248 Tryz.call248 trivial (t:=λa=>ZG5 a)
abbrev Zxc:List Sh:=[Sh.agg ZaH,Sh.one (R.int u8)]
abbrev Zxd:Rs:=Rs.one (Sh.agg ZaH)
def ZCN (p:PICT) (v:Int):RT PICT:=
 .Lf ((2,andI u8 v 8 !=0,andI u8 v 4 !=0,andI u8 v 2 !=0,andI u8 v 1 !=0,andI u8 v 224,0,false,false,false,false,false,p.2.2.2.2.2.2.2.2.2.2.2.2.1,0,0,0,7,0,0,false))
def Zjt (p:PICT) (v:Int):PICT:=(ZCN p v).val
def ZCO:En:=Zi Zxc Zxd (λ_=>none) (λa=>Zjt a.1 a.2)
theorem ZCM:Zd prog 306 ZCO:=
 pureQ 63 [(189,ZKs)] [] Zxc Zxd ⟨ZCI,Tv⟩ Tryz.func306 Tryz.call306 trivial (t:=λa=>ZCN a.1 a.2)
abbrev Zmj:List Sh:=[Sh.agg ZaH,Sh.one (R.int u8)]
abbrev Zmk:Rs:=Rs.one (Sh.agg ZaH)
def ZqH (p:PICT) (v:Int):RT PICT:=
 let x1:=p.2.2.2.2.2.2.2.2.2.2.2.2.2
 let x2:=x1.2
 let x3:=x2.2
 let x4:=x3.1
 .Lf ((bif p.1==2 then bif !p.2.2.2.1 then 3 else bif p.2.2.2.2.1 then 4 else 0 else bif p.1==3 then bif p.2.2.2.2.1 then 4 else 0 else bif p.1==4 then 0 else p.1,p.2.1,p.2.2.1,p.2.2.2.1,p.2.2.2.2.1,p.2.2.2.2.2.1,bif p.1==2 then v else p.2.2.2.2.2.2.1,bif p.1==2 then p.2.2.2.2.2.2.2.1 else bif p.1==3 then p.2.2.2.2.2.2.2.1 else bif p.1==4 then andI u8 v 2 !=0 else p.2.2.2.2.2.2.2.1,p.2.2.2.2.2.2.2.2.1,p.2.2.2.2.2.2.2.2.2.1,p.2.2.2.2.2.2.2.2.2.2.1,p.2.2.2.2.2.2.2.2.2.2.2.1,p.2.2.2.2.2.2.2.2.2.2.2.2.1,x1.1,x2.1,bif p.1==2 then x4 else bif p.1==3 then x4 else bif p.1==4 then x4 else v,x3.2))
def Zxb (p:PICT) (v:Int):PICT:=(ZqH p v).val
def ZqI:En:=Zi Zmj Zmk (λ_=>none) (λa=>Zxb a.1 a.2)
theorem ZtU:Zd prog 305 ZqI:=
 pureQ 71307327 [] [] Zmj Zmk trivial Tryz.func305 Tryz.call305 trivial (t:=λa=>ZqH a.1 a.2)
abbrev ZCH:List Sh:=[Sh.agg ZaH,Sh.one (R.int u8)]
abbrev ZtS:Rs:=Rs.one (Sh.agg ZaH)
def Zw7 (p:PICT) (v:Int):RT (Option PICT):=
 let x1:=p.2.2.2.2.2.2.2.2.2.2.2.2.2
 let x2:=x1.2
 let x3:=x2.2
 let x4:=x3.1
 let x5:=x2.1
 let x6:=Zih x4 x5 p.2.2.2.2.2.2.2.2.2.1
 let x7:=x3.2
 let x8:=x7.1
 let x9:=Zf3 x6 x8
 let x10:=decide (x9>=0)
 let x11:= !x10||decide (0<=x9)
 let x12:=shrI u8 v 5==0||(!shrI u8 v 5==1||x11)
 let x13:= !x12
 let x14:=shrI u8 v 5==0||(shrI u8 v 5==1||(!shrI u8 v 5==3||decide (0<=i64.wrap (andI u8 v 7))))
 let x15:= !x14
 let x16:=shrI u8 v 5==0||(shrI u8 v 5==1||(shrI u8 v 5==3||(shrI u8 v 5==4||(!shrI u8 v 5==5||x11))))
 let x17:Int:=bif x10 then ZbP u8 x5 (shlI u8 1 x9) else x5
 let x18:=ZbP u8 x5 (shlI u8 1 (i64.wrap (andI u8 v 7)))
 .br (Zmi x6 x8) (.br (x13||(x15||(!x16||(shrI u8 v 5==0||(shrI u8 v 5==1||(shrI u8 v 5==3||(shrI u8 v 5==4||(shrI u8 v 5==5||(shrI u8 v 5==6||(!shrI u8 v 5==7||decide (0<=i64.wrap (andI u8 v 7)))))))))))) (.br (x13||(x15||x16)) (.br (x13||x14) (.br (x12) (.Lf (some ((p.1,p.2.1,p.2.2.1,p.2.2.2.1,p.2.2.2.2.1,p.2.2.2.2.2.1,p.2.2.2.2.2.2.1,p.2.2.2.2.2.2.2.1,!shrI u8 v 5==0&&bif shrI u8 v 5==1 then p.2.2.2.2.2.2.2.2.1 else bif shrI u8 v 5==3 then p.2.2.2.2.2.2.2.2.1 else shrI u8 v 5==4||p.2.2.2.2.2.2.2.2.1,p.2.2.2.2.2.2.2.2.2.1,p.2.2.2.2.2.2.2.2.2.2.1,p.2.2.2.2.2.2.2.2.2.2.2.1,p.2.2.2.2.2.2.2.2.2.2.2.2.1,x1.1,bif shrI u8 v 5==0 then x5 else bif shrI u8 v 5==1 then x17 else bif shrI u8 v 5==3 then x18 else bif shrI u8 v 5==4 then x5 else bif shrI u8 v 5==5 then x17 else bif shrI u8 v 5==6 then x5 else bif shrI u8 v 5==7 then x18 else x5,x4,bif shrI u8 v 5==0 then x8 else bif shrI u8 v 5==1 then x8 else bif shrI u8 v 5==3 then x8 else bif shrI u8 v 5==4 then x8 else bif shrI u8 v 5==5 then bif x10 then x9 else x8 else bif shrI u8 v 5==6 then i64.wrap (andI u8 v 7) else bif shrI u8 v 5==7 then i64.wrap (andI u8 v 7) else x8,x7.2)))) (.Lf none)) (.Lf none)) (.Lf none)) (.Lf none)) (.Lf none)
def ZL9 (p:PICT) (v:Int):PICT:=getO ZtS.Df (Zw7 p v).val
def Zw8 (p:PICT) (v:Int):Bool:=okB (Zw7 p v).val
def ZI0:En:=Zi ZCH ZtS (λa=>some (Zw8 a.1 a.2)) (λa=>ZL9 a.1 a.2)
theorem ZG3:Zd prog 307 ZI0:=
 pureP 4899995593813786751 [(329,ZCL),(330,ZtW)] [] ZCH ZtS ⟨Zw9,ZqJ,Tv⟩ Tryz.func307 Tryz.call307 trivial (t:=λa=>Zw7 a.1 a.2)
abbrev ZwU:List Sh:=[Sh.agg ZaH,Sh.one R.bool,Sh.one (R.int u8)]
abbrev ZnD:Rs:=Rs.one (Sh.agg ZaH)
def ZnC (p:PICT) (h:Bool) (v:Int):RT (Option PICT):=
 .br (h||(andI u8 v 16 !=0||(!andI u8 v 8==0||Zw8 p v))) (.br (h) (.Lf (some (Zxb p v))) (.br (andI u8 v 16 !=0) (.Lf (some ((2,(Zjt p v).2.1,(Zjt p v).2.2.1,(Zjt p v).2.2.2.1,(Zjt p v).2.2.2.2.1,(Zjt p v).2.2.2.2.2.1,0,false,false,false,false,false,(Zjt p v).2.2.2.2.2.2.2.2.2.2.2.2.1,0,0,0,7,0,0,false)))) (.br (andI u8 v 8==0) (.Lf (some (ZL9 p v))) (.Lf (some ((p.1,p.2.1,p.2.2.1,p.2.2.2.1,p.2.2.2.2.1,p.2.2.2.2.2.1,p.2.2.2.2.2.2.1,p.2.2.2.2.2.2.2.1,p.2.2.2.2.2.2.2.2.1,bif andI u8 v 64 !=0 then andI u8 v 32 !=0 else p.2.2.2.2.2.2.2.2.2.1,bif andI u8 v 2 !=0 then andI u8 v 1 !=0 else p.2.2.2.2.2.2.2.2.2.2.1,p.2.2.2.2.2.2.2.2.2.2.2.1||andI u8 v 4 !=0,p.2.2.2.2.2.2.2.2.2.2.2.2))))))) (.Lf none)
def ZCp (p:PICT) (h:Bool) (v:Int):PICT:=getO ZnD.Df (ZnC p h v).val
def ZnE (p:PICT) (h:Bool) (v:Int):Bool:=okB (ZnC p h v).val
def ZCo:En:=Zi ZwU ZnD (λa=>some (ZnE a.1 a.2.1 a.2.2)) (λa=>ZCp a.1 a.2.1 a.2.2)
theorem ZCm:Zd prog 256 ZCo:=
 pureP 528639 [(305,ZqI),(306,ZCO),(307,ZI0)] [] ZwU ZnD ⟨ZtU,ZCM,ZG3,Tv⟩ Tryz.func256 Tryz.call256 trivial (t:=λa=>ZnC a.1 a.2.1 a.2.2)
abbrev ZCq:List Sh:=[Sh.agg ZaH,Sh.one (R.int i64)]
abbrev ZtN:Rs:=Rs.one (Sh.agg ZaH)
def ZwZ (p:PICT) (x:Int):RT (Option PICT):=
 let x1:=p.2.2.2.2.2.2.2.2.2.2.2.2.2
 let x2:=x1.2
 .br (decide (0<=x)) (.br (decide (0<=x)) (.Lf (some ((p.1,p.2.1,p.2.2.1,p.2.2.2.1,p.2.2.2.2.1,p.2.2.2.2.2.1,p.2.2.2.2.2.2.1,p.2.2.2.2.2.2.2.1,p.2.2.2.2.2.2.2.2.1,p.2.2.2.2.2.2.2.2.2.1,p.2.2.2.2.2.2.2.2.2.2.1,p.2.2.2.2.2.2.2.2.2.2.2.1,p.2.2.2.2.2.2.2.2.2.2.2.2.1,ZbP u8 x1.1 (shlI u8 1 x),orI u8 x2.1 (shlI u8 1 x),x2.2)))) (.Lf none)) (.Lf none)
def ZKn (p:PICT) (x:Int):PICT:=getO ZtN.Df (ZwZ p x).val
def Zjq (p:PICT) (x:Int):Bool:=okB (ZwZ p x).val
def ZCr:En:=Zi ZCq ZtN (λa=>some (Zjq a.1 a.2)) (λa=>ZKn a.1 a.2)
theorem ZwX:Zd prog 302 ZCr:=
 pureP 31 [] [] ZCq ZtN trivial Tryz.func302 Tryz.call302 trivial (t:=λa=>ZwZ a.1 a.2)
abbrev ZCP:List Sh:=[Sh.agg ZaH,Sh.one (R.int i64)]
abbrev ZtV:Rs:=Rs.one (Sh.agg ZaH)
def Zxg (p:PICT) (x:Int):RT (Option PICT):=
 let x1:=p.2.2.2.2.2.2.2.2.2.2.2.2.2
 let x2:=x1.2
 let x3:=x2.2
 let x4:=x3.2
 .br (decide (0<=x)) (.Lf (some ((p.1,p.2.1,p.2.2.1,p.2.2.2.1,p.2.2.2.2.1,p.2.2.2.2.2.1,p.2.2.2.2.2.2.1,p.2.2.2.2.2.2.2.1,p.2.2.2.2.2.2.2.2.1,p.2.2.2.2.2.2.2.2.2.1,p.2.2.2.2.2.2.2.2.2.2.1,p.2.2.2.2.2.2.2.2.2.2.2.1,p.2.2.2.2.2.2.2.2.2.2.2.2.1,x1.1,ZbP u8 x2.1 (shlI u8 1 x),x3.1,bif p.2.2.2.2.2.2.2.2.1 then x else x4.1,x4.2)))) (.Lf none)
def ZKv (p:PICT) (x:Int):PICT:=getO ZtV.Df (Zxg p x).val
def Zju (p:PICT) (x:Int):Bool:=okB (Zxg p x).val
def ZCQ:En:=Zi ZCP ZtV (λa=>some (Zju a.1 a.2)) (λa=>ZKv a.1 a.2)
theorem Zxe:Zd prog 303 ZCQ:=
 pureP 31 [] [] ZCP ZtV trivial Tryz.func303 Tryz.call303 trivial (t:=λa=>Zxg a.1 a.2)
abbrev ZCt:List Sh:=[Sh.agg ZaH,Sh.one R.bool]
abbrev ZtO:Rs:=Rs.tup [Sh.agg ZaH,Sh.one (R.int u8)]
def Zw0 (p:PICT) (h:Bool):RT (Option (PICT×Int)):=
 let x1:= !p.2.2.2.2.2.2.2.2.2.2.2.1
 let x2:=h||(x1||ZzF p)
 let x3:= !x2
 let x4:PICT:=(p.1,p.2.1,p.2.2.1,p.2.2.2.1,p.2.2.2.2.1,p.2.2.2.2.2.1,p.2.2.2.2.2.2.1,p.2.2.2.2.2.2.2.1,p.2.2.2.2.2.2.2.2.1,p.2.2.2.2.2.2.2.2.2.1,p.2.2.2.2.2.2.2.2.2.2.1,false,p.2.2.2.2.2.2.2.2.2.2.2.2)
 let x5:=Zjq x4 (vPck p)
 let x6:=ZKn x4 (vPck p)
 let x7:=x6.2
 let x8:=x7.2
 let x9:=x8.2
 let x10:=x9.2
 let x11:=x10.2
 let x12:=x11.2
 let x13:=x12.2
 let x14:=x13.1
 let x15:=p.2.2.2.2.2.2.2.2.2.2.2.2.2.2
 let x16:=ZKv x6 (vPck p)
 .br (x3||(h||(x1||(decide (vPck p<0)||(!x5||(!x14||Zju x6 (vPck p))))))) (.br (x3||(h||(x1||(decide (vPck p<0)||x5)))) (.br (x2) (.br (h) (.Lf (some ((p,x15.2.1)))) (.br p.2.2.2.2.2.2.2.2.2.2.2.1 (.br (decide (vPck p<0)) (.Lf (some ((x4,0)))) (.Lf (some (((R.sel ZaH x14 x16 x6),u8.wrap (i64.wrap (128+vPck p))))))) (.br p.2.2.2.2.2.2.2.2.2.2.1 (.Lf (some ((p,x15.1)))) (.Lf (some ((p,vReq p))))))) (.Lf none)) (.Lf none)) (.Lf none)
def ZG0 (p:PICT) (h:Bool):PICT×Int:=getO ZtO.Df (Zw0 p h).val
def Zw2 (p:PICT) (h:Bool):Bool:=okB (Zw0 p h).val
def ZIW:En:=Zi ZCt ZtO (λa=>some (Zw2 a.1 a.2)) (λa=>ZG0 a.1 a.2)
theorem ZGY:Zd prog 254 ZIW:=
 pureP 8589938943 [(299,ZG2),(302,ZCr),(303,ZCQ),(304,ZKo)] [] ZCt ZtO ⟨ZtQ,ZwX,Zxe,ZCs,Tv⟩ Tryz.func254 Tryz.call254 trivial (t:=λa=>Zw0 a.1 a.2)
abbrev ZI5:List Sh:=[Sh.agg ZaH]
abbrev ZCS:Rs:=Rs.tup [Sh.agg ZaH,Sh.one (R.int u8)]
def ZG8 (p:PICT):RT (Option (PICT×Int)):=
 let x1:=p.2.2.2.2.2.2.2.2.2.2.2.2.2
 let x2:=x1.2
 let x3:=x2.2
 let x4:=x3.2
 let x5:=x4.2
 let x6:=x5.1
 let x7:=x6==0
 let x8:= !x7
 let x9:=x8||ZzF p
 let x10:=p.2.2.2.2.2.2.2.2.2.2.2.2.1
 let x11:=x1.1
 let x12:=x2.1
 let x13:=x3.1
 let x14:=x4.1
 let x15:PICT:=(p.1,p.2.1,p.2.2.1,p.2.2.2.1,p.2.2.2.2.1,p.2.2.2.2.2.1,p.2.2.2.2.2.2.1,p.2.2.2.2.2.2.2.1,p.2.2.2.2.2.2.2.2.1,p.2.2.2.2.2.2.2.2.2.1,p.2.2.2.2.2.2.2.2.2.2.1,p.2.2.2.2.2.2.2.2.2.2.2.1,x10,x11,x12,x13,x14,1,7,true)
 let x16:=ZKn x15 (vPck p)
 let x17:=x16.2
 let x18:=x17.2
 let x19:=x18.2
 let x20:=x19.2
 let x21:=x20.2
 let x22:=x21.2
 let x23:=x22.2
 let x24:=x23.2
 let x25:=x24.2
 let x26:=x25.2
 let x27:=x26.2
 let x28:=x27.2
 let x29:=x28.2
 let x30:=x29.2
 let x31:=x30.2
 let x32:=x31.2
 let x33:=x5.2
 let x34:PICT:=(p.1,p.2.1,p.2.2.1,p.2.2.2.1,p.2.2.2.2.1,p.2.2.2.2.2.1,p.2.2.2.2.2.2.1,p.2.2.2.2.2.2.2.1,p.2.2.2.2.2.2.2.2.1,p.2.2.2.2.2.2.2.2.2.1,p.2.2.2.2.2.2.2.2.2.2.1,p.2.2.2.2.2.2.2.2.2.2.2.1,x10,x11,x12,x13,x14,2,x33)
 let x35:=x33.1
 let x36:=andI i64 x35 7
 let x37:=x33.2
 let x38:=p.2.2.2.2.2.2.2.1&& !x37
 let x39:PICT:=(p.1,p.2.1,p.2.2.1,p.2.2.2.1,p.2.2.2.2.1,p.2.2.2.2.2.1,p.2.2.2.2.2.2.1,p.2.2.2.2.2.2.2.1,p.2.2.2.2.2.2.2.2.1,p.2.2.2.2.2.2.2.2.2.1,p.2.2.2.2.2.2.2.2.2.2.1,p.2.2.2.2.2.2.2.2.2.2.2.1,x10,x11,x12,x13,x14,0,x33)
 let x40:=ZKv x39 x36
 let x41:=x40.2
 let x42:=x41.2
 let x43:=x42.2
 let x44:=x43.2
 let x45:=x44.2
 let x46:=x45.2
 let x47:Int:=bif x38 then x46.1 else p.2.2.2.2.2.2.1
 let x48:=x46.2
 let x49:=x48.2
 let x50:=x49.2
 let x51:=x50.2
 let x52:=x51.2
 let x53:=x52.2
 let x54:=x53.2
 let x55:=x54.2
 let x56:=x55.2
 let x57:=x56.2
 let x58:=x57.2
 let x59:=x58.2
 .br (!x9||(x8||(!decide (vPck p>=0)||Zjq x15 (vPck p)))) (.br (x9) (.br (x7) (.Lf (some (((bif decide (vPck p>=0) then x16.1 else p.1,bif decide (vPck p>=0) then x17.1 else p.2.1,bif decide (vPck p>=0) then x18.1 else p.2.2.1,bif decide (vPck p>=0) then x19.1 else p.2.2.2.1,bif decide (vPck p>=0) then x20.1 else p.2.2.2.2.1,bif decide (vPck p>=0) then x21.1 else p.2.2.2.2.2.1,bif decide (vPck p>=0) then x22.1 else p.2.2.2.2.2.2.1,bif decide (vPck p>=0) then x23.1 else p.2.2.2.2.2.2.2.1,bif decide (vPck p>=0) then x24.1 else p.2.2.2.2.2.2.2.2.1,bif decide (vPck p>=0) then x25.1 else p.2.2.2.2.2.2.2.2.2.1,bif decide (vPck p>=0) then x26.1 else p.2.2.2.2.2.2.2.2.2.2.1,bif decide (vPck p>=0) then x27.1 else p.2.2.2.2.2.2.2.2.2.2.2.1,bif decide (vPck p>=0) then x28.1 else x10,bif decide (vPck p>=0) then x29.1 else x11,bif decide (vPck p>=0) then x30.1 else x12,bif decide (vPck p>=0) then x31.1 else x13,bif decide (vPck p>=0) then x32.1 else x14,bif decide (vPck p>=0) then x32.2.1 else 1,bif decide (vPck p>=0) then vPck p else 7,!decide (vPck p>=0)),205)))) (.br (x6==1) (.br p.2.2.1 (.Lf (some ((x34,u8.wrap (andI u8 p.2.2.2.2.2.1 224+u8.wrap (i64.wrap (4*x36))))))) (.Lf (some ((x34,u8.wrap (andI u8 p.2.2.2.2.2.1 192+u8.wrap (i64.wrap (8*x36)))))))) (.br (!x38||Zju x39 x36) (.Lf (some (((bif x38 then x40.1 else p.1,bif x38 then x41.1 else p.2.1,bif x38 then x42.1 else p.2.2.1,bif x38 then x43.1 else p.2.2.2.1,bif x38 then x44.1 else p.2.2.2.2.1,bif x38 then x45.1 else p.2.2.2.2.2.1,x47,bif x38 then x48.1 else p.2.2.2.2.2.2.2.1,bif x38 then x49.1 else p.2.2.2.2.2.2.2.2.1,bif x38 then x50.1 else p.2.2.2.2.2.2.2.2.2.1,bif x38 then x51.1 else p.2.2.2.2.2.2.2.2.2.2.1,bif x38 then x52.1 else p.2.2.2.2.2.2.2.2.2.2.2.1,bif x38 then x53.1 else x10,bif x38 then x54.1 else x11,bif x38 then x55.1 else x12,bif x38 then x56.1 else x13,bif x38 then x57.1 else x14,bif x38 then x58.1 else 0,bif x38 then x59.1 else x35,bif x38 then x59.2 else x37),x47)))) (.Lf none)))) (.Lf none)) (.Lf none)
def vAck (p:PICT):PICT×Int:=getO ZCS.Df (ZG8 p).val
def ZG9 (p:PICT):Bool:=okB (ZG8 p).val
def ZMd:En:=Zi ZI5 ZCS (λa=>some (ZG9 a)) (λa=>vAck a)
theorem ZKw:Zd prog 253 ZMd:=
 pureP 134219839 [(299,ZG2),(302,ZCr),(303,ZCQ)] [] ZI5 ZCS ⟨ZtQ,ZwX,Zxe,Tv⟩ Tryz.func253 Tryz.call253 trivial (t:=λa=>ZG8 a)
abbrev ZqB:List Sh:=[Sh.agg (R.Pq (R.int u16) (R.Pq (R.int u8) (R.int i64))),Sh.one (R.int i64),Sh.one (R.int u8)]
abbrev ZqC:Rs:=Rs.one (Sh.agg (R.Pq (R.int u16) (R.Pq (R.int u8) (R.int i64))))
def ZwV (d:QT6) (r:Int) (v:Int):RT (QT6):=
 .Lf ((bif andI i64 r 3==0 then orI u16 (andI u16 d.1 65280) (u16.wrap v) else bif andI i64 r 3==1 then orI u16 (andI u16 d.1 255) (shlI u16 (u16.wrap v) 8) else d.1,bif andI i64 r 3==0 then d.2.1 else bif andI i64 r 3==1 then d.2.1 else bif andI i64 r 3==2 then v else d.2.1,bif andI i64 r 3==0 then d.2.2 else bif andI i64 r 3==1 then d.2.2 else bif andI i64 r 3==2 then d.2.2 else i64.wrap v))
def ZtM (d:QT6) (r:Int) (v:Int):QT6:=(ZwV d r v).val
def ZwW:En:=Zi ZqB ZqC (λ_=>none) (λa=>ZtM a.1 a.2.1 a.2.2)
theorem ZzE:Zd prog 257 ZwW:=
 pureQ 2149585023 [] [] ZqB ZqC trivial Tryz.func257 Tryz.call257 trivial (t:=λa=>ZwV a.1 a.2.1 a.2.2)
abbrev Zw1:List Sh:=[Sh.agg (R.Pq (R.int u16) (R.Pq (R.int u8) (R.int i64))),Sh.one (R.int i64)]
abbrev ZnG:Rs:=Rs.one (Sh.one (R.int u8))
def ZnF (d:QT6) (r:Int):RT (Option (Int)):=
 .br (decide (0<=andI i64 r 3/\andI i64 r 3<4)) (.Lf (some (bif andI i64 r 3==0 then u8.wrap d.1 else bif andI i64 r 3==iN (0+1) then u8.wrap (shrI u16 d.1 8) else bif andI i64 r 3==iN (0+1+1) then d.2.1 else u8.wrap d.2.2))) (.Lf none)
def ZCx (d:QT6) (r:Int):Int:=getO ZnG.Df (ZnF d r).val
def ZnH (d:QT6) (r:Int):Bool:=okB (ZnF d r).val
def ZCw:En:=Zi Zw1 ZnG (λa=>some (ZnH a.1 a.2)) (λa=>ZCx a.1 a.2)
theorem ZCu:Zd prog 255 ZCw:=
 pureP 31 [] [] Zw1 ZnG trivial Tryz.func255 Tryz.call255 trivial (t:=λa=>ZnF a.1 a.2)
abbrev Zmg:List Sh:=[Sh.agg (R.Pq (R.int u16) (R.Pq (R.int u8) (R.int i64)))]
abbrev Zmh:Rs:=Rs.one (Sh.one R.bool)
def ZqE (d:QT6):RT (Bool):=
 .Lf (decide (d.2.2>0))
def ZbH (d:QT6):Bool:=(ZqE d).val
def Zjs:En:=Zi Zmg Zmh (λ_=>none) (λa=>ZbH a)
theorem Zjr:Zd prog 250 Zjs:=
 pureQ 7 [] [] Zmg Zmh trivial Tryz.func250 Tryz.call250 trivial (t:=λa=>ZqE a)
abbrev Zjo:List Sh:=[Sh.agg (R.Pq (R.int u16) (R.Pq (R.int u8) (R.int i64)))]
abbrev Zjp:Rs:=Rs.tup [Sh.agg (R.Pq (R.int u16) (R.Pq (R.int u8) (R.int i64))),Sh.agg (R.Pq (R.int u16) (R.int u8)),Sh.one R.bool]
def Zhw (d:QT6):RT ((QT6)×(Int×Int)×Bool):=
 .br (!ZbH d) (.Lf (((0,0,0),(0,0),false))) (.Lf (((u16.wrap (d.1+1),d.2.1,i64.wrap (d.2.2-1)),(d.1,d.2.1),true)))
def Zgu (d:QT6):(QT6)×(Int×Int)×Bool:=(Zhw d).val
def Zmf:En:=Zi Zjo Zjp (λ_=>none) (λa=>Zgu a)
theorem ZqD:Zd prog 196 Zmf:=
 pureQ 63 [(250,Zjs)] [] Zjo Zjp ⟨Zjr,Tv⟩ Tryz.func196 Tryz.call196 trivial (t:=λa=>Zhw a)
end
end Go.Proofs.YtghoimllhpjkjaaGreat
