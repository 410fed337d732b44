import Derived.Test.YtghoimllhpjkjaaGreatS3D
import Derived.Test.YtghoimllhpjkjaaGreatProg
import Derived.Test.YtghoimllhpjkjaaGreatS3Box1
open Go.Proofs.Tryz (prog)
open Go.IntKind (u8 u16 i64)
set_option linter.unusedSimpArgs false
open Go Go.S3 Go.Proofs
set_option linter.unusedVariables false
set_option maxRecDepth 100000
namespace Go.Proofs.YtghoimllhpjkjaaGreat
noncomputable section
abbrev ZZA:List Sh:=[Sh.one (R.int u8),Sh.one (R.int i64)]
abbrev ZWW:Rs:=Rs.one (Sh.one R.bool)
def vOnT (s:Int) (l:Int):RT (Option (Bool)):=
 .br (decide (0<=l)) (.leaf (some (andI u8 (shrI u8 s l) 1==1))) (.leaf none)
def vOn (s:Int) (l:Int):Bool:=getO ZWW.dflt (vOnT s l).val
def vOnC (s:Int) (l:Int):Bool:=okB (vOnT s l).val
def vOnE:Entry:=Zg ZZA ZWW (λa=>some (vOnC a.1 a.2)) (λa=>vOn a.1 a.2)
theorem ZU2:Za prog 339 vOnE:=
 pureP 31 [] [] ZZA ZWW trivial Tryz.func339 Tryz.call339 trivial (t:=λa=>vOnT a.1 a.2)
abbrev ZLA:List Sh:=[Sh.one (R.int i64),Sh.one (R.int i64)]
abbrev ZLB:Rs:=Rs.one (Sh.one (R.int i64))
def ZUY (l:Int) (k:Int):RT (Int):=
 .leaf (andI i64 (i64.wrap (i64.wrap (andI i64 l 7-andI i64 k 7)+15)) 7)
def Zjn (l:Int) (k:Int):Int:=(ZUY l k).val
def ZEl:Entry:=Zg ZLA ZLB (λ_=>none) (λa=>Zjn a.1 a.2)
theorem ZrY:Za prog 338 ZEl:=
 pureQ 31 [] [] ZLA ZLB trivial Tryz.func338 Tryz.call338 trivial (t:=λa=>ZUY a.1 a.2)
abbrev ZLM:List Sh:=[Sh.one (R.int u8),Sh.one (R.int i64)]
abbrev ZzB:Rs:=Rs.one (Sh.one (R.int i64))
def ZSg:LS:={n:=29,slots:=[(0,.code (Sh.one (R.int u8))),(1,.code (Sh.one (R.int i64))),(5,.code (Sh.one (R.int i64))),(6,.code (Sh.one (R.int i64)))],boxes:=[],stgs:=[]}
def Zia (a:Int×Int×Int×Int×PUnit):RT (Option (Go1 (Int×Int×Int×Int×PUnit))):=
 .br (decide (a.2.2.2.1<8)) (.br (vOnC a.1 a.2.2.2.1) (.leaf (some (Go1.cont (a.1,a.2.1,bif vOn a.1 a.2.2.2.1&&(decide (a.2.2.1<0)||decide (Zjn a.2.2.2.1 a.2.1<Zjn a.2.2.1 a.2.1)) then a.2.2.2.1 else a.2.2.1,i64.wrap (a.2.2.2.1+1),PUnit.unit)))) (.leaf none)) (.leaf (some (Go1.brk (a.1,a.2.1,a.2.2.1,a.2.2.2.1,PUnit.unit))))
def ZEs:Ora:=Zbm false ZSg Zia (λa=>9)
theorem ZHD:Za1 (envX prog [(338,ZEl),(339,vOnE)] [] 127 8) (.block 0 (.loop (Zae Tryz.f329.body 0))) ZEs:=
 loopP ⟨ZrY,ZU2,Tv⟩
def Zwq (s:Int) (k:Int):RT (Option (Int)):=
 let x1:=runF false Zia (λa=>9) (s,k,-1,0,())
 .br (okB x1) (.leaf (some (getO (false,s,k,-1,0,()) x1).2.2.2.1)) (.leaf none)
def ZhA (s:Int) (k:Int):Int:=getO ZzB.dflt (Zwq s k).val
def Zqb (s:Int) (k:Int):Bool:=okB (Zwq s k).val
def ZLN:Entry:=Zg ZLM ZzB (λa=>some (Zqb a.1 a.2)) (λa=>ZhA a.1 a.2)
theorem ZEr:Za prog 329 ZLN:=
 pureP 127 [(338,ZEl),(339,vOnE)] [(0,ZEs)] ZLM ZzB ⟨ZrY,ZU2,Tv⟩ Tryz.func329 Tryz.call329 ⟨ZHD,Tv⟩ (t:=λa=>Zwq a.1 a.2)
abbrev ZEz:List Sh:=[Sh.one (R.int u8),Sh.one (R.int u8),Sh.one R.bool]
abbrev ZEA:Rs:=Rs.one (Sh.one (R.int u8))
def ZLT (m:Int) (s:Int) (p:Bool):RT (Int):=
 .br (p) (.leaf (Zcy u8 s m)) (.leaf (s))
def Zko (m:Int) (s:Int) (p:Bool):Int:=(ZLT m s p).val
def ZzE:Entry:=Zg ZEz ZEA (λ_=>none) (λa=>Zko a.1 a.2.1 a.2.2)
theorem Zwt:Za prog 330 ZzE:=
 pureQ 127 [] [] ZEz ZEA trivial Tryz.func330 Tryz.call330 trivial (t:=λa=>ZLT a.1 a.2.1 a.2.2)
abbrev ZLF:List Sh:=[Sh.one (R.int u8),Sh.one (R.int u8),Sh.one (R.int u8),Sh.one (R.int i64),Sh.one R.bool]
abbrev Zzx:Rs:=Rs.one (Sh.one (R.int i64))
def Zwp (r:Int) (m:Int) (s:Int) (k:Int) (p:Bool):RT (Option (Int)):=
 .br (Zqb (Zcy u8 r m) k) (.br (Zqb (Zko m s p) k) (.br (decide (ZhA (Zcy u8 r m) k>=0)&&(decide (ZhA (Zko m s p) k<0)||decide (Zjn (ZhA (Zcy u8 r m) k) k<Zjn (ZhA (Zko m s p) k) k))) (.leaf (some (ZhA (Zcy u8 r m) k))) (.leaf (some (-1)))) (.leaf none)) (.leaf none)
def ZWV (r:Int) (m:Int) (s:Int) (k:Int) (p:Bool):Int:=getO Zzx.dflt (Zwp r m s k p).val
def ZLG (r:Int) (m:Int) (s:Int) (k:Int) (p:Bool):Bool:=okB (Zwp r m s k p).val
def ZUZ:Entry:=Zg ZLF Zzx (λa=>some (ZLG a.1 a.2.1 a.2.2.1 a.2.2.2.1 a.2.2.2.2)) (λa=>ZWV a.1 a.2.1 a.2.2.1 a.2.2.2.1 a.2.2.2.2)
theorem ZSa:Za prog 328 ZUZ:=
 pureP 8191 [(329,ZLN),(330,ZzE),(338,ZEl)] [] ZLF Zzx ⟨ZEr,Zwt,ZrY,Tv⟩ Tryz.func328 Tryz.call328 trivial (t:=λa=>Zwp a.1 a.2.1 a.2.2.1 a.2.2.2.1 a.2.2.2.2)
abbrev ZU3:List Sh:=[]
abbrev ZU4:Rs:=Rs.one (Sh.agg Zbe)
def ZZB:RT PICT:=
 .leaf ((0,false,false,false,false,0,0,false,false,false,false,false,0,0,0,0,7,0,0,false))
def vNew:PICT:=(ZZB).val
def ZWY:Entry:=Zg ZU3 ZU4 (λ_=>none) (λa=>vNew)
theorem ZLK:Za prog 189 ZWY:=
 pureQ 1 [] [] ZU3 ZU4 trivial Tryz.func189 Tryz.call189 trivial (t:=λa=>ZZB)
abbrev ZEm:List Sh:=[Sh.agg Zbe,Sh.one (R.int u8)]
abbrev ZEn:Rs:=Rs.one (Sh.agg Zbe)
def ZLD (p:PICT) (l:Int):RT PICT:=
 let x1:=p.2.2.2.2.2.2.2.2.2.2.2.2.2
 .leaf ((p.1,p.2.1,p.2.2.1,p.2.2.2.1,p.2.2.2.2.1,p.2.2.2.2.2.1,p.2.2.2.2.2.2.1,p.2.2.2.2.2.2.2.1,p.2.2.2.2.2.2.2.2.1,p.2.2.2.2.2.2.2.2.2.1,p.2.2.2.2.2.2.2.2.2.2.1,p.2.2.2.2.2.2.2.2.2.2.2.1,l,andI u8 (orI u8 x1.1 (Zcy u8 l p.2.2.2.2.2.2.2.2.2.2.2.2.1)) l,x1.2))
def ZEo (p:PICT) (l:Int):PICT:=(ZLD p l).val
def ZLE:Entry:=Zg ZEm ZEn (λ_=>none) (λa=>ZEo a.1 a.2)
theorem ZLC:Za prog 191 ZLE:=
 pureQ 31 [] [] ZEm ZEn trivial Tryz.func191 Tryz.call191 trivial (t:=λa=>ZLD a.1 a.2)
abbrev ZUV:List Sh:=[Sh.agg Zbe]
abbrev ZUW:Rs:=Rs.one (Sh.one (R.int u8))
def ZZy (p:PICT):RT (Int):=
 .br p.2.1 (.leaf p.2.2.2.2.2.2.2.2.2.2.2.2.1) (.leaf p.2.2.2.2.2.2.2.2.2.2.2.2.2.1)
def vReq (p:PICT):Int:=(ZZy p).val
def ZWU:Entry:=Zg ZUV ZUW (λ_=>none) (λa=>vReq a)
theorem ZLu:Za prog 304 ZWU:=
 pureQ 7 [] [] ZUV ZUW trivial Tryz.func304 Tryz.call304 trivial (t:=λa=>ZZy a)
abbrev ZU0:List Sh:=[Sh.agg Zbe]
abbrev ZLI:Rs:=Rs.one (Sh.one (R.int i64))
def ZLH (p:PICT):RT (Option (Int)):=
 let x1:=p.2.2.2.2.2.2.2.2.2.2.2.2.2.2
 let x2:=x1.2
 let x3:=x2.1
 let x4:=x1.1
 let x5:=x2.2.1
 .br (ZLG (vReq p) x3 x4 x5 p.2.2.2.2.2.2.2.2.2.1) (.leaf (some (ZWV (vReq p) x3 x4 x5 p.2.2.2.2.2.2.2.2.2.1))) (.leaf none)
def vPck (p:PICT):Int:=getO ZLI.dflt (ZLH p).val
def ZHC (p:PICT):Bool:=okB (ZLH p).val
def ZSb:Entry:=Zg ZU0 ZLI (λa=>some (ZHC a)) (λa=>vPck a)
theorem Zzy:Za prog 299 ZSb:=
 pureP 7 [(304,ZWU),(328,ZUZ)] [] ZU0 ZLI ⟨ZLu,ZSa,Tv⟩ Tryz.func299 Tryz.call299 trivial (t:=λa=>ZLH a)
abbrev ZU5:List Sh:=[Sh.agg Zbe]
abbrev ZLL:Rs:=Rs.one (Sh.one R.bool)
def ZSe (p:PICT):RT (Option (Bool)):=
 .br (ZHC p) (.leaf (some (decide (vPck p>=0)))) (.leaf none)
def vInt (p:PICT):Bool:=getO ZLL.dflt (ZSe p).val
def ZSf (p:PICT):Bool:=okB (ZSe p).val
def ZZC:Entry:=Zg ZU5 ZLL (λa=>some (ZSf a)) (λa=>vInt a)
theorem ZWZ:Za prog 248 ZZC:=
 pureP 7 [(299,ZSb)] [] ZU5 ZLL ⟨Zzy,Tv⟩ Tryz.func248 Tryz.call248 trivial (t:=λa=>ZSe a)
abbrev ZEu:List Sh:=[Sh.agg Zbe,Sh.one (R.int u8)]
abbrev ZEv:Rs:=Rs.one (Sh.agg Zbe)
def ZLP (p:PICT) (v:Int):RT PICT:=
 .leaf ((2,andI u8 v 8 !=0,andI u8 v 4 !=0,andI u8 v 2 !=0,andI u8 v 1 !=0,andI u8 v 224,0,false,false,false,false,false,p.2.2.2.2.2.2.2.2.2.2.2.2.1,0,0,0,7,0,0,false))
def ZlW (p:PICT) (v:Int):PICT:=(ZLP p v).val
def ZLQ:Entry:=Zg ZEu ZEv (λ_=>none) (λa=>ZlW a.1 a.2)
theorem ZLO:Za prog 306 ZLQ:=
 pureQ 63 [(189,ZWY)] [] ZEu ZEv ⟨ZLK,Tv⟩ Tryz.func306 Tryz.call306 trivial (t:=λa=>ZLP a.1 a.2)
abbrev Zqc:List Sh:=[Sh.agg Zbe,Sh.one (R.int u8)]
abbrev Zqd:Rs:=Rs.one (Sh.agg Zbe)
def Zwr (p:PICT) (v:Int):RT PICT:=
 let x1:=p.2.2.2.2.2.2.2.2.2.2.2.2.2
 let x2:=x1.2
 let x3:=x2.2
 let x4:=x3.1
 .leaf ((bif p.1==2 then bif !p.2.2.2.1 then 3 else bif p.2.2.2.2.1 then 4 else 0 else bif p.1==3 then bif p.2.2.2.2.1 then 4 else 0 else bif p.1==4 then 0 else p.1,p.2.1,p.2.2.1,p.2.2.2.1,p.2.2.2.2.1,p.2.2.2.2.2.1,bif p.1==2 then v else p.2.2.2.2.2.2.1,bif p.1==2 then p.2.2.2.2.2.2.2.1 else bif p.1==3 then p.2.2.2.2.2.2.2.1 else bif p.1==4 then andI u8 v 2 !=0 else p.2.2.2.2.2.2.2.1,p.2.2.2.2.2.2.2.2.1,p.2.2.2.2.2.2.2.2.2.1,p.2.2.2.2.2.2.2.2.2.2.1,p.2.2.2.2.2.2.2.2.2.2.2.1,p.2.2.2.2.2.2.2.2.2.2.2.2.1,x1.1,x2.1,bif p.1==2 then x4 else bif p.1==3 then x4 else bif p.1==4 then x4 else v,x3.2))
def ZEt (p:PICT) (v:Int):PICT:=(Zwr p v).val
def Zws:Entry:=Zg Zqc Zqd (λ_=>none) (λa=>ZEt a.1 a.2)
theorem ZzC:Za prog 305 Zws:=
 pureQ 71307327 [] [] Zqc Zqd trivial Tryz.func305 Tryz.call305 trivial (t:=λa=>Zwr a.1 a.2)
abbrev ZLJ:List Sh:=[Sh.agg Zbe,Sh.one (R.int u8)]
abbrev ZzA:Rs:=Rs.one (Sh.agg Zbe)
def ZEp (p:PICT) (v:Int):RT (Option PICT):=
 let x1:=p.2.2.2.2.2.2.2.2.2.2.2.2.2
 let x2:=x1.2
 let x3:=x2.2
 let x4:=x3.1
 let x5:=x2.1
 let x6:=Zko x4 x5 p.2.2.2.2.2.2.2.2.2.1
 let x7:=x3.2
 let x8:=x7.1
 let x9:=ZhA x6 x8
 let x10:=decide (x9>=0)
 let x11:= !x10||decide (0<=x9)
 let x12:=shrI u8 v 5==0||(!shrI u8 v 5==1||x11)
 let x13:= !x12
 let x14:=shrI u8 v 5==0||(shrI u8 v 5==1||(!shrI u8 v 5==3||decide (0<=i64.wrap (andI u8 v 7))))
 let x15:= !x14
 let x16:=shrI u8 v 5==0||(shrI u8 v 5==1||(shrI u8 v 5==3||(shrI u8 v 5==4||(!shrI u8 v 5==5||x11))))
 let x17:Int:=bif x10 then Zcy u8 x5 (shlI u8 1 x9) else x5
 let x18:=Zcy u8 x5 (shlI u8 1 (i64.wrap (andI u8 v 7)))
 .br (Zqb x6 x8) (.br (x13||(x15||(!x16||(shrI u8 v 5==0||(shrI u8 v 5==1||(shrI u8 v 5==3||(shrI u8 v 5==4||(shrI u8 v 5==5||(shrI u8 v 5==6||(!shrI u8 v 5==7||decide (0<=i64.wrap (andI u8 v 7)))))))))))) (.br (x13||(x15||x16)) (.br (x13||x14) (.br (x12) (.leaf (some ((p.1,p.2.1,p.2.2.1,p.2.2.2.1,p.2.2.2.2.1,p.2.2.2.2.2.1,p.2.2.2.2.2.2.1,p.2.2.2.2.2.2.2.1,!shrI u8 v 5==0&&bif shrI u8 v 5==1 then p.2.2.2.2.2.2.2.2.1 else bif shrI u8 v 5==3 then p.2.2.2.2.2.2.2.2.1 else shrI u8 v 5==4||p.2.2.2.2.2.2.2.2.1,p.2.2.2.2.2.2.2.2.2.1,p.2.2.2.2.2.2.2.2.2.2.1,p.2.2.2.2.2.2.2.2.2.2.2.1,p.2.2.2.2.2.2.2.2.2.2.2.2.1,x1.1,bif shrI u8 v 5==0 then x5 else bif shrI u8 v 5==1 then x17 else bif shrI u8 v 5==3 then x18 else bif shrI u8 v 5==4 then x5 else bif shrI u8 v 5==5 then x17 else bif shrI u8 v 5==6 then x5 else bif shrI u8 v 5==7 then x18 else x5,x4,bif shrI u8 v 5==0 then x8 else bif shrI u8 v 5==1 then x8 else bif shrI u8 v 5==3 then x8 else bif shrI u8 v 5==4 then x8 else bif shrI u8 v 5==5 then bif x10 then x9 else x8 else bif shrI u8 v 5==6 then i64.wrap (andI u8 v 7) else bif shrI u8 v 5==7 then i64.wrap (andI u8 v 7) else x8,x7.2)))) (.leaf none)) (.leaf none)) (.leaf none)) (.leaf none)) (.leaf none)
def ZZz (p:PICT) (v:Int):PICT:=getO ZzA.dflt (ZEp p v).val
def ZEq (p:PICT) (v:Int):Bool:=okB (ZEp p v).val
def ZU1:Entry:=Zg ZLJ ZzA (λa=>some (ZEq a.1 a.2)) (λa=>ZZz a.1 a.2)
theorem ZSc:Za prog 307 ZU1:=
 pureP 4899995593813786751 [(329,ZLN),(330,ZzE)] [] ZLJ ZzA ⟨ZEr,Zwt,Tv⟩ Tryz.func307 Tryz.call307 trivial (t:=λa=>ZEp a.1 a.2)
abbrev ZEc:List Sh:=[Sh.agg Zbe,Sh.one R.bool,Sh.one (R.int u8)]
abbrev ZrT:Rs:=Rs.one (Sh.agg Zbe)
def ZrS (p:PICT) (h:Bool) (v:Int):RT (Option PICT):=
 .br (h||(andI u8 v 16 !=0||(!andI u8 v 8==0||ZEq p v))) (.br (h) (.leaf (some (ZEt p v))) (.br (andI u8 v 16 !=0) (.leaf (some ((2,(ZlW p v).2.1,(ZlW p v).2.2.1,(ZlW p v).2.2.2.1,(ZlW p v).2.2.2.2.1,(ZlW p v).2.2.2.2.2.1,0,false,false,false,false,false,(ZlW p v).2.2.2.2.2.2.2.2.2.2.2.2.1,0,0,0,7,0,0,false)))) (.br (andI u8 v 8==0) (.leaf (some (ZZz p v))) (.leaf (some ((p.1,p.2.1,p.2.2.1,p.2.2.2.1,p.2.2.2.2.1,p.2.2.2.2.2.1,p.2.2.2.2.2.2.1,p.2.2.2.2.2.2.2.1,p.2.2.2.2.2.2.2.2.1,bif andI u8 v 64 !=0 then andI u8 v 32 !=0 else p.2.2.2.2.2.2.2.2.2.1,bif andI u8 v 2 !=0 then andI u8 v 1 !=0 else p.2.2.2.2.2.2.2.2.2.2.1,p.2.2.2.2.2.2.2.2.2.2.2.1||andI u8 v 4 !=0,p.2.2.2.2.2.2.2.2.2.2.2.2))))))) (.leaf none)
def ZLr (p:PICT) (h:Bool) (v:Int):PICT:=getO ZrT.dflt (ZrS p h v).val
def ZrU (p:PICT) (h:Bool) (v:Int):Bool:=okB (ZrS p h v).val
def ZLq:Entry:=Zg ZEc ZrT (λa=>some (ZrU a.1 a.2.1 a.2.2)) (λa=>ZLr a.1 a.2.1 a.2.2)
theorem ZLo:Za prog 256 ZLq:=
 pureP 528639 [(305,Zws),(306,ZLQ),(307,ZU1)] [] ZEc ZrT ⟨ZzC,ZLO,ZSc,Tv⟩ Tryz.func256 Tryz.call256 trivial (t:=λa=>ZrS a.1 a.2.1 a.2.2)
abbrev ZLs:List Sh:=[Sh.agg Zbe,Sh.one (R.int i64)]
abbrev Zzv:Rs:=Rs.one (Sh.agg Zbe)
def ZEh (p:PICT) (x:Int):RT (Option PICT):=
 let x1:=p.2.2.2.2.2.2.2.2.2.2.2.2.2
 let x2:=x1.2
 .br (decide (0<=x)) (.br (decide (0<=x)) (.leaf (some ((p.1,p.2.1,p.2.2.1,p.2.2.2.1,p.2.2.2.2.1,p.2.2.2.2.2.1,p.2.2.2.2.2.2.1,p.2.2.2.2.2.2.2.1,p.2.2.2.2.2.2.2.2.1,p.2.2.2.2.2.2.2.2.2.1,p.2.2.2.2.2.2.2.2.2.2.1,p.2.2.2.2.2.2.2.2.2.2.2.1,p.2.2.2.2.2.2.2.2.2.2.2.2.1,Zcy u8 x1.1 (shlI u8 1 x),orI u8 x2.1 (shlI u8 1 x),x2.2)))) (.leaf none)) (.leaf none)
def ZWT (p:PICT) (x:Int):PICT:=getO Zzv.dflt (ZEh p x).val
def ZlT (p:PICT) (x:Int):Bool:=okB (ZEh p x).val
def ZLt:Entry:=Zg ZLs Zzv (λa=>some (ZlT a.1 a.2)) (λa=>ZWT a.1 a.2)
theorem ZEf:Za prog 302 ZLt:=
 pureP 31 [] [] ZLs Zzv trivial Tryz.func302 Tryz.call302 trivial (t:=λa=>ZEh a.1 a.2)
abbrev ZLR:List Sh:=[Sh.agg Zbe,Sh.one (R.int i64)]
abbrev ZzD:Rs:=Rs.one (Sh.agg Zbe)
def ZEy (p:PICT) (x:Int):RT (Option PICT):=
 let x1:=p.2.2.2.2.2.2.2.2.2.2.2.2.2
 let x2:=x1.2
 let x3:=x2.2
 let x4:=x3.2
 .br (decide (0<=x)) (.leaf (some ((p.1,p.2.1,p.2.2.1,p.2.2.2.1,p.2.2.2.2.1,p.2.2.2.2.2.1,p.2.2.2.2.2.2.1,p.2.2.2.2.2.2.2.1,p.2.2.2.2.2.2.2.2.1,p.2.2.2.2.2.2.2.2.2.1,p.2.2.2.2.2.2.2.2.2.2.1,p.2.2.2.2.2.2.2.2.2.2.2.1,p.2.2.2.2.2.2.2.2.2.2.2.2.1,x1.1,Zcy u8 x2.1 (shlI u8 1 x),x3.1,bif p.2.2.2.2.2.2.2.2.1 then x else x4.1,x4.2)))) (.leaf none)
def ZW1 (p:PICT) (x:Int):PICT:=getO ZzD.dflt (ZEy p x).val
def ZlX (p:PICT) (x:Int):Bool:=okB (ZEy p x).val
def ZLS:Entry:=Zg ZLR ZzD (λa=>some (ZlX a.1 a.2)) (λa=>ZW1 a.1 a.2)
theorem ZEw:Za prog 303 ZLS:=
 pureP 31 [] [] ZLR ZzD trivial Tryz.func303 Tryz.call303 trivial (t:=λa=>ZEy a.1 a.2)
abbrev ZLv:List Sh:=[Sh.agg Zbe,Sh.one R.bool]
abbrev Zzw:Rs:=Rs.tup [Sh.agg Zbe,Sh.one (R.int u8)]
def ZEi (p:PICT) (h:Bool):RT (Option (PICT×Int)):=
 let x1:= !p.2.2.2.2.2.2.2.2.2.2.2.1
 let x2:=h||(x1||ZHC p)
 let x3:= !x2
 let x4:PICT:=(p.1,p.2.1,p.2.2.1,p.2.2.2.1,p.2.2.2.2.1,p.2.2.2.2.2.1,p.2.2.2.2.2.2.1,p.2.2.2.2.2.2.2.1,p.2.2.2.2.2.2.2.2.1,p.2.2.2.2.2.2.2.2.2.1,p.2.2.2.2.2.2.2.2.2.2.1,false,p.2.2.2.2.2.2.2.2.2.2.2.2)
 let x5:=ZlT x4 (vPck p)
 let x6:=ZWT x4 (vPck p)
 let x7:=x6.2
 let x8:=x7.2
 let x9:=x8.2
 let x10:=x9.2
 let x11:=x10.2
 let x12:=x11.2
 let x13:=x12.2
 let x14:=x13.1
 let x15:=p.2.2.2.2.2.2.2.2.2.2.2.2.2.2
 let x16:=ZW1 x6 (vPck p)
 .br (x3||(h||(x1||(decide (vPck p<0)||(!x5||(!x14||ZlX x6 (vPck p))))))) (.br (x3||(h||(x1||(decide (vPck p<0)||x5)))) (.br (x2) (.br (h) (.leaf (some ((p,x15.2.1)))) (.br p.2.2.2.2.2.2.2.2.2.2.2.1 (.br (decide (vPck p<0)) (.leaf (some ((x4,0)))) (.leaf (some (((R.sel Zbe x14 x16 x6),u8.wrap (i64.wrap (128+vPck p))))))) (.br p.2.2.2.2.2.2.2.2.2.2.1 (.leaf (some ((p,x15.1)))) (.leaf (some ((p,vReq p))))))) (.leaf none)) (.leaf none)) (.leaf none)
def ZR9 (p:PICT) (h:Bool):PICT×Int:=getO Zzw.dflt (ZEi p h).val
def ZEk (p:PICT) (h:Bool):Bool:=okB (ZEi p h).val
def ZUX:Entry:=Zg ZLv Zzw (λa=>some (ZEk a.1 a.2)) (λa=>ZR9 a.1 a.2)
theorem ZR7:Za prog 254 ZUX:=
 pureP 8589938943 [(299,ZSb),(302,ZLt),(303,ZLS),(304,ZWU)] [] ZLv Zzw ⟨Zzy,ZEf,ZEw,ZLu,Tv⟩ Tryz.func254 Tryz.call254 trivial (t:=λa=>ZEi a.1 a.2)
abbrev ZU6:List Sh:=[Sh.agg Zbe]
abbrev ZLU:Rs:=Rs.tup [Sh.agg Zbe,Sh.one (R.int u8)]
def ZSh (p:PICT):RT (Option (PICT×Int)):=
 let x1:=p.2.2.2.2.2.2.2.2.2.2.2.2.2
 let x2:=x1.2
 let x3:=x2.2
 let x4:=x3.2
 let x5:=x4.2
 let x6:=x5.1
 let x7:=x6==0
 let x8:= !x7
 let x9:=x8||ZHC p
 let x10:=p.2.2.2.2.2.2.2.2.2.2.2.2.1
 let x11:=x1.1
 let x12:=x2.1
 let x13:=x3.1
 let x14:=x4.1
 let x15:PICT:=(p.1,p.2.1,p.2.2.1,p.2.2.2.1,p.2.2.2.2.1,p.2.2.2.2.2.1,p.2.2.2.2.2.2.1,p.2.2.2.2.2.2.2.1,p.2.2.2.2.2.2.2.2.1,p.2.2.2.2.2.2.2.2.2.1,p.2.2.2.2.2.2.2.2.2.2.1,p.2.2.2.2.2.2.2.2.2.2.2.1,x10,x11,x12,x13,x14,1,7,true)
 let x16:=ZWT x15 (vPck p)
 let x17:=x16.2
 let x18:=x17.2
 let x19:=x18.2
 let x20:=x19.2
 let x21:=x20.2
 let x22:=x21.2
 let x23:=x22.2
 let x24:=x23.2
 let x25:=x24.2
 let x26:=x25.2
 let x27:=x26.2
 let x28:=x27.2
 let x29:=x28.2
 let x30:=x29.2
 let x31:=x30.2
 let x32:=x31.2
 let x33:=x5.2
 let x34:PICT:=(p.1,p.2.1,p.2.2.1,p.2.2.2.1,p.2.2.2.2.1,p.2.2.2.2.2.1,p.2.2.2.2.2.2.1,p.2.2.2.2.2.2.2.1,p.2.2.2.2.2.2.2.2.1,p.2.2.2.2.2.2.2.2.2.1,p.2.2.2.2.2.2.2.2.2.2.1,p.2.2.2.2.2.2.2.2.2.2.2.1,x10,x11,x12,x13,x14,2,x33)
 let x35:=x33.1
 let x36:=andI i64 x35 7
 let x37:=x33.2
 let x38:=p.2.2.2.2.2.2.2.1&& !x37
 let x39:PICT:=(p.1,p.2.1,p.2.2.1,p.2.2.2.1,p.2.2.2.2.1,p.2.2.2.2.2.1,p.2.2.2.2.2.2.1,p.2.2.2.2.2.2.2.1,p.2.2.2.2.2.2.2.2.1,p.2.2.2.2.2.2.2.2.2.1,p.2.2.2.2.2.2.2.2.2.2.1,p.2.2.2.2.2.2.2.2.2.2.2.1,x10,x11,x12,x13,x14,0,x33)
 let x40:=ZW1 x39 x36
 let x41:=x40.2
 let x42:=x41.2
 let x43:=x42.2
 let x44:=x43.2
 let x45:=x44.2
 let x46:=x45.2
 let x47:Int:=bif x38 then x46.1 else p.2.2.2.2.2.2.1
 let x48:=x46.2
 let x49:=x48.2
 let x50:=x49.2
 let x51:=x50.2
 let x52:=x51.2
 let x53:=x52.2
 let x54:=x53.2
 let x55:=x54.2
 let x56:=x55.2
 let x57:=x56.2
 let x58:=x57.2
 let x59:=x58.2
 .br (!x9||(x8||(!decide (vPck p>=0)||ZlT x15 (vPck p)))) (.br (x9) (.br (x7) (.leaf (some (((bif decide (vPck p>=0) then x16.1 else p.1,bif decide (vPck p>=0) then x17.1 else p.2.1,bif decide (vPck p>=0) then x18.1 else p.2.2.1,bif decide (vPck p>=0) then x19.1 else p.2.2.2.1,bif decide (vPck p>=0) then x20.1 else p.2.2.2.2.1,bif decide (vPck p>=0) then x21.1 else p.2.2.2.2.2.1,bif decide (vPck p>=0) then x22.1 else p.2.2.2.2.2.2.1,bif decide (vPck p>=0) then x23.1 else p.2.2.2.2.2.2.2.1,bif decide (vPck p>=0) then x24.1 else p.2.2.2.2.2.2.2.2.1,bif decide (vPck p>=0) then x25.1 else p.2.2.2.2.2.2.2.2.2.1,bif decide (vPck p>=0) then x26.1 else p.2.2.2.2.2.2.2.2.2.2.1,bif decide (vPck p>=0) then x27.1 else p.2.2.2.2.2.2.2.2.2.2.2.1,bif decide (vPck p>=0) then x28.1 else x10,bif decide (vPck p>=0) then x29.1 else x11,bif decide (vPck p>=0) then x30.1 else x12,bif decide (vPck p>=0) then x31.1 else x13,bif decide (vPck p>=0) then x32.1 else x14,bif decide (vPck p>=0) then x32.2.1 else 1,bif decide (vPck p>=0) then vPck p else 7,!decide (vPck p>=0)),205)))) (.br (x6==1) (.br p.2.2.1 (.leaf (some ((x34,u8.wrap (andI u8 p.2.2.2.2.2.1 224+u8.wrap (i64.wrap (4*x36))))))) (.leaf (some ((x34,u8.wrap (andI u8 p.2.2.2.2.2.1 192+u8.wrap (i64.wrap (8*x36)))))))) (.br (!x38||ZlX x39 x36) (.leaf (some (((bif x38 then x40.1 else p.1,bif x38 then x41.1 else p.2.1,bif x38 then x42.1 else p.2.2.1,bif x38 then x43.1 else p.2.2.2.1,bif x38 then x44.1 else p.2.2.2.2.1,bif x38 then x45.1 else p.2.2.2.2.2.1,x47,bif x38 then x48.1 else p.2.2.2.2.2.2.2.1,bif x38 then x49.1 else p.2.2.2.2.2.2.2.2.1,bif x38 then x50.1 else p.2.2.2.2.2.2.2.2.2.1,bif x38 then x51.1 else p.2.2.2.2.2.2.2.2.2.2.1,bif x38 then x52.1 else p.2.2.2.2.2.2.2.2.2.2.2.1,bif x38 then x53.1 else x10,bif x38 then x54.1 else x11,bif x38 then x55.1 else x12,bif x38 then x56.1 else x13,bif x38 then x57.1 else x14,bif x38 then x58.1 else 0,bif x38 then x59.1 else x35,bif x38 then x59.2 else x37),x47)))) (.leaf none)))) (.leaf none)) (.leaf none)
def vAck (p:PICT):PICT×Int:=getO ZLU.dflt (ZSh p).val
def ZSi (p:PICT):Bool:=okB (ZSh p).val
def ZZD:Entry:=Zg ZU6 ZLU (λa=>some (ZSi a)) (λa=>vAck a)
theorem ZW2:Za prog 253 ZZD:=
 pureP 134219839 [(299,ZSb),(302,ZLt),(303,ZLS)] [] ZU6 ZLU ⟨Zzy,ZEf,ZEw,Tv⟩ Tryz.func253 Tryz.call253 trivial (t:=λa=>ZSh a)
abbrev Zwl:List Sh:=[Sh.agg (R.pair (R.int u16) (R.pair (R.int u8) (R.int i64))),Sh.one (R.int i64),Sh.one (R.int u8)]
abbrev Zwm:Rs:=Rs.one (Sh.agg (R.pair (R.int u16) (R.pair (R.int u8) (R.int i64))))
def ZEd (d:QT7) (r:Int) (v:Int):RT (QT7):=
 .leaf ((bif andI i64 r 3==0 then orI u16 (andI u16 d.1 65280) (u16.wrap v) else bif andI i64 r 3==1 then orI u16 (andI u16 d.1 255) (shlI u16 (u16.wrap v) 8) else d.1,bif andI i64 r 3==0 then d.2.1 else bif andI i64 r 3==1 then d.2.1 else bif andI i64 r 3==2 then v else d.2.1,bif andI i64 r 3==0 then d.2.2 else bif andI i64 r 3==1 then d.2.2 else bif andI i64 r 3==2 then d.2.2 else i64.wrap v))
def Zzu (d:QT7) (r:Int) (v:Int):QT7:=(ZEd d r v).val
def ZEe:Entry:=Zg Zwl Zwm (λ_=>none) (λa=>Zzu a.1 a.2.1 a.2.2)
theorem ZHB:Za prog 257 ZEe:=
 pureQ 2149585023 [] [] Zwl Zwm trivial Tryz.func257 Tryz.call257 trivial (t:=λa=>ZEd a.1 a.2.1 a.2.2)
abbrev ZEj:List Sh:=[Sh.agg (R.pair (R.int u16) (R.pair (R.int u8) (R.int i64))),Sh.one (R.int i64)]
abbrev ZrW:Rs:=Rs.one (Sh.one (R.int u8))
def ZrV (d:QT7) (r:Int):RT (Option (Int)):=
 .br (decide (0<=andI i64 r 3/\andI i64 r 3<4)) (.leaf (some (bif andI i64 r 3==0 then u8.wrap d.1 else bif andI i64 r 3==iN (0+1) then u8.wrap (shrI u16 d.1 8) else bif andI i64 r 3==iN (0+1+1) then d.2.1 else u8.wrap d.2.2))) (.leaf none)
def ZLz (d:QT7) (r:Int):Int:=getO ZrW.dflt (ZrV d r).val
def ZrX (d:QT7) (r:Int):Bool:=okB (ZrV d r).val
def ZLy:Entry:=Zg ZEj ZrW (λa=>some (ZrX a.1 a.2)) (λa=>ZLz a.1 a.2)
theorem ZLw:Za prog 255 ZLy:=
 pureP 31 [] [] ZEj ZrW trivial Tryz.func255 Tryz.call255 trivial (t:=λa=>ZrV a.1 a.2)
abbrev Zp9:List Sh:=[Sh.agg (R.pair (R.int u16) (R.pair (R.int u8) (R.int i64)))]
abbrev Zqa:Rs:=Rs.one (Sh.one R.bool)
def Zwo (d:QT7):RT (Bool):=
 .leaf (decide (d.2.2>0))
def Zcq (d:QT7):Bool:=(Zwo d).val
def ZlV:Entry:=Zg Zp9 Zqa (λ_=>none) (λa=>Zcq a)
theorem ZlU:Za prog 250 ZlV:=
 pureQ 7 [] [] Zp9 Zqa trivial Tryz.func250 Tryz.call250 trivial (t:=λa=>Zwo a)
abbrev ZlR:List Sh:=[Sh.agg (R.pair (R.int u16) (R.pair (R.int u8) (R.int i64)))]
abbrev ZlS:Rs:=Rs.tup [Sh.agg (R.pair (R.int u16) (R.pair (R.int u8) (R.int i64))),Sh.agg (R.pair (R.int u16) (R.int u8)),Sh.one R.bool]
def Zjm (d:QT7):RT ((QT7)×(Int×Int)×Bool):=
 .br (!Zcq d) (.leaf (((0,0,0),(0,0),false))) (.leaf (((u16.wrap (d.1+1),d.2.1,i64.wrap (d.2.2-1)),(d.1,d.2.1),true)))
def Zh9 (d:QT7):(QT7)×(Int×Int)×Bool:=(Zjm d).val
def Zp8:Entry:=Zg ZlR ZlS (λ_=>none) (λa=>Zh9 a)
theorem Zwn:Za prog 196 Zp8:=
 pureQ 63 [(250,ZlV)] [] ZlR ZlS ⟨ZlU,Tv⟩ Tryz.func196 Tryz.call196 trivial (t:=λa=>Zjm a)
end
end Go.Proofs.YtghoimllhpjkjaaGreat
