import Derived.Test.YtghoimllhpjkjaaGreatS3D
import Derived.Test.YtghoimllhpjkjaaGreatProg
import Derived.Test.YtghoimllhpjkjaaGreatS3Box1
open Go.Proofs.Tryz (prog)
open Go.IntKind (u8 u16 i64)
set_option linter.unusedSimpArgs false
open Go Go.S3 Go.Proofs
set_option linter.unusedVariables false
set_option maxRecDepth 100000
namespace Go.Proofs.YtghoimllhpjkjaaGreat
noncomputable section
abbrev ZZ6:List Sh:=[Sh.one (R.int u8),Sh.one (R.int i64)]
abbrev ZXs:Rs:=Rs.one (Sh.one R.bool)
def vOnT (s:Int) (l:Int):RT (Option (Bool)):=
 .br (decide (0<=l)) (.leaf (some (andI u8 (shrI u8 s l) 1==1))) (.leaf none)
def vOn (s:Int) (l:Int):Bool:=getO ZXs.dflt (vOnT s l).val
def vOnC (s:Int) (l:Int):Bool:=okB (vOnT s l).val
def vOnE:Entry:=Zg ZZ6 ZXs (λa=>some (vOnC a.1 a.2)) (λa=>vOn a.1 a.2)
theorem ZVA:Za prog 339 vOnE:=
 pureP 31 [] [] ZZ6 ZXs trivial Tryz.func339 Tryz.call339 trivial (t:=λa=>vOnT a.1 a.2)
abbrev ZLW:List Sh:=[Sh.one (R.int i64),Sh.one (R.int i64)]
abbrev ZLX:Rs:=Rs.one (Sh.one (R.int i64))
def ZVw (l:Int) (k:Int):RT (Int):=
 .leaf (andI i64 (i64.wrap (i64.wrap (andI i64 l 7-andI i64 k 7)+15)) 7)
def ZjG (l:Int) (k:Int):Int:=(ZVw l k).val
def ZEF:Entry:=Zg ZLW ZLX (λ_=>none) (λa=>ZjG a.1 a.2)
theorem Zsm:Za prog 338 ZEF:=
 pureQ 31 [] [] ZLW ZLX trivial Tryz.func338 Tryz.call338 trivial (t:=λa=>ZVw a.1 a.2)
abbrev ZL8:List Sh:=[Sh.one (R.int u8),Sh.one (R.int i64)]
abbrev ZzZ:Rs:=Rs.one (Sh.one (R.int i64))
def ZSO:LS:={n:=29,slots:=[(0,.code (Sh.one (R.int u8))),(1,.code (Sh.one (R.int i64))),(5,.code (Sh.one (R.int i64))),(6,.code (Sh.one (R.int i64)))],boxes:=[],stgs:=[]}
def Zip (a:Int×Int×Int×Int×PUnit):RT (Option (Go1 (Int×Int×Int×Int×PUnit))):=
 .br (decide (a.2.2.2.1<8)) (.br (vOnC a.1 a.2.2.2.1) (.leaf (some (Go1.cont (a.1,a.2.1,bif vOn a.1 a.2.2.2.1&&(decide (a.2.2.1<0)||decide (ZjG a.2.2.2.1 a.2.1<ZjG a.2.2.1 a.2.1)) then a.2.2.2.1 else a.2.2.1,i64.wrap (a.2.2.2.1+1),PUnit.unit)))) (.leaf none)) (.leaf (some (Go1.brk (a.1,a.2.1,a.2.2.1,a.2.2.2.1,PUnit.unit))))
def ZEM:Ora:=Za5 false ZSO Zip (λa=>9)
theorem ZHZ:ZaJ (envX prog [(338,ZEF),(339,vOnE)] [] 127 8) (.block 0 (.loop (Z6 Tryz.f329.body 0))) ZEM:=
 loopP ⟨Zsm,ZVA,Tv⟩
def ZwS (s:Int) (k:Int):RT (Option (Int)):=
 let x1:=runF false Zip (λa=>9) (s,k,-1,0,())
 .br (okB x1) (.leaf (some (getO (false,s,k,-1,0,()) x1).2.2.2.1)) (.leaf none)
def ZhK (s:Int) (k:Int):Int:=getO ZzZ.dflt (ZwS s k).val
def Zqx (s:Int) (k:Int):Bool:=okB (ZwS s k).val
def ZL9:Entry:=Zg ZL8 ZzZ (λa=>some (Zqx a.1 a.2)) (λa=>ZhK a.1 a.2)
theorem ZEL:Za prog 329 ZL9:=
 pureP 127 [(338,ZEF),(339,vOnE)] [(0,ZEM)] ZL8 ZzZ ⟨Zsm,ZVA,Tv⟩ Tryz.func329 Tryz.call329 ⟨ZHZ,Tv⟩ (t:=λa=>ZwS a.1 a.2)
abbrev ZET:List Sh:=[Sh.one (R.int u8),Sh.one (R.int u8),Sh.one R.bool]
abbrev ZEU:Rs:=Rs.one (Sh.one (R.int u8))
def ZMf (m:Int) (s:Int) (p:Bool):RT (Int):=
 .br (p) (.leaf (Zcq u8 s m)) (.leaf (s))
def ZkI (m:Int) (s:Int) (p:Bool):Int:=(ZMf m s p).val
def Zz2:Entry:=Zg ZET ZEU (λ_=>none) (λa=>ZkI a.1 a.2.1 a.2.2)
theorem ZwV:Za prog 330 Zz2:=
 pureQ 127 [] [] ZET ZEU trivial Tryz.func330 Tryz.call330 trivial (t:=λa=>ZMf a.1 a.2.1 a.2.2)
abbrev ZL1:List Sh:=[Sh.one (R.int u8),Sh.one (R.int u8),Sh.one (R.int u8),Sh.one (R.int i64),Sh.one R.bool]
abbrev ZzV:Rs:=Rs.one (Sh.one (R.int i64))
def ZwR (r:Int) (m:Int) (s:Int) (k:Int) (p:Bool):RT (Option (Int)):=
 .br (Zqx (Zcq u8 r m) k) (.br (Zqx (ZkI m s p) k) (.br (decide (ZhK (Zcq u8 r m) k>=0)&&(decide (ZhK (ZkI m s p) k<0)||decide (ZjG (ZhK (Zcq u8 r m) k) k<ZjG (ZhK (ZkI m s p) k) k))) (.leaf (some (ZhK (Zcq u8 r m) k))) (.leaf (some (-1)))) (.leaf none)) (.leaf none)
def ZXr (r:Int) (m:Int) (s:Int) (k:Int) (p:Bool):Int:=getO ZzV.dflt (ZwR r m s k p).val
def ZL2 (r:Int) (m:Int) (s:Int) (k:Int) (p:Bool):Bool:=okB (ZwR r m s k p).val
def ZVx:Entry:=Zg ZL1 ZzV (λa=>some (ZL2 a.1 a.2.1 a.2.2.1 a.2.2.2.1 a.2.2.2.2)) (λa=>ZXr a.1 a.2.1 a.2.2.1 a.2.2.2.1 a.2.2.2.2)
theorem ZSI:Za prog 328 ZVx:=
 pureP 8191 [(329,ZL9),(330,Zz2),(338,ZEF)] [] ZL1 ZzV ⟨ZEL,ZwV,Zsm,Tv⟩ Tryz.func328 Tryz.call328 trivial (t:=λa=>ZwR a.1 a.2.1 a.2.2.1 a.2.2.2.1 a.2.2.2.2)
abbrev ZVB:List Sh:=[]
abbrev ZVC:Rs:=Rs.one (Sh.agg Za4)
def ZZ7:RT PICT:=
 .leaf ((0,false,false,false,false,0,0,false,false,false,false,false,0,0,0,0,7,0,0,false))
def vNew:PICT:=(ZZ7).val
def ZXu:Entry:=Zg ZVB ZVC (λ_=>none) (λa=>vNew)
theorem ZL6:Za prog 189 ZXu:=
 pureQ 1 [] [] ZVB ZVC trivial Tryz.func189 Tryz.call189 trivial (t:=λa=>ZZ7)
abbrev ZEG:List Sh:=[Sh.agg Za4,Sh.one (R.int u8)]
abbrev ZEH:Rs:=Rs.one (Sh.agg Za4)
def ZLZ (p:PICT) (l:Int):RT PICT:=
 let x1:=p.2.2.2.2.2.2.2.2.2.2.2.2.2
 .leaf ((p.1,p.2.1,p.2.2.1,p.2.2.2.1,p.2.2.2.2.1,p.2.2.2.2.2.1,p.2.2.2.2.2.2.1,p.2.2.2.2.2.2.2.1,p.2.2.2.2.2.2.2.2.1,p.2.2.2.2.2.2.2.2.2.1,p.2.2.2.2.2.2.2.2.2.2.1,p.2.2.2.2.2.2.2.2.2.2.2.1,l,andI u8 (orI u8 x1.1 (Zcq u8 l p.2.2.2.2.2.2.2.2.2.2.2.2.1)) l,x1.2))
def ZEI (p:PICT) (l:Int):PICT:=(ZLZ p l).val
def ZL0:Entry:=Zg ZEG ZEH (λ_=>none) (λa=>ZEI a.1 a.2)
theorem ZLY:Za prog 191 ZL0:=
 pureQ 31 [] [] ZEG ZEH trivial Tryz.func191 Tryz.call191 trivial (t:=λa=>ZLZ a.1 a.2)
abbrev ZVt:List Sh:=[Sh.agg Za4]
abbrev ZVu:Rs:=Rs.one (Sh.one (R.int u8))
def ZZ4 (p:PICT):RT (Int):=
 .br p.2.1 (.leaf p.2.2.2.2.2.2.2.2.2.2.2.2.1) (.leaf p.2.2.2.2.2.2.2.2.2.2.2.2.2.1)
def vReq (p:PICT):Int:=(ZZ4 p).val
def ZXq:Entry:=Zg ZVt ZVu (λ_=>none) (λa=>vReq a)
theorem ZLQ:Za prog 304 ZXq:=
 pureQ 7 [] [] ZVt ZVu trivial Tryz.func304 Tryz.call304 trivial (t:=λa=>ZZ4 a)
abbrev ZVy:List Sh:=[Sh.agg Za4]
abbrev ZL4:Rs:=Rs.one (Sh.one (R.int i64))
def ZL3 (p:PICT):RT (Option (Int)):=
 let x1:=p.2.2.2.2.2.2.2.2.2.2.2.2.2.2
 let x2:=x1.2
 let x3:=x2.1
 let x4:=x1.1
 let x5:=x2.2.1
 .br (ZL2 (vReq p) x3 x4 x5 p.2.2.2.2.2.2.2.2.2.1) (.leaf (some (ZXr (vReq p) x3 x4 x5 p.2.2.2.2.2.2.2.2.2.1))) (.leaf none)
def vPck (p:PICT):Int:=getO ZL4.dflt (ZL3 p).val
def ZHY (p:PICT):Bool:=okB (ZL3 p).val
def ZSJ:Entry:=Zg ZVy ZL4 (λa=>some (ZHY a)) (λa=>vPck a)
theorem ZzW:Za prog 299 ZSJ:=
 pureP 7 [(304,ZXq),(328,ZVx)] [] ZVy ZL4 ⟨ZLQ,ZSI,Tv⟩ Tryz.func299 Tryz.call299 trivial (t:=λa=>ZL3 a)
abbrev ZVD:List Sh:=[Sh.agg Za4]
abbrev ZL7:Rs:=Rs.one (Sh.one R.bool)
def ZSM (p:PICT):RT (Option (Bool)):=
 .br (ZHY p) (.leaf (some (decide (vPck p>=0)))) (.leaf none)
def vInt (p:PICT):Bool:=getO ZL7.dflt (ZSM p).val
def ZSN (p:PICT):Bool:=okB (ZSM p).val
def ZZ8:Entry:=Zg ZVD ZL7 (λa=>some (ZSN a)) (λa=>vInt a)
theorem ZXv:Za prog 248 ZZ8:=
 pureP 7 [(299,ZSJ)] [] ZVD ZL7 ⟨ZzW,Tv⟩ Tryz.func248 Tryz.call248 trivial (t:=λa=>ZSM a)
abbrev ZEO:List Sh:=[Sh.agg Za4,Sh.one (R.int u8)]
abbrev ZEP:Rs:=Rs.one (Sh.agg Za4)
def ZMb (p:PICT) (v:Int):RT PICT:=
 .leaf ((2,andI u8 v 8 !=0,andI u8 v 4 !=0,andI u8 v 2 !=0,andI u8 v 1 !=0,andI u8 v 224,0,false,false,false,false,false,p.2.2.2.2.2.2.2.2.2.2.2.2.1,0,0,0,7,0,0,false))
def Zme (p:PICT) (v:Int):PICT:=(ZMb p v).val
def ZMc:Entry:=Zg ZEO ZEP (λ_=>none) (λa=>Zme a.1 a.2)
theorem ZMa:Za prog 306 ZMc:=
 pureQ 63 [(189,ZXu)] [] ZEO ZEP ⟨ZL6,Tv⟩ Tryz.func306 Tryz.call306 trivial (t:=λa=>ZMb a.1 a.2)
abbrev Zqy:List Sh:=[Sh.agg Za4,Sh.one (R.int u8)]
abbrev Zqz:Rs:=Rs.one (Sh.agg Za4)
def ZwT (p:PICT) (v:Int):RT PICT:=
 let x1:=p.2.2.2.2.2.2.2.2.2.2.2.2.2
 let x2:=x1.2
 let x3:=x2.2
 let x4:=x3.1
 .leaf ((bif p.1==2 then bif !p.2.2.2.1 then 3 else bif p.2.2.2.2.1 then 4 else 0 else bif p.1==3 then bif p.2.2.2.2.1 then 4 else 0 else bif p.1==4 then 0 else p.1,p.2.1,p.2.2.1,p.2.2.2.1,p.2.2.2.2.1,p.2.2.2.2.2.1,bif p.1==2 then v else p.2.2.2.2.2.2.1,bif p.1==2 then p.2.2.2.2.2.2.2.1 else bif p.1==3 then p.2.2.2.2.2.2.2.1 else bif p.1==4 then andI u8 v 2 !=0 else p.2.2.2.2.2.2.2.1,p.2.2.2.2.2.2.2.2.1,p.2.2.2.2.2.2.2.2.2.1,p.2.2.2.2.2.2.2.2.2.2.1,p.2.2.2.2.2.2.2.2.2.2.2.1,p.2.2.2.2.2.2.2.2.2.2.2.2.1,x1.1,x2.1,bif p.1==2 then x4 else bif p.1==3 then x4 else bif p.1==4 then x4 else v,x3.2))
def ZEN (p:PICT) (v:Int):PICT:=(ZwT p v).val
def ZwU:Entry:=Zg Zqy Zqz (λ_=>none) (λa=>ZEN a.1 a.2)
theorem Zz0:Za prog 305 ZwU:=
 pureQ 71307327 [] [] Zqy Zqz trivial Tryz.func305 Tryz.call305 trivial (t:=λa=>ZwT a.1 a.2)
abbrev ZL5:List Sh:=[Sh.agg Za4,Sh.one (R.int u8)]
abbrev ZzY:Rs:=Rs.one (Sh.agg Za4)
def ZEJ (p:PICT) (v:Int):RT (Option PICT):=
 let x1:=p.2.2.2.2.2.2.2.2.2.2.2.2.2
 let x2:=x1.2
 let x3:=x2.2
 let x4:=x3.1
 let x5:=x2.1
 let x6:=ZkI x4 x5 p.2.2.2.2.2.2.2.2.2.1
 let x7:=x3.2
 let x8:=x7.1
 let x9:=ZhK x6 x8
 let x10:=decide (x9>=0)
 let x11:= !x10||decide (0<=x9)
 let x12:=shrI u8 v 5==0||(!shrI u8 v 5==1||x11)
 let x13:= !x12
 let x14:=shrI u8 v 5==0||(shrI u8 v 5==1||(!shrI u8 v 5==3||decide (0<=i64.wrap (andI u8 v 7))))
 let x15:= !x14
 let x16:=shrI u8 v 5==0||(shrI u8 v 5==1||(shrI u8 v 5==3||(shrI u8 v 5==4||(!shrI u8 v 5==5||x11))))
 let x17:Int:=bif x10 then Zcq u8 x5 (shlI u8 1 x9) else x5
 let x18:=Zcq u8 x5 (shlI u8 1 (i64.wrap (andI u8 v 7)))
 .br (Zqx x6 x8) (.br (x13||(x15||(!x16||(shrI u8 v 5==0||(shrI u8 v 5==1||(shrI u8 v 5==3||(shrI u8 v 5==4||(shrI u8 v 5==5||(shrI u8 v 5==6||(!shrI u8 v 5==7||decide (0<=i64.wrap (andI u8 v 7)))))))))))) (.br (x13||(x15||x16)) (.br (x13||x14) (.br (x12) (.leaf (some ((p.1,p.2.1,p.2.2.1,p.2.2.2.1,p.2.2.2.2.1,p.2.2.2.2.2.1,p.2.2.2.2.2.2.1,p.2.2.2.2.2.2.2.1,!shrI u8 v 5==0&&bif shrI u8 v 5==1 then p.2.2.2.2.2.2.2.2.1 else bif shrI u8 v 5==3 then p.2.2.2.2.2.2.2.2.1 else shrI u8 v 5==4||p.2.2.2.2.2.2.2.2.1,p.2.2.2.2.2.2.2.2.2.1,p.2.2.2.2.2.2.2.2.2.2.1,p.2.2.2.2.2.2.2.2.2.2.2.1,p.2.2.2.2.2.2.2.2.2.2.2.2.1,x1.1,bif shrI u8 v 5==0 then x5 else bif shrI u8 v 5==1 then x17 else bif shrI u8 v 5==3 then x18 else bif shrI u8 v 5==4 then x5 else bif shrI u8 v 5==5 then x17 else bif shrI u8 v 5==6 then x5 else bif shrI u8 v 5==7 then x18 else x5,x4,bif shrI u8 v 5==0 then x8 else bif shrI u8 v 5==1 then x8 else bif shrI u8 v 5==3 then x8 else bif shrI u8 v 5==4 then x8 else bif shrI u8 v 5==5 then bif x10 then x9 else x8 else bif shrI u8 v 5==6 then i64.wrap (andI u8 v 7) else bif shrI u8 v 5==7 then i64.wrap (andI u8 v 7) else x8,x7.2)))) (.leaf none)) (.leaf none)) (.leaf none)) (.leaf none)) (.leaf none)
def ZZ5 (p:PICT) (v:Int):PICT:=getO ZzY.dflt (ZEJ p v).val
def ZEK (p:PICT) (v:Int):Bool:=okB (ZEJ p v).val
def ZVz:Entry:=Zg ZL5 ZzY (λa=>some (ZEK a.1 a.2)) (λa=>ZZ5 a.1 a.2)
theorem ZSK:Za prog 307 ZVz:=
 pureP 4899995593813786751 [(329,ZL9),(330,Zz2)] [] ZL5 ZzY ⟨ZEL,ZwV,Tv⟩ Tryz.func307 Tryz.call307 trivial (t:=λa=>ZEJ a.1 a.2)
abbrev ZEw:List Sh:=[Sh.agg Za4,Sh.one R.bool,Sh.one (R.int u8)]
abbrev Zsh:Rs:=Rs.one (Sh.agg Za4)
def Zsg (p:PICT) (h:Bool) (v:Int):RT (Option PICT):=
 .br (h||(andI u8 v 16 !=0||(!andI u8 v 8==0||ZEK p v))) (.br (h) (.leaf (some (ZEN p v))) (.br (andI u8 v 16 !=0) (.leaf (some ((2,(Zme p v).2.1,(Zme p v).2.2.1,(Zme p v).2.2.2.1,(Zme p v).2.2.2.2.1,(Zme p v).2.2.2.2.2.1,0,false,false,false,false,false,(Zme p v).2.2.2.2.2.2.2.2.2.2.2.2.1,0,0,0,7,0,0,false)))) (.br (andI u8 v 8==0) (.leaf (some (ZZ5 p v))) (.leaf (some ((p.1,p.2.1,p.2.2.1,p.2.2.2.1,p.2.2.2.2.1,p.2.2.2.2.2.1,p.2.2.2.2.2.2.1,p.2.2.2.2.2.2.2.1,p.2.2.2.2.2.2.2.2.1,bif andI u8 v 64 !=0 then andI u8 v 32 !=0 else p.2.2.2.2.2.2.2.2.2.1,bif andI u8 v 2 !=0 then andI u8 v 1 !=0 else p.2.2.2.2.2.2.2.2.2.2.1,p.2.2.2.2.2.2.2.2.2.2.2.1||andI u8 v 4 !=0,p.2.2.2.2.2.2.2.2.2.2.2.2))))))) (.leaf none)
def ZLN (p:PICT) (h:Bool) (v:Int):PICT:=getO Zsh.dflt (Zsg p h v).val
def Zsi (p:PICT) (h:Bool) (v:Int):Bool:=okB (Zsg p h v).val
def ZLM:Entry:=Zg ZEw Zsh (λa=>some (Zsi a.1 a.2.1 a.2.2)) (λa=>ZLN a.1 a.2.1 a.2.2)
theorem ZLK:Za prog 256 ZLM:=
 pureP 528639 [(305,ZwU),(306,ZMc),(307,ZVz)] [] ZEw Zsh ⟨Zz0,ZMa,ZSK,Tv⟩ Tryz.func256 Tryz.call256 trivial (t:=λa=>Zsg a.1 a.2.1 a.2.2)
abbrev ZLO:List Sh:=[Sh.agg Za4,Sh.one (R.int i64)]
abbrev ZzT:Rs:=Rs.one (Sh.agg Za4)
def ZEB (p:PICT) (x:Int):RT (Option PICT):=
 let x1:=p.2.2.2.2.2.2.2.2.2.2.2.2.2
 let x2:=x1.2
 .br (decide (0<=x)) (.br (decide (0<=x)) (.leaf (some ((p.1,p.2.1,p.2.2.1,p.2.2.2.1,p.2.2.2.2.1,p.2.2.2.2.2.1,p.2.2.2.2.2.2.1,p.2.2.2.2.2.2.2.1,p.2.2.2.2.2.2.2.2.1,p.2.2.2.2.2.2.2.2.2.1,p.2.2.2.2.2.2.2.2.2.2.1,p.2.2.2.2.2.2.2.2.2.2.2.1,p.2.2.2.2.2.2.2.2.2.2.2.2.1,Zcq u8 x1.1 (shlI u8 1 x),orI u8 x2.1 (shlI u8 1 x),x2.2)))) (.leaf none)) (.leaf none)
def ZXp (p:PICT) (x:Int):PICT:=getO ZzT.dflt (ZEB p x).val
def Zmb (p:PICT) (x:Int):Bool:=okB (ZEB p x).val
def ZLP:Entry:=Zg ZLO ZzT (λa=>some (Zmb a.1 a.2)) (λa=>ZXp a.1 a.2)
theorem ZEz:Za prog 302 ZLP:=
 pureP 31 [] [] ZLO ZzT trivial Tryz.func302 Tryz.call302 trivial (t:=λa=>ZEB a.1 a.2)
abbrev ZMd:List Sh:=[Sh.agg Za4,Sh.one (R.int i64)]
abbrev Zz1:Rs:=Rs.one (Sh.agg Za4)
def ZES (p:PICT) (x:Int):RT (Option PICT):=
 let x1:=p.2.2.2.2.2.2.2.2.2.2.2.2.2
 let x2:=x1.2
 let x3:=x2.2
 let x4:=x3.2
 .br (decide (0<=x)) (.leaf (some ((p.1,p.2.1,p.2.2.1,p.2.2.2.1,p.2.2.2.2.1,p.2.2.2.2.2.1,p.2.2.2.2.2.2.1,p.2.2.2.2.2.2.2.1,p.2.2.2.2.2.2.2.2.1,p.2.2.2.2.2.2.2.2.2.1,p.2.2.2.2.2.2.2.2.2.2.1,p.2.2.2.2.2.2.2.2.2.2.2.1,p.2.2.2.2.2.2.2.2.2.2.2.2.1,x1.1,Zcq u8 x2.1 (shlI u8 1 x),x3.1,bif p.2.2.2.2.2.2.2.2.1 then x else x4.1,x4.2)))) (.leaf none)
def ZXx (p:PICT) (x:Int):PICT:=getO Zz1.dflt (ZES p x).val
def Zmf (p:PICT) (x:Int):Bool:=okB (ZES p x).val
def ZMe:Entry:=Zg ZMd Zz1 (λa=>some (Zmf a.1 a.2)) (λa=>ZXx a.1 a.2)
theorem ZEQ:Za prog 303 ZMe:=
 pureP 31 [] [] ZMd Zz1 trivial Tryz.func303 Tryz.call303 trivial (t:=λa=>ZES a.1 a.2)
abbrev ZLR:List Sh:=[Sh.agg Za4,Sh.one R.bool]
abbrev ZzU:Rs:=Rs.tup [Sh.agg Za4,Sh.one (R.int u8)]
def ZEC (p:PICT) (h:Bool):RT (Option (PICT×Int)):=
 let x1:= !p.2.2.2.2.2.2.2.2.2.2.2.1
 let x2:=h||(x1||ZHY p)
 let x3:= !x2
 let x4:PICT:=(p.1,p.2.1,p.2.2.1,p.2.2.2.1,p.2.2.2.2.1,p.2.2.2.2.2.1,p.2.2.2.2.2.2.1,p.2.2.2.2.2.2.2.1,p.2.2.2.2.2.2.2.2.1,p.2.2.2.2.2.2.2.2.2.1,p.2.2.2.2.2.2.2.2.2.2.1,false,p.2.2.2.2.2.2.2.2.2.2.2.2)
 let x5:=Zmb x4 (vPck p)
 let x6:=ZXp x4 (vPck p)
 let x7:=x6.2
 let x8:=x7.2
 let x9:=x8.2
 let x10:=x9.2
 let x11:=x10.2
 let x12:=x11.2
 let x13:=x12.2
 let x14:=x13.1
 let x15:=p.2.2.2.2.2.2.2.2.2.2.2.2.2.2
 let x16:=ZXx x6 (vPck p)
 .br (x3||(h||(x1||(decide (vPck p<0)||(!x5||(!x14||Zmf x6 (vPck p))))))) (.br (x3||(h||(x1||(decide (vPck p<0)||x5)))) (.br (x2) (.br (h) (.leaf (some ((p,x15.2.1)))) (.br p.2.2.2.2.2.2.2.2.2.2.2.1 (.br (decide (vPck p<0)) (.leaf (some ((x4,0)))) (.leaf (some (((R.sel Za4 x14 x16 x6),u8.wrap (i64.wrap (128+vPck p))))))) (.br p.2.2.2.2.2.2.2.2.2.2.1 (.leaf (some ((p,x15.1)))) (.leaf (some ((p,vReq p))))))) (.leaf none)) (.leaf none)) (.leaf none)
def ZSH (p:PICT) (h:Bool):PICT×Int:=getO ZzU.dflt (ZEC p h).val
def ZEE (p:PICT) (h:Bool):Bool:=okB (ZEC p h).val
def ZVv:Entry:=Zg ZLR ZzU (λa=>some (ZEE a.1 a.2)) (λa=>ZSH a.1 a.2)
theorem ZSF:Za prog 254 ZVv:=
 pureP 8589938943 [(299,ZSJ),(302,ZLP),(303,ZMe),(304,ZXq)] [] ZLR ZzU ⟨ZzW,ZEz,ZEQ,ZLQ,Tv⟩ Tryz.func254 Tryz.call254 trivial (t:=λa=>ZEC a.1 a.2)
abbrev ZVE:List Sh:=[Sh.agg Za4]
abbrev ZMg:Rs:=Rs.tup [Sh.agg Za4,Sh.one (R.int u8)]
def ZSP (p:PICT):RT (Option (PICT×Int)):=
 let x1:=p.2.2.2.2.2.2.2.2.2.2.2.2.2
 let x2:=x1.2
 let x3:=x2.2
 let x4:=x3.2
 let x5:=x4.2
 let x6:=x5.1
 let x7:=x6==0
 let x8:= !x7
 let x9:=x8||ZHY p
 let x10:=p.2.2.2.2.2.2.2.2.2.2.2.2.1
 let x11:=x1.1
 let x12:=x2.1
 let x13:=x3.1
 let x14:=x4.1
 let x15:PICT:=(p.1,p.2.1,p.2.2.1,p.2.2.2.1,p.2.2.2.2.1,p.2.2.2.2.2.1,p.2.2.2.2.2.2.1,p.2.2.2.2.2.2.2.1,p.2.2.2.2.2.2.2.2.1,p.2.2.2.2.2.2.2.2.2.1,p.2.2.2.2.2.2.2.2.2.2.1,p.2.2.2.2.2.2.2.2.2.2.2.1,x10,x11,x12,x13,x14,1,7,true)
 let x16:=ZXp x15 (vPck p)
 let x17:=x16.2
 let x18:=x17.2
 let x19:=x18.2
 let x20:=x19.2
 let x21:=x20.2
 let x22:=x21.2
 let x23:=x22.2
 let x24:=x23.2
 let x25:=x24.2
 let x26:=x25.2
 let x27:=x26.2
 let x28:=x27.2
 let x29:=x28.2
 let x30:=x29.2
 let x31:=x30.2
 let x32:=x31.2
 let x33:=x5.2
 let x34:PICT:=(p.1,p.2.1,p.2.2.1,p.2.2.2.1,p.2.2.2.2.1,p.2.2.2.2.2.1,p.2.2.2.2.2.2.1,p.2.2.2.2.2.2.2.1,p.2.2.2.2.2.2.2.2.1,p.2.2.2.2.2.2.2.2.2.1,p.2.2.2.2.2.2.2.2.2.2.1,p.2.2.2.2.2.2.2.2.2.2.2.1,x10,x11,x12,x13,x14,2,x33)
 let x35:=x33.1
 let x36:=andI i64 x35 7
 let x37:=x33.2
 let x38:=p.2.2.2.2.2.2.2.1&& !x37
 let x39:PICT:=(p.1,p.2.1,p.2.2.1,p.2.2.2.1,p.2.2.2.2.1,p.2.2.2.2.2.1,p.2.2.2.2.2.2.1,p.2.2.2.2.2.2.2.1,p.2.2.2.2.2.2.2.2.1,p.2.2.2.2.2.2.2.2.2.1,p.2.2.2.2.2.2.2.2.2.2.1,p.2.2.2.2.2.2.2.2.2.2.2.1,x10,x11,x12,x13,x14,0,x33)
 let x40:=ZXx x39 x36
 let x41:=x40.2
 let x42:=x41.2
 let x43:=x42.2
 let x44:=x43.2
 let x45:=x44.2
 let x46:=x45.2
 let x47:Int:=bif x38 then x46.1 else p.2.2.2.2.2.2.1
 let x48:=x46.2
 let x49:=x48.2
 let x50:=x49.2
 let x51:=x50.2
 let x52:=x51.2
 let x53:=x52.2
 let x54:=x53.2
 let x55:=x54.2
 let x56:=x55.2
 let x57:=x56.2
 let x58:=x57.2
 let x59:=x58.2
 .br (!x9||(x8||(!decide (vPck p>=0)||Zmb x15 (vPck p)))) (.br (x9) (.br (x7) (.leaf (some (((bif decide (vPck p>=0) then x16.1 else p.1,bif decide (vPck p>=0) then x17.1 else p.2.1,bif decide (vPck p>=0) then x18.1 else p.2.2.1,bif decide (vPck p>=0) then x19.1 else p.2.2.2.1,bif decide (vPck p>=0) then x20.1 else p.2.2.2.2.1,bif decide (vPck p>=0) then x21.1 else p.2.2.2.2.2.1,bif decide (vPck p>=0) then x22.1 else p.2.2.2.2.2.2.1,bif decide (vPck p>=0) then x23.1 else p.2.2.2.2.2.2.2.1,bif decide (vPck p>=0) then x24.1 else p.2.2.2.2.2.2.2.2.1,bif decide (vPck p>=0) then x25.1 else p.2.2.2.2.2.2.2.2.2.1,bif decide (vPck p>=0) then x26.1 else p.2.2.2.2.2.2.2.2.2.2.1,bif decide (vPck p>=0) then x27.1 else p.2.2.2.2.2.2.2.2.2.2.2.1,bif decide (vPck p>=0) then x28.1 else x10,bif decide (vPck p>=0) then x29.1 else x11,bif decide (vPck p>=0) then x30.1 else x12,bif decide (vPck p>=0) then x31.1 else x13,bif decide (vPck p>=0) then x32.1 else x14,bif decide (vPck p>=0) then x32.2.1 else 1,bif decide (vPck p>=0) then vPck p else 7,!decide (vPck p>=0)),205)))) (.br (x6==1) (.br p.2.2.1 (.leaf (some ((x34,u8.wrap (andI u8 p.2.2.2.2.2.1 224+u8.wrap (i64.wrap (4*x36))))))) (.leaf (some ((x34,u8.wrap (andI u8 p.2.2.2.2.2.1 192+u8.wrap (i64.wrap (8*x36)))))))) (.br (!x38||Zmf x39 x36) (.leaf (some (((bif x38 then x40.1 else p.1,bif x38 then x41.1 else p.2.1,bif x38 then x42.1 else p.2.2.1,bif x38 then x43.1 else p.2.2.2.1,bif x38 then x44.1 else p.2.2.2.2.1,bif x38 then x45.1 else p.2.2.2.2.2.1,x47,bif x38 then x48.1 else p.2.2.2.2.2.2.2.1,bif x38 then x49.1 else p.2.2.2.2.2.2.2.2.1,bif x38 then x50.1 else p.2.2.2.2.2.2.2.2.2.1,bif x38 then x51.1 else p.2.2.2.2.2.2.2.2.2.2.1,bif x38 then x52.1 else p.2.2.2.2.2.2.2.2.2.2.2.1,bif x38 then x53.1 else x10,bif x38 then x54.1 else x11,bif x38 then x55.1 else x12,bif x38 then x56.1 else x13,bif x38 then x57.1 else x14,bif x38 then x58.1 else 0,bif x38 then x59.1 else x35,bif x38 then x59.2 else x37),x47)))) (.leaf none)))) (.leaf none)) (.leaf none)
def vAck (p:PICT):PICT×Int:=getO ZMg.dflt (ZSP p).val
def ZSQ (p:PICT):Bool:=okB (ZSP p).val
def ZZ9:Entry:=Zg ZVE ZMg (λa=>some (ZSQ a)) (λa=>vAck a)
theorem ZXy:Za prog 253 ZZ9:=
 pureP 134219839 [(299,ZSJ),(302,ZLP),(303,ZMe)] [] ZVE ZMg ⟨ZzW,ZEz,ZEQ,Tv⟩ Tryz.func253 Tryz.call253 trivial (t:=λa=>ZSP a)
abbrev ZwN:List Sh:=[Sh.agg (R.pair (R.int u16) (R.pair (R.int u8) (R.int i64))),Sh.one (R.int i64),Sh.one (R.int u8)]
abbrev ZwO:Rs:=Rs.one (Sh.agg (R.pair (R.int u16) (R.pair (R.int u8) (R.int i64))))
def ZEx (d:QT7) (r:Int) (v:Int):RT (QT7):=
 .leaf ((bif andI i64 r 3==0 then orI u16 (andI u16 d.1 65280) (u16.wrap v) else bif andI i64 r 3==1 then orI u16 (andI u16 d.1 255) (shlI u16 (u16.wrap v) 8) else d.1,bif andI i64 r 3==0 then d.2.1 else bif andI i64 r 3==1 then d.2.1 else bif andI i64 r 3==2 then v else d.2.1,bif andI i64 r 3==0 then d.2.2 else bif andI i64 r 3==1 then d.2.2 else bif andI i64 r 3==2 then d.2.2 else i64.wrap v))
def ZzS (d:QT7) (r:Int) (v:Int):QT7:=(ZEx d r v).val
def ZEy:Entry:=Zg ZwN ZwO (λ_=>none) (λa=>ZzS a.1 a.2.1 a.2.2)
theorem ZHX:Za prog 257 ZEy:=
 pureQ 2149585023 [] [] ZwN ZwO trivial Tryz.func257 Tryz.call257 trivial (t:=λa=>ZEx a.1 a.2.1 a.2.2)
abbrev ZED:List Sh:=[Sh.agg (R.pair (R.int u16) (R.pair (R.int u8) (R.int i64))),Sh.one (R.int i64)]
abbrev Zsk:Rs:=Rs.one (Sh.one (R.int u8))
def Zsj (d:QT7) (r:Int):RT (Option (Int)):=
 .br (decide (0<=andI i64 r 3/\andI i64 r 3<4)) (.leaf (some (bif andI i64 r 3==0 then u8.wrap d.1 else bif andI i64 r 3==iN (0+1) then u8.wrap (shrI u16 d.1 8) else bif andI i64 r 3==iN (0+1+1) then d.2.1 else u8.wrap d.2.2))) (.leaf none)
def ZLV (d:QT7) (r:Int):Int:=getO Zsk.dflt (Zsj d r).val
def Zsl (d:QT7) (r:Int):Bool:=okB (Zsj d r).val
def ZLU:Entry:=Zg ZED Zsk (λa=>some (Zsl a.1 a.2)) (λa=>ZLV a.1 a.2)
theorem ZLS:Za prog 255 ZLU:=
 pureP 31 [] [] ZED Zsk trivial Tryz.func255 Tryz.call255 trivial (t:=λa=>Zsj a.1 a.2)
abbrev Zqv:List Sh:=[Sh.agg (R.pair (R.int u16) (R.pair (R.int u8) (R.int i64)))]
abbrev Zqw:Rs:=Rs.one (Sh.one R.bool)
def ZwQ (d:QT7):RT (Bool):=
 .leaf (decide (d.2.2>0))
def Zci (d:QT7):Bool:=(ZwQ d).val
def Zmd:Entry:=Zg Zqv Zqw (λ_=>none) (λa=>Zci a)
theorem Zmc:Za prog 250 Zmd:=
 pureQ 7 [] [] Zqv Zqw trivial Tryz.func250 Tryz.call250 trivial (t:=λa=>ZwQ a)
abbrev Zl9:List Sh:=[Sh.agg (R.pair (R.int u16) (R.pair (R.int u8) (R.int i64)))]
abbrev Zma:Rs:=Rs.tup [Sh.agg (R.pair (R.int u16) (R.pair (R.int u8) (R.int i64))),Sh.agg (R.pair (R.int u16) (R.int u8)),Sh.one R.bool]
def ZjF (d:QT7):RT ((QT7)×(Int×Int)×Bool):=
 .br (!Zci d) (.leaf (((0,0,0),(0,0),false))) (.leaf (((u16.wrap (d.1+1),d.2.1,i64.wrap (d.2.2-1)),(d.1,d.2.1),true)))
def Zio (d:QT7):(QT7)×(Int×Int)×Bool:=(ZjF d).val
def Zqu:Entry:=Zg Zl9 Zma (λ_=>none) (λa=>Zio a)
theorem ZwP:Za prog 196 Zqu:=
 pureQ 63 [(250,Zmd)] [] Zl9 Zma ⟨Zmc,Tv⟩ Tryz.func196 Tryz.call196 trivial (t:=λa=>ZjF a)
end
end Go.Proofs.YtghoimllhpjkjaaGreat
