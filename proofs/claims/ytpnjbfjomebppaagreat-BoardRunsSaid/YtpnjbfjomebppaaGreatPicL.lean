import Derived.Test.YtpnjbfjomebppaaGreatProg
import Derived.Test.YtpnjbfjomebppaaGreatS3Box1
open Go.Proofs.Tryz (prog)
open Go.IntKind (u8 u16 i64)
set_option linter.unusedSimpArgs false
open Go Go.S3 Go.Proofs
set_option linter.unusedVariables false
set_option maxRecDepth 100000
namespace Go.Proofs.YtpnjbfjomebppaaGreat
noncomputable section
abbrev Z7t:List Sh:=[So Ka,So Kc]
abbrev Z4k:Rs:=Rs.one (So R.bool)
def vOnT (s:Int) (l:Int):RT (Option (Bool)):=
 .br (decide (0<=l)) (Ls (andI u8 (shrI u8 s l) 1==1)) Ln
def vOn (s:Int) (l:Int):Bool:=getO Z4k.Df (vOnT s l).val
def vOnC (s:Int) (l:Int):Bool:=okB (vOnT s l).val
def vOnE:En:=Zg Z7t Z4k (λa=>some (vOnC a.1 a.2)) (λa=>vOn a.1 a.2)
theorem Z2h:Za prog 391 vOnE:=
 pureP 31 [] [] _ _ trivial Tryz.func391 Tryz.call391 trivial
abbrev ZRc:List Sh:=[So Kc,So Kc]
abbrev ZRd:Rs:=Rs.one (So Kc)
def ZIX (l:Int) (k:Int):RT (Int):=
 .Lf (andI i64 (i64.wrap (i64.wrap (andI i64 l 7-andI i64 k 7)+15)) 7)
def Zdm (l:Int) (k:Int):Int:=(ZIX l k).val
def ZIY:En:=Zg ZRc ZRd (λ_=>none) (λa=>Zdm a.1 a.2)
theorem ZuO:Za prog 390 ZIY:=
 pureQ 31 [] [] _ _ trivial Tryz.func390 Tryz.call390 trivial
def ZY0:LS:={n:=29,Sl:=[(0,.code (So Ka)),(1,.code (So Kc)),(5,.code (So Kc)),(6,.code (So Kc))],Bx:=[],Sg:=[]}
def Zc4 (a:QT23):RT (Option (Go1 (QT23))):=
 .br (decide (a.2.2.2.1<8)) (.br (vOnC a.1 a.2.2.2.1) (Ls (Go1.cont (a.1,a.2.1,bif vOn a.1 a.2.2.2.1&&(decide (a.2.2.1<0)||decide (Zdm a.2.2.2.1 a.2.1<Zdm a.2.2.1 a.2.1)) then a.2.2.2.1 else a.2.2.1,i64.wrap (a.2.2.2.1+1),PUnit.unit))) Ln) (Ls (Go1.brk (a.1,a.2.1,a.2.2.1,a.2.2.2.1,PUnit.unit)))
def ZI2:Ora:=ZaX false ZY0 Zc4 (λa=>9)
theorem ZMT:ZaF (envX prog [(390,ZIY),(391,vOnE)] [] 127 8) (.block 0 (.loop (Z4 Tryz.f379.body 0))) ZI2:=
 loopP ⟨ZuO,Z2h,Tv⟩
def Zl4 (s:Int) (k:Int):RT (Option (Int)):=
 let x1:=runF false Zc4 (λa=>9) (s,k,-1,0,())
 .br (okB x1) (Ls (getO (false,s,k,-1,0,()) x1).2.2.2.1) Ln
def Zdx (s:Int) (k:Int):Int:=getO ZRd.Df (Zl4 s k).val
def Ziq (s:Int) (k:Int):Bool:=okB (Zl4 s k).val
def ZRm:En:=Zg Z7t ZRd (λa=>some (Ziq a.1 a.2)) (λa=>Zdx a.1 a.2)
theorem ZI1:Za prog 379 ZRm:=
 pureP 127 [(390,ZIY),(391,vOnE)] [(0,ZI2)] _ _ ⟨ZuO,Z2h,Tv⟩ Tryz.func379 Tryz.call379 ⟨ZMT,Tv⟩
abbrev ZI7:List Sh:=[So Ka,So Ka,So R.bool]
abbrev ZI8:Rs:=Rs.one (So Ka)
def ZkO (m:Int) (s:Int) (p:Bool):RT (Int):=
 .br (p) (.Lf (Z8 u8 s m)) (.Lf (s))
def ZcG (m:Int) (s:Int) (p:Bool):Int:=(ZkO m s p).val
def ZDK:En:=Zg ZI7 ZI8 (λ_=>none) (λa=>ZcG a.1 a.2.1 a.2.2)
theorem ZzV:Za prog 380 ZDK:=
 pureQ 127 [] [] _ _ trivial Tryz.func380 Tryz.call380 trivial
abbrev ZRg:List Sh:=[So Ka,So Ka,So Ka,So Kc,So R.bool]
def Zl3 (r:Int) (m:Int) (s:Int) (k:Int) (p:Bool):RT (Option (Int)):=
 .br (Ziq (Z8 u8 r m) k) (.br (Ziq (ZcG m s p) k) (.br (decide (Zdx (Z8 u8 r m) k>=0)&&(decide (Zdx (ZcG m s p) k<0)||decide (Zdm (Zdx (Z8 u8 r m) k) k<Zdm (Zdx (ZcG m s p) k) k))) (Ls (Zdx (Z8 u8 r m) k)) (Ls (-1))) Ln) Ln
def ZDD (r:Int) (m:Int) (s:Int) (k:Int) (p:Bool):Int:=getO ZRd.Df (Zl3 r m s k p).val
def ZsO (r:Int) (m:Int) (s:Int) (k:Int) (p:Bool):Bool:=okB (Zl3 r m s k p).val
def Z2e:En:=Zg ZRg ZRd (λa=>some (ZsO a.1 a.2.1 a.2.2.1 a.2.2.2.1 a.2.2.2.2)) (λa=>ZDD a.1 a.2.1 a.2.2.1 a.2.2.2.1 a.2.2.2.2)
theorem ZYV:Za prog 378 Z2e:=
 pureP 8191 [(379,ZRm),(380,ZDK),(390,ZIY)] [] _ _ ⟨ZI1,ZzV,ZuO,Tv⟩ Tryz.func378 Tryz.call378 trivial
abbrev Z2i:List Sh:=[]
abbrev Z2j:Rs:=Rs.one (Sh.agg Zab)
def Z7u:RT PICT:=
 .Lf ((0,false,false,false,false,0,0,false,false,false,false,false,0,0,0,0,7,0,0,false))
def vNew:PICT:=(Z7u).val
def Z4m:En:=Zg Z2i Z2j (λ_=>none) (λa=>vNew)
theorem ZRj:Za prog 101 Z4m:=
 pureQ 1 [] [] _ _ trivial Tryz.func101 Tryz.call101 trivial
abbrev ZIZ:List Sh:=[Sh.agg Zab,So Ka]
def ZDB (p:PICT) (l:Int):RT PICT:=
 let x1:=p.2.2.2.2.2.2.2.2.2.2.2.2.2
 .Lf ((p.1,p.2.1,p.2.2.1,p.2.2.2.1,p.2.2.2.2.1,p.2.2.2.2.2.1,p.2.2.2.2.2.2.1,p.2.2.2.2.2.2.2.1,p.2.2.2.2.2.2.2.2.1,p.2.2.2.2.2.2.2.2.2.1,p.2.2.2.2.2.2.2.2.2.2.1,p.2.2.2.2.2.2.2.2.2.2.2.1,l,andI u8 (orI u8 x1.1 (Z8 u8 l p.2.2.2.2.2.2.2.2.2.2.2.2.1)) l,x1.2))
def ZgW (p:PICT) (l:Int):PICT:=(ZDB p l).val
def ZRf:En:=Zg ZIZ Z2j (λ_=>none) (λa=>ZgW a.1 a.2)
theorem ZRe:Za prog 174 ZRf:=
 pureQ 31 [] [] _ _ trivial Tryz.func174 Tryz.call174 trivial
abbrev Z2b:List Sh:=[Sh.agg Zab]
def Z4h (p:PICT):RT (Int):=
 .br p.2.1 (.Lf p.2.2.2.2.2.2.2.2.2.2.2.2.1) (.Lf p.2.2.2.2.2.2.2.2.2.2.2.2.2.1)
def vReq (p:PICT):Int:=(Z4h p).val
def Z4i:En:=Zg Z2b ZI8 (λ_=>none) (λa=>vReq a)
theorem ZQ7:Za prog 338 Z4i:=
 pureQ 7 [] [] _ _ trivial Tryz.func338 Tryz.call338 trivial
def ZDF (p:PICT):RT (Option (Int)):=
 let x1:=p.2.2.2.2.2.2.2.2.2.2.2.2.2.2
 let x2:=x1.2
 let x3:=x2.1
 let x4:=x1.1
 let x5:=x2.2.1
 .br (ZsO (vReq p) x3 x4 x5 p.2.2.2.2.2.2.2.2.2.1) (Ls (ZDD (vReq p) x3 x4 x5 p.2.2.2.2.2.2.2.2.2.1)) Ln
def vPck (p:PICT):Int:=getO ZRd.Df (ZDF p).val
def Zsh (p:PICT):Bool:=okB (ZDF p).val
def ZYW:En:=Zg Z2b ZRd (λa=>some (Zsh a)) (λa=>vPck a)
theorem ZDE:Za prog 333 ZYW:=
 pureP 7 [(338,Z4i),(378,Z2e)] [] _ _ ⟨ZQ7,ZYV,Tv⟩ Tryz.func333 Tryz.call333 trivial
def ZMR (p:PICT):RT (Option (Bool)):=
 .br (Zsh p) (Ls (decide (vPck p>=0))) Ln
def vInt (p:PICT):Bool:=getO Z4k.Df (ZMR p).val
def ZMS (p:PICT):Bool:=okB (ZMR p).val
def Z7v:En:=Zg Z2b Z4k (λa=>some (ZMS a)) (λa=>vInt a)
theorem Z4n:Za prog 249 Z7v:=
 pureP 7 [(333,ZYW)] [] _ _ ⟨ZDE,Tv⟩ Tryz.func249 Tryz.call249 trivial
def ZRo (p:PICT) (v:Int):RT PICT:=
 .Lf ((2,andI u8 v 8 !=0,andI u8 v 4 !=0,andI u8 v 2 !=0,andI u8 v 1 !=0,andI u8 v 224,0,false,false,false,false,false,p.2.2.2.2.2.2.2.2.2.2.2.2.1,0,0,0,7,0,0,false))
def Zl5 (p:PICT) (v:Int):PICT:=(ZRo p v).val
def ZRp:En:=Zg ZIZ Z2j (λ_=>none) (λa=>Zl5 a.1 a.2)
theorem ZRn:Za prog 342 ZRp:=
 pureQ 63 [(101,Z4m)] [] _ _ ⟨ZRj,Tv⟩ Tryz.func342 Tryz.call342 trivial
def ZnZ (p:PICT) (v:Int):RT PICT:=
 let x1:=p.2.2.2.2.2.2.2.2.2.2.2.2.2
 let x2:=x1.2
 let x3:=x2.2
 let x4:=x3.1
 .Lf ((bif p.1==2 then bif !p.2.2.2.1 then 3 else bif p.2.2.2.2.1 then 4 else 0 else bif p.1==3 then bif p.2.2.2.2.1 then 4 else 0 else bif p.1==4 then 0 else p.1,p.2.1,p.2.2.1,p.2.2.2.1,p.2.2.2.2.1,p.2.2.2.2.2.1,bif p.1==2 then v else p.2.2.2.2.2.2.1,bif p.1==2 then p.2.2.2.2.2.2.2.1 else bif p.1==3 then p.2.2.2.2.2.2.2.1 else bif p.1==4 then andI u8 v 2 !=0 else p.2.2.2.2.2.2.2.1,p.2.2.2.2.2.2.2.2.1,p.2.2.2.2.2.2.2.2.2.1,p.2.2.2.2.2.2.2.2.2.2.1,p.2.2.2.2.2.2.2.2.2.2.2.1,p.2.2.2.2.2.2.2.2.2.2.2.2.1,x1.1,x2.1,bif p.1==2 then x4 else bif p.1==3 then x4 else bif p.1==4 then x4 else v,x3.2))
def ZmN (p:PICT) (v:Int):PICT:=(ZnZ p v).val
def ZzT:En:=Zg ZIZ Z2j (λ_=>none) (λa=>ZmN a.1 a.2)
theorem ZDI:Za prog 341 ZzT:=
 pureQ 71307327 [] [] _ _ trivial Tryz.func341 Tryz.call341 trivial
def ZsP (p:PICT) (v:Int):RT (Option PICT):=
 let x1:=p.2.2.2.2.2.2.2.2.2.2.2.2.2
 let x2:=x1.2
 let x3:=x2.2
 let x4:=x3.1
 let x5:=x2.1
 let x6:=ZcG x4 x5 p.2.2.2.2.2.2.2.2.2.1
 let x7:=x3.2
 let x8:=x7.1
 let x9:=Zdx x6 x8
 let x10:=decide (x9>=0)
 let x11:= !x10||decide (0<=x9)
 let x12:=shrI u8 v 5==0||(!shrI u8 v 5==1||x11)
 let x13:= !x12
 let x14:=shrI u8 v 5==0||(shrI u8 v 5==1||(!shrI u8 v 5==3||decide (0<=i64.wrap (andI u8 v 7))))
 let x15:= !x14
 let x16:=shrI u8 v 5==0||(shrI u8 v 5==1||(shrI u8 v 5==3||(shrI u8 v 5==4||(!shrI u8 v 5==5||x11))))
 let x17:Int:=bif x10 then Z8 u8 x5 (shlI u8 1 x9) else x5
 let x18:=Z8 u8 x5 (shlI u8 1 (i64.wrap (andI u8 v 7)))
 .br (Ziq x6 x8) (.br (x13||(x15||(!x16||(shrI u8 v 5==0||(shrI u8 v 5==1||(shrI u8 v 5==3||(shrI u8 v 5==4||(shrI u8 v 5==5||(shrI u8 v 5==6||(!shrI u8 v 5==7||decide (0<=i64.wrap (andI u8 v 7)))))))))))) (.br (x13||(x15||x16)) (.br (x13||x14) (.br (x12) (Ls ((p.1,p.2.1,p.2.2.1,p.2.2.2.1,p.2.2.2.2.1,p.2.2.2.2.2.1,p.2.2.2.2.2.2.1,p.2.2.2.2.2.2.2.1,!shrI u8 v 5==0&&bif shrI u8 v 5==1 then p.2.2.2.2.2.2.2.2.1 else bif shrI u8 v 5==3 then p.2.2.2.2.2.2.2.2.1 else shrI u8 v 5==4||p.2.2.2.2.2.2.2.2.1,p.2.2.2.2.2.2.2.2.2.1,p.2.2.2.2.2.2.2.2.2.2.1,p.2.2.2.2.2.2.2.2.2.2.2.1,p.2.2.2.2.2.2.2.2.2.2.2.2.1,x1.1,bif shrI u8 v 5==0 then x5 else bif shrI u8 v 5==1 then x17 else bif shrI u8 v 5==3 then x18 else bif shrI u8 v 5==4 then x5 else bif shrI u8 v 5==5 then x17 else bif shrI u8 v 5==6 then x5 else bif shrI u8 v 5==7 then x18 else x5,x4,bif shrI u8 v 5==0 then x8 else bif shrI u8 v 5==1 then x8 else bif shrI u8 v 5==3 then x8 else bif shrI u8 v 5==4 then x8 else bif shrI u8 v 5==5 then bif x10 then x9 else x8 else bif shrI u8 v 5==6 then i64.wrap (andI u8 v 7) else bif shrI u8 v 5==7 then i64.wrap (andI u8 v 7) else x8,x7.2))) Ln) Ln) Ln) Ln) Ln
def ZYZ (p:PICT) (v:Int):PICT:=getO Z2j.Df (ZsP p v).val
def ZsQ (p:PICT) (v:Int):Bool:=okB (ZsP p v).val
def Z2g:En:=Zg ZIZ Z2j (λa=>some (ZsQ a.1 a.2)) (λa=>ZYZ a.1 a.2)
theorem ZYX:Za prog 343 Z2g:=
 pureP 4899995593813786751 [(379,ZRm),(380,ZDK)] [] _ _ ⟨ZI1,ZzV,Tv⟩ Tryz.func343 Tryz.call343 trivial
abbrev ZIR:List Sh:=[Sh.agg Zab,So R.bool,So Ka]
def ZkK (p:PICT) (h:Bool) (v:Int):RT (Option PICT):=
 .br (h||(andI u8 v 16 !=0||(!andI u8 v 8==0||ZsQ p v))) (.br (h) (Ls (ZmN p v)) (.br (andI u8 v 16 !=0) (Ls ((2,(Zl5 p v).2.1,(Zl5 p v).2.2.1,(Zl5 p v).2.2.2.1,(Zl5 p v).2.2.2.2.1,(Zl5 p v).2.2.2.2.2.1,0,false,false,false,false,false,(Zl5 p v).2.2.2.2.2.2.2.2.2.2.2.2.1,0,0,0,7,0,0,false))) (.br (andI u8 v 8==0) (Ls (ZYZ p v)) (Ls ((p.1,p.2.1,p.2.2.1,p.2.2.2.1,p.2.2.2.2.1,p.2.2.2.2.2.1,p.2.2.2.2.2.2.1,p.2.2.2.2.2.2.2.1,p.2.2.2.2.2.2.2.2.1,bif andI u8 v 64 !=0 then andI u8 v 32 !=0 else p.2.2.2.2.2.2.2.2.2.1,bif andI u8 v 2 !=0 then andI u8 v 1 !=0 else p.2.2.2.2.2.2.2.2.2.2.1,p.2.2.2.2.2.2.2.2.2.2.2.1||andI u8 v 4 !=0,p.2.2.2.2.2.2.2.2.2.2.2.2)))))) Ln
def Zjj (p:PICT) (h:Bool) (v:Int):PICT:=getO Z2j.Df (ZkK p h v).val
def ZkL (p:PICT) (h:Bool) (v:Int):Bool:=okB (ZkK p h v).val
def ZQ4:En:=Zg ZIR Z2j (λa=>some (ZkL a.1 a.2.1 a.2.2)) (λa=>Zjj a.1 a.2.1 a.2.2)
theorem ZQ3:Za prog 266 ZQ4:=
 pureP 528639 [(341,ZzT),(342,ZRp),(343,Z2g)] [] _ _ ⟨ZDI,ZRn,ZYX,Tv⟩ Tryz.func266 Tryz.call266 trivial
abbrev ZQ5:List Sh:=[Sh.agg Zab,So Kc]
def ZsJ (p:PICT) (x:Int):RT (Option PICT):=
 let x1:=p.2.2.2.2.2.2.2.2.2.2.2.2.2
 let x2:=x1.2
 .br (decide (0<=x)) (.br (decide (0<=x)) (Ls ((p.1,p.2.1,p.2.2.1,p.2.2.2.1,p.2.2.2.2.1,p.2.2.2.2.2.1,p.2.2.2.2.2.2.1,p.2.2.2.2.2.2.2.1,p.2.2.2.2.2.2.2.2.1,p.2.2.2.2.2.2.2.2.2.1,p.2.2.2.2.2.2.2.2.2.2.1,p.2.2.2.2.2.2.2.2.2.2.2.1,p.2.2.2.2.2.2.2.2.2.2.2.2.1,Z8 u8 x1.1 (shlI u8 1 x),orI u8 x2.1 (shlI u8 1 x),x2.2))) Ln) Ln
def ZDz (p:PICT) (x:Int):PICT:=getO Z2j.Df (ZsJ p x).val
def ZgV (p:PICT) (x:Int):Bool:=okB (ZsJ p x).val
def ZQ6:En:=Zg ZQ5 Z2j (λa=>some (ZgV a.1 a.2)) (λa=>ZDz a.1 a.2)
theorem ZIT:Za prog 336 ZQ6:=
 pureP 31 [] [] _ _ trivial Tryz.func336 Tryz.call336 trivial
def ZzU (p:PICT) (x:Int):RT (Option PICT):=
 let x1:=p.2.2.2.2.2.2.2.2.2.2.2.2.2
 let x2:=x1.2
 let x3:=x2.2
 let x4:=x3.2
 .br (decide (0<=x)) (Ls ((p.1,p.2.1,p.2.2.1,p.2.2.2.1,p.2.2.2.2.1,p.2.2.2.2.2.1,p.2.2.2.2.2.2.1,p.2.2.2.2.2.2.2.1,p.2.2.2.2.2.2.2.2.1,p.2.2.2.2.2.2.2.2.2.1,p.2.2.2.2.2.2.2.2.2.2.1,p.2.2.2.2.2.2.2.2.2.2.2.1,p.2.2.2.2.2.2.2.2.2.2.2.2.1,x1.1,Z8 u8 x2.1 (shlI u8 1 x),x3.1,bif p.2.2.2.2.2.2.2.2.1 then x else x4.1,x4.2))) Ln
def ZMU (p:PICT) (x:Int):PICT:=getO Z2j.Df (ZzU p x).val
def Zir (p:PICT) (x:Int):Bool:=okB (ZzU p x).val
def ZRr:En:=Zg ZQ5 Z2j (λa=>some (Zir a.1 a.2)) (λa=>ZMU a.1 a.2)
theorem ZI5:Za prog 337 ZRr:=
 pureP 31 [] [] _ _ trivial Tryz.func337 Tryz.call337 trivial
abbrev ZQ8:List Sh:=[Sh.agg Zab,So R.bool]
abbrev ZDA:Rs:=Rs.tup [Sh.agg Zab,So Ka]
def ZsM (p:PICT) (h:Bool):RT (Option (PICT×Int)):=
 let x1:= !p.2.2.2.2.2.2.2.2.2.2.2.1
 let x2:=h||(x1||Zsh p)
 let x3:= !x2
 let x4:PICT:=(p.1,p.2.1,p.2.2.1,p.2.2.2.1,p.2.2.2.2.1,p.2.2.2.2.2.1,p.2.2.2.2.2.2.1,p.2.2.2.2.2.2.2.1,p.2.2.2.2.2.2.2.2.1,p.2.2.2.2.2.2.2.2.2.1,p.2.2.2.2.2.2.2.2.2.2.1,false,p.2.2.2.2.2.2.2.2.2.2.2.2)
 let x5:=ZgV x4 (vPck p)
 let x6:=ZDz x4 (vPck p)
 let x7:=x6.2
 let x8:=x7.2
 let x9:=x8.2
 let x10:=x9.2
 let x11:=x10.2
 let x12:=x11.2
 let x13:=x12.2
 let x14:=x13.1
 let x15:=p.2.2.2.2.2.2.2.2.2.2.2.2.2.2
 let x16:=ZMU x6 (vPck p)
 .br (x3||(h||(x1||(decide (vPck p<0)||(!x5||(!x14||Zir x6 (vPck p))))))) (.br (x3||(h||(x1||(decide (vPck p<0)||x5)))) (.br (x2) (.br (h) (Ls ((p,x15.2.1))) (.br p.2.2.2.2.2.2.2.2.2.2.2.1 (.br (decide (vPck p<0)) (Ls ((x4,0))) (Ls (((R.sel Zab x14 x16 x6),u8.wrap (i64.wrap (128+vPck p)))))) (.br p.2.2.2.2.2.2.2.2.2.2.1 (Ls ((p,x15.1))) (Ls ((p,vReq p)))))) Ln) Ln) Ln
def Zmw (p:PICT) (h:Bool):PICT×Int:=getO ZDA.Df (ZsM p h).val
def ZsN (p:PICT) (h:Bool):Bool:=okB (ZsM p h).val
def Z2d:En:=Zg ZQ8 ZDA (λa=>some (ZsN a.1 a.2)) (λa=>Zmw a.1 a.2)
theorem ZYU:Za prog 257 Z2d:=
 pureP 8589938943 [(333,ZYW),(336,ZQ6),(337,ZRr),(338,Z4i)] [] _ _ ⟨ZDE,ZIT,ZI5,ZQ7,Tv⟩ Tryz.func257 Tryz.call257 trivial
def ZMV (p:PICT):RT (Option (PICT×Int)):=
 let x1:=p.2.2.2.2.2.2.2.2.2.2.2.2.2
 let x2:=x1.2
 let x3:=x2.2
 let x4:=x3.2
 let x5:=x4.2
 let x6:=x5.1
 let x7:=x6==0
 let x8:= !x7
 let x9:=x8||Zsh p
 let x10:=p.2.2.2.2.2.2.2.2.2.2.2.2.1
 let x11:=x1.1
 let x12:=x2.1
 let x13:=x3.1
 let x14:=x4.1
 let x15:PICT:=(p.1,p.2.1,p.2.2.1,p.2.2.2.1,p.2.2.2.2.1,p.2.2.2.2.2.1,p.2.2.2.2.2.2.1,p.2.2.2.2.2.2.2.1,p.2.2.2.2.2.2.2.2.1,p.2.2.2.2.2.2.2.2.2.1,p.2.2.2.2.2.2.2.2.2.2.1,p.2.2.2.2.2.2.2.2.2.2.2.1,x10,x11,x12,x13,x14,1,7,true)
 let x16:=ZDz x15 (vPck p)
 let x17:=x16.2
 let x18:=x17.2
 let x19:=x18.2
 let x20:=x19.2
 let x21:=x20.2
 let x22:=x21.2
 let x23:=x22.2
 let x24:=x23.2
 let x25:=x24.2
 let x26:=x25.2
 let x27:=x26.2
 let x28:=x27.2
 let x29:=x28.2
 let x30:=x29.2
 let x31:=x30.2
 let x32:=x31.2
 let x33:=x5.2
 let x34:PICT:=(p.1,p.2.1,p.2.2.1,p.2.2.2.1,p.2.2.2.2.1,p.2.2.2.2.2.1,p.2.2.2.2.2.2.1,p.2.2.2.2.2.2.2.1,p.2.2.2.2.2.2.2.2.1,p.2.2.2.2.2.2.2.2.2.1,p.2.2.2.2.2.2.2.2.2.2.1,p.2.2.2.2.2.2.2.2.2.2.2.1,x10,x11,x12,x13,x14,2,x33)
 let x35:=x33.1
 let x36:=andI i64 x35 7
 let x37:=x33.2
 let x38:=p.2.2.2.2.2.2.2.1&& !x37
 let x39:PICT:=(p.1,p.2.1,p.2.2.1,p.2.2.2.1,p.2.2.2.2.1,p.2.2.2.2.2.1,p.2.2.2.2.2.2.1,p.2.2.2.2.2.2.2.1,p.2.2.2.2.2.2.2.2.1,p.2.2.2.2.2.2.2.2.2.1,p.2.2.2.2.2.2.2.2.2.2.1,p.2.2.2.2.2.2.2.2.2.2.2.1,x10,x11,x12,x13,x14,0,x33)
 let x40:=ZMU x39 x36
 let x41:=x40.2
 let x42:=x41.2
 let x43:=x42.2
 let x44:=x43.2
 let x45:=x44.2
 let x46:=x45.2
 let x47:Int:=bif x38 then x46.1 else p.2.2.2.2.2.2.1
 let x48:=x46.2
 let x49:=x48.2
 let x50:=x49.2
 let x51:=x50.2
 let x52:=x51.2
 let x53:=x52.2
 let x54:=x53.2
 let x55:=x54.2
 let x56:=x55.2
 let x57:=x56.2
 let x58:=x57.2
 let x59:=x58.2
 .br (!x9||(x8||(!decide (vPck p>=0)||ZgV x15 (vPck p)))) (.br (x9) (.br (x7) (Ls (((bif decide (vPck p>=0) then x16.1 else p.1,bif decide (vPck p>=0) then x17.1 else p.2.1,bif decide (vPck p>=0) then x18.1 else p.2.2.1,bif decide (vPck p>=0) then x19.1 else p.2.2.2.1,bif decide (vPck p>=0) then x20.1 else p.2.2.2.2.1,bif decide (vPck p>=0) then x21.1 else p.2.2.2.2.2.1,bif decide (vPck p>=0) then x22.1 else p.2.2.2.2.2.2.1,bif decide (vPck p>=0) then x23.1 else p.2.2.2.2.2.2.2.1,bif decide (vPck p>=0) then x24.1 else p.2.2.2.2.2.2.2.2.1,bif decide (vPck p>=0) then x25.1 else p.2.2.2.2.2.2.2.2.2.1,bif decide (vPck p>=0) then x26.1 else p.2.2.2.2.2.2.2.2.2.2.1,bif decide (vPck p>=0) then x27.1 else p.2.2.2.2.2.2.2.2.2.2.2.1,bif decide (vPck p>=0) then x28.1 else x10,bif decide (vPck p>=0) then x29.1 else x11,bif decide (vPck p>=0) then x30.1 else x12,bif decide (vPck p>=0) then x31.1 else x13,bif decide (vPck p>=0) then x32.1 else x14,bif decide (vPck p>=0) then x32.2.1 else 1,bif decide (vPck p>=0) then vPck p else 7,!decide (vPck p>=0)),205))) (.br (x6==1) (.br p.2.2.1 (Ls ((x34,u8.wrap (andI u8 p.2.2.2.2.2.1 224+u8.wrap (i64.wrap (4*x36)))))) (Ls ((x34,u8.wrap (andI u8 p.2.2.2.2.2.1 192+u8.wrap (i64.wrap (8*x36))))))) (.br (!x38||Zir x39 x36) (Ls (((bif x38 then x40.1 else p.1,bif x38 then x41.1 else p.2.1,bif x38 then x42.1 else p.2.2.1,bif x38 then x43.1 else p.2.2.2.1,bif x38 then x44.1 else p.2.2.2.2.1,bif x38 then x45.1 else p.2.2.2.2.2.1,x47,bif x38 then x48.1 else p.2.2.2.2.2.2.2.1,bif x38 then x49.1 else p.2.2.2.2.2.2.2.2.1,bif x38 then x50.1 else p.2.2.2.2.2.2.2.2.2.1,bif x38 then x51.1 else p.2.2.2.2.2.2.2.2.2.2.1,bif x38 then x52.1 else p.2.2.2.2.2.2.2.2.2.2.2.1,bif x38 then x53.1 else x10,bif x38 then x54.1 else x11,bif x38 then x55.1 else x12,bif x38 then x56.1 else x13,bif x38 then x57.1 else x14,bif x38 then x58.1 else 0,bif x38 then x59.1 else x35,bif x38 then x59.2 else x37),x47))) Ln))) Ln) Ln
def vAck (p:PICT):PICT×Int:=getO ZDA.Df (ZMV p).val
def ZMW (p:PICT):Bool:=okB (ZMV p).val
def Z7w:En:=Zg Z2b ZDA (λa=>some (ZMW a)) (λa=>vAck a)
theorem Z4q:Za prog 256 Z7w:=
 pureP 134219839 [(333,ZYW),(336,ZQ6),(337,ZRr)] [] _ _ ⟨ZDE,ZIT,ZI5,Tv⟩ Tryz.func256 Tryz.call256 trivial
abbrev ZzQ:List Sh:=[Sh.agg (R.Pq Kb (R.Pq Ka Kc)),So Kc,So Ka]
abbrev ZzR:Rs:=Rs.one (Sh.agg (R.Pq Kb (R.Pq Ka Kc)))
def ZuM (d:QT4) (r:Int) (v:Int):RT (QT4):=
 .Lf ((bif andI i64 r 3==0 then orI u16 (andI u16 d.1 65280) (u16.wrap v) else bif andI i64 r 3==1 then orI u16 (andI u16 d.1 255) (shlI u16 (u16.wrap v) 8) else d.1,bif andI i64 r 3==0 then d.2.1 else bif andI i64 r 3==1 then d.2.1 else bif andI i64 r 3==2 then v else d.2.1,bif andI i64 r 3==0 then d.2.2 else bif andI i64 r 3==1 then d.2.2 else bif andI i64 r 3==2 then d.2.2 else i64.wrap v))
def Zgb (d:QT4) (r:Int) (v:Int):QT4:=(ZuM d r v).val
def ZIS:En:=Zg ZzQ ZzR (λ_=>none) (λa=>Zgb a.1 a.2.1 a.2.2)
theorem ZMQ:Za prog 267 ZIS:=
 pureQ 2149585023 [] [] _ _ trivial Tryz.func267 Tryz.call267 trivial
abbrev ZIW:List Sh:=[Sh.agg (R.Pq Kb (R.Pq Ka Kc)),So Kc]
def ZkM (d:QT4) (r:Int):RT (Option (Int)):=
 .br (decide (0<=andI i64 r 3/\andI i64 r 3<4)) (Ls (bif andI i64 r 3==0 then u8.wrap d.1 else bif andI i64 r 3==iN (0+1) then u8.wrap (shrI u16 d.1 8) else bif andI i64 r 3==iN (0+1+1) then d.2.1 else u8.wrap d.2.2)) Ln
def Zjk (d:QT4) (r:Int):Int:=getO ZI8.Df (ZkM d r).val
def ZkN (d:QT4) (r:Int):Bool:=okB (ZkM d r).val
def ZRb:En:=Zg ZIW ZI8 (λa=>some (ZkN a.1 a.2)) (λa=>Zjk a.1 a.2)
theorem ZQ9:Za prog 258 ZRb:=
 pureP 31 [] [] _ _ trivial Tryz.func258 Tryz.call258 trivial
abbrev ZsK:List Sh:=[Sh.agg (R.Pq Kb (R.Pq Ka Kc))]
def ZnX (d:QT4):RT (Bool):=
 .Lf (decide (d.2.2>0))
def ZQ (d:QT4):Bool:=(ZnX d).val
def ZnY:En:=Zg ZsK Z4k (λ_=>none) (λa=>ZQ a)
theorem ZnW:Za prog 251 ZnY:=
 pureQ 7 [] [] _ _ trivial Tryz.func251 Tryz.call251 trivial
abbrev ZnV:Rs:=Rs.tup [Sh.agg (R.Pq Kb (R.Pq Ka Kc)),Sh.agg (R.Pq Kb Ka),So R.bool]
def ZfE (d:QT4):RT ((QT4)×(Int×Int)×Bool):=
 .br (!ZQ d) (.Lf (((0,0,0),(0,0),false))) (.Lf (((u16.wrap (d.1+1),d.2.1,i64.wrap (d.2.2-1)),(d.1,d.2.1),true)))
def ZaL (d:QT4):(QT4)×(Int×Int)×Bool:=(ZfE d).val
def ZsI:En:=Zg ZsK ZnV (λ_=>none) (λa=>ZaL a)
theorem ZzS:Za prog 181 ZsI:=
 pureQ 63 [(251,ZnY)] [] _ _ ⟨ZnW,Tv⟩ Tryz.func181 Tryz.call181 trivial
