import Derived.Test.YtpnjbfjomebppaaGreatFin0
open Go.IntKind (u8 u16 i64)
set_option linter.unusedSimpArgs false
open Go Go.S3 Go.Proofs
set_option linter.unusedVariables false
set_option maxRecDepth 100000
namespace Go.Proofs.YtpnjbfjomebppaaGreat
noncomputable section
def ZBu (c:TC) (s:Int) (g:List Int) (ln:QT1):RT (Option TC):=
 let x1:QT0:=(c,s==5,g,(0,0,0,0,0,0,0,0),[])
 let x2:=qAtC x1 0
 let x3:=Zc c.1 (qAt x1 0)
 let x4:= !x2||x3.1==1
 .br (Ze s) (Ls ((c.1,(rgx c.2.1 c.2.1.2.2.2.2.2.2.2.1 (u16.wrap ((spOf c)-2)) (Zx s)),c.2.2))) (.br (!x4||x2) (.br (x4) (Ls ((c.1,(rgx c.2.1 c.2.1.2.2.2.2.2.2.2.1 (spOf c) (Zy (c,s==5,g,(1,x3.2),[]))),c.2.2.1,false,false,c.2.2.2.2.2))) Ln) Ln)
theorem ZMF (a:HL ZQ):EV0 1 a=ZBu a.1 a.2.1 a.2.2.1 a.2.2.2:=by kernel_rfl
def ZBq (c:TC) (s:Int) (g:List Int) (ln:QT1):RT (Option TC):=
 let x1:QT0:=(c,s==5,g,(0,0,0,0,0,0,0,0),[])
 let x2:=qAtC x1 0
 let x3:=Zc c.1 (qAt x1 0)
 let x4:= !x2||x3.1==5
 let x5:QT0:=(c,s==5,g,(5,x3.2),[])
 .br (Ze s) (Ls ((c.1,(rgx c.2.1 c.2.1.2.2.2.2.2.2.2.1 (u16.wrap ((spOf c)-2)) (Zx s)),c.2.2))) (.br (!x4||x2) (.br (x4) (.br (qAtC x5 3) (Ls ((c.1,(qAt x5 3,c.2.1.2.1,c.2.1.2.2.1,c.2.1.2.2.2.1,c.2.1.2.2.2.2.1,c.2.1.2.2.2.2.2.1,c.2.1.2.2.2.2.2.2.1,c.2.1.2.2.2.2.2.2.2.1,spOf c,Zy x5),c.2.2.1,false,false,c.2.2.2.2.2))) Ln) Ln) Ln)
theorem ZMB (a:HL ZQ):EV0 5 a=ZBq a.1 a.2.1 a.2.2.1 a.2.2.2:=by kernel_rfl
def ZBm (c:TC) (s:Int) (g:List Int) (ln:QT1):RT (Option TC):=
 let x1:QT0:=(c,s==5,g,(0,0,0,0,0,0,0,0),[])
 let x2:=qAtC x1 0
 let x3:=Zc c.1 (qAt x1 0)
 let x4:= !x2||x3.1==9
 let x5:QT0:=(c,s==5,g,(9,x3.2),[])
 .br (Ze s) (Ls ((c.1,(rgx c.2.1 c.2.1.2.2.2.2.2.2.2.1 (u16.wrap ((spOf c)-2)) (Zx s)),c.2.2))) (.br (!x4||x2) (.br (x4) (.br (qAtC x5 1) (Ls ((c.1,(qAt x5 1,c.2.1.2.1,c.2.1.2.2.1,c.2.1.2.2.2.1,c.2.1.2.2.2.2.1,c.2.1.2.2.2.2.2.1,c.2.1.2.2.2.2.2.2.1,c.2.1.2.2.2.2.2.2.2.1,spOf c,Zy x5),c.2.2.1,false,false,c.2.2.2.2.2))) Ln) Ln) Ln)
theorem ZMx (a:HL ZQ):EV0 9 a=ZBm a.1 a.2.1 a.2.2.1 a.2.2.2:=by kernel_rfl
def Zt8 (c:TC) (s:Int) (g:List Int) (ln:QT1):RT (Option TC):=
 let x1:QT0:=(c,s==5,g,(0,0,0,0,0,0,0,0),[])
 let x2:=qAtC x1 0
 let x3:=Zc c.1 (qAt x1 0)
 let x4:= !x2||x3.1==13
 let x5:=x3.2
 let x6:QT0:=(c,s==5,g,(13,x5),[])
 let x7:=rDo c.1 x5.2.2.2.2.1 c.2.1.1 (ZiN x6) c.2.1.2.2.2.2.2.2.2.1
 .br (Ze s) (Ls ((c.1,(rgx c.2.1 c.2.1.2.2.2.2.2.2.2.1 (u16.wrap ((spOf c)-2)) (Zx s)),c.2.2))) (.br (!x4||x2) (.br (x4) (.br (Zgq x6) (Ls ((c.1,(x7.1,c.2.1.2.1,c.2.1.2.2.1,c.2.1.2.2.2.1,c.2.1.2.2.2.2.1,c.2.1.2.2.2.2.2.1,c.2.1.2.2.2.2.2.2.1,x7.2,spOf c,Zy x6),c.2.2.1,false,false,c.2.2.2.2.2))) Ln) Ln) Ln)
theorem ZHA (a:HL ZQ):EV0 13 a=Zt8 a.1 a.2.1 a.2.2.1 a.2.2.2:=by kernel_rfl
def Zt4 (c:TC) (s:Int) (g:List Int) (ln:QT1):RT (Option TC):=
 let x1:QT0:=(c,s==5,g,(0,0,0,0,0,0,0,0),[])
 let x2:=qAtC x1 0
 let x3:=Zc c.1 (qAt x1 0)
 let x4:= !x2||x3.1==17
 let x5:=x3.2
 let x6:QT0:=(c,s==5,g,(17,x5),[])
 let x7:=x5.2.2.2.1
 let x8:=rDcx c.1 (Zeh x6 x7) c.2.1.2.2.2.2.2.2.2.1
 .br (Ze s) (Ls ((c.1,(rgx c.2.1 c.2.1.2.2.2.2.2.2.2.1 (u16.wrap ((spOf c)-2)) (Zx s)),c.2.2))) (.br (!x4||x2) (.br (x4) (Ls ((c.1,ZY (rgx c.2.1 x8.2 (spOf c) (Zy x6)) x7 x8.1,c.2.2.1,false,false,c.2.2.2.2.2))) Ln) Ln)
theorem ZHw (a:HL ZQ):EV0 17 a=Zt4 a.1 a.2.1 a.2.2.1 a.2.2.2:=by kernel_rfl
def Zt0 (c:TC) (s:Int) (g:List Int) (ln:QT1):RT (Option TC):=
 let x1:QT0:=(c,s==5,g,(0,0,0,0,0,0,0,0),[])
 let x2:=qAtC x1 0
 let x3:=Zc c.1 (qAt x1 0)
 let x4:= !x2||x3.1==21
 let x5:=c.2.1.2.2.2.2.2.2.2.1.2.2.2
 let x6:=x5.2
 .br (Ze s) (Ls ((c.1,(rgx c.2.1 c.2.1.2.2.2.2.2.2.2.1 (u16.wrap ((spOf c)-2)) (Zx s)),c.2.2))) (.br (!x4||x2) (.br (x4) (Ls ((c.1,(rgx c.2.1 ((c.2.1.2.2.2.2.2.2.2.1.1,c.2.1.2.2.2.2.2.2.2.1.2.1,c.2.1.2.2.2.2.2.2.2.1.2.2.1,x5.1,x6.1,x6.2.1,true)) (spOf c) (Zy (c,s==5,g,(21,x3.2),[]))),c.2.2.1,false,false,c.2.2.2.2.2))) Ln) Ln)
theorem ZHs (a:HL ZQ):EV0 21 a=Zt0 a.1 a.2.1 a.2.2.1 a.2.2.2:=by kernel_rfl
def ZtW (c:TC) (s:Int) (g:List Int) (ln:QT1):RT (Option TC):=
 let x1:=u16.wrap ((spOf c)-2)
 let x2:QT0:=(c,s==5,g,(0,0,0,0,0,0,0,0),[])
 let x3:=qAtC x2 0
 let x4:=Zc c.1 (qAt x2 0)
 let x5:= !x3||x4.1==25
 let x6:QT0:=(c,s==5,g,(25,x4.2),[])
 let x7:=ZhE x6
 .br (Ze s) (Ls ((c.1,(rgx c.2.1 c.2.1.2.2.2.2.2.2.2.1 x1 (Zx s)),c.2.2))) (.br (!x5||x3) (.br (x5) (.br (!x7||Zc4 x6 1) (Ls ((c.1,(rgx c.2.1 c.2.1.2.2.2.2.2.2.2.1 (bif x7 then x1 else (spOf c)) (bif x7 then Zgr x6 1 else Zy x6)),c.2.2.1,false,false,c.2.2.2.2.2))) Ln) Ln) Ln)
theorem ZHo (a:HL ZQ):EV0 25 a=ZtW a.1 a.2.1 a.2.2.1 a.2.2.2:=by kernel_rfl
def ZtS (c:TC) (s:Int) (g:List Int) (ln:QT1):RT (Option TC):=
 let x1:QT0:=(c,s==5,g,(0,0,0,0,0,0,0,0),[])
 let x2:=qAtC x1 0
 let x3:=Zc c.1 (qAt x1 0)
 let x4:= !x2||x3.1==29
 let x5:QT0:=(c,s==5,g,(29,x3.2),[])
 .br (Ze s) (Ls ((c.1,(rgx c.2.1 c.2.1.2.2.2.2.2.2.2.1 (u16.wrap ((spOf c)-2)) (Zx s)),c.2.2))) (.br (!x4||x2) (.br (x4) (Ls ((c.1,(rgx c.2.1 c.2.1.2.2.2.2.2.2.2.1 (Zeh x5 2) (Zy x5)),c.2.2.1,false,false,c.2.2.2.2.2))) Ln) Ln)
theorem ZHk (a:HL ZQ):EV0 29 a=ZtS a.1 a.2.1 a.2.2.1 a.2.2.2:=by kernel_rfl
def ZtO (c:TC) (s:Int) (g:List Int) (ln:QT1):RT (Option TC):=
 let x1:QT0:=(c,s==5,g,(0,0,0,0,0,0,0,0),[])
 let x2:=qAtC x1 0
 let x3:=Zc c.1 (qAt x1 0)
 let x4:= !x2||x3.1==33
 let x5:QT0:=(c,s==5,g,(33,x3.2),[])
 .br (Ze s) (Ls ((c.1,(rgx c.2.1 c.2.1.2.2.2.2.2.2.2.1 (u16.wrap ((spOf c)-2)) (Zx s)),c.2.2))) (.br (!x4||x2) (.br (x4) (.br (qAtC x5 2) (Ls ((c.1,(qAt x5 2,c.2.1.2.1,c.2.1.2.2.1,c.2.1.2.2.2.1,c.2.1.2.2.2.2.1,c.2.1.2.2.2.2.2.1,c.2.1.2.2.2.2.2.2.1,c.2.1.2.2.2.2.2.2.2.1,spOf c,Zy x5),c.2.2.1,false,false,c.2.2.2.2.2))) Ln) Ln) Ln)
theorem ZHg (a:HL ZQ):EV0 33 a=ZtO a.1 a.2.1 a.2.2.1 a.2.2.2:=by kernel_rfl
def ZtK (c:TC) (s:Int) (g:List Int) (ln:QT1):RT (Option TC):=
 let x1:QT0:=(c,s==5,g,(0,0,0,0,0,0,0,0),[])
 let x2:=qAtC x1 0
 let x3:=Zc c.1 (qAt x1 0)
 let x4:= !x2||x3.1==37
 .br (Ze s) (Ls ((c.1,(rgx c.2.1 c.2.1.2.2.2.2.2.2.2.1 (u16.wrap ((spOf c)-2)) (Zx s)),c.2.2))) (.br (!x4||x2) (.br (x4) (Ls ((c.1,(rgx c.2.1 c.2.1.2.2.2.2.2.2.2.1 (spOf c) (Zy (c,s==5,g,(37,x3.2),[]))),c.2.2.1,false,true,c.2.2.2.2.2))) Ln) Ln)
theorem ZHc (a:HL ZQ):EV0 37 a=ZtK a.1 a.2.1 a.2.2.1 a.2.2.2:=by kernel_rfl
def ZtG (c:TC) (s:Int) (g:List Int) (ln:QT1):RT (Option TC):=
 let x1:QT0:=(c,s==5,g,(0,0,0,0,0,0,0,0),[])
 let x2:=qAtC x1 0
 let x3:=Zc c.1 (qAt x1 0)
 let x4:= !x2||x3.1==41
 let x5:=c.2.1.2.2.2.2.2.2.2.1.2.2.2
 let x6:=x5.2
 let x7:QT0:=(c,s==5,g,(41,x3.2),[])
 let x8:=ZQq (Zeh x7 2)
 .br (Ze s) (Ls ((c.1,(rgx c.2.1 c.2.1.2.2.2.2.2.2.2.1 (u16.wrap ((spOf c)-2)) (Zx s)),c.2.2))) (.br (!x4||x2) (.br (x4) (Ls ((c.1,ZY (rgx c.2.1 ((c.2.1.2.2.2.2.2.2.2.1.1,c.2.1.2.2.2.2.2.2.2.1.2.1,c.2.1.2.2.2.2.2.2.2.1.2.2.1,x5.1,x6.1,x6.2.1,x8.2)) (spOf c) (Zy x7)) 2 x8.1,c.2.2.1,false,false,c.2.2.2.2.2))) Ln) Ln)
theorem ZG8 (a:HL ZQ):EV0 41 a=ZtG a.1 a.2.1 a.2.2.1 a.2.2.2:=by kernel_rfl
def ZtC (c:TC) (s:Int) (g:List Int) (ln:QT1):RT (Option TC):=
 let x1:=u16.wrap ((spOf c)-2)
 let x2:QT0:=(c,s==5,g,(0,0,0,0,0,0,0,0),[])
 let x3:=qAtC x2 0
 let x4:=Zc c.1 (qAt x2 0)
 let x5:= !x3||x4.1==45
 let x6:QT0:=(c,s==5,g,(45,x4.2),[])
 let x7:=ZhE x6
 .br (Ze s) (Ls ((c.1,(rgx c.2.1 c.2.1.2.2.2.2.2.2.2.1 x1 (Zx s)),c.2.2))) (.br (!x5||x3) (.br (x5) (Ls ((c.1,(rgx c.2.1 c.2.1.2.2.2.2.2.2.2.1 (bif x7 then x1 else (spOf c)) (bif x7 then 64 else Zy x6)),c.2.2.1,false,false,c.2.2.2.2.2))) Ln) Ln)
theorem ZG4 (a:HL ZQ):EV0 45 a=ZtC a.1 a.2.1 a.2.2.1 a.2.2.2:=by kernel_rfl
