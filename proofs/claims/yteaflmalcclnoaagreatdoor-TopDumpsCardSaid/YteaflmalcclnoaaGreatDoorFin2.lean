import Derived.Test.YteaflmalcclnoaaGreatDoorFin0
open Go.IntKind (u8 u16 i64 wrap)
set_option linter.unusedSimpArgs false
open Go Go.S3 Go.Proofs
set_option linter.unusedVariables false
set_option maxRecDepth 100000
namespace Go.Proofs.YteaflmalcclnoaaGreatDoor
noncomputable section
def ZAX (c:TC) (s:Int) (g:List Int) (ln:QT1):RT (Option TC):=
 let x1:QT0:=(c,s==5,g,(0,0,0,0,0,0,0,0),[])
 let x2:=qAtC x1 0
 let x3:=Zc c.1 (qAt x1 0)
 let x4:= !x2||x3.1==2
 let x5:=x3.2
 let x6:=x5.2
 let x7:=x6.2.1
 let x8:=x7==6
 let x9:QT0:=(c,s==5,g,(2,x5),[])
 .br (Zd s) (Ls ((c.1,(rgx c.2.1 c.2.1.2.2.2.2.2.2.2.1 (u16.wrap ((spOf c)-2)) (Zw s)),c.2.2))) (.br (!x4||x2) (.br (x4) (.br (!x8||qAtC x9 1) (Ls ((c.1,rSet (rgx c.2.1 c.2.1.2.2.2.2.2.2.2.1 (spOf c) (Zx x9)) x6.1 (bif x8 then qAt x9 1 else qReg x9 x7),c.2.2.1,false,false,c.2.2.2.2.2))) Ln) Ln) Ln)
theorem ZMi (a:HL ZO):EV0 2 a=ZAX a.1 a.2.1 a.2.2.1 a.2.2.2:=by kernel_rfl
def ZAT (c:TC) (s:Int) (g:List Int) (ln:QT1):RT (Option TC):=
 let x1:QT0:=(c,s==5,g,(0,0,0,0,0,0,0,0),[])
 let x2:=qAtC x1 0
 let x3:=Zc c.1 (qAt x1 0)
 let x4:= !x2||x3.1==6
 .br (Zd s) (Ls ((c.1,(rgx c.2.1 c.2.1.2.2.2.2.2.2.2.1 (u16.wrap ((spOf c)-2)) (Zw s)),c.2.2))) (.br (!x4||x2) (.br (x4) (Ls ((c.1,(rgx c.2.1 c.2.1.2.2.2.2.2.2.2.1 (spOf c) (Zx (c,s==5,g,(6,x3.2),[]))),c.2.2.1,false,false,c.2.2.2.2.2))) Ln) Ln)
theorem ZMe (a:HL ZO):EV0 6 a=ZAT a.1 a.2.1 a.2.2.1 a.2.2.2:=by kernel_rfl
def Zt1 (c:TC) (s:Int) (g:List Int) (ln:QT1):RT (Option TC):=
 let x1:QT0:=(c,s==5,g,(0,0,0,0,0,0,0,0),[])
 let x2:=qAtC x1 0
 let x3:=Zc c.1 (qAt x1 0)
 let x4:= !x2||x3.1==10
 .br (Zd s) (Ls ((c.1,(rgx c.2.1 c.2.1.2.2.2.2.2.2.2.1 (u16.wrap ((spOf c)-2)) (Zw s)),c.2.2))) (.br (!x4||x2) (.br (x4) (Ls ((c.1,(rgx c.2.1 c.2.1.2.2.2.2.2.2.2.1 (spOf c) (Zx (c,s==5,g,(10,x3.2),[]))),c.2.2.1,false,false,c.2.2.2.2.2))) Ln) Ln)
theorem ZHb (a:HL ZO):EV0 10 a=Zt1 a.1 a.2.1 a.2.2.1 a.2.2.2:=by kernel_rfl
def ZtX (c:TC) (s:Int) (g:List Int) (ln:QT1):RT (Option TC):=
 let x1:QT0:=(c,s==5,g,(0,0,0,0,0,0,0,0),[])
 let x2:=qAtC x1 0
 let x3:=Zc c.1 (qAt x1 0)
 let x4:= !x2||x3.1==14
 let x5:=x3.2
 let x6:=x5.2.1
 let x7:=x6==6
 let x8:QT0:=(c,s==5,g,(14,x5),[])
 let x9:=rInr c.1 (bif x7 then qAt x8 1 else qReg x8 x6) c.2.1.2.2.2.2.2.2.2.1
 .br (Zd s) (Ls ((c.1,(rgx c.2.1 c.2.1.2.2.2.2.2.2.2.1 (u16.wrap ((spOf c)-2)) (Zw s)),c.2.2))) (.br (!x4||x2) (.br (x4) (.br (!x7||qAtC x8 1) (Ls ((c.1,rSet (rgx c.2.1 x9.2 (spOf c) (Zx x8)) x6 x9.1,c.2.2.1,false,false,c.2.2.2.2.2))) Ln) Ln) Ln)
theorem ZG7 (a:HL ZO):EV0 14 a=ZtX a.1 a.2.1 a.2.2.1 a.2.2.2:=by kernel_rfl
def ZtT (c:TC) (s:Int) (g:List Int) (ln:QT1):RT (Option TC):=
 let x1:QT0:=(c,s==5,g,(0,0,0,0,0,0,0,0),[])
 let x2:=qAtC x1 0
 let x3:=Zc c.1 (qAt x1 0)
 let x4:= !x2||x3.1==18
 let x5:=x3.2
 let x6:QT0:=(c,s==5,g,(18,x5),[])
 let x7:=rDad c.1 (Zek x6 2) (Zek x6 x5.2.2.2.1) c.2.1.2.2.2.2.2.2.2.1
 .br (Zd s) (Ls ((c.1,(rgx c.2.1 c.2.1.2.2.2.2.2.2.2.1 (u16.wrap ((spOf c)-2)) (Zw s)),c.2.2))) (.br (!x4||x2) (.br (x4) (Ls ((c.1,ZX (rgx c.2.1 x7.2 (spOf c) (Zx x6)) 2 x7.1,c.2.2.1,false,false,c.2.2.2.2.2))) Ln) Ln)
theorem ZG3 (a:HL ZO):EV0 18 a=ZtT a.1 a.2.1 a.2.2.1 a.2.2.2:=by kernel_rfl
def ZtP (c:TC) (s:Int) (g:List Int) (ln:QT1):RT (Option TC):=
 let x1:QT0:=(c,s==5,g,(0,0,0,0,0,0,0,0),[])
 let x2:=qAtC x1 0
 let x3:=Zc c.1 (qAt x1 0)
 let x4:= !x2||x3.1==22
 let x5:=c.2.1.2.2.2.2.2.2.2.1.2.2.2
 let x6:=x5.2
 let x7:=x6.2
 .br (Zd s) (Ls ((c.1,(rgx c.2.1 c.2.1.2.2.2.2.2.2.2.1 (u16.wrap ((spOf c)-2)) (Zw s)),c.2.2))) (.br (!x4||x2) (.br (x4) (Ls ((c.1,(rgx c.2.1 ((c.2.1.2.2.2.2.2.2.2.1.1,c.2.1.2.2.2.2.2.2.2.1.2.1,c.2.1.2.2.2.2.2.2.2.1.2.2.1,x5.1,x6.1,x7.1,!x7.2)) (spOf c) (Zx (c,s==5,g,(22,x3.2),[]))),c.2.2.1,false,false,c.2.2.2.2.2))) Ln) Ln)
theorem ZGZ (a:HL ZO):EV0 22 a=ZtP a.1 a.2.1 a.2.2.1 a.2.2.2:=by kernel_rfl
def ZtL (c:TC) (s:Int) (g:List Int) (ln:QT1):RT (Option TC):=
 let x1:QT0:=(c,s==5,g,(0,0,0,0,0,0,0,0),[])
 let x2:=qAtC x1 0
 let x3:=Zc c.1 (qAt x1 0)
 let x4:= !x2||x3.1==26
 let x5:QT0:=(c,s==5,g,(26,x3.2),[])
 let x6:=ZhT x5
 .br (Zd s) (Ls ((c.1,(rgx c.2.1 c.2.1.2.2.2.2.2.2.2.1 (u16.wrap ((spOf c)-2)) (Zw s)),c.2.2))) (.br (!x4||x2) (.br (x4) (.br (!x6||Zc4 x5 1) (Ls ((c.1,(rgx c.2.1 c.2.1.2.2.2.2.2.2.2.1 (bif x6 then u16.wrap ((spOf c)+2) else (spOf c)) (bif x6 then ZgG x5 1 else Zx x5)),c.2.2.1,false,false,c.2.2.2.2.2))) Ln) Ln) Ln)
theorem ZGV (a:HL ZO):EV0 26 a=ZtL a.1 a.2.1 a.2.2.1 a.2.2.2:=by kernel_rfl
def ZtH (c:TC) (s:Int) (g:List Int) (ln:QT1):RT (Option TC):=
 let x1:=u16.wrap ((spOf c)-2)
 let x2:QT0:=(c,s==5,g,(0,0,0,0,0,0,0,0),[])
 let x3:=qAtC x2 0
 let x4:=Zc c.1 (qAt x2 0)
 let x5:= !x3||x4.1==30
 .br (Zd s) (Ls ((c.1,(rgx c.2.1 c.2.1.2.2.2.2.2.2.2.1 x1 (Zw s)),c.2.2))) (.br (!x5||x3) (.br (x5) (Ls ((c.1,(rgx c.2.1 c.2.1.2.2.2.2.2.2.2.1 x1 (Zx (c,s==5,g,(30,x4.2),[]))),c.2.2.1,false,false,c.2.2.2.2.2))) Ln) Ln)
theorem ZGR (a:HL ZO):EV0 30 a=ZtH a.1 a.2.1 a.2.2.1 a.2.2.2:=by kernel_rfl
def ZtD (c:TC) (s:Int) (g:List Int) (ln:QT1):RT (Option TC):=
 let x1:QT0:=(c,s==5,g,(0,0,0,0,0,0,0,0),[])
 let x2:=qAtC x1 0
 let x3:=Zc c.1 (qAt x1 0)
 let x4:= !x2||x3.1==34
 .br (Zd s) (Ls ((c.1,(rgx c.2.1 c.2.1.2.2.2.2.2.2.2.1 (u16.wrap ((spOf c)-2)) (Zw s)),c.2.2))) (.br (!x4||x2) (.br (x4) (Ls ((c.1,(rgx c.2.1 c.2.1.2.2.2.2.2.2.2.1 (spOf c) (Zx (c,s==5,g,(34,x3.2),[]))),c.2.2.1,false,false,c.2.2.2.2.2))) Ln) Ln)
theorem ZGN (a:HL ZO):EV0 34 a=ZtD a.1 a.2.1 a.2.2.1 a.2.2.2:=by kernel_rfl
def Ztz (c:TC) (s:Int) (g:List Int) (ln:QT1):RT (Option TC):=
 let x1:QT0:=(c,s==5,g,(0,0,0,0,0,0,0,0),[])
 let x2:=qAtC x1 0
 let x3:=Zc c.1 (qAt x1 0)
 let x4:= !x2||x3.1==38
 let x5:=rRim (c.1,(rgx c.2.1 c.2.1.2.2.2.2.2.2.2.1 (spOf c) (Zx (c,s==5,g,(38,x3.2),[]))),c.2.2.1,38==35,38==37,c.2.2.2.2.2) ln
 let x6:=x5.2
 let x7:=x6.2
 let x8:=x7.2
 let x9:=x8.2.2.2
 let x10:=x9.2
 let x11:=x10.2
 let x12:=x11.2
 let x13:=x12.2
 .br (Zd s) (Ls ((c.1,(rgx c.2.1 c.2.1.2.2.2.2.2.2.2.1 (u16.wrap ((spOf c)-2)) (Zw s)),c.2.2))) (.br (!x4||x2) (.br (x4) (Ls ((x6.1,(x5.1,x7.1.2),x8.1,false,false,x9.1,x10.1,x11.1,x12.1,x13.1,false,false,x13.2.2.2))) Ln) Ln)
theorem ZGJ (a:HL ZO):EV0 38 a=Ztz a.1 a.2.1 a.2.2.1 a.2.2.2:=by kernel_rfl
def Ztv (c:TC) (s:Int) (g:List Int) (ln:QT1):RT (Option TC):=
 let x1:QT0:=(c,s==5,g,(0,0,0,0,0,0,0,0),[])
 let x2:=qAtC x1 0
 let x3:=Zc c.1 (qAt x1 0)
 let x4:= !x2||x3.1==42
 let x5:=c.2.1.2.2.2.2.2.2.2.1.2.2.2
 let x6:=x5.2
 let x7:QT0:=(c,s==5,g,(42,x3.2),[])
 let x8:=ZJV (Zek x7 1) x6.2.2
 let x9:=x8.2
 .br (Zd s) (Ls ((c.1,(rgx c.2.1 c.2.1.2.2.2.2.2.2.2.1 (u16.wrap ((spOf c)-2)) (Zw s)),c.2.2))) (.br (!x4||x2) (.br (x4) (Ls ((c.1,ZX (rgx c.2.1 ((c.2.1.2.2.2.2.2.2.2.1.1,c.2.1.2.2.2.2.2.2.2.1.2.1,c.2.1.2.2.2.2.2.2.2.1.2.2.1,x5.1,x6.1,x9.2,x9.1)) (spOf c) (Zx x7)) 1 x8.1,c.2.2.1,false,false,c.2.2.2.2.2))) Ln) Ln)
theorem ZGF (a:HL ZO):EV0 42 a=Ztv a.1 a.2.1 a.2.2.1 a.2.2.2:=by kernel_rfl
def Ztr (c:TC) (s:Int) (g:List Int) (ln:QT1):RT (Option TC):=
 let x1:QT0:=(c,s==5,g,(0,0,0,0,0,0,0,0),[])
 let x2:=qAtC x1 0
 let x3:=Zc c.1 (qAt x1 0)
 let x4:= !x2||x3.1==46
 .br (Zd s) (Ls ((c.1,(rgx c.2.1 c.2.1.2.2.2.2.2.2.2.1 (u16.wrap ((spOf c)-2)) (Zw s)),c.2.2))) (.br (!x4||x2) (.br (x4) (Ls ((c.1,(rgx c.2.1 c.2.1.2.2.2.2.2.2.2.1 (spOf c) (Zx (c,s==5,g,(46,x3.2),[]))),c.2.2.1,false,false,c.2.2.2.2.2))) Ln) Ln)
theorem ZGB (a:HL ZO):EV0 46 a=Ztr a.1 a.2.1 a.2.2.1 a.2.2.2:=by kernel_rfl
