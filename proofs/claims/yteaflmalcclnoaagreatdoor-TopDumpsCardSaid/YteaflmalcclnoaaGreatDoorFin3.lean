import Derived.Test.YteaflmalcclnoaaGreatDoorFin0
open Go.IntKind (u8 u16 i64 wrap)
set_option linter.unusedSimpArgs false
open Go Go.S3 Go.Proofs
set_option linter.unusedVariables false
set_option maxRecDepth 100000
namespace Go.Proofs.YteaflmalcclnoaaGreatDoor
noncomputable section
def ZAW (c:TC) (s:Int) (g:List Int) (ln:QT1):RT (Option TC):=
 let x1:QT0:=(c,s==5,g,(0,0,0,0,0,0,0,0),[])
 let x2:=qAtC x1 0
 let x3:=Zc c.1 (qAt x1 0)
 let x4:= !x2||x3.1==3
 let x5:=x3.2
 let x6:QT0:=(c,s==5,g,(3,x5),[])
 .br (Zd s) (Ls ((c.1,(rgx c.2.1 c.2.1.2.2.2.2.2.2.2.1 (u16.wrap ((spOf c)-2)) (Zw s)),c.2.2))) (.br (!x4||x2) (.br (x4) (.br (qAtC x6 1) (Ls ((c.1,rSet (rgx c.2.1 c.2.1.2.2.2.2.2.2.2.1 (spOf c) (Zx x6)) x5.2.1 (qAt x6 1),c.2.2.1,false,false,c.2.2.2.2.2))) Ln) Ln) Ln)
theorem ZMh (a:HL ZO):EV0 3 a=ZAW a.1 a.2.1 a.2.2.1 a.2.2.2:=by kernel_rfl
def ZAS (c:TC) (s:Int) (g:List Int) (ln:QT1):RT (Option TC):=
 let x1:QT0:=(c,s==5,g,(0,0,0,0,0,0,0,0),[])
 let x2:=qAtC x1 0
 let x3:=Zc c.1 (qAt x1 0)
 let x4:= !x2||x3.1==7
 let x5:QT0:=(c,s==5,g,(7,x3.2),[])
 .br (Zd s) (Ls ((c.1,(rgx c.2.1 c.2.1.2.2.2.2.2.2.2.1 (u16.wrap ((spOf c)-2)) (Zw s)),c.2.2))) (.br (!x4||x2) (.br (x4) (.br (Zc4 x5 3) (Ls ((c.1,ZX (rgx c.2.1 c.2.1.2.2.2.2.2.2.2.1 (spOf c) (Zx x5)) 2 (ZgG x5 3),c.2.2.1,false,false,c.2.2.2.2.2))) Ln) Ln) Ln)
theorem ZMd (a:HL ZO):EV0 7 a=ZAS a.1 a.2.1 a.2.2.1 a.2.2.2:=by kernel_rfl
def Zt0 (c:TC) (s:Int) (g:List Int) (ln:QT1):RT (Option TC):=
 let x1:QT0:=(c,s==5,g,(0,0,0,0,0,0,0,0),[])
 let x2:=qAtC x1 0
 let x3:=Zc c.1 (qAt x1 0)
 let x4:= !x2||x3.1==11
 .br (Zd s) (Ls ((c.1,(rgx c.2.1 c.2.1.2.2.2.2.2.2.2.1 (u16.wrap ((spOf c)-2)) (Zw s)),c.2.2))) (.br (!x4||x2) (.br (x4) (Ls ((c.1,(c.2.1.1,c.2.1.2.1,c.2.1.2.2.1,c.2.1.2.2.2.2.2.1,c.2.1.2.2.2.2.2.2.1,c.2.1.2.2.2.1,c.2.1.2.2.2.2.1,c.2.1.2.2.2.2.2.2.2.1,spOf c,Zx (c,s==5,g,(11,x3.2),[])),c.2.2.1,false,false,c.2.2.2.2.2))) Ln) Ln)
theorem ZHa (a:HL ZO):EV0 11 a=Zt0 a.1 a.2.1 a.2.2.1 a.2.2.2:=by kernel_rfl
def ZtW (c:TC) (s:Int) (g:List Int) (ln:QT1):RT (Option TC):=
 let x1:QT0:=(c,s==5,g,(0,0,0,0,0,0,0,0),[])
 let x2:=qAtC x1 0
 let x3:=Zc c.1 (qAt x1 0)
 let x4:= !x2||x3.1==15
 let x5:=x3.2
 let x6:=x5.2.1
 let x7:=x6==6
 let x8:QT0:=(c,s==5,g,(15,x5),[])
 let x9:=rDcr c.1 (bif x7 then qAt x8 1 else qReg x8 x6) c.2.1.2.2.2.2.2.2.2.1
 .br (Zd s) (Ls ((c.1,(rgx c.2.1 c.2.1.2.2.2.2.2.2.2.1 (u16.wrap ((spOf c)-2)) (Zw s)),c.2.2))) (.br (!x4||x2) (.br (x4) (.br (!x7||qAtC x8 1) (Ls ((c.1,rSet (rgx c.2.1 x9.2 (spOf c) (Zx x8)) x6 x9.1,c.2.2.1,false,false,c.2.2.2.2.2))) Ln) Ln) Ln)
theorem ZG6 (a:HL ZO):EV0 15 a=ZtW a.1 a.2.1 a.2.2.1 a.2.2.2:=by kernel_rfl
def ZtS (c:TC) (s:Int) (g:List Int) (ln:QT1):RT (Option TC):=
 let x1:QT0:=(c,s==5,g,(0,0,0,0,0,0,0,0),[])
 let x2:=qAtC x1 0
 let x3:=Zc c.1 (qAt x1 0)
 let x4:= !x2||x3.1==19
 let x5:=rDaa c.1 c.2.1.1 c.2.1.2.2.2.2.2.2.2.1
 .br (Zd s) (Ls ((c.1,(rgx c.2.1 c.2.1.2.2.2.2.2.2.2.1 (u16.wrap ((spOf c)-2)) (Zw s)),c.2.2))) (.br (!x4||x2) (.br (x4) (Ls ((c.1,(x5.1,c.2.1.2.1,c.2.1.2.2.1,c.2.1.2.2.2.1,c.2.1.2.2.2.2.1,c.2.1.2.2.2.2.2.1,c.2.1.2.2.2.2.2.2.1,x5.2,spOf c,Zx (c,s==5,g,(19,x3.2),[])),c.2.2.1,false,false,c.2.2.2.2.2))) Ln) Ln)
theorem ZG2 (a:HL ZO):EV0 19 a=ZtS a.1 a.2.1 a.2.2.1 a.2.2.2:=by kernel_rfl
def ZtO (c:TC) (s:Int) (g:List Int) (ln:QT1):RT (Option TC):=
 let x1:QT0:=(c,s==5,g,(0,0,0,0,0,0,0,0),[])
 let x2:=qAtC x1 0
 let x3:=Zc c.1 (qAt x1 0)
 let x4:= !x2||x3.1==23
 let x5:=x3.2
 let x6:=c.2.1.2.2.2.2.2.2.2.1.2.2.2
 let x7:=x6.2
 let x8:=x7.2
 let x9:=rRot x5.2.2.2.2.1 c.2.1.1 x8.2
 .br (Zd s) (Ls ((c.1,(rgx c.2.1 c.2.1.2.2.2.2.2.2.2.1 (u16.wrap ((spOf c)-2)) (Zw s)),c.2.2))) (.br (!x4||x2) (.br (x4) (Ls ((c.1,(x9.1,c.2.1.2.1,c.2.1.2.2.1,c.2.1.2.2.2.1,c.2.1.2.2.2.2.1,c.2.1.2.2.2.2.2.1,c.2.1.2.2.2.2.2.2.1,(c.2.1.2.2.2.2.2.2.2.1.1,c.2.1.2.2.2.2.2.2.2.1.2.1,c.2.1.2.2.2.2.2.2.2.1.2.2.1,x6.1,x7.1,x8.1,x9.2),spOf c,Zx (c,s==5,g,(23,x5),[])),c.2.2.1,false,false,c.2.2.2.2.2))) Ln) Ln)
theorem ZGY (a:HL ZO):EV0 23 a=ZtO a.1 a.2.1 a.2.2.1 a.2.2.2:=by kernel_rfl
def ZtK (c:TC) (s:Int) (g:List Int) (ln:QT1):RT (Option TC):=
 let x1:=u16.wrap ((spOf c)-2)
 let x2:QT0:=(c,s==5,g,(0,0,0,0,0,0,0,0),[])
 let x3:=qAtC x2 0
 let x4:=Zc c.1 (qAt x2 0)
 let x5:= !x3||x4.1==27
 .br (Zd s) (Ls ((c.1,(rgx c.2.1 c.2.1.2.2.2.2.2.2.2.1 x1 (Zw s)),c.2.2))) (.br (!x5||x3) (.br (x5) (Ls ((c.1,(rgx c.2.1 c.2.1.2.2.2.2.2.2.2.1 x1 (u16.wrap (i64.wrap (8*x4.2.2.2.2.2.2.2)))),c.2.2.1,false,false,c.2.2.2.2.2))) Ln) Ln)
theorem ZGU (a:HL ZO):EV0 27 a=ZtK a.1 a.2.1 a.2.2.1 a.2.2.2:=by kernel_rfl
def ZtG (c:TC) (s:Int) (g:List Int) (ln:QT1):RT (Option TC):=
 let x1:QT0:=(c,s==5,g,(0,0,0,0,0,0,0,0),[])
 let x2:=qAtC x1 0
 let x3:=Zc c.1 (qAt x1 0)
 let x4:= !x2||x3.1==31
 let x5:=x3.2
 let x6:=x5.2.2.2.1
 let x7:=x6==3
 let x8:QT0:=(c,s==5,g,(31,x5),[])
 let x9:=Zc4 x8 1
 let x10:= !x7||x9
 let x11:= !x10||(x7||x9)
 let x12:= !x11||x10
 let x13:= !x12||x11
 let x14:TR:=(rgx c.2.1 c.2.1.2.2.2.2.2.2.2.1 (spOf c) (Zx x8))
 let x15:=ZgG x8 1
 let x16:=ZmT c.1 x14 x15
 let x17:=ZX x14 x6 x15
 let x18:=x16.2
 let x19:=x17.2
 let x20:=x18.2
 let x21:=x19.2
 let x22:=x20.2
 let x23:=x21.2
 let x24:=x22.2
 let x25:=x23.2
 let x26:=x24.2
 let x27:=x25.2
 let x28:=x26.2
 let x29:=x27.2
 let x30:=x28.2
 let x31:=x30.1
 let x32:=x29.2
 let x33:=x32.1
 let x34:=x31.2
 let x35:=x33.2
 let x36:=x34.2
 let x37:=x35.2
 let x38:=x36.2
 let x39:=x37.2
 let x40:=x38.2
 let x41:=x39.2
 let x42:=x40.2
 let x43:=x41.2
 let x44:=x30.2
 let x45:=x32.2
 .br (Zd s) (Ls ((c.1,(rgx c.2.1 c.2.1.2.2.2.2.2.2.2.1 (u16.wrap ((spOf c)-2)) (Zw s)),c.2.2))) (.br (!x4||x2) (.br (x4) (.br (!x13||x12) (.br (x13) (Ls ((c.1,(bif x7 then x16.1 else x17.1,bif x7 then x18.1 else x19.1,bif x7 then x20.1 else x21.1,bif x7 then x22.1 else x23.1,bif x7 then x24.1 else x25.1,bif x7 then x26.1 else x27.1,bif x7 then x28.1 else x29.1,(bif x7 then x31.1 else x33.1,bif x7 then x34.1 else x35.1,bif x7 then x36.1 else x37.1,bif x7 then x38.1 else x39.1,bif x7 then x40.1 else x41.1,bif x7 then x42.1 else x43.1,bif x7 then x42.2 else x43.2),u16.wrap ((bif x7 then x44.1 else x45.1)+2),bif x7 then x44.2 else x45.2),c.2.2.1,false,false,c.2.2.2.2.2))) Ln) Ln) Ln) Ln)
theorem ZGQ (a:HL ZO):EV0 31 a=ZtG a.1 a.2.1 a.2.2.1 a.2.2.2:=by kernel_rfl
def ZtC (c:TC) (s:Int) (g:List Int) (ln:QT1):RT (Option TC):=
 let x1:QT0:=(c,s==5,g,(0,0,0,0,0,0,0,0),[])
 let x2:=qAtC x1 0
 let x3:=Zc c.1 (qAt x1 0)
 let x4:= !x2||x3.1==35
 .br (Zd s) (Ls ((c.1,(rgx c.2.1 c.2.1.2.2.2.2.2.2.2.1 (u16.wrap ((spOf c)-2)) (Zw s)),c.2.2))) (.br (!x4||x2) (.br (x4) (Ls ((c.1,(rgx c.2.1 c.2.1.2.2.2.2.2.2.2.1 (spOf c) (Zx (c,s==5,g,(35,x3.2),[]))),true,true,false,c.2.2.2.2.2))) Ln) Ln)
theorem ZGM (a:HL ZO):EV0 35 a=ZtC a.1 a.2.1 a.2.2.1 a.2.2.2:=by kernel_rfl
def Zty (c:TC) (s:Int) (g:List Int) (ln:QT1):RT (Option TC):=
 let x1:QT0:=(c,s==5,g,(0,0,0,0,0,0,0,0),[])
 let x2:=qAtC x1 0
 let x3:=Zc c.1 (qAt x1 0)
 let x4:= !x2||x3.1==39
 let x5:=rSim (c.1,(rgx c.2.1 c.2.1.2.2.2.2.2.2.2.1 (spOf c) (Zx (c,s==5,g,(39,x3.2),[]))),c.2.2.1,39==35,39==37,c.2.2.2.2.2) c.2.1.1
 let x6:=x5.2
 let x7:=x6.2
 .br (Zd s) (Ls ((c.1,(rgx c.2.1 c.2.1.2.2.2.2.2.2.2.1 (u16.wrap ((spOf c)-2)) (Zw s)),c.2.2))) (.br (!x4||x2) (.br (x4) (Ls ((x5.1,x6.1,x7.1,false,false,x7.2.2.2))) Ln) Ln)
theorem ZGI (a:HL ZO):EV0 39 a=Zty a.1 a.2.1 a.2.2.1 a.2.2.2:=by kernel_rfl
def Ztu (c:TC) (s:Int) (g:List Int) (ln:QT1):RT (Option TC):=
 let x1:QT0:=(c,s==5,g,(0,0,0,0,0,0,0,0),[])
 let x2:=qAtC x1 0
 let x3:=Zc c.1 (qAt x1 0)
 let x4:= !x2||x3.1==43
 let x5:QT0:=(c,s==5,g,(43,x3.2),[])
 .br (Zd s) (Ls ((c.1,(rgx c.2.1 c.2.1.2.2.2.2.2.2.2.1 (u16.wrap ((spOf c)-2)) (Zw s)),c.2.2))) (.br (!x4||x2) (.br (x4) (.br (qAtC x5 1) (Ls ((c.1,ZX (rgx c.2.1 c.2.1.2.2.2.2.2.2.2.1 (spOf c) (Zx x5)) 1 (u16.wrap (Zek x5 2+u16.wrap (qAt x5 1))),c.2.2.1,false,false,c.2.2.2.2.2))) Ln) Ln) Ln)
theorem ZGE (a:HL ZO):EV0 43 a=Ztu a.1 a.2.1 a.2.2.1 a.2.2.2:=by kernel_rfl
def Ztq (c:TC) (s:Int) (g:List Int) (ln:QT1):RT (Option TC):=
 let x1:QT0:=(c,s==5,g,(0,0,0,0,0,0,0,0),[])
 let x2:=qAtC x1 0
 let x3:=Zc c.1 (qAt x1 0)
 let x4:= !x2||x3.1==47
 let x5:QT0:=(c,s==5,g,(47,x3.2),[])
 .br (Zd s) (Ls ((c.1,(rgx c.2.1 c.2.1.2.2.2.2.2.2.2.1 (u16.wrap ((spOf c)-2)) (Zw s)),c.2.2))) (.br (!x4||x2) (.br (x4) (.br (Zc4 x5 1) (Ls ((c.1,ZX (rgx c.2.1 c.2.1.2.2.2.2.2.2.2.1 (spOf c) (Zx x5)) 2 (ZgG x5 1),c.2.2.1,false,false,c.2.2.2.2.2))) Ln) Ln) Ln)
theorem ZGA (a:HL ZO):EV0 47 a=Ztq a.1 a.2.1 a.2.2.1 a.2.2.2:=by kernel_rfl
