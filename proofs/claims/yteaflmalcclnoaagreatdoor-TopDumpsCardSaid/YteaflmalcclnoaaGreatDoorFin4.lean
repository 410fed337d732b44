import Derived.Test.YteaflmalcclnoaaGreatDoorFin0
open Go.IntKind (u8 u16 i64 wrap)
set_option linter.unusedSimpArgs false
open Go Go.S3 Go.Proofs
set_option linter.unusedVariables false
set_option maxRecDepth 100000
namespace Go.Proofs.YteaflmalcclnoaaGreatDoor
noncomputable section
def ZAV (c:TC) (s:Int) (g:List Int) (ln:QT1):RT (Option TC):=
 let x1:QT0:=(c,s==5,g,(0,0,0,0,0,0,0,0),[])
 let x2:=qAtC x1 0
 let x3:=Zc c.1 (qAt x1 0)
 let x4:= !x2||x3.1==4
 let x5:=x3.2
 let x6:QT0:=(c,s==5,g,(4,x5),[])
 .br (Zd s) (Ls ((c.1,(rgx c.2.1 c.2.1.2.2.2.2.2.2.2.1 (u16.wrap ((spOf c)-2)) (Zw s)),c.2.2))) (.br (!x4||x2) (.br (x4) (.br (Zc4 x6 1) (Ls ((c.1,ZX (rgx c.2.1 c.2.1.2.2.2.2.2.2.2.1 (spOf c) (Zx x6)) x5.2.2.2.1 (ZgG x6 1),c.2.2.1,false,false,c.2.2.2.2.2))) Ln) Ln) Ln)
theorem ZMg (a:HL ZO):EV0 4 a=ZAV a.1 a.2.1 a.2.2.1 a.2.2.2:=by kernel_rfl
def ZAR (c:TC) (s:Int) (g:List Int) (ln:QT1):RT (Option TC):=
 let x1:QT0:=(c,s==5,g,(0,0,0,0,0,0,0,0),[])
 let x2:=qAtC x1 0
 let x3:=Zc c.1 (qAt x1 0)
 let x4:= !x2||x3.1==8
 .br (Zd s) (Ls ((c.1,(rgx c.2.1 c.2.1.2.2.2.2.2.2.2.1 (u16.wrap ((spOf c)-2)) (Zw s)),c.2.2))) (.br (!x4||x2) (.br (x4) (Ls ((c.1,(rgx c.2.1 c.2.1.2.2.2.2.2.2.2.1 (spOf c) (Zx (c,s==5,g,(8,x3.2),[]))),c.2.2.1,false,false,c.2.2.2.2.2))) Ln) Ln)
theorem ZMc (a:HL ZO):EV0 8 a=ZAR a.1 a.2.1 a.2.2.1 a.2.2.2:=by kernel_rfl
def ZtZ (c:TC) (s:Int) (g:List Int) (ln:QT1):RT (Option TC):=
 let x1:QT0:=(c,s==5,g,(0,0,0,0,0,0,0,0),[])
 let x2:=qAtC x1 0
 let x3:=Zc c.1 (qAt x1 0)
 let x4:= !x2||x3.1==12
 let x5:=x3.2
 let x6:QT0:=(c,s==5,g,(12,x5),[])
 let x7:=rDo c.1 x5.2.2.2.2.1 c.2.1.1 (ZiV x6) c.2.1.2.2.2.2.2.2.2.1
 .br (Zd s) (Ls ((c.1,(rgx c.2.1 c.2.1.2.2.2.2.2.2.2.1 (u16.wrap ((spOf c)-2)) (Zw s)),c.2.2))) (.br (!x4||x2) (.br (x4) (.br (ZgF x6) (Ls ((c.1,(x7.1,c.2.1.2.1,c.2.1.2.2.1,c.2.1.2.2.2.1,c.2.1.2.2.2.2.1,c.2.1.2.2.2.2.2.1,c.2.1.2.2.2.2.2.2.1,x7.2,spOf c,Zx x6),c.2.2.1,false,false,c.2.2.2.2.2))) Ln) Ln) Ln)
theorem ZG9 (a:HL ZO):EV0 12 a=ZtZ a.1 a.2.1 a.2.2.1 a.2.2.2:=by kernel_rfl
def ZtV (c:TC) (s:Int) (g:List Int) (ln:QT1):RT (Option TC):=
 let x1:QT0:=(c,s==5,g,(0,0,0,0,0,0,0,0),[])
 let x2:=qAtC x1 0
 let x3:=Zc c.1 (qAt x1 0)
 let x4:= !x2||x3.1==16
 let x5:=x3.2
 let x6:QT0:=(c,s==5,g,(16,x5),[])
 let x7:=x5.2.2.2.1
 let x8:=rInx c.1 (Zek x6 x7) c.2.1.2.2.2.2.2.2.2.1
 .br (Zd s) (Ls ((c.1,(rgx c.2.1 c.2.1.2.2.2.2.2.2.2.1 (u16.wrap ((spOf c)-2)) (Zw s)),c.2.2))) (.br (!x4||x2) (.br (x4) (Ls ((c.1,ZX (rgx c.2.1 x8.2 (spOf c) (Zx x6)) x7 x8.1,c.2.2.1,false,false,c.2.2.2.2.2))) Ln) Ln)
theorem ZG5 (a:HL ZO):EV0 16 a=ZtV a.1 a.2.1 a.2.2.1 a.2.2.2:=by kernel_rfl
def ZtR (c:TC) (s:Int) (g:List Int) (ln:QT1):RT (Option TC):=
 let x1:QT0:=(c,s==5,g,(0,0,0,0,0,0,0,0),[])
 let x2:=qAtC x1 0
 let x3:=Zc c.1 (qAt x1 0)
 let x4:= !x2||x3.1==20
 .br (Zd s) (Ls ((c.1,(rgx c.2.1 c.2.1.2.2.2.2.2.2.2.1 (u16.wrap ((spOf c)-2)) (Zw s)),c.2.2))) (.br (!x4||x2) (.br (x4) (Ls ((c.1,(notI u8 c.2.1.1,c.2.1.2.1,c.2.1.2.2.1,c.2.1.2.2.2.1,c.2.1.2.2.2.2.1,c.2.1.2.2.2.2.2.1,c.2.1.2.2.2.2.2.2.1,c.2.1.2.2.2.2.2.2.2.1,spOf c,Zx (c,s==5,g,(20,x3.2),[])),c.2.2.1,false,false,c.2.2.2.2.2))) Ln) Ln)
theorem ZG1 (a:HL ZO):EV0 20 a=ZtR a.1 a.2.1 a.2.2.1 a.2.2.2:=by kernel_rfl
def ZtN (c:TC) (s:Int) (g:List Int) (ln:QT1):RT (Option TC):=
 let x1:QT0:=(c,s==5,g,(0,0,0,0,0,0,0,0),[])
 let x2:=qAtC x1 0
 let x3:=Zc c.1 (qAt x1 0)
 let x4:= !x2||x3.1==24
 let x5:QT0:=(c,s==5,g,(24,x3.2),[])
 let x6:=ZhT x5
 .br (Zd s) (Ls ((c.1,(rgx c.2.1 c.2.1.2.2.2.2.2.2.2.1 (u16.wrap ((spOf c)-2)) (Zw s)),c.2.2))) (.br (!x4||x2) (.br (x4) (.br (!x6||Zc4 x5 1) (Ls ((c.1,(rgx c.2.1 c.2.1.2.2.2.2.2.2.2.1 (spOf c) (bif x6 then ZgG x5 1 else Zx x5)),c.2.2.1,false,false,c.2.2.2.2.2))) Ln) Ln) Ln)
theorem ZGX (a:HL ZO):EV0 24 a=ZtN a.1 a.2.1 a.2.2.1 a.2.2.2:=by kernel_rfl
def ZtJ (c:TC) (s:Int) (g:List Int) (ln:QT1):RT (Option TC):=
 let x1:QT0:=(c,s==5,g,(0,0,0,0,0,0,0,0),[])
 let x2:=qAtC x1 0
 let x3:=Zc c.1 (qAt x1 0)
 let x4:= !x2||x3.1==28
 .br (Zd s) (Ls ((c.1,(rgx c.2.1 c.2.1.2.2.2.2.2.2.2.1 (u16.wrap ((spOf c)-2)) (Zw s)),c.2.2))) (.br (!x4||x2) (.br (x4) (Ls ((c.1,(rgx c.2.1 c.2.1.2.2.2.2.2.2.2.1 (spOf c) (Zek (c,s==5,g,(28,x3.2),[]) 2)),c.2.2.1,false,false,c.2.2.2.2.2))) Ln) Ln)
theorem ZGT (a:HL ZO):EV0 28 a=ZtJ a.1 a.2.1 a.2.2.1 a.2.2.2:=by kernel_rfl
def ZtF (c:TC) (s:Int) (g:List Int) (ln:QT1):RT (Option TC):=
 let x1:QT0:=(c,s==5,g,(0,0,0,0,0,0,0,0),[])
 let x2:=qAtC x1 0
 let x3:=Zc c.1 (qAt x1 0)
 let x4:= !x2||x3.1==32
 let x5:QT0:=(c,s==5,g,(32,x3.2),[])
 .br (Zd s) (Ls ((c.1,(rgx c.2.1 c.2.1.2.2.2.2.2.2.2.1 (u16.wrap ((spOf c)-2)) (Zw s)),c.2.2))) (.br (!x4||x2) (.br (x4) (.br (Zc4 x5 1) (Ls ((c.1,ZX (rgx c.2.1 c.2.1.2.2.2.2.2.2.2.1 (spOf c) (Zx x5)) 2 (ZgG x5 1),c.2.2.1,false,false,c.2.2.2.2.2))) Ln) Ln) Ln)
theorem ZGP (a:HL ZO):EV0 32 a=ZtF a.1 a.2.1 a.2.2.1 a.2.2.2:=by kernel_rfl
def ZtB (c:TC) (s:Int) (g:List Int) (ln:QT1):RT (Option TC):=
 let x1:QT0:=(c,s==5,g,(0,0,0,0,0,0,0,0),[])
 let x2:=qAtC x1 0
 let x3:=Zc c.1 (qAt x1 0)
 let x4:= !x2||x3.1==36
 .br (Zd s) (Ls ((c.1,(rgx c.2.1 c.2.1.2.2.2.2.2.2.2.1 (u16.wrap ((spOf c)-2)) (Zw s)),c.2.2))) (.br (!x4||x2) (.br (x4) (Ls ((c.1,(rgx c.2.1 c.2.1.2.2.2.2.2.2.2.1 (spOf c) (Zx (c,s==5,g,(36,x3.2),[]))),false,false,false,c.2.2.2.2.2))) Ln) Ln)
theorem ZGL (a:HL ZO):EV0 36 a=ZtB a.1 a.2.1 a.2.2.1 a.2.2.2:=by kernel_rfl
def Ztx (c:TC) (s:Int) (g:List Int) (ln:QT1):RT (Option TC):=
 let x1:QT0:=(c,s==5,g,(0,0,0,0,0,0,0,0),[])
 let x2:=qAtC x1 0
 let x3:=Zc c.1 (qAt x1 0)
 let x4:= !x2||x3.1==40
 let x5:QT0:=(c,s==5,g,(40,x3.2),[])
 let x6:=ZKe (Zek x5 2) (Zek x5 0)
 .br (Zd s) (Ls ((c.1,(rgx c.2.1 c.2.1.2.2.2.2.2.2.2.1 (u16.wrap ((spOf c)-2)) (Zw s)),c.2.2))) (.br (!x4||x2) (.br (x4) (Ls ((c.1,ZX (rgx c.2.1 x6.2 (spOf c) (Zx x5)) 2 x6.1,c.2.2.1,false,false,c.2.2.2.2.2))) Ln) Ln)
theorem ZGH (a:HL ZO):EV0 40 a=Ztx a.1 a.2.1 a.2.2.1 a.2.2.2:=by kernel_rfl
def Ztt (c:TC) (s:Int) (g:List Int) (ln:QT1):RT (Option TC):=
 let x1:QT0:=(c,s==5,g,(0,0,0,0,0,0,0,0),[])
 let x2:=qAtC x1 0
 let x3:=Zc c.1 (qAt x1 0)
 let x4:= !x2||x3.1==44
 let x5:QT0:=(c,s==5,g,(44,x3.2),[])
 .br (Zd s) (Ls ((c.1,(rgx c.2.1 c.2.1.2.2.2.2.2.2.2.1 (u16.wrap ((spOf c)-2)) (Zw s)),c.2.2))) (.br (!x4||x2) (.br (x4) (.br (qAtC x5 1) (Ls ((c.1,ZX (rgx c.2.1 c.2.1.2.2.2.2.2.2.2.1 (spOf c) (Zx x5)) 1 (u16.wrap ((spOf c)+u16.wrap (qAt x5 1))),c.2.2.1,false,false,c.2.2.2.2.2))) Ln) Ln) Ln)
theorem ZGD (a:HL ZO):EV0 44 a=Ztt a.1 a.2.1 a.2.2.1 a.2.2.2:=by kernel_rfl
