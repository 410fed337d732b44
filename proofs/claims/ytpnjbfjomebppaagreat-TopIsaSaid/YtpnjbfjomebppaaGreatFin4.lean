import Derived.Test.YtpnjbfjomebppaaGreatFin0
open Go.IntKind (u8 u16 i64)
set_option linter.unusedSimpArgs false
open Go Go.S3 Go.Proofs
set_option linter.unusedVariables false
set_option maxRecDepth 100000
namespace Go.Proofs.YtpnjbfjomebppaaGreat
noncomputable section
def ZCb (c:TC) (s:Int) (g:List Int) (ln:QT1):RT (Option TC):=
 let x1:QT0:=(c,s==5,g,(0,0,0,0,0,0,0,0),[])
 let x2:=qAtC x1 0
 let x3:=Zc c.1 (qAt x1 0)
 let x4:= !x2||x3.1==4
 let x5:=x3.2
 let x6:QT0:=(c,s==5,g,(4,x5),[])
 .br (Ze s) (Ls ((c.1,(rgx c.2.1 c.2.1.2.2.2.2.2.2.2.1 (u16.wrap ((spOf c)-2)) (Zy s)),c.2.2))) (.br (!x4||x2) (.br (x4) (.br (Zc8 x6 1) (Ls ((c.1,Z4 (rgx c.2.1 c.2.1.2.2.2.2.2.2.2.1 (spOf c) (Zz x6)) x5.2.2.2.1 (ZgN x6 1),c.2.2.1,false,false,c.2.2.2.2.2))) Ln) Ln) Ln)
theorem ZNG (a:HL ZS):EV0 4 a=ZCb a.1 a.2.1 a.2.2.1 a.2.2.2:=by kernel_rfl
def ZB7 (c:TC) (s:Int) (g:List Int) (ln:QT1):RT (Option TC):=
 let x1:QT0:=(c,s==5,g,(0,0,0,0,0,0,0,0),[])
 let x2:=qAtC x1 0
 let x3:=Zc c.1 (qAt x1 0)
 let x4:= !x2||x3.1==8
 .br (Ze s) (Ls ((c.1,(rgx c.2.1 c.2.1.2.2.2.2.2.2.2.1 (u16.wrap ((spOf c)-2)) (Zy s)),c.2.2))) (.br (!x4||x2) (.br (x4) (Ls ((c.1,(rgx c.2.1 c.2.1.2.2.2.2.2.2.2.1 (spOf c) (Zz (c,s==5,g,(8,x3.2),[]))),c.2.2.1,false,false,c.2.2.2.2.2))) Ln) Ln)
theorem ZNC (a:HL ZS):EV0 8 a=ZB7 a.1 a.2.1 a.2.2.1 a.2.2.2:=by kernel_rfl
def ZuG (c:TC) (s:Int) (g:List Int) (ln:QT1):RT (Option TC):=
 let x1:QT0:=(c,s==5,g,(0,0,0,0,0,0,0,0),[])
 let x2:=qAtC x1 0
 let x3:=Zc c.1 (qAt x1 0)
 let x4:= !x2||x3.1==12
 let x5:=x3.2
 let x6:QT0:=(c,s==5,g,(12,x5),[])
 let x7:=rDo c.1 x5.2.2.2.2.1 c.2.1.1 (Zi9 x6) c.2.1.2.2.2.2.2.2.2.1
 .br (Ze s) (Ls ((c.1,(rgx c.2.1 c.2.1.2.2.2.2.2.2.2.1 (u16.wrap ((spOf c)-2)) (Zy s)),c.2.2))) (.br (!x4||x2) (.br (x4) (.br (ZgM x6) (Ls ((c.1,(x7.1,c.2.1.2.1,c.2.1.2.2.1,c.2.1.2.2.2.1,c.2.1.2.2.2.2.1,c.2.1.2.2.2.2.2.1,c.2.1.2.2.2.2.2.2.1,x7.2,spOf c,Zz x6),c.2.2.1,false,false,c.2.2.2.2.2))) Ln) Ln) Ln)
theorem ZIl (a:HL ZS):EV0 12 a=ZuG a.1 a.2.1 a.2.2.1 a.2.2.2:=by kernel_rfl
def ZuC (c:TC) (s:Int) (g:List Int) (ln:QT1):RT (Option TC):=
 let x1:QT0:=(c,s==5,g,(0,0,0,0,0,0,0,0),[])
 let x2:=qAtC x1 0
 let x3:=Zc c.1 (qAt x1 0)
 let x4:= !x2||x3.1==16
 let x5:=x3.2
 let x6:QT0:=(c,s==5,g,(16,x5),[])
 let x7:=x5.2.2.2.1
 let x8:=rInx c.1 (Zen x6 x7) c.2.1.2.2.2.2.2.2.2.1
 .br (Ze s) (Ls ((c.1,(rgx c.2.1 c.2.1.2.2.2.2.2.2.2.1 (u16.wrap ((spOf c)-2)) (Zy s)),c.2.2))) (.br (!x4||x2) (.br (x4) (Ls ((c.1,Z4 (rgx c.2.1 x8.2 (spOf c) (Zz x6)) x7 x8.1,c.2.2.1,false,false,c.2.2.2.2.2))) Ln) Ln)
theorem ZIh (a:HL ZS):EV0 16 a=ZuC a.1 a.2.1 a.2.2.1 a.2.2.2:=by kernel_rfl
def Zuy (c:TC) (s:Int) (g:List Int) (ln:QT1):RT (Option TC):=
 let x1:QT0:=(c,s==5,g,(0,0,0,0,0,0,0,0),[])
 let x2:=qAtC x1 0
 let x3:=Zc c.1 (qAt x1 0)
 let x4:= !x2||x3.1==20
 .br (Ze s) (Ls ((c.1,(rgx c.2.1 c.2.1.2.2.2.2.2.2.2.1 (u16.wrap ((spOf c)-2)) (Zy s)),c.2.2))) (.br (!x4||x2) (.br (x4) (Ls ((c.1,(notI u8 c.2.1.1,c.2.1.2.1,c.2.1.2.2.1,c.2.1.2.2.2.1,c.2.1.2.2.2.2.1,c.2.1.2.2.2.2.2.1,c.2.1.2.2.2.2.2.2.1,c.2.1.2.2.2.2.2.2.2.1,spOf c,Zz (c,s==5,g,(20,x3.2),[])),c.2.2.1,false,false,c.2.2.2.2.2))) Ln) Ln)
theorem ZId (a:HL ZS):EV0 20 a=Zuy a.1 a.2.1 a.2.2.1 a.2.2.2:=by kernel_rfl
def Zuu (c:TC) (s:Int) (g:List Int) (ln:QT1):RT (Option TC):=
 let x1:QT0:=(c,s==5,g,(0,0,0,0,0,0,0,0),[])
 let x2:=qAtC x1 0
 let x3:=Zc c.1 (qAt x1 0)
 let x4:= !x2||x3.1==24
 let x5:QT0:=(c,s==5,g,(24,x3.2),[])
 let x6:=ZhZ x5
 .br (Ze s) (Ls ((c.1,(rgx c.2.1 c.2.1.2.2.2.2.2.2.2.1 (u16.wrap ((spOf c)-2)) (Zy s)),c.2.2))) (.br (!x4||x2) (.br (x4) (.br (!x6||Zc8 x5 1) (Ls ((c.1,(rgx c.2.1 c.2.1.2.2.2.2.2.2.2.1 (spOf c) (bif x6 then ZgN x5 1 else Zz x5)),c.2.2.1,false,false,c.2.2.2.2.2))) Ln) Ln) Ln)
theorem ZH9 (a:HL ZS):EV0 24 a=Zuu a.1 a.2.1 a.2.2.1 a.2.2.2:=by kernel_rfl
def Zuq (c:TC) (s:Int) (g:List Int) (ln:QT1):RT (Option TC):=
 let x1:QT0:=(c,s==5,g,(0,0,0,0,0,0,0,0),[])
 let x2:=qAtC x1 0
 let x3:=Zc c.1 (qAt x1 0)
 let x4:= !x2||x3.1==28
 .br (Ze s) (Ls ((c.1,(rgx c.2.1 c.2.1.2.2.2.2.2.2.2.1 (u16.wrap ((spOf c)-2)) (Zy s)),c.2.2))) (.br (!x4||x2) (.br (x4) (Ls ((c.1,(rgx c.2.1 c.2.1.2.2.2.2.2.2.2.1 (spOf c) (Zen (c,s==5,g,(28,x3.2),[]) 2)),c.2.2.1,false,false,c.2.2.2.2.2))) Ln) Ln)
theorem ZH5 (a:HL ZS):EV0 28 a=Zuq a.1 a.2.1 a.2.2.1 a.2.2.2:=by kernel_rfl
def Zum (c:TC) (s:Int) (g:List Int) (ln:QT1):RT (Option TC):=
 let x1:QT0:=(c,s==5,g,(0,0,0,0,0,0,0,0),[])
 let x2:=qAtC x1 0
 let x3:=Zc c.1 (qAt x1 0)
 let x4:= !x2||x3.1==32
 let x5:QT0:=(c,s==5,g,(32,x3.2),[])
 .br (Ze s) (Ls ((c.1,(rgx c.2.1 c.2.1.2.2.2.2.2.2.2.1 (u16.wrap ((spOf c)-2)) (Zy s)),c.2.2))) (.br (!x4||x2) (.br (x4) (.br (Zc8 x5 1) (Ls ((c.1,Z4 (rgx c.2.1 c.2.1.2.2.2.2.2.2.2.1 (spOf c) (Zz x5)) 2 (ZgN x5 1),c.2.2.1,false,false,c.2.2.2.2.2))) Ln) Ln) Ln)
theorem ZH1 (a:HL ZS):EV0 32 a=Zum a.1 a.2.1 a.2.2.1 a.2.2.2:=by kernel_rfl
def Zui (c:TC) (s:Int) (g:List Int) (ln:QT1):RT (Option TC):=
 let x1:QT0:=(c,s==5,g,(0,0,0,0,0,0,0,0),[])
 let x2:=qAtC x1 0
 let x3:=Zc c.1 (qAt x1 0)
 let x4:= !x2||x3.1==36
 .br (Ze s) (Ls ((c.1,(rgx c.2.1 c.2.1.2.2.2.2.2.2.2.1 (u16.wrap ((spOf c)-2)) (Zy s)),c.2.2))) (.br (!x4||x2) (.br (x4) (Ls ((c.1,(rgx c.2.1 c.2.1.2.2.2.2.2.2.2.1 (spOf c) (Zz (c,s==5,g,(36,x3.2),[]))),false,false,false,c.2.2.2.2.2))) Ln) Ln)
theorem ZHX (a:HL ZS):EV0 36 a=Zui a.1 a.2.1 a.2.2.1 a.2.2.2:=by kernel_rfl
def Zue (c:TC) (s:Int) (g:List Int) (ln:QT1):RT (Option TC):=
 let x1:QT0:=(c,s==5,g,(0,0,0,0,0,0,0,0),[])
 let x2:=qAtC x1 0
 let x3:=Zc c.1 (qAt x1 0)
 let x4:= !x2||x3.1==40
 let x5:QT0:=(c,s==5,g,(40,x3.2),[])
 let x6:=ZLz (Zen x5 2) (Zen x5 0)
 .br (Ze s) (Ls ((c.1,(rgx c.2.1 c.2.1.2.2.2.2.2.2.2.1 (u16.wrap ((spOf c)-2)) (Zy s)),c.2.2))) (.br (!x4||x2) (.br (x4) (Ls ((c.1,Z4 (rgx c.2.1 x6.2 (spOf c) (Zz x5)) 2 x6.1,c.2.2.1,false,false,c.2.2.2.2.2))) Ln) Ln)
theorem ZHT (a:HL ZS):EV0 40 a=Zue a.1 a.2.1 a.2.2.1 a.2.2.2:=by kernel_rfl
def Zua (c:TC) (s:Int) (g:List Int) (ln:QT1):RT (Option TC):=
 let x1:QT0:=(c,s==5,g,(0,0,0,0,0,0,0,0),[])
 let x2:=qAtC x1 0
 let x3:=Zc c.1 (qAt x1 0)
 let x4:= !x2||x3.1==44
 let x5:QT0:=(c,s==5,g,(44,x3.2),[])
 .br (Ze s) (Ls ((c.1,(rgx c.2.1 c.2.1.2.2.2.2.2.2.2.1 (u16.wrap ((spOf c)-2)) (Zy s)),c.2.2))) (.br (!x4||x2) (.br (x4) (.br (qAtC x5 1) (Ls ((c.1,Z4 (rgx c.2.1 c.2.1.2.2.2.2.2.2.2.1 (spOf c) (Zz x5)) 1 (u16.wrap ((spOf c)+u16.wrap (qAt x5 1))),c.2.2.1,false,false,c.2.2.2.2.2))) Ln) Ln) Ln)
theorem ZHP (a:HL ZS):EV0 44 a=Zua a.1 a.2.1 a.2.2.1 a.2.2.2:=by kernel_rfl
