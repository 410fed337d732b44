import Derived.Test.YtpnjbfjomebppaaGreatFin0
open Go.IntKind (u8 u16 i64)
set_option linter.unusedSimpArgs false
open Go Go.S3 Go.Proofs
set_option linter.unusedVariables false
set_option maxRecDepth 100000
namespace Go.Proofs.YtpnjbfjomebppaaGreat
noncomputable section
def ZCd (c:TC) (s:Int) (g:List Int) (ln:QT1):RT (Option TC):=
 let x1:QT0:=(c,s==5,g,(0,0,0,0,0,0,0,0),[])
 let x2:=qAtC x1 0
 let x3:=Zc c.1 (qAt x1 0)
 let x4:= !x2||x3.1==2
 let x5:=x3.2
 let x6:=x5.2
 let x7:=x6.2.1
 let x8:=x7==6
 let x9:QT0:=(c,s==5,g,(2,x5),[])
 .br (Ze s) (Ls ((c.1,(rgx c.2.1 c.2.1.2.2.2.2.2.2.2.1 (u16.wrap ((spOf c)-2)) (Zy s)),c.2.2))) (.br (!x4||x2) (.br (x4) (.br (!x8||qAtC x9 1) (Ls ((c.1,rSet (rgx c.2.1 c.2.1.2.2.2.2.2.2.2.1 (spOf c) (Zz x9)) x6.1 (bif x8 then qAt x9 1 else qReg x9 x7),c.2.2.1,false,false,c.2.2.2.2.2))) Ln) Ln) Ln)
theorem ZNI (a:HL ZS):EV0 2 a=ZCd a.1 a.2.1 a.2.2.1 a.2.2.2:=by kernel_rfl
def ZB9 (c:TC) (s:Int) (g:List Int) (ln:QT1):RT (Option TC):=
 let x1:QT0:=(c,s==5,g,(0,0,0,0,0,0,0,0),[])
 let x2:=qAtC x1 0
 let x3:=Zc c.1 (qAt x1 0)
 let x4:= !x2||x3.1==6
 .br (Ze s) (Ls ((c.1,(rgx c.2.1 c.2.1.2.2.2.2.2.2.2.1 (u16.wrap ((spOf c)-2)) (Zy s)),c.2.2))) (.br (!x4||x2) (.br (x4) (Ls ((c.1,(rgx c.2.1 c.2.1.2.2.2.2.2.2.2.1 (spOf c) (Zz (c,s==5,g,(6,x3.2),[]))),c.2.2.1,false,false,c.2.2.2.2.2))) Ln) Ln)
theorem ZNE (a:HL ZS):EV0 6 a=ZB9 a.1 a.2.1 a.2.2.1 a.2.2.2:=by kernel_rfl
def ZuI (c:TC) (s:Int) (g:List Int) (ln:QT1):RT (Option TC):=
 let x1:QT0:=(c,s==5,g,(0,0,0,0,0,0,0,0),[])
 let x2:=qAtC x1 0
 let x3:=Zc c.1 (qAt x1 0)
 let x4:= !x2||x3.1==10
 .br (Ze s) (Ls ((c.1,(rgx c.2.1 c.2.1.2.2.2.2.2.2.2.1 (u16.wrap ((spOf c)-2)) (Zy s)),c.2.2))) (.br (!x4||x2) (.br (x4) (Ls ((c.1,(rgx c.2.1 c.2.1.2.2.2.2.2.2.2.1 (spOf c) (Zz (c,s==5,g,(10,x3.2),[]))),c.2.2.1,false,false,c.2.2.2.2.2))) Ln) Ln)
theorem ZIn (a:HL ZS):EV0 10 a=ZuI a.1 a.2.1 a.2.2.1 a.2.2.2:=by kernel_rfl
def ZuE (c:TC) (s:Int) (g:List Int) (ln:QT1):RT (Option TC):=
 let x1:QT0:=(c,s==5,g,(0,0,0,0,0,0,0,0),[])
 let x2:=qAtC x1 0
 let x3:=Zc c.1 (qAt x1 0)
 let x4:= !x2||x3.1==14
 let x5:=x3.2
 let x6:=x5.2.1
 let x7:=x6==6
 let x8:QT0:=(c,s==5,g,(14,x5),[])
 let x9:=rInr c.1 (bif x7 then qAt x8 1 else qReg x8 x6) c.2.1.2.2.2.2.2.2.2.1
 .br (Ze s) (Ls ((c.1,(rgx c.2.1 c.2.1.2.2.2.2.2.2.2.1 (u16.wrap ((spOf c)-2)) (Zy s)),c.2.2))) (.br (!x4||x2) (.br (x4) (.br (!x7||qAtC x8 1) (Ls ((c.1,rSet (rgx c.2.1 x9.2 (spOf c) (Zz x8)) x6 x9.1,c.2.2.1,false,false,c.2.2.2.2.2))) Ln) Ln) Ln)
theorem ZIj (a:HL ZS):EV0 14 a=ZuE a.1 a.2.1 a.2.2.1 a.2.2.2:=by kernel_rfl
def ZuA (c:TC) (s:Int) (g:List Int) (ln:QT1):RT (Option TC):=
 let x1:QT0:=(c,s==5,g,(0,0,0,0,0,0,0,0),[])
 let x2:=qAtC x1 0
 let x3:=Zc c.1 (qAt x1 0)
 let x4:= !x2||x3.1==18
 let x5:=x3.2
 let x6:QT0:=(c,s==5,g,(18,x5),[])
 let x7:=rDad c.1 (Zen x6 2) (Zen x6 x5.2.2.2.1) c.2.1.2.2.2.2.2.2.2.1
 .br (Ze s) (Ls ((c.1,(rgx c.2.1 c.2.1.2.2.2.2.2.2.2.1 (u16.wrap ((spOf c)-2)) (Zy s)),c.2.2))) (.br (!x4||x2) (.br (x4) (Ls ((c.1,Z4 (rgx c.2.1 x7.2 (spOf c) (Zz x6)) 2 x7.1,c.2.2.1,false,false,c.2.2.2.2.2))) Ln) Ln)
theorem ZIf (a:HL ZS):EV0 18 a=ZuA a.1 a.2.1 a.2.2.1 a.2.2.2:=by kernel_rfl
def Zuw (c:TC) (s:Int) (g:List Int) (ln:QT1):RT (Option TC):=
 let x1:QT0:=(c,s==5,g,(0,0,0,0,0,0,0,0),[])
 let x2:=qAtC x1 0
 let x3:=Zc c.1 (qAt x1 0)
 let x4:= !x2||x3.1==22
 let x5:=c.2.1.2.2.2.2.2.2.2.1.2.2.2
 let x6:=x5.2
 let x7:=x6.2
 .br (Ze s) (Ls ((c.1,(rgx c.2.1 c.2.1.2.2.2.2.2.2.2.1 (u16.wrap ((spOf c)-2)) (Zy s)),c.2.2))) (.br (!x4||x2) (.br (x4) (Ls ((c.1,(rgx c.2.1 ((c.2.1.2.2.2.2.2.2.2.1.1,c.2.1.2.2.2.2.2.2.2.1.2.1,c.2.1.2.2.2.2.2.2.2.1.2.2.1,x5.1,x6.1,x7.1,!x7.2)) (spOf c) (Zz (c,s==5,g,(22,x3.2),[]))),c.2.2.1,false,false,c.2.2.2.2.2))) Ln) Ln)
theorem ZIb (a:HL ZS):EV0 22 a=Zuw a.1 a.2.1 a.2.2.1 a.2.2.2:=by kernel_rfl
def Zus (c:TC) (s:Int) (g:List Int) (ln:QT1):RT (Option TC):=
 let x1:QT0:=(c,s==5,g,(0,0,0,0,0,0,0,0),[])
 let x2:=qAtC x1 0
 let x3:=Zc c.1 (qAt x1 0)
 let x4:= !x2||x3.1==26
 let x5:QT0:=(c,s==5,g,(26,x3.2),[])
 let x6:=ZhZ x5
 .br (Ze s) (Ls ((c.1,(rgx c.2.1 c.2.1.2.2.2.2.2.2.2.1 (u16.wrap ((spOf c)-2)) (Zy s)),c.2.2))) (.br (!x4||x2) (.br (x4) (.br (!x6||Zc8 x5 1) (Ls ((c.1,(rgx c.2.1 c.2.1.2.2.2.2.2.2.2.1 (bif x6 then u16.wrap ((spOf c)+2) else (spOf c)) (bif x6 then ZgN x5 1 else Zz x5)),c.2.2.1,false,false,c.2.2.2.2.2))) Ln) Ln) Ln)
theorem ZH7 (a:HL ZS):EV0 26 a=Zus a.1 a.2.1 a.2.2.1 a.2.2.2:=by kernel_rfl
def Zuo (c:TC) (s:Int) (g:List Int) (ln:QT1):RT (Option TC):=
 let x1:=u16.wrap ((spOf c)-2)
 let x2:QT0:=(c,s==5,g,(0,0,0,0,0,0,0,0),[])
 let x3:=qAtC x2 0
 let x4:=Zc c.1 (qAt x2 0)
 let x5:= !x3||x4.1==30
 .br (Ze s) (Ls ((c.1,(rgx c.2.1 c.2.1.2.2.2.2.2.2.2.1 x1 (Zy s)),c.2.2))) (.br (!x5||x3) (.br (x5) (Ls ((c.1,(rgx c.2.1 c.2.1.2.2.2.2.2.2.2.1 x1 (Zz (c,s==5,g,(30,x4.2),[]))),c.2.2.1,false,false,c.2.2.2.2.2))) Ln) Ln)
theorem ZH3 (a:HL ZS):EV0 30 a=Zuo a.1 a.2.1 a.2.2.1 a.2.2.2:=by kernel_rfl
def Zuk (c:TC) (s:Int) (g:List Int) (ln:QT1):RT (Option TC):=
 let x1:QT0:=(c,s==5,g,(0,0,0,0,0,0,0,0),[])
 let x2:=qAtC x1 0
 let x3:=Zc c.1 (qAt x1 0)
 let x4:= !x2||x3.1==34
 .br (Ze s) (Ls ((c.1,(rgx c.2.1 c.2.1.2.2.2.2.2.2.2.1 (u16.wrap ((spOf c)-2)) (Zy s)),c.2.2))) (.br (!x4||x2) (.br (x4) (Ls ((c.1,(rgx c.2.1 c.2.1.2.2.2.2.2.2.2.1 (spOf c) (Zz (c,s==5,g,(34,x3.2),[]))),c.2.2.1,false,false,c.2.2.2.2.2))) Ln) Ln)
theorem ZHZ (a:HL ZS):EV0 34 a=Zuk a.1 a.2.1 a.2.2.1 a.2.2.2:=by kernel_rfl
def Zug (c:TC) (s:Int) (g:List Int) (ln:QT1):RT (Option TC):=
 let x1:QT0:=(c,s==5,g,(0,0,0,0,0,0,0,0),[])
 let x2:=qAtC x1 0
 let x3:=Zc c.1 (qAt x1 0)
 let x4:= !x2||x3.1==38
 let x5:=rRim (c.1,(rgx c.2.1 c.2.1.2.2.2.2.2.2.2.1 (spOf c) (Zz (c,s==5,g,(38,x3.2),[]))),c.2.2.1,38==35,38==37,c.2.2.2.2.2) ln
 let x6:=x5.2
 let x7:=x6.2
 let x8:=x7.2
 let x9:=x8.2.2.2
 let x10:=x9.2
 let x11:=x10.2
 let x12:=x11.2
 let x13:=x12.2
 .br (Ze s) (Ls ((c.1,(rgx c.2.1 c.2.1.2.2.2.2.2.2.2.1 (u16.wrap ((spOf c)-2)) (Zy s)),c.2.2))) (.br (!x4||x2) (.br (x4) (Ls ((x6.1,(x5.1,x7.1.2),x8.1,false,false,x9.1,x10.1,x11.1,x12.1,x13.1,false,false,x13.2.2.2))) Ln) Ln)
theorem ZHV (a:HL ZS):EV0 38 a=Zug a.1 a.2.1 a.2.2.1 a.2.2.2:=by kernel_rfl
def Zuc (c:TC) (s:Int) (g:List Int) (ln:QT1):RT (Option TC):=
 let x1:QT0:=(c,s==5,g,(0,0,0,0,0,0,0,0),[])
 let x2:=qAtC x1 0
 let x3:=Zc c.1 (qAt x1 0)
 let x4:= !x2||x3.1==42
 let x5:=c.2.1.2.2.2.2.2.2.2.1.2.2.2
 let x6:=x5.2
 let x7:QT0:=(c,s==5,g,(42,x3.2),[])
 let x8:=ZLe (Zen x7 1) x6.2.2
 let x9:=x8.2
 .br (Ze s) (Ls ((c.1,(rgx c.2.1 c.2.1.2.2.2.2.2.2.2.1 (u16.wrap ((spOf c)-2)) (Zy s)),c.2.2))) (.br (!x4||x2) (.br (x4) (Ls ((c.1,Z4 (rgx c.2.1 ((c.2.1.2.2.2.2.2.2.2.1.1,c.2.1.2.2.2.2.2.2.2.1.2.1,c.2.1.2.2.2.2.2.2.2.1.2.2.1,x5.1,x6.1,x9.2,x9.1)) (spOf c) (Zz x7)) 1 x8.1,c.2.2.1,false,false,c.2.2.2.2.2))) Ln) Ln)
theorem ZHR (a:HL ZS):EV0 42 a=Zuc a.1 a.2.1 a.2.2.1 a.2.2.2:=by kernel_rfl
def Zt8 (c:TC) (s:Int) (g:List Int) (ln:QT1):RT (Option TC):=
 let x1:QT0:=(c,s==5,g,(0,0,0,0,0,0,0,0),[])
 let x2:=qAtC x1 0
 let x3:=Zc c.1 (qAt x1 0)
 let x4:= !x2||x3.1==46
 .br (Ze s) (Ls ((c.1,(rgx c.2.1 c.2.1.2.2.2.2.2.2.2.1 (u16.wrap ((spOf c)-2)) (Zy s)),c.2.2))) (.br (!x4||x2) (.br (x4) (Ls ((c.1,(rgx c.2.1 c.2.1.2.2.2.2.2.2.2.1 (spOf c) (Zz (c,s==5,g,(46,x3.2),[]))),c.2.2.1,false,false,c.2.2.2.2.2))) Ln) Ln)
theorem ZHN (a:HL ZS):EV0 46 a=Zt8 a.1 a.2.1 a.2.2.1 a.2.2.2:=by kernel_rfl
