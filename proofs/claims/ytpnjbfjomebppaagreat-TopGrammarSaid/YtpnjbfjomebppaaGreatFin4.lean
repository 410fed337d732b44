import Derived.Test.YtpnjbfjomebppaaGreatFin0
open Go.IntKind (u8 u16 i64)
set_option linter.unusedSimpArgs false
open Go Go.S3 Go.Proofs
set_option linter.unusedVariables false
set_option maxRecDepth 100000
namespace Go.Proofs.YtpnjbfjomebppaaGreat
noncomputable section
def ZBr (c:TC) (s:Int) (g:List Int) (ln:QT1):RT (Option TC):=
 let x1:QT0:=(c,s==5,g,(0,0,0,0,0,0,0,0),[])
 let x2:=qAtC x1 0
 let x3:=Zc c.1 (qAt x1 0)
 let x4:= !x2||x3.1==4
 let x5:=x3.2
 let x6:QT0:=(c,s==5,g,(4,x5),[])
 .br (Ze s) (Ls ((c.1,(rgx c.2.1 c.2.1.2.2.2.2.2.2.2.1 (u16.wrap ((spOf c)-2)) (Zx s)),c.2.2))) (.br (!x4||x2) (.br (x4) (.br (Zc4 x6 1) (Ls ((c.1,ZY (rgx c.2.1 c.2.1.2.2.2.2.2.2.2.1 (spOf c) (Zy x6)) x5.2.2.2.1 (Zgr x6 1),c.2.2.1,false,false,c.2.2.2.2.2))) Ln) Ln) Ln)
theorem ZMC (a:HL ZQ):EV0 4 a=ZBr a.1 a.2.1 a.2.2.1 a.2.2.2:=by kernel_rfl
def ZBn (c:TC) (s:Int) (g:List Int) (ln:QT1):RT (Option TC):=
 let x1:QT0:=(c,s==5,g,(0,0,0,0,0,0,0,0),[])
 let x2:=qAtC x1 0
 let x3:=Zc c.1 (qAt x1 0)
 let x4:= !x2||x3.1==8
 .br (Ze s) (Ls ((c.1,(rgx c.2.1 c.2.1.2.2.2.2.2.2.2.1 (u16.wrap ((spOf c)-2)) (Zx s)),c.2.2))) (.br (!x4||x2) (.br (x4) (Ls ((c.1,(rgx c.2.1 c.2.1.2.2.2.2.2.2.2.1 (spOf c) (Zy (c,s==5,g,(8,x3.2),[]))),c.2.2.1,false,false,c.2.2.2.2.2))) Ln) Ln)
theorem ZMy (a:HL ZQ):EV0 8 a=ZBn a.1 a.2.1 a.2.2.1 a.2.2.2:=by kernel_rfl
def Zt9 (c:TC) (s:Int) (g:List Int) (ln:QT1):RT (Option TC):=
 let x1:QT0:=(c,s==5,g,(0,0,0,0,0,0,0,0),[])
 let x2:=qAtC x1 0
 let x3:=Zc c.1 (qAt x1 0)
 let x4:= !x2||x3.1==12
 let x5:=x3.2
 let x6:QT0:=(c,s==5,g,(12,x5),[])
 let x7:=rDo c.1 x5.2.2.2.2.1 c.2.1.1 (ZiN x6) c.2.1.2.2.2.2.2.2.2.1
 .br (Ze s) (Ls ((c.1,(rgx c.2.1 c.2.1.2.2.2.2.2.2.2.1 (u16.wrap ((spOf c)-2)) (Zx s)),c.2.2))) (.br (!x4||x2) (.br (x4) (.br (Zgq x6) (Ls ((c.1,(x7.1,c.2.1.2.1,c.2.1.2.2.1,c.2.1.2.2.2.1,c.2.1.2.2.2.2.1,c.2.1.2.2.2.2.2.1,c.2.1.2.2.2.2.2.2.1,x7.2,spOf c,Zy x6),c.2.2.1,false,false,c.2.2.2.2.2))) Ln) Ln) Ln)
theorem ZHB (a:HL ZQ):EV0 12 a=Zt9 a.1 a.2.1 a.2.2.1 a.2.2.2:=by kernel_rfl
def Zt5 (c:TC) (s:Int) (g:List Int) (ln:QT1):RT (Option TC):=
 let x1:QT0:=(c,s==5,g,(0,0,0,0,0,0,0,0),[])
 let x2:=qAtC x1 0
 let x3:=Zc c.1 (qAt x1 0)
 let x4:= !x2||x3.1==16
 let x5:=x3.2
 let x6:QT0:=(c,s==5,g,(16,x5),[])
 let x7:=x5.2.2.2.1
 let x8:=rInx c.1 (Zeh x6 x7) c.2.1.2.2.2.2.2.2.2.1
 .br (Ze s) (Ls ((c.1,(rgx c.2.1 c.2.1.2.2.2.2.2.2.2.1 (u16.wrap ((spOf c)-2)) (Zx s)),c.2.2))) (.br (!x4||x2) (.br (x4) (Ls ((c.1,ZY (rgx c.2.1 x8.2 (spOf c) (Zy x6)) x7 x8.1,c.2.2.1,false,false,c.2.2.2.2.2))) Ln) Ln)
theorem ZHx (a:HL ZQ):EV0 16 a=Zt5 a.1 a.2.1 a.2.2.1 a.2.2.2:=by kernel_rfl
def Zt1 (c:TC) (s:Int) (g:List Int) (ln:QT1):RT (Option TC):=
 let x1:QT0:=(c,s==5,g,(0,0,0,0,0,0,0,0),[])
 let x2:=qAtC x1 0
 let x3:=Zc c.1 (qAt x1 0)
 let x4:= !x2||x3.1==20
 .br (Ze s) (Ls ((c.1,(rgx c.2.1 c.2.1.2.2.2.2.2.2.2.1 (u16.wrap ((spOf c)-2)) (Zx s)),c.2.2))) (.br (!x4||x2) (.br (x4) (Ls ((c.1,(notI u8 c.2.1.1,c.2.1.2.1,c.2.1.2.2.1,c.2.1.2.2.2.1,c.2.1.2.2.2.2.1,c.2.1.2.2.2.2.2.1,c.2.1.2.2.2.2.2.2.1,c.2.1.2.2.2.2.2.2.2.1,spOf c,Zy (c,s==5,g,(20,x3.2),[])),c.2.2.1,false,false,c.2.2.2.2.2))) Ln) Ln)
theorem ZHt (a:HL ZQ):EV0 20 a=Zt1 a.1 a.2.1 a.2.2.1 a.2.2.2:=by kernel_rfl
def ZtX (c:TC) (s:Int) (g:List Int) (ln:QT1):RT (Option TC):=
 let x1:QT0:=(c,s==5,g,(0,0,0,0,0,0,0,0),[])
 let x2:=qAtC x1 0
 let x3:=Zc c.1 (qAt x1 0)
 let x4:= !x2||x3.1==24
 let x5:QT0:=(c,s==5,g,(24,x3.2),[])
 let x6:=ZhE x5
 .br (Ze s) (Ls ((c.1,(rgx c.2.1 c.2.1.2.2.2.2.2.2.2.1 (u16.wrap ((spOf c)-2)) (Zx s)),c.2.2))) (.br (!x4||x2) (.br (x4) (.br (!x6||Zc4 x5 1) (Ls ((c.1,(rgx c.2.1 c.2.1.2.2.2.2.2.2.2.1 (spOf c) (bif x6 then Zgr x5 1 else Zy x5)),c.2.2.1,false,false,c.2.2.2.2.2))) Ln) Ln) Ln)
theorem ZHp (a:HL ZQ):EV0 24 a=ZtX a.1 a.2.1 a.2.2.1 a.2.2.2:=by kernel_rfl
def ZtT (c:TC) (s:Int) (g:List Int) (ln:QT1):RT (Option TC):=
 let x1:QT0:=(c,s==5,g,(0,0,0,0,0,0,0,0),[])
 let x2:=qAtC x1 0
 let x3:=Zc c.1 (qAt x1 0)
 let x4:= !x2||x3.1==28
 .br (Ze s) (Ls ((c.1,(rgx c.2.1 c.2.1.2.2.2.2.2.2.2.1 (u16.wrap ((spOf c)-2)) (Zx s)),c.2.2))) (.br (!x4||x2) (.br (x4) (Ls ((c.1,(rgx c.2.1 c.2.1.2.2.2.2.2.2.2.1 (spOf c) (Zeh (c,s==5,g,(28,x3.2),[]) 2)),c.2.2.1,false,false,c.2.2.2.2.2))) Ln) Ln)
theorem ZHl (a:HL ZQ):EV0 28 a=ZtT a.1 a.2.1 a.2.2.1 a.2.2.2:=by kernel_rfl
def ZtP (c:TC) (s:Int) (g:List Int) (ln:QT1):RT (Option TC):=
 let x1:QT0:=(c,s==5,g,(0,0,0,0,0,0,0,0),[])
 let x2:=qAtC x1 0
 let x3:=Zc c.1 (qAt x1 0)
 let x4:= !x2||x3.1==32
 let x5:QT0:=(c,s==5,g,(32,x3.2),[])
 .br (Ze s) (Ls ((c.1,(rgx c.2.1 c.2.1.2.2.2.2.2.2.2.1 (u16.wrap ((spOf c)-2)) (Zx s)),c.2.2))) (.br (!x4||x2) (.br (x4) (.br (Zc4 x5 1) (Ls ((c.1,ZY (rgx c.2.1 c.2.1.2.2.2.2.2.2.2.1 (spOf c) (Zy x5)) 2 (Zgr x5 1),c.2.2.1,false,false,c.2.2.2.2.2))) Ln) Ln) Ln)
theorem ZHh (a:HL ZQ):EV0 32 a=ZtP a.1 a.2.1 a.2.2.1 a.2.2.2:=by kernel_rfl
def ZtL (c:TC) (s:Int) (g:List Int) (ln:QT1):RT (Option TC):=
 let x1:QT0:=(c,s==5,g,(0,0,0,0,0,0,0,0),[])
 let x2:=qAtC x1 0
 let x3:=Zc c.1 (qAt x1 0)
 let x4:= !x2||x3.1==36
 .br (Ze s) (Ls ((c.1,(rgx c.2.1 c.2.1.2.2.2.2.2.2.2.1 (u16.wrap ((spOf c)-2)) (Zx s)),c.2.2))) (.br (!x4||x2) (.br (x4) (Ls ((c.1,(rgx c.2.1 c.2.1.2.2.2.2.2.2.2.1 (spOf c) (Zy (c,s==5,g,(36,x3.2),[]))),false,false,false,c.2.2.2.2.2))) Ln) Ln)
theorem ZHd (a:HL ZQ):EV0 36 a=ZtL a.1 a.2.1 a.2.2.1 a.2.2.2:=by kernel_rfl
def ZtH (c:TC) (s:Int) (g:List Int) (ln:QT1):RT (Option TC):=
 let x1:QT0:=(c,s==5,g,(0,0,0,0,0,0,0,0),[])
 let x2:=qAtC x1 0
 let x3:=Zc c.1 (qAt x1 0)
 let x4:= !x2||x3.1==40
 let x5:QT0:=(c,s==5,g,(40,x3.2),[])
 let x6:=ZKy (Zeh x5 2) (Zeh x5 0)
 .br (Ze s) (Ls ((c.1,(rgx c.2.1 c.2.1.2.2.2.2.2.2.2.1 (u16.wrap ((spOf c)-2)) (Zx s)),c.2.2))) (.br (!x4||x2) (.br (x4) (Ls ((c.1,ZY (rgx c.2.1 x6.2 (spOf c) (Zy x5)) 2 x6.1,c.2.2.1,false,false,c.2.2.2.2.2))) Ln) Ln)
theorem ZG9 (a:HL ZQ):EV0 40 a=ZtH a.1 a.2.1 a.2.2.1 a.2.2.2:=by kernel_rfl
def ZtD (c:TC) (s:Int) (g:List Int) (ln:QT1):RT (Option TC):=
 let x1:QT0:=(c,s==5,g,(0,0,0,0,0,0,0,0),[])
 let x2:=qAtC x1 0
 let x3:=Zc c.1 (qAt x1 0)
 let x4:= !x2||x3.1==44
 let x5:QT0:=(c,s==5,g,(44,x3.2),[])
 .br (Ze s) (Ls ((c.1,(rgx c.2.1 c.2.1.2.2.2.2.2.2.2.1 (u16.wrap ((spOf c)-2)) (Zx s)),c.2.2))) (.br (!x4||x2) (.br (x4) (.br (qAtC x5 1) (Ls ((c.1,ZY (rgx c.2.1 c.2.1.2.2.2.2.2.2.2.1 (spOf c) (Zy x5)) 1 (u16.wrap ((spOf c)+u16.wrap (qAt x5 1))),c.2.2.1,false,false,c.2.2.2.2.2))) Ln) Ln) Ln)
theorem ZG5 (a:HL ZQ):EV0 44 a=ZtD a.1 a.2.1 a.2.2.1 a.2.2.2:=by kernel_rfl
