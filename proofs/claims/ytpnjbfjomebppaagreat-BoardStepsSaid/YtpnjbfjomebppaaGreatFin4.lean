import Derived.Test.YtpnjbfjomebppaaGreatFin0
open Go.IntKind (u8 u16 i64)
set_option linter.unusedSimpArgs false
open Go Go.S3 Go.Proofs
set_option linter.unusedVariables false
set_option maxRecDepth 100000
namespace Go.Proofs.YtpnjbfjomebppaaGreat
noncomputable section
def ZBv (c:TC) (s:Int) (g:List Int) (ln:QT1):RT (Option TC):=
 let x1:QT0:=(c,s==5,g,(0,0,0,0,0,0,0,0),[])
 let x2:=qAtC x1 0
 let x3:=Zc c.1 (qAt x1 0)
 let x4:= !x2||x3.1==4
 let x5:=x3.2
 let x6:QT0:=(c,s==5,g,(4,x5),[])
 .br (Ze s) (.Lf (some ((c.1,(rgx c.2.1 c.2.1.2.2.2.2.2.2.2.1 (u16.wrap ((spOf c)-2)) (Zv s)),c.2.2)))) (.br (!x4||x2) (.br (x4) (.br (Zc8 x6 1) (.Lf (some ((c.1,ZU (rgx c.2.1 c.2.1.2.2.2.2.2.2.2.1 (spOf c) (Zw x6)) x5.2.2.2.1 (ZgF x6 1),c.2.2.1,false,false,c.2.2.2.2.2)))) (.Lf none)) (.Lf none)) (.Lf none))
theorem ZMx (a:HL ZK):EV0 4 a=ZBv a.1 a.2.1 a.2.2.1 a.2.2.2:=by kernel_rfl
def ZBr (c:TC) (s:Int) (g:List Int) (ln:QT1):RT (Option TC):=
 let x1:QT0:=(c,s==5,g,(0,0,0,0,0,0,0,0),[])
 let x2:=qAtC x1 0
 let x3:=Zc c.1 (qAt x1 0)
 let x4:= !x2||x3.1==8
 .br (Ze s) (.Lf (some ((c.1,(rgx c.2.1 c.2.1.2.2.2.2.2.2.2.1 (u16.wrap ((spOf c)-2)) (Zv s)),c.2.2)))) (.br (!x4||x2) (.br (x4) (.Lf (some ((c.1,(rgx c.2.1 c.2.1.2.2.2.2.2.2.2.1 (spOf c) (Zw (c,s==5,g,(8,x3.2),[]))),c.2.2.1,false,false,c.2.2.2.2.2)))) (.Lf none)) (.Lf none))
theorem ZMt (a:HL ZK):EV0 8 a=ZBr a.1 a.2.1 a.2.2.1 a.2.2.2:=by kernel_rfl
def Zud (c:TC) (s:Int) (g:List Int) (ln:QT1):RT (Option TC):=
 let x1:QT0:=(c,s==5,g,(0,0,0,0,0,0,0,0),[])
 let x2:=qAtC x1 0
 let x3:=Zc c.1 (qAt x1 0)
 let x4:= !x2||x3.1==12
 let x5:=x3.2
 let x6:QT0:=(c,s==5,g,(12,x5),[])
 let x7:=rDo c.1 x5.2.2.2.2.1 c.2.1.1 (ZiX x6) c.2.1.2.2.2.2.2.2.2.1
 .br (Ze s) (.Lf (some ((c.1,(rgx c.2.1 c.2.1.2.2.2.2.2.2.2.1 (u16.wrap ((spOf c)-2)) (Zv s)),c.2.2)))) (.br (!x4||x2) (.br (x4) (.br (ZgE x6) (.Lf (some ((c.1,(x7.1,c.2.1.2.1,c.2.1.2.2.1,c.2.1.2.2.2.1,c.2.1.2.2.2.2.1,c.2.1.2.2.2.2.2.1,c.2.1.2.2.2.2.2.2.1,x7.2,spOf c,Zw x6),c.2.2.1,false,false,c.2.2.2.2.2)))) (.Lf none)) (.Lf none)) (.Lf none))
theorem ZHx (a:HL ZK):EV0 12 a=Zud a.1 a.2.1 a.2.2.1 a.2.2.2:=by kernel_rfl
def Zt9 (c:TC) (s:Int) (g:List Int) (ln:QT1):RT (Option TC):=
 let x1:QT0:=(c,s==5,g,(0,0,0,0,0,0,0,0),[])
 let x2:=qAtC x1 0
 let x3:=Zc c.1 (qAt x1 0)
 let x4:= !x2||x3.1==16
 let x5:=x3.2
 let x6:QT0:=(c,s==5,g,(16,x5),[])
 let x7:=x5.2.2.2.1
 let x8:=rInx c.1 (Zek x6 x7) c.2.1.2.2.2.2.2.2.2.1
 .br (Ze s) (.Lf (some ((c.1,(rgx c.2.1 c.2.1.2.2.2.2.2.2.2.1 (u16.wrap ((spOf c)-2)) (Zv s)),c.2.2)))) (.br (!x4||x2) (.br (x4) (.Lf (some ((c.1,ZU (rgx c.2.1 x8.2 (spOf c) (Zw x6)) x7 x8.1,c.2.2.1,false,false,c.2.2.2.2.2)))) (.Lf none)) (.Lf none))
theorem ZHt (a:HL ZK):EV0 16 a=Zt9 a.1 a.2.1 a.2.2.1 a.2.2.2:=by kernel_rfl
def Zt5 (c:TC) (s:Int) (g:List Int) (ln:QT1):RT (Option TC):=
 let x1:QT0:=(c,s==5,g,(0,0,0,0,0,0,0,0),[])
 let x2:=qAtC x1 0
 let x3:=Zc c.1 (qAt x1 0)
 let x4:= !x2||x3.1==20
 .br (Ze s) (.Lf (some ((c.1,(rgx c.2.1 c.2.1.2.2.2.2.2.2.2.1 (u16.wrap ((spOf c)-2)) (Zv s)),c.2.2)))) (.br (!x4||x2) (.br (x4) (.Lf (some ((c.1,(notI u8 c.2.1.1,c.2.1.2.1,c.2.1.2.2.1,c.2.1.2.2.2.1,c.2.1.2.2.2.2.1,c.2.1.2.2.2.2.2.1,c.2.1.2.2.2.2.2.2.1,c.2.1.2.2.2.2.2.2.2.1,spOf c,Zw (c,s==5,g,(20,x3.2),[])),c.2.2.1,false,false,c.2.2.2.2.2)))) (.Lf none)) (.Lf none))
theorem ZHp (a:HL ZK):EV0 20 a=Zt5 a.1 a.2.1 a.2.2.1 a.2.2.2:=by kernel_rfl
def Zt1 (c:TC) (s:Int) (g:List Int) (ln:QT1):RT (Option TC):=
 let x1:QT0:=(c,s==5,g,(0,0,0,0,0,0,0,0),[])
 let x2:=qAtC x1 0
 let x3:=Zc c.1 (qAt x1 0)
 let x4:= !x2||x3.1==24
 let x5:QT0:=(c,s==5,g,(24,x3.2),[])
 let x6:=ZhR x5
 .br (Ze s) (.Lf (some ((c.1,(rgx c.2.1 c.2.1.2.2.2.2.2.2.2.1 (u16.wrap ((spOf c)-2)) (Zv s)),c.2.2)))) (.br (!x4||x2) (.br (x4) (.br (!x6||Zc8 x5 1) (.Lf (some ((c.1,(rgx c.2.1 c.2.1.2.2.2.2.2.2.2.1 (spOf c) (bif x6 then ZgF x5 1 else Zw x5)),c.2.2.1,false,false,c.2.2.2.2.2)))) (.Lf none)) (.Lf none)) (.Lf none))
theorem ZHl (a:HL ZK):EV0 24 a=Zt1 a.1 a.2.1 a.2.2.1 a.2.2.2:=by kernel_rfl
def ZtX (c:TC) (s:Int) (g:List Int) (ln:QT1):RT (Option TC):=
 let x1:QT0:=(c,s==5,g,(0,0,0,0,0,0,0,0),[])
 let x2:=qAtC x1 0
 let x3:=Zc c.1 (qAt x1 0)
 let x4:= !x2||x3.1==28
 .br (Ze s) (.Lf (some ((c.1,(rgx c.2.1 c.2.1.2.2.2.2.2.2.2.1 (u16.wrap ((spOf c)-2)) (Zv s)),c.2.2)))) (.br (!x4||x2) (.br (x4) (.Lf (some ((c.1,(rgx c.2.1 c.2.1.2.2.2.2.2.2.2.1 (spOf c) (Zek (c,s==5,g,(28,x3.2),[]) 2)),c.2.2.1,false,false,c.2.2.2.2.2)))) (.Lf none)) (.Lf none))
theorem ZHh (a:HL ZK):EV0 28 a=ZtX a.1 a.2.1 a.2.2.1 a.2.2.2:=by kernel_rfl
def ZtT (c:TC) (s:Int) (g:List Int) (ln:QT1):RT (Option TC):=
 let x1:QT0:=(c,s==5,g,(0,0,0,0,0,0,0,0),[])
 let x2:=qAtC x1 0
 let x3:=Zc c.1 (qAt x1 0)
 let x4:= !x2||x3.1==32
 let x5:QT0:=(c,s==5,g,(32,x3.2),[])
 .br (Ze s) (.Lf (some ((c.1,(rgx c.2.1 c.2.1.2.2.2.2.2.2.2.1 (u16.wrap ((spOf c)-2)) (Zv s)),c.2.2)))) (.br (!x4||x2) (.br (x4) (.br (Zc8 x5 1) (.Lf (some ((c.1,ZU (rgx c.2.1 c.2.1.2.2.2.2.2.2.2.1 (spOf c) (Zw x5)) 2 (ZgF x5 1),c.2.2.1,false,false,c.2.2.2.2.2)))) (.Lf none)) (.Lf none)) (.Lf none))
theorem ZHd (a:HL ZK):EV0 32 a=ZtT a.1 a.2.1 a.2.2.1 a.2.2.2:=by kernel_rfl
def ZtP (c:TC) (s:Int) (g:List Int) (ln:QT1):RT (Option TC):=
 let x1:QT0:=(c,s==5,g,(0,0,0,0,0,0,0,0),[])
 let x2:=qAtC x1 0
 let x3:=Zc c.1 (qAt x1 0)
 let x4:= !x2||x3.1==36
 .br (Ze s) (.Lf (some ((c.1,(rgx c.2.1 c.2.1.2.2.2.2.2.2.2.1 (u16.wrap ((spOf c)-2)) (Zv s)),c.2.2)))) (.br (!x4||x2) (.br (x4) (.Lf (some ((c.1,(rgx c.2.1 c.2.1.2.2.2.2.2.2.2.1 (spOf c) (Zw (c,s==5,g,(36,x3.2),[]))),false,false,false,c.2.2.2.2.2)))) (.Lf none)) (.Lf none))
theorem ZG9 (a:HL ZK):EV0 36 a=ZtP a.1 a.2.1 a.2.2.1 a.2.2.2:=by kernel_rfl
def ZtL (c:TC) (s:Int) (g:List Int) (ln:QT1):RT (Option TC):=
 let x1:QT0:=(c,s==5,g,(0,0,0,0,0,0,0,0),[])
 let x2:=qAtC x1 0
 let x3:=Zc c.1 (qAt x1 0)
 let x4:= !x2||x3.1==40
 let x5:QT0:=(c,s==5,g,(40,x3.2),[])
 let x6:=ZKw (Zek x5 2) (Zek x5 0)
 .br (Ze s) (.Lf (some ((c.1,(rgx c.2.1 c.2.1.2.2.2.2.2.2.2.1 (u16.wrap ((spOf c)-2)) (Zv s)),c.2.2)))) (.br (!x4||x2) (.br (x4) (.Lf (some ((c.1,ZU (rgx c.2.1 x6.2 (spOf c) (Zw x5)) 2 x6.1,c.2.2.1,false,false,c.2.2.2.2.2)))) (.Lf none)) (.Lf none))
theorem ZG5 (a:HL ZK):EV0 40 a=ZtL a.1 a.2.1 a.2.2.1 a.2.2.2:=by kernel_rfl
def ZtH (c:TC) (s:Int) (g:List Int) (ln:QT1):RT (Option TC):=
 let x1:QT0:=(c,s==5,g,(0,0,0,0,0,0,0,0),[])
 let x2:=qAtC x1 0
 let x3:=Zc c.1 (qAt x1 0)
 let x4:= !x2||x3.1==44
 let x5:QT0:=(c,s==5,g,(44,x3.2),[])
 .br (Ze s) (.Lf (some ((c.1,(rgx c.2.1 c.2.1.2.2.2.2.2.2.2.1 (u16.wrap ((spOf c)-2)) (Zv s)),c.2.2)))) (.br (!x4||x2) (.br (x4) (.br (qAtC x5 1) (.Lf (some ((c.1,ZU (rgx c.2.1 c.2.1.2.2.2.2.2.2.2.1 (spOf c) (Zw x5)) 1 (u16.wrap ((spOf c)+u16.wrap (qAt x5 1))),c.2.2.1,false,false,c.2.2.2.2.2)))) (.Lf none)) (.Lf none)) (.Lf none))
theorem ZG1 (a:HL ZK):EV0 44 a=ZtH a.1 a.2.1 a.2.2.1 a.2.2.2:=by kernel_rfl
end
end Go.Proofs.YtpnjbfjomebppaaGreat
