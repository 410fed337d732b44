import Derived.Test.YtpnjbfjomebppaaGreatFin0
open Go.IntKind (u8 u16 i64)
set_option linter.unusedSimpArgs false
open Go Go.S3 Go.Proofs
set_option linter.unusedVariables false
set_option maxRecDepth 100000
namespace Go.Proofs.YtpnjbfjomebppaaGreat
noncomputable section
def ZAL (c:TC) (s:Int) (g:List Int) (ln:QT1):RT (Option TC):=
 let x1:QT0:=(c,s==5,g,(0,0,0,0,0,0,0,0),[])
 let x2:=qAtC x1 0
 let x3:=Zc c.1 (qAt x1 0)
 let x4:= !x2||x3.1==4
 let x5:=x3.2
 let x6:QT0:=(c,s==5,g,(4,x5),[])
 .br (Ze s) (.Lf (some ((c.1,(rgx c.2.1 c.2.1.2.2.2.2.2.2.2.1 (u16.wrap ((spOf c)-2)) (Zs s)),c.2.2)))) (.br (!x4||x2) (.br (x4) (.br (Zcz x6 1) (.Lf (some ((c.1,ZP (rgx c.2.1 c.2.1.2.2.2.2.2.2.2.1 (spOf c) (Zt x6)) x5.2.2.2.1 (ZfU x6 1),c.2.2.1,false,false,c.2.2.2.2.2)))) (.Lf none)) (.Lf none)) (.Lf none))
theorem ZL4 (a:HL ZH):EV0 4 a=ZAL a.1 a.2.1 a.2.2.1 a.2.2.2:=by kernel_rfl
def ZAH (c:TC) (s:Int) (g:List Int) (ln:QT1):RT (Option TC):=
 let x1:QT0:=(c,s==5,g,(0,0,0,0,0,0,0,0),[])
 let x2:=qAtC x1 0
 let x3:=Zc c.1 (qAt x1 0)
 let x4:= !x2||x3.1==8
 .br (Ze s) (.Lf (some ((c.1,(rgx c.2.1 c.2.1.2.2.2.2.2.2.2.1 (u16.wrap ((spOf c)-2)) (Zs s)),c.2.2)))) (.br (!x4||x2) (.br (x4) (.Lf (some ((c.1,(rgx c.2.1 c.2.1.2.2.2.2.2.2.2.1 (spOf c) (Zt (c,s==5,g,(8,x3.2),[]))),c.2.2.1,false,false,c.2.2.2.2.2)))) (.Lf none)) (.Lf none))
theorem ZL0 (a:HL ZH):EV0 8 a=ZAH a.1 a.2.1 a.2.2.1 a.2.2.2:=by kernel_rfl
def Zts (c:TC) (s:Int) (g:List Int) (ln:QT1):RT (Option TC):=
 let x1:QT0:=(c,s==5,g,(0,0,0,0,0,0,0,0),[])
 let x2:=qAtC x1 0
 let x3:=Zc c.1 (qAt x1 0)
 let x4:= !x2||x3.1==12
 let x5:=x3.2
 let x6:QT0:=(c,s==5,g,(12,x5),[])
 let x7:=rDo c.1 x5.2.2.2.2.1 c.2.1.1 (ZhZ x6) c.2.1.2.2.2.2.2.2.2.1
 .br (Ze s) (.Lf (some ((c.1,(rgx c.2.1 c.2.1.2.2.2.2.2.2.2.1 (u16.wrap ((spOf c)-2)) (Zs s)),c.2.2)))) (.br (!x4||x2) (.br (x4) (.br (ZfT x6) (.Lf (some ((c.1,(x7.1,c.2.1.2.1,c.2.1.2.2.1,c.2.1.2.2.2.1,c.2.1.2.2.2.2.1,c.2.1.2.2.2.2.2.1,c.2.1.2.2.2.2.2.2.1,x7.2,spOf c,Zt x6),c.2.2.1,false,false,c.2.2.2.2.2)))) (.Lf none)) (.Lf none)) (.Lf none))
theorem ZGW (a:HL ZH):EV0 12 a=Zts a.1 a.2.1 a.2.2.1 a.2.2.2:=by kernel_rfl
def Zto (c:TC) (s:Int) (g:List Int) (ln:QT1):RT (Option TC):=
 let x1:QT0:=(c,s==5,g,(0,0,0,0,0,0,0,0),[])
 let x2:=qAtC x1 0
 let x3:=Zc c.1 (qAt x1 0)
 let x4:= !x2||x3.1==16
 let x5:=x3.2
 let x6:QT0:=(c,s==5,g,(16,x5),[])
 let x7:=x5.2.2.2.1
 let x8:=rInx c.1 (ZdM x6 x7) c.2.1.2.2.2.2.2.2.2.1
 .br (Ze s) (.Lf (some ((c.1,(rgx c.2.1 c.2.1.2.2.2.2.2.2.2.1 (u16.wrap ((spOf c)-2)) (Zs s)),c.2.2)))) (.br (!x4||x2) (.br (x4) (.Lf (some ((c.1,ZP (rgx c.2.1 x8.2 (spOf c) (Zt x6)) x7 x8.1,c.2.2.1,false,false,c.2.2.2.2.2)))) (.Lf none)) (.Lf none))
theorem ZGS (a:HL ZH):EV0 16 a=Zto a.1 a.2.1 a.2.2.1 a.2.2.2:=by kernel_rfl
def Ztk (c:TC) (s:Int) (g:List Int) (ln:QT1):RT (Option TC):=
 let x1:QT0:=(c,s==5,g,(0,0,0,0,0,0,0,0),[])
 let x2:=qAtC x1 0
 let x3:=Zc c.1 (qAt x1 0)
 let x4:= !x2||x3.1==20
 .br (Ze s) (.Lf (some ((c.1,(rgx c.2.1 c.2.1.2.2.2.2.2.2.2.1 (u16.wrap ((spOf c)-2)) (Zs s)),c.2.2)))) (.br (!x4||x2) (.br (x4) (.Lf (some ((c.1,(notI u8 c.2.1.1,c.2.1.2.1,c.2.1.2.2.1,c.2.1.2.2.2.1,c.2.1.2.2.2.2.1,c.2.1.2.2.2.2.2.1,c.2.1.2.2.2.2.2.2.1,c.2.1.2.2.2.2.2.2.2.1,spOf c,Zt (c,s==5,g,(20,x3.2),[])),c.2.2.1,false,false,c.2.2.2.2.2)))) (.Lf none)) (.Lf none))
theorem ZGO (a:HL ZH):EV0 20 a=Ztk a.1 a.2.1 a.2.2.1 a.2.2.2:=by kernel_rfl
def Ztg (c:TC) (s:Int) (g:List Int) (ln:QT1):RT (Option TC):=
 let x1:QT0:=(c,s==5,g,(0,0,0,0,0,0,0,0),[])
 let x2:=qAtC x1 0
 let x3:=Zc c.1 (qAt x1 0)
 let x4:= !x2||x3.1==24
 let x5:QT0:=(c,s==5,g,(24,x3.2),[])
 let x6:=ZgX x5
 .br (Ze s) (.Lf (some ((c.1,(rgx c.2.1 c.2.1.2.2.2.2.2.2.2.1 (u16.wrap ((spOf c)-2)) (Zs s)),c.2.2)))) (.br (!x4||x2) (.br (x4) (.br (!x6||Zcz x5 1) (.Lf (some ((c.1,(rgx c.2.1 c.2.1.2.2.2.2.2.2.2.1 (spOf c) (bif x6 then ZfU x5 1 else Zt x5)),c.2.2.1,false,false,c.2.2.2.2.2)))) (.Lf none)) (.Lf none)) (.Lf none))
theorem ZGK (a:HL ZH):EV0 24 a=Ztg a.1 a.2.1 a.2.2.1 a.2.2.2:=by kernel_rfl
def Ztc (c:TC) (s:Int) (g:List Int) (ln:QT1):RT (Option TC):=
 let x1:QT0:=(c,s==5,g,(0,0,0,0,0,0,0,0),[])
 let x2:=qAtC x1 0
 let x3:=Zc c.1 (qAt x1 0)
 let x4:= !x2||x3.1==28
 .br (Ze s) (.Lf (some ((c.1,(rgx c.2.1 c.2.1.2.2.2.2.2.2.2.1 (u16.wrap ((spOf c)-2)) (Zs s)),c.2.2)))) (.br (!x4||x2) (.br (x4) (.Lf (some ((c.1,(rgx c.2.1 c.2.1.2.2.2.2.2.2.2.1 (spOf c) (ZdM (c,s==5,g,(28,x3.2),[]) 2)),c.2.2.1,false,false,c.2.2.2.2.2)))) (.Lf none)) (.Lf none))
theorem ZGG (a:HL ZH):EV0 28 a=Ztc a.1 a.2.1 a.2.2.1 a.2.2.2:=by kernel_rfl
def Zs8 (c:TC) (s:Int) (g:List Int) (ln:QT1):RT (Option TC):=
 let x1:QT0:=(c,s==5,g,(0,0,0,0,0,0,0,0),[])
 let x2:=qAtC x1 0
 let x3:=Zc c.1 (qAt x1 0)
 let x4:= !x2||x3.1==32
 let x5:QT0:=(c,s==5,g,(32,x3.2),[])
 .br (Ze s) (.Lf (some ((c.1,(rgx c.2.1 c.2.1.2.2.2.2.2.2.2.1 (u16.wrap ((spOf c)-2)) (Zs s)),c.2.2)))) (.br (!x4||x2) (.br (x4) (.br (Zcz x5 1) (.Lf (some ((c.1,ZP (rgx c.2.1 c.2.1.2.2.2.2.2.2.2.1 (spOf c) (Zt x5)) 2 (ZfU x5 1),c.2.2.1,false,false,c.2.2.2.2.2)))) (.Lf none)) (.Lf none)) (.Lf none))
theorem ZGC (a:HL ZH):EV0 32 a=Zs8 a.1 a.2.1 a.2.2.1 a.2.2.2:=by kernel_rfl
def Zs4 (c:TC) (s:Int) (g:List Int) (ln:QT1):RT (Option TC):=
 let x1:QT0:=(c,s==5,g,(0,0,0,0,0,0,0,0),[])
 let x2:=qAtC x1 0
 let x3:=Zc c.1 (qAt x1 0)
 let x4:= !x2||x3.1==36
 .br (Ze s) (.Lf (some ((c.1,(rgx c.2.1 c.2.1.2.2.2.2.2.2.2.1 (u16.wrap ((spOf c)-2)) (Zs s)),c.2.2)))) (.br (!x4||x2) (.br (x4) (.Lf (some ((c.1,(rgx c.2.1 c.2.1.2.2.2.2.2.2.2.1 (spOf c) (Zt (c,s==5,g,(36,x3.2),[]))),false,false,false,c.2.2.2.2.2)))) (.Lf none)) (.Lf none))
theorem ZGy (a:HL ZH):EV0 36 a=Zs4 a.1 a.2.1 a.2.2.1 a.2.2.2:=by kernel_rfl
def Zs0 (c:TC) (s:Int) (g:List Int) (ln:QT1):RT (Option TC):=
 let x1:QT0:=(c,s==5,g,(0,0,0,0,0,0,0,0),[])
 let x2:=qAtC x1 0
 let x3:=Zc c.1 (qAt x1 0)
 let x4:= !x2||x3.1==40
 let x5:QT0:=(c,s==5,g,(40,x3.2),[])
 let x6:=ZJW (ZdM x5 2) (ZdM x5 0)
 .br (Ze s) (.Lf (some ((c.1,(rgx c.2.1 c.2.1.2.2.2.2.2.2.2.1 (u16.wrap ((spOf c)-2)) (Zs s)),c.2.2)))) (.br (!x4||x2) (.br (x4) (.Lf (some ((c.1,ZP (rgx c.2.1 x6.2 (spOf c) (Zt x5)) 2 x6.1,c.2.2.1,false,false,c.2.2.2.2.2)))) (.Lf none)) (.Lf none))
theorem ZGu (a:HL ZH):EV0 40 a=Zs0 a.1 a.2.1 a.2.2.1 a.2.2.2:=by kernel_rfl
def ZsW (c:TC) (s:Int) (g:List Int) (ln:QT1):RT (Option TC):=
 let x1:QT0:=(c,s==5,g,(0,0,0,0,0,0,0,0),[])
 let x2:=qAtC x1 0
 let x3:=Zc c.1 (qAt x1 0)
 let x4:= !x2||x3.1==44
 let x5:QT0:=(c,s==5,g,(44,x3.2),[])
 .br (Ze s) (.Lf (some ((c.1,(rgx c.2.1 c.2.1.2.2.2.2.2.2.2.1 (u16.wrap ((spOf c)-2)) (Zs s)),c.2.2)))) (.br (!x4||x2) (.br (x4) (.br (qAtC x5 1) (.Lf (some ((c.1,ZP (rgx c.2.1 c.2.1.2.2.2.2.2.2.2.1 (spOf c) (Zt x5)) 1 (u16.wrap ((spOf c)+u16.wrap (qAt x5 1))),c.2.2.1,false,false,c.2.2.2.2.2)))) (.Lf none)) (.Lf none)) (.Lf none))
theorem ZGq (a:HL ZH):EV0 44 a=ZsW a.1 a.2.1 a.2.2.1 a.2.2.2:=by kernel_rfl
end
end Go.Proofs.YtpnjbfjomebppaaGreat
