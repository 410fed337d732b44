import Derived.Test.YtpnjbfjomebppaaGreatFin0
open Go.IntKind (u8 u16 i64)
set_option linter.unusedSimpArgs false
open Go Go.S3 Go.Proofs
set_option linter.unusedVariables false
set_option maxRecDepth 100000
namespace Go.Proofs.YtpnjbfjomebppaaGreat
noncomputable section
def ZAO (c:TC) (s:Int) (g:List Int) (ln:QT1):RT (Option TC):=
 let x1:QT0:=(c,s==5,g,(0,0,0,0,0,0,0,0),[])
 let x2:=qAtC x1 0
 let x3:=Zc c.1 (qAt x1 0)
 let x4:= !x2||x3.1==1
 .br (Ze s) (.Lf (some ((c.1,(rgx c.2.1 c.2.1.2.2.2.2.2.2.2.1 (u16.wrap ((spOf c)-2)) (Zs s)),c.2.2)))) (.br (!x4||x2) (.br (x4) (.Lf (some ((c.1,(rgx c.2.1 c.2.1.2.2.2.2.2.2.2.1 (spOf c) (Zt (c,s==5,g,(1,x3.2),[]))),c.2.2.1,false,false,c.2.2.2.2.2)))) (.Lf none)) (.Lf none))
theorem ZL7 (a:HL ZH):EV0 1 a=ZAO a.1 a.2.1 a.2.2.1 a.2.2.2:=by kernel_rfl
def ZAK (c:TC) (s:Int) (g:List Int) (ln:QT1):RT (Option TC):=
 let x1:QT0:=(c,s==5,g,(0,0,0,0,0,0,0,0),[])
 let x2:=qAtC x1 0
 let x3:=Zc c.1 (qAt x1 0)
 let x4:= !x2||x3.1==5
 let x5:QT0:=(c,s==5,g,(5,x3.2),[])
 .br (Ze s) (.Lf (some ((c.1,(rgx c.2.1 c.2.1.2.2.2.2.2.2.2.1 (u16.wrap ((spOf c)-2)) (Zs s)),c.2.2)))) (.br (!x4||x2) (.br (x4) (.br (qAtC x5 3) (.Lf (some ((c.1,(qAt x5 3,c.2.1.2.1,c.2.1.2.2.1,c.2.1.2.2.2.1,c.2.1.2.2.2.2.1,c.2.1.2.2.2.2.2.1,c.2.1.2.2.2.2.2.2.1,c.2.1.2.2.2.2.2.2.2.1,spOf c,Zt x5),c.2.2.1,false,false,c.2.2.2.2.2)))) (.Lf none)) (.Lf none)) (.Lf none))
theorem ZL3 (a:HL ZH):EV0 5 a=ZAK a.1 a.2.1 a.2.2.1 a.2.2.2:=by kernel_rfl
def ZAG (c:TC) (s:Int) (g:List Int) (ln:QT1):RT (Option TC):=
 let x1:QT0:=(c,s==5,g,(0,0,0,0,0,0,0,0),[])
 let x2:=qAtC x1 0
 let x3:=Zc c.1 (qAt x1 0)
 let x4:= !x2||x3.1==9
 let x5:QT0:=(c,s==5,g,(9,x3.2),[])
 .br (Ze s) (.Lf (some ((c.1,(rgx c.2.1 c.2.1.2.2.2.2.2.2.2.1 (u16.wrap ((spOf c)-2)) (Zs s)),c.2.2)))) (.br (!x4||x2) (.br (x4) (.br (qAtC x5 1) (.Lf (some ((c.1,(qAt x5 1,c.2.1.2.1,c.2.1.2.2.1,c.2.1.2.2.2.1,c.2.1.2.2.2.2.1,c.2.1.2.2.2.2.2.1,c.2.1.2.2.2.2.2.2.1,c.2.1.2.2.2.2.2.2.2.1,spOf c,Zt x5),c.2.2.1,false,false,c.2.2.2.2.2)))) (.Lf none)) (.Lf none)) (.Lf none))
theorem ZLZ (a:HL ZH):EV0 9 a=ZAG a.1 a.2.1 a.2.2.1 a.2.2.2:=by kernel_rfl
def Ztr (c:TC) (s:Int) (g:List Int) (ln:QT1):RT (Option TC):=
 let x1:QT0:=(c,s==5,g,(0,0,0,0,0,0,0,0),[])
 let x2:=qAtC x1 0
 let x3:=Zc c.1 (qAt x1 0)
 let x4:= !x2||x3.1==13
 let x5:=x3.2
 let x6:QT0:=(c,s==5,g,(13,x5),[])
 let x7:=rDo c.1 x5.2.2.2.2.1 c.2.1.1 (ZhZ x6) c.2.1.2.2.2.2.2.2.2.1
 .br (Ze s) (.Lf (some ((c.1,(rgx c.2.1 c.2.1.2.2.2.2.2.2.2.1 (u16.wrap ((spOf c)-2)) (Zs s)),c.2.2)))) (.br (!x4||x2) (.br (x4) (.br (ZfT x6) (.Lf (some ((c.1,(x7.1,c.2.1.2.1,c.2.1.2.2.1,c.2.1.2.2.2.1,c.2.1.2.2.2.2.1,c.2.1.2.2.2.2.2.1,c.2.1.2.2.2.2.2.2.1,x7.2,spOf c,Zt x6),c.2.2.1,false,false,c.2.2.2.2.2)))) (.Lf none)) (.Lf none)) (.Lf none))
theorem ZGV (a:HL ZH):EV0 13 a=Ztr a.1 a.2.1 a.2.2.1 a.2.2.2:=by kernel_rfl
def Ztn (c:TC) (s:Int) (g:List Int) (ln:QT1):RT (Option TC):=
 let x1:QT0:=(c,s==5,g,(0,0,0,0,0,0,0,0),[])
 let x2:=qAtC x1 0
 let x3:=Zc c.1 (qAt x1 0)
 let x4:= !x2||x3.1==17
 let x5:=x3.2
 let x6:QT0:=(c,s==5,g,(17,x5),[])
 let x7:=x5.2.2.2.1
 let x8:=rDcx c.1 (ZdM x6 x7) c.2.1.2.2.2.2.2.2.2.1
 .br (Ze s) (.Lf (some ((c.1,(rgx c.2.1 c.2.1.2.2.2.2.2.2.2.1 (u16.wrap ((spOf c)-2)) (Zs s)),c.2.2)))) (.br (!x4||x2) (.br (x4) (.Lf (some ((c.1,ZP (rgx c.2.1 x8.2 (spOf c) (Zt x6)) x7 x8.1,c.2.2.1,false,false,c.2.2.2.2.2)))) (.Lf none)) (.Lf none))
theorem ZGR (a:HL ZH):EV0 17 a=Ztn a.1 a.2.1 a.2.2.1 a.2.2.2:=by kernel_rfl
def Ztj (c:TC) (s:Int) (g:List Int) (ln:QT1):RT (Option TC):=
 let x1:QT0:=(c,s==5,g,(0,0,0,0,0,0,0,0),[])
 let x2:=qAtC x1 0
 let x3:=Zc c.1 (qAt x1 0)
 let x4:= !x2||x3.1==21
 let x5:=c.2.1.2.2.2.2.2.2.2.1.2.2.2
 let x6:=x5.2
 .br (Ze s) (.Lf (some ((c.1,(rgx c.2.1 c.2.1.2.2.2.2.2.2.2.1 (u16.wrap ((spOf c)-2)) (Zs s)),c.2.2)))) (.br (!x4||x2) (.br (x4) (.Lf (some ((c.1,(rgx c.2.1 ((c.2.1.2.2.2.2.2.2.2.1.1,c.2.1.2.2.2.2.2.2.2.1.2.1,c.2.1.2.2.2.2.2.2.2.1.2.2.1,x5.1,x6.1,x6.2.1,true)) (spOf c) (Zt (c,s==5,g,(21,x3.2),[]))),c.2.2.1,false,false,c.2.2.2.2.2)))) (.Lf none)) (.Lf none))
theorem ZGN (a:HL ZH):EV0 21 a=Ztj a.1 a.2.1 a.2.2.1 a.2.2.2:=by kernel_rfl
def Ztf (c:TC) (s:Int) (g:List Int) (ln:QT1):RT (Option TC):=
 let x1:=u16.wrap ((spOf c)-2)
 let x2:QT0:=(c,s==5,g,(0,0,0,0,0,0,0,0),[])
 let x3:=qAtC x2 0
 let x4:=Zc c.1 (qAt x2 0)
 let x5:= !x3||x4.1==25
 let x6:QT0:=(c,s==5,g,(25,x4.2),[])
 let x7:=ZgX x6
 .br (Ze s) (.Lf (some ((c.1,(rgx c.2.1 c.2.1.2.2.2.2.2.2.2.1 x1 (Zs s)),c.2.2)))) (.br (!x5||x3) (.br (x5) (.br (!x7||Zcz x6 1) (.Lf (some ((c.1,(rgx c.2.1 c.2.1.2.2.2.2.2.2.2.1 (bif x7 then x1 else (spOf c)) (bif x7 then ZfU x6 1 else Zt x6)),c.2.2.1,false,false,c.2.2.2.2.2)))) (.Lf none)) (.Lf none)) (.Lf none))
theorem ZGJ (a:HL ZH):EV0 25 a=Ztf a.1 a.2.1 a.2.2.1 a.2.2.2:=by kernel_rfl
def Ztb (c:TC) (s:Int) (g:List Int) (ln:QT1):RT (Option TC):=
 let x1:QT0:=(c,s==5,g,(0,0,0,0,0,0,0,0),[])
 let x2:=qAtC x1 0
 let x3:=Zc c.1 (qAt x1 0)
 let x4:= !x2||x3.1==29
 let x5:QT0:=(c,s==5,g,(29,x3.2),[])
 .br (Ze s) (.Lf (some ((c.1,(rgx c.2.1 c.2.1.2.2.2.2.2.2.2.1 (u16.wrap ((spOf c)-2)) (Zs s)),c.2.2)))) (.br (!x4||x2) (.br (x4) (.Lf (some ((c.1,(rgx c.2.1 c.2.1.2.2.2.2.2.2.2.1 (ZdM x5 2) (Zt x5)),c.2.2.1,false,false,c.2.2.2.2.2)))) (.Lf none)) (.Lf none))
theorem ZGF (a:HL ZH):EV0 29 a=Ztb a.1 a.2.1 a.2.2.1 a.2.2.2:=by kernel_rfl
def Zs7 (c:TC) (s:Int) (g:List Int) (ln:QT1):RT (Option TC):=
 let x1:QT0:=(c,s==5,g,(0,0,0,0,0,0,0,0),[])
 let x2:=qAtC x1 0
 let x3:=Zc c.1 (qAt x1 0)
 let x4:= !x2||x3.1==33
 let x5:QT0:=(c,s==5,g,(33,x3.2),[])
 .br (Ze s) (.Lf (some ((c.1,(rgx c.2.1 c.2.1.2.2.2.2.2.2.2.1 (u16.wrap ((spOf c)-2)) (Zs s)),c.2.2)))) (.br (!x4||x2) (.br (x4) (.br (qAtC x5 2) (.Lf (some ((c.1,(qAt x5 2,c.2.1.2.1,c.2.1.2.2.1,c.2.1.2.2.2.1,c.2.1.2.2.2.2.1,c.2.1.2.2.2.2.2.1,c.2.1.2.2.2.2.2.2.1,c.2.1.2.2.2.2.2.2.2.1,spOf c,Zt x5),c.2.2.1,false,false,c.2.2.2.2.2)))) (.Lf none)) (.Lf none)) (.Lf none))
theorem ZGB (a:HL ZH):EV0 33 a=Zs7 a.1 a.2.1 a.2.2.1 a.2.2.2:=by kernel_rfl
def Zs3 (c:TC) (s:Int) (g:List Int) (ln:QT1):RT (Option TC):=
 let x1:QT0:=(c,s==5,g,(0,0,0,0,0,0,0,0),[])
 let x2:=qAtC x1 0
 let x3:=Zc c.1 (qAt x1 0)
 let x4:= !x2||x3.1==37
 .br (Ze s) (.Lf (some ((c.1,(rgx c.2.1 c.2.1.2.2.2.2.2.2.2.1 (u16.wrap ((spOf c)-2)) (Zs s)),c.2.2)))) (.br (!x4||x2) (.br (x4) (.Lf (some ((c.1,(rgx c.2.1 c.2.1.2.2.2.2.2.2.2.1 (spOf c) (Zt (c,s==5,g,(37,x3.2),[]))),c.2.2.1,false,true,c.2.2.2.2.2)))) (.Lf none)) (.Lf none))
theorem ZGx (a:HL ZH):EV0 37 a=Zs3 a.1 a.2.1 a.2.2.1 a.2.2.2:=by kernel_rfl
def ZsZ (c:TC) (s:Int) (g:List Int) (ln:QT1):RT (Option TC):=
 let x1:QT0:=(c,s==5,g,(0,0,0,0,0,0,0,0),[])
 let x2:=qAtC x1 0
 let x3:=Zc c.1 (qAt x1 0)
 let x4:= !x2||x3.1==41
 let x5:=c.2.1.2.2.2.2.2.2.2.1.2.2.2
 let x6:=x5.2
 let x7:QT0:=(c,s==5,g,(41,x3.2),[])
 let x8:=ZPv (ZdM x7 2)
 .br (Ze s) (.Lf (some ((c.1,(rgx c.2.1 c.2.1.2.2.2.2.2.2.2.1 (u16.wrap ((spOf c)-2)) (Zs s)),c.2.2)))) (.br (!x4||x2) (.br (x4) (.Lf (some ((c.1,ZP (rgx c.2.1 ((c.2.1.2.2.2.2.2.2.2.1.1,c.2.1.2.2.2.2.2.2.2.1.2.1,c.2.1.2.2.2.2.2.2.2.1.2.2.1,x5.1,x6.1,x6.2.1,x8.2)) (spOf c) (Zt x7)) 2 x8.1,c.2.2.1,false,false,c.2.2.2.2.2)))) (.Lf none)) (.Lf none))
theorem ZGt (a:HL ZH):EV0 41 a=ZsZ a.1 a.2.1 a.2.2.1 a.2.2.2:=by kernel_rfl
def ZsV (c:TC) (s:Int) (g:List Int) (ln:QT1):RT (Option TC):=
 let x1:=u16.wrap ((spOf c)-2)
 let x2:QT0:=(c,s==5,g,(0,0,0,0,0,0,0,0),[])
 let x3:=qAtC x2 0
 let x4:=Zc c.1 (qAt x2 0)
 let x5:= !x3||x4.1==45
 let x6:QT0:=(c,s==5,g,(45,x4.2),[])
 let x7:=ZgX x6
 .br (Ze s) (.Lf (some ((c.1,(rgx c.2.1 c.2.1.2.2.2.2.2.2.2.1 x1 (Zs s)),c.2.2)))) (.br (!x5||x3) (.br (x5) (.Lf (some ((c.1,(rgx c.2.1 c.2.1.2.2.2.2.2.2.2.1 (bif x7 then x1 else (spOf c)) (bif x7 then 64 else Zt x6)),c.2.2.1,false,false,c.2.2.2.2.2)))) (.Lf none)) (.Lf none))
theorem ZGp (a:HL ZH):EV0 45 a=ZsV a.1 a.2.1 a.2.2.1 a.2.2.2:=by kernel_rfl
end
end Go.Proofs.YtpnjbfjomebppaaGreat
