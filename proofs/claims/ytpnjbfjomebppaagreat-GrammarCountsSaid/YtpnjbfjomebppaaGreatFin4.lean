import Derived.Test.YtpnjbfjomebppaaGreatFin0
open Go.IntKind (u8 u16 i64)
set_option linter.unusedSimpArgs false
open Go Go.S3 Go.Proofs
set_option linter.unusedVariables false
set_option maxRecDepth 100000
namespace Go.Proofs.YtpnjbfjomebppaaGreat
noncomputable section
def Zv9 (c:TC) (s:Int) (g:List Int) (ln:QT0):RT (Option TC):=
 let x1:=Zc c.1 (mAt (c,s==5,g,[]) 0)
 .br (Za s) (.Lf (some ((c.1,(rgx c.2.1 c.2.1.2.2.2.2.2.2.2.1 (u16.wrap ((spOf c)-2)) (Zu s)),c.2.2)))) (.br (!mAtC (c,s==5,g,[]) 0||x1.1==1) (.br (mAtC (c,s==5,g,[]) 0) (.Lf (some ((c.1,(rgx c.2.1 c.2.1.2.2.2.2.2.2.2.1 (spOf c) (Zq (c,s==5,g,[]) x1.2.1)),c.2.2.1,false,false,c.2.2.2.2.2)))) (.Lf none)) (.Lf none))
theorem ZE7 (a:HL ZJ):EV0 1 a=Zv9 a.1 a.2.1 a.2.2.1 a.2.2.2:=by kernel_rfl
def Zv5 (c:TC) (s:Int) (g:List Int) (ln:QT0):RT (Option TC):=
 let x1:=Zc c.1 (mAt (c,s==5,g,[]) 0)
 .br (Za s) (.Lf (some ((c.1,(rgx c.2.1 c.2.1.2.2.2.2.2.2.2.1 (u16.wrap ((spOf c)-2)) (Zu s)),c.2.2)))) (.br (!mAtC (c,s==5,g,[]) 0||x1.1==5) (.br (mAtC (c,s==5,g,[]) 0) (.br (mAtC (c,s==5,g,[]) 3) (.Lf (some ((c.1,(mAt (c,s==5,g,[]) 3,c.2.1.2.1,c.2.1.2.2.1,c.2.1.2.2.2.1,c.2.1.2.2.2.2.1,c.2.1.2.2.2.2.2.1,c.2.1.2.2.2.2.2.2.1,c.2.1.2.2.2.2.2.2.2.1,spOf c,Zq (c,s==5,g,[]) x1.2.1),c.2.2.1,false,false,c.2.2.2.2.2)))) (.Lf none)) (.Lf none)) (.Lf none))
theorem ZE3 (a:HL ZJ):EV0 5 a=Zv5 a.1 a.2.1 a.2.2.1 a.2.2.2:=by kernel_rfl
def Zv1 (c:TC) (s:Int) (g:List Int) (ln:QT0):RT (Option TC):=
 let x1:=Zc c.1 (mAt (c,s==5,g,[]) 0)
 .br (Za s) (.Lf (some ((c.1,(rgx c.2.1 c.2.1.2.2.2.2.2.2.2.1 (u16.wrap ((spOf c)-2)) (Zu s)),c.2.2)))) (.br (!mAtC (c,s==5,g,[]) 0||x1.1==9) (.br (mAtC (c,s==5,g,[]) 0) (.br (mAtC (c,s==5,g,[]) 1) (.Lf (some ((c.1,(mAt (c,s==5,g,[]) 1,c.2.1.2.1,c.2.1.2.2.1,c.2.1.2.2.2.1,c.2.1.2.2.2.2.1,c.2.1.2.2.2.2.2.1,c.2.1.2.2.2.2.2.2.1,c.2.1.2.2.2.2.2.2.2.1,spOf c,Zq (c,s==5,g,[]) x1.2.1),c.2.2.1,false,false,c.2.2.2.2.2)))) (.Lf none)) (.Lf none)) (.Lf none))
theorem ZEZ (a:HL ZJ):EV0 9 a=Zv1 a.1 a.2.1 a.2.2.1 a.2.2.2:=by kernel_rfl
def ZpB (c:TC) (s:Int) (g:List Int) (ln:QT0):RT (Option TC):=
 let x1:=Zc c.1 (mAt (c,s==5,g,[]) 0)
 let x2:=x1.2
 let x3:=rDo c.1 x2.2.2.2.2.1 c.2.1.1 (mAt (c,s==5,g,[]) 1) c.2.1.2.2.2.2.2.2.2.1
 .br (Za s) (.Lf (some ((c.1,(rgx c.2.1 c.2.1.2.2.2.2.2.2.2.1 (u16.wrap ((spOf c)-2)) (Zu s)),c.2.2)))) (.br (!mAtC (c,s==5,g,[]) 0||x1.1==13) (.br (mAtC (c,s==5,g,[]) 0) (.br (mAtC (c,s==5,g,[]) 1) (.Lf (some ((c.1,(x3.1,c.2.1.2.1,c.2.1.2.2.1,c.2.1.2.2.2.1,c.2.1.2.2.2.2.1,c.2.1.2.2.2.2.2.1,c.2.1.2.2.2.2.2.2.1,x3.2,spOf c,Zq (c,s==5,g,[]) x2.1),c.2.2.1,false,false,c.2.2.2.2.2)))) (.Lf none)) (.Lf none)) (.Lf none))
theorem ZBC (a:HL ZJ):EV0 13 a=ZpB a.1 a.2.1 a.2.2.1 a.2.2.2:=by kernel_rfl
def Zpx (c:TC) (s:Int) (g:List Int) (ln:QT0):RT (Option TC):=
 let x1:=Zc c.1 (mAt (c,s==5,g,[]) 0)
 let x2:=x1.2
 let x3:=x2.2.2.2.1
 let x4:=rDcx c.1 (Zae c.2.1 x3) c.2.1.2.2.2.2.2.2.2.1
 let x5:=Zt c.2.1 x3 x4.1
 let x6:=x5.2
 let x7:=x6.2
 let x8:=x7.2
 let x9:=x8.2
 let x10:=x9.2
 let x11:=x10.2
 .br (Za s) (.Lf (some ((c.1,(rgx c.2.1 c.2.1.2.2.2.2.2.2.2.1 (u16.wrap ((spOf c)-2)) (Zu s)),c.2.2)))) (.br (!mAtC (c,s==5,g,[]) 0||x1.1==17) (.br (mAtC (c,s==5,g,[]) 0) (.Lf (some ((c.1,(x5.1,x6.1,x7.1,x8.1,x9.1,x10.1,x11.1,x4.2,x11.2.2.1,Zq (c,s==5,g,[]) x2.1),c.2.2.1,false,false,c.2.2.2.2.2)))) (.Lf none)) (.Lf none))
theorem ZBy (a:HL ZJ):EV0 17 a=Zpx a.1 a.2.1 a.2.2.1 a.2.2.2:=by kernel_rfl
def Zpt (c:TC) (s:Int) (g:List Int) (ln:QT0):RT (Option TC):=
 let x1:=Zc c.1 (mAt (c,s==5,g,[]) 0)
 let x2:=c.2.1.2.2.2.2.2.2.2.1.2.2.2
 let x3:=x2.2
 .br (Za s) (.Lf (some ((c.1,(rgx c.2.1 c.2.1.2.2.2.2.2.2.2.1 (u16.wrap ((spOf c)-2)) (Zu s)),c.2.2)))) (.br (!mAtC (c,s==5,g,[]) 0||x1.1==21) (.br (mAtC (c,s==5,g,[]) 0) (.Lf (some ((c.1,(rgx c.2.1 ((c.2.1.2.2.2.2.2.2.2.1.1,c.2.1.2.2.2.2.2.2.2.1.2.1,c.2.1.2.2.2.2.2.2.2.1.2.2.1,x2.1,x3.1,x3.2.1,true)) (spOf c) (Zq (c,s==5,g,[]) x1.2.1)),c.2.2.1,false,false,c.2.2.2.2.2)))) (.Lf none)) (.Lf none))
theorem ZBu (a:HL ZJ):EV0 21 a=Zpt a.1 a.2.1 a.2.2.1 a.2.2.2:=by kernel_rfl
def Zpp (c:TC) (s:Int) (g:List Int) (ln:QT0):RT (Option TC):=
 let x1:=u16.wrap ((spOf c)-2)
 let x2:=Zc c.1 (mAt (c,s==5,g,[]) 0)
 let x3:=x2.2
 let x4:= !ZdM (c,s==5,g,[]) (25,x3)
 let x5:=c.2.1.2.2.2.2.2.2.2.1.2.2.1
 let x6:=c.2.1.2.2.2.2.2.2.2.1.2.2.2
 let x7:=x6.1
 let x8:=x6.2
 let x9:=x8.1
 let x10:=x8.2
 let x11:=x10.1
 let x12:=x10.2
 .br (Za s) (.Lf (some ((c.1,(rgx c.2.1 c.2.1.2.2.2.2.2.2.2.1 x1 (Zu s)),c.2.2)))) (.br (!mAtC (c,s==5,g,[]) 0||x2.1==25) (.br (mAtC (c,s==5,g,[]) 0) (.br (x4||ZbM (c,s==5,g,[]) 1) (.Lf (some ((bif x4 then c.1 else c.1,(bif x4 then c.2.1.1 else c.2.1.1,bif x4 then c.2.1.2.1 else c.2.1.2.1,bif x4 then c.2.1.2.2.1 else c.2.1.2.2.1,bif x4 then c.2.1.2.2.2.1 else c.2.1.2.2.2.1,bif x4 then c.2.1.2.2.2.2.1 else c.2.1.2.2.2.2.1,bif x4 then c.2.1.2.2.2.2.2.1 else c.2.1.2.2.2.2.2.1,bif x4 then c.2.1.2.2.2.2.2.2.1 else c.2.1.2.2.2.2.2.2.1,(bif x4 then c.2.1.2.2.2.2.2.2.2.1.1 else c.2.1.2.2.2.2.2.2.2.1.1,bif x4 then c.2.1.2.2.2.2.2.2.2.1.2.1 else c.2.1.2.2.2.2.2.2.2.1.2.1,bif x4 then x5 else x5,bif x4 then x7 else x7,bif x4 then x9 else x9,bif x4 then x11 else x11,bif x4 then x12 else x12),bif x4 then (spOf c) else x1,bif x4 then Zq (c,s==5,g,[]) x3.1 else ZdW (c,s==5,g,[]) 1),bif x4 then c.2.2.1 else c.2.2.1,false,false,bif x4 then c.2.2.2.2.2.1 else c.2.2.2.2.2.1,bif x4 then c.2.2.2.2.2.2.1 else c.2.2.2.2.2.2.1,bif x4 then c.2.2.2.2.2.2.2.1 else c.2.2.2.2.2.2.2.1,bif x4 then c.2.2.2.2.2.2.2.2.1 else c.2.2.2.2.2.2.2.2.1,bif x4 then c.2.2.2.2.2.2.2.2.2.1 else c.2.2.2.2.2.2.2.2.2.1,bif x4 then c.2.2.2.2.2.2.2.2.2.2.1 else c.2.2.2.2.2.2.2.2.2.2.1,bif x4 then c.2.2.2.2.2.2.2.2.2.2.2.1 else c.2.2.2.2.2.2.2.2.2.2.2.1,bif x4 then c.2.2.2.2.2.2.2.2.2.2.2.2 else c.2.2.2.2.2.2.2.2.2.2.2.2)))) (.Lf none)) (.Lf none)) (.Lf none))
theorem ZBq (a:HL ZJ):EV0 25 a=Zpp a.1 a.2.1 a.2.2.1 a.2.2.2:=by kernel_rfl
def Zpl (c:TC) (s:Int) (g:List Int) (ln:QT0):RT (Option TC):=
 let x1:=Zc c.1 (mAt (c,s==5,g,[]) 0)
 .br (Za s) (.Lf (some ((c.1,(rgx c.2.1 c.2.1.2.2.2.2.2.2.2.1 (u16.wrap ((spOf c)-2)) (Zu s)),c.2.2)))) (.br (!mAtC (c,s==5,g,[]) 0||x1.1==29) (.br (mAtC (c,s==5,g,[]) 0) (.Lf (some ((c.1,(rgx c.2.1 c.2.1.2.2.2.2.2.2.2.1 (Zae c.2.1 2) (Zq (c,s==5,g,[]) x1.2.1)),c.2.2.1,false,false,c.2.2.2.2.2)))) (.Lf none)) (.Lf none))
theorem ZBm (a:HL ZJ):EV0 29 a=Zpl a.1 a.2.1 a.2.2.1 a.2.2.2:=by kernel_rfl
def Zph (c:TC) (s:Int) (g:List Int) (ln:QT0):RT (Option TC):=
 let x1:=Zc c.1 (mAt (c,s==5,g,[]) 0)
 .br (Za s) (.Lf (some ((c.1,(rgx c.2.1 c.2.1.2.2.2.2.2.2.2.1 (u16.wrap ((spOf c)-2)) (Zu s)),c.2.2)))) (.br (!mAtC (c,s==5,g,[]) 0||x1.1==33) (.br (mAtC (c,s==5,g,[]) 0) (.br (mAtC (c,s==5,g,[]) 2) (.Lf (some ((c.1,(mAt (c,s==5,g,[]) 2,c.2.1.2.1,c.2.1.2.2.1,c.2.1.2.2.2.1,c.2.1.2.2.2.2.1,c.2.1.2.2.2.2.2.1,c.2.1.2.2.2.2.2.2.1,c.2.1.2.2.2.2.2.2.2.1,spOf c,Zq (c,s==5,g,[]) x1.2.1),c.2.2.1,false,false,c.2.2.2.2.2)))) (.Lf none)) (.Lf none)) (.Lf none))
theorem ZBi (a:HL ZJ):EV0 33 a=Zph a.1 a.2.1 a.2.2.1 a.2.2.2:=by kernel_rfl
def Zpd (c:TC) (s:Int) (g:List Int) (ln:QT0):RT (Option TC):=
 let x1:=Zc c.1 (mAt (c,s==5,g,[]) 0)
 .br (Za s) (.Lf (some ((c.1,(rgx c.2.1 c.2.1.2.2.2.2.2.2.2.1 (u16.wrap ((spOf c)-2)) (Zu s)),c.2.2)))) (.br (!mAtC (c,s==5,g,[]) 0||x1.1==37) (.br (mAtC (c,s==5,g,[]) 0) (.Lf (some ((c.1,(rgx c.2.1 c.2.1.2.2.2.2.2.2.2.1 (spOf c) (Zq (c,s==5,g,[]) x1.2.1)),c.2.2.1,false,true,c.2.2.2.2.2)))) (.Lf none)) (.Lf none))
theorem ZBe (a:HL ZJ):EV0 37 a=Zpd a.1 a.2.1 a.2.2.1 a.2.2.2:=by kernel_rfl
def Zo9 (c:TC) (s:Int) (g:List Int) (ln:QT0):RT (Option TC):=
 let x1:=Zc c.1 (mAt (c,s==5,g,[]) 0)
 let x2:Int×Int×Int×Int×Int×TF×Int×Int:=(Zt c.2.1 2 (ZBI (Zae c.2.1 2)).1).2.2
 let x3:=x2.2
 let x4:=x3.2
 let x5:=x4.2
 let x6:=x5.2
 let x7:=x6.2
 let x8:=x7.1
 let x9:=x8.2
 let x10:=x9.2
 let x11:=x10.2
 let x12:=x11.2
 .br (Za s) (.Lf (some ((c.1,(rgx c.2.1 c.2.1.2.2.2.2.2.2.2.1 (u16.wrap ((spOf c)-2)) (Zu s)),c.2.2)))) (.br (!mAtC (c,s==5,g,[]) 0||x1.1==41) (.br (mAtC (c,s==5,g,[]) 0) (.Lf (some ((c.1,((Zt c.2.1 2 (ZBI (Zae c.2.1 2)).1).1,(Zt c.2.1 2 (ZBI (Zae c.2.1 2)).1).2.1,x2.1,x3.1,x4.1,x5.1,x6.1,(x8.1,x9.1,x10.1,x11.1,x12.1,x12.2.1,(ZBI (Zae c.2.1 2)).2),x7.2.1,Zq (c,s==5,g,[]) x1.2.1),c.2.2.1,false,false,c.2.2.2.2.2)))) (.Lf none)) (.Lf none))
theorem ZBa (a:HL ZJ):EV0 41 a=Zo9 a.1 a.2.1 a.2.2.1 a.2.2.2:=by kernel_rfl
def Zo5 (c:TC) (s:Int) (g:List Int) (ln:QT0):RT (Option TC):=
 let x1:=u16.wrap ((spOf c)-2)
 let x2:=Zc c.1 (mAt (c,s==5,g,[]) 0)
 let x3:=x2.2
 let x4:= !ZdM (c,s==5,g,[]) (45,x3)
 let x5:=c.2.1.2.2.2.2.2.2.2.1.2.2.1
 let x6:=c.2.1.2.2.2.2.2.2.2.1.2.2.2
 let x7:=x6.1
 let x8:=x6.2
 let x9:=x8.1
 let x10:=x8.2
 let x11:=x10.1
 let x12:=x10.2
 .br (Za s) (.Lf (some ((c.1,(rgx c.2.1 c.2.1.2.2.2.2.2.2.2.1 x1 (Zu s)),c.2.2)))) (.br (!mAtC (c,s==5,g,[]) 0||x2.1==45) (.br (mAtC (c,s==5,g,[]) 0) (.Lf (some ((bif x4 then c.1 else c.1,(bif x4 then c.2.1.1 else c.2.1.1,bif x4 then c.2.1.2.1 else c.2.1.2.1,bif x4 then c.2.1.2.2.1 else c.2.1.2.2.1,bif x4 then c.2.1.2.2.2.1 else c.2.1.2.2.2.1,bif x4 then c.2.1.2.2.2.2.1 else c.2.1.2.2.2.2.1,bif x4 then c.2.1.2.2.2.2.2.1 else c.2.1.2.2.2.2.2.1,bif x4 then c.2.1.2.2.2.2.2.2.1 else c.2.1.2.2.2.2.2.2.1,(bif x4 then c.2.1.2.2.2.2.2.2.2.1.1 else c.2.1.2.2.2.2.2.2.2.1.1,bif x4 then c.2.1.2.2.2.2.2.2.2.1.2.1 else c.2.1.2.2.2.2.2.2.2.1.2.1,bif x4 then x5 else x5,bif x4 then x7 else x7,bif x4 then x9 else x9,bif x4 then x11 else x11,bif x4 then x12 else x12),bif x4 then (spOf c) else x1,bif x4 then Zq (c,s==5,g,[]) x3.1 else 64),bif x4 then c.2.2.1 else c.2.2.1,false,false,bif x4 then c.2.2.2.2.2.1 else c.2.2.2.2.2.1,bif x4 then c.2.2.2.2.2.2.1 else c.2.2.2.2.2.2.1,bif x4 then c.2.2.2.2.2.2.2.1 else c.2.2.2.2.2.2.2.1,bif x4 then c.2.2.2.2.2.2.2.2.1 else c.2.2.2.2.2.2.2.2.1,bif x4 then c.2.2.2.2.2.2.2.2.2.1 else c.2.2.2.2.2.2.2.2.2.1,bif x4 then c.2.2.2.2.2.2.2.2.2.2.1 else c.2.2.2.2.2.2.2.2.2.2.1,bif x4 then c.2.2.2.2.2.2.2.2.2.2.2.1 else c.2.2.2.2.2.2.2.2.2.2.2.1,bif x4 then c.2.2.2.2.2.2.2.2.2.2.2.2 else c.2.2.2.2.2.2.2.2.2.2.2.2)))) (.Lf none)) (.Lf none))
theorem ZA6 (a:HL ZJ):EV0 45 a=Zo5 a.1 a.2.1 a.2.2.1 a.2.2.2:=by kernel_rfl
end
end Go.Proofs.YtpnjbfjomebppaaGreat
