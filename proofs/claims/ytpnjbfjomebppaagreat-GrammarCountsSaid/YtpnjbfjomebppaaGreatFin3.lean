import Derived.Test.YtpnjbfjomebppaaGreatFin0
open Go.IntKind (u8 u16 i64)
set_option linter.unusedSimpArgs false
open Go Go.S3 Go.Proofs
set_option linter.unusedVariables false
set_option maxRecDepth 100000
namespace Go.Proofs.YtpnjbfjomebppaaGreat
noncomputable section
def Zv6 (c:TC) (s:Int) (g:List Int) (ln:QT0):RT (Option TC):=
 let x1:=Zc c.1 (mAt (c,s==5,g,[]) 0)
 let x2:=x1.2
 let x3:=Zt c.2.1 x2.2.2.2.1 (ZdW (c,s==5,g,[]) 1)
 let x4:=x3.2
 let x5:=x4.2
 let x6:=x5.2
 let x7:=x6.2
 let x8:=x7.2
 let x9:=x8.2
 let x10:=x9.2
 .br (Za s) (.Lf (some ((c.1,(rgx c.2.1 c.2.1.2.2.2.2.2.2.2.1 (u16.wrap ((spOf c)-2)) (Zu s)),c.2.2)))) (.br (!mAtC (c,s==5,g,[]) 0||x1.1==4) (.br (mAtC (c,s==5,g,[]) 0) (.br (ZbM (c,s==5,g,[]) 1) (.Lf (some ((c.1,(x3.1,x4.1,x5.1,x6.1,x7.1,x8.1,x9.1,x10.1,x10.2.1,Zq (c,s==5,g,[]) x2.1),c.2.2.1,false,false,c.2.2.2.2.2)))) (.Lf none)) (.Lf none)) (.Lf none))
theorem ZE4 (a:HL ZJ):EV0 4 a=Zv6 a.1 a.2.1 a.2.2.1 a.2.2.2:=by kernel_rfl
def Zv2 (c:TC) (s:Int) (g:List Int) (ln:QT0):RT (Option TC):=
 let x1:=Zc c.1 (mAt (c,s==5,g,[]) 0)
 .br (Za s) (.Lf (some ((c.1,(rgx c.2.1 c.2.1.2.2.2.2.2.2.2.1 (u16.wrap ((spOf c)-2)) (Zu s)),c.2.2)))) (.br (!mAtC (c,s==5,g,[]) 0||x1.1==8) (.br (mAtC (c,s==5,g,[]) 0) (.Lf (some ((c.1,(rgx c.2.1 c.2.1.2.2.2.2.2.2.2.1 (spOf c) (Zq (c,s==5,g,[]) x1.2.1)),c.2.2.1,false,false,c.2.2.2.2.2)))) (.Lf none)) (.Lf none))
theorem ZE0 (a:HL ZJ):EV0 8 a=Zv2 a.1 a.2.1 a.2.2.1 a.2.2.2:=by kernel_rfl
def ZpC (c:TC) (s:Int) (g:List Int) (ln:QT0):RT (Option TC):=
 let x1:=Zc c.1 (mAt (c,s==5,g,[]) 0)
 let x2:=x1.2
 let x3:=x2.2.2
 let x4:=x3.1
 let x5:=x4==6
 let x6:=rDo c.1 x3.2.2.1 c.2.1.1 (bif x5 then mAt (c,s==5,g,[]) 1 else rGet c.2.1 x4) c.2.1.2.2.2.2.2.2.2.1
 .br (Za s) (.Lf (some ((c.1,(rgx c.2.1 c.2.1.2.2.2.2.2.2.2.1 (u16.wrap ((spOf c)-2)) (Zu s)),c.2.2)))) (.br (!mAtC (c,s==5,g,[]) 0||x1.1==12) (.br (mAtC (c,s==5,g,[]) 0) (.br (!x5||mAtC (c,s==5,g,[]) 1) (.Lf (some ((c.1,(x6.1,c.2.1.2.1,c.2.1.2.2.1,c.2.1.2.2.2.1,c.2.1.2.2.2.2.1,c.2.1.2.2.2.2.2.1,c.2.1.2.2.2.2.2.2.1,x6.2,spOf c,Zq (c,s==5,g,[]) x2.1),c.2.2.1,false,false,c.2.2.2.2.2)))) (.Lf none)) (.Lf none)) (.Lf none))
theorem ZBD (a:HL ZJ):EV0 12 a=ZpC a.1 a.2.1 a.2.2.1 a.2.2.2:=by kernel_rfl
def Zpy (c:TC) (s:Int) (g:List Int) (ln:QT0):RT (Option TC):=
 let x1:=Zc c.1 (mAt (c,s==5,g,[]) 0)
 let x2:=x1.2
 let x3:=x2.2.2.2.1
 let x4:=rInx c.1 (Zae c.2.1 x3) c.2.1.2.2.2.2.2.2.2.1
 let x5:=Zt c.2.1 x3 x4.1
 let x6:=x5.2
 let x7:=x6.2
 let x8:=x7.2
 let x9:=x8.2
 let x10:=x9.2
 let x11:=x10.2
 .br (Za s) (.Lf (some ((c.1,(rgx c.2.1 c.2.1.2.2.2.2.2.2.2.1 (u16.wrap ((spOf c)-2)) (Zu s)),c.2.2)))) (.br (!mAtC (c,s==5,g,[]) 0||x1.1==16) (.br (mAtC (c,s==5,g,[]) 0) (.Lf (some ((c.1,(x5.1,x6.1,x7.1,x8.1,x9.1,x10.1,x11.1,x4.2,x11.2.2.1,Zq (c,s==5,g,[]) x2.1),c.2.2.1,false,false,c.2.2.2.2.2)))) (.Lf none)) (.Lf none))
theorem ZBz (a:HL ZJ):EV0 16 a=Zpy a.1 a.2.1 a.2.2.1 a.2.2.2:=by kernel_rfl
def Zpu (c:TC) (s:Int) (g:List Int) (ln:QT0):RT (Option TC):=
 let x1:=Zc c.1 (mAt (c,s==5,g,[]) 0)
 .br (Za s) (.Lf (some ((c.1,(rgx c.2.1 c.2.1.2.2.2.2.2.2.2.1 (u16.wrap ((spOf c)-2)) (Zu s)),c.2.2)))) (.br (!mAtC (c,s==5,g,[]) 0||x1.1==20) (.br (mAtC (c,s==5,g,[]) 0) (.Lf (some ((c.1,(u8.wrap (255-c.2.1.1),c.2.1.2.1,c.2.1.2.2.1,c.2.1.2.2.2.1,c.2.1.2.2.2.2.1,c.2.1.2.2.2.2.2.1,c.2.1.2.2.2.2.2.2.1,c.2.1.2.2.2.2.2.2.2.1,spOf c,Zq (c,s==5,g,[]) x1.2.1),c.2.2.1,false,false,c.2.2.2.2.2)))) (.Lf none)) (.Lf none))
theorem ZBv (a:HL ZJ):EV0 20 a=Zpu a.1 a.2.1 a.2.2.1 a.2.2.2:=by kernel_rfl
def Zpq (c:TC) (s:Int) (g:List Int) (ln:QT0):RT (Option TC):=
 let x1:=Zc c.1 (mAt (c,s==5,g,[]) 0)
 let x2:=x1.2
 let x3:= !ZdM (c,s==5,g,[]) (24,x2)
 let x4:=c.2.1.2.2.2.2.2.2.2.1.2.2.1
 let x5:=c.2.1.2.2.2.2.2.2.2.1.2.2.2
 let x6:=x5.1
 let x7:=x5.2
 let x8:=x7.1
 let x9:=x7.2
 let x10:=x9.1
 let x11:=x9.2
 .br (Za s) (.Lf (some ((c.1,(rgx c.2.1 c.2.1.2.2.2.2.2.2.2.1 (u16.wrap ((spOf c)-2)) (Zu s)),c.2.2)))) (.br (!mAtC (c,s==5,g,[]) 0||x1.1==24) (.br (mAtC (c,s==5,g,[]) 0) (.br (x3||ZbM (c,s==5,g,[]) 1) (.Lf (some ((bif x3 then c.1 else c.1,(bif x3 then c.2.1.1 else c.2.1.1,bif x3 then c.2.1.2.1 else c.2.1.2.1,bif x3 then c.2.1.2.2.1 else c.2.1.2.2.1,bif x3 then c.2.1.2.2.2.1 else c.2.1.2.2.2.1,bif x3 then c.2.1.2.2.2.2.1 else c.2.1.2.2.2.2.1,bif x3 then c.2.1.2.2.2.2.2.1 else c.2.1.2.2.2.2.2.1,bif x3 then c.2.1.2.2.2.2.2.2.1 else c.2.1.2.2.2.2.2.2.1,(bif x3 then c.2.1.2.2.2.2.2.2.2.1.1 else c.2.1.2.2.2.2.2.2.2.1.1,bif x3 then c.2.1.2.2.2.2.2.2.2.1.2.1 else c.2.1.2.2.2.2.2.2.2.1.2.1,bif x3 then x4 else x4,bif x3 then x6 else x6,bif x3 then x8 else x8,bif x3 then x10 else x10,bif x3 then x11 else x11),bif x3 then (spOf c) else (spOf c),bif x3 then Zq (c,s==5,g,[]) x2.1 else ZdW (c,s==5,g,[]) 1),bif x3 then c.2.2.1 else c.2.2.1,false,false,bif x3 then c.2.2.2.2.2.1 else c.2.2.2.2.2.1,bif x3 then c.2.2.2.2.2.2.1 else c.2.2.2.2.2.2.1,bif x3 then c.2.2.2.2.2.2.2.1 else c.2.2.2.2.2.2.2.1,bif x3 then c.2.2.2.2.2.2.2.2.1 else c.2.2.2.2.2.2.2.2.1,bif x3 then c.2.2.2.2.2.2.2.2.2.1 else c.2.2.2.2.2.2.2.2.2.1,bif x3 then c.2.2.2.2.2.2.2.2.2.2.1 else c.2.2.2.2.2.2.2.2.2.2.1,bif x3 then c.2.2.2.2.2.2.2.2.2.2.2.1 else c.2.2.2.2.2.2.2.2.2.2.2.1,bif x3 then c.2.2.2.2.2.2.2.2.2.2.2.2 else c.2.2.2.2.2.2.2.2.2.2.2.2)))) (.Lf none)) (.Lf none)) (.Lf none))
theorem ZBr (a:HL ZJ):EV0 24 a=Zpq a.1 a.2.1 a.2.2.1 a.2.2.2:=by kernel_rfl
def Zpm (c:TC) (s:Int) (g:List Int) (ln:QT0):RT (Option TC):=
 let x1:=Zc c.1 (mAt (c,s==5,g,[]) 0)
 .br (Za s) (.Lf (some ((c.1,(rgx c.2.1 c.2.1.2.2.2.2.2.2.2.1 (u16.wrap ((spOf c)-2)) (Zu s)),c.2.2)))) (.br (!mAtC (c,s==5,g,[]) 0||x1.1==28) (.br (mAtC (c,s==5,g,[]) 0) (.Lf (some ((c.1,(rgx c.2.1 c.2.1.2.2.2.2.2.2.2.1 (spOf c) (Zae (rgx c.2.1 c.2.1.2.2.2.2.2.2.2.1 (spOf c) (Zq (c,s==5,g,[]) x1.2.1)) 2)),c.2.2.1,false,false,c.2.2.2.2.2)))) (.Lf none)) (.Lf none))
theorem ZBn (a:HL ZJ):EV0 28 a=Zpm a.1 a.2.1 a.2.2.1 a.2.2.2:=by kernel_rfl
def Zpi (c:TC) (s:Int) (g:List Int) (ln:QT0):RT (Option TC):=
 let x1:=Zc c.1 (mAt (c,s==5,g,[]) 0)
 let x2:= !mAtC (c,s==5,g,[]) 1||mAtC (c,s==5,g,[]) 2
 let x3:= !x2||mAtC (c,s==5,g,[]) 1
 let x4:= !x3||x2
 .br (Za s) (.Lf (some ((c.1,(rgx c.2.1 c.2.1.2.2.2.2.2.2.2.1 (u16.wrap ((spOf c)-2)) (Zu s)),c.2.2)))) (.br (!mAtC (c,s==5,g,[]) 0||x1.1==32) (.br (mAtC (c,s==5,g,[]) 0) (.br (!x4||x3) (.br (x4) (.Lf (some ((c.1,(c.2.1.1,c.2.1.2.1,c.2.1.2.2.1,c.2.1.2.2.2.1,c.2.1.2.2.2.2.1,mAt (c,s==5,g,[]) 2,mAt (c,s==5,g,[]) 1,c.2.1.2.2.2.2.2.2.2.1,spOf c,Zq (c,s==5,g,[]) x1.2.1),c.2.2.1,false,false,c.2.2.2.2.2)))) (.Lf none)) (.Lf none)) (.Lf none)) (.Lf none))
theorem ZBj (a:HL ZJ):EV0 32 a=Zpi a.1 a.2.1 a.2.2.1 a.2.2.2:=by kernel_rfl
def Zpe (c:TC) (s:Int) (g:List Int) (ln:QT0):RT (Option TC):=
 let x1:=Zc c.1 (mAt (c,s==5,g,[]) 0)
 .br (Za s) (.Lf (some ((c.1,(rgx c.2.1 c.2.1.2.2.2.2.2.2.2.1 (u16.wrap ((spOf c)-2)) (Zu s)),c.2.2)))) (.br (!mAtC (c,s==5,g,[]) 0||x1.1==36) (.br (mAtC (c,s==5,g,[]) 0) (.Lf (some ((c.1,(rgx c.2.1 c.2.1.2.2.2.2.2.2.2.1 (spOf c) (Zq (c,s==5,g,[]) x1.2.1)),false,false,false,c.2.2.2.2.2)))) (.Lf none)) (.Lf none))
theorem ZBf (a:HL ZJ):EV0 36 a=Zpe a.1 a.2.1 a.2.2.1 a.2.2.2:=by kernel_rfl
def Zpa (c:TC) (s:Int) (g:List Int) (ln:QT0):RT (Option TC):=
 let x1:=Zc c.1 (mAt (c,s==5,g,[]) 0)
 let x2:=Zt c.2.1 2 (ZIG (Zae c.2.1 2) (Zae c.2.1 0)).1
 let x3:=x2.2
 let x4:=x3.2
 let x5:=x4.2
 let x6:=x5.2
 let x7:=x6.2
 let x8:=x7.2
 .br (Za s) (.Lf (some ((c.1,(rgx c.2.1 c.2.1.2.2.2.2.2.2.2.1 (u16.wrap ((spOf c)-2)) (Zu s)),c.2.2)))) (.br (!mAtC (c,s==5,g,[]) 0||x1.1==40) (.br (mAtC (c,s==5,g,[]) 0) (.Lf (some ((c.1,(x2.1,x3.1,x4.1,x5.1,x6.1,x7.1,x8.1,(ZIG (Zae c.2.1 2) (Zae c.2.1 0)).2,x8.2.2.1,Zq (c,s==5,g,[]) x1.2.1),c.2.2.1,false,false,c.2.2.2.2.2)))) (.Lf none)) (.Lf none))
theorem ZBb (a:HL ZJ):EV0 40 a=Zpa a.1 a.2.1 a.2.2.1 a.2.2.2:=by kernel_rfl
def Zo6 (c:TC) (s:Int) (g:List Int) (ln:QT0):RT (Option TC):=
 let x1:=Zc c.1 (mAt (c,s==5,g,[]) 0)
 let x2:=Zt c.2.1 1 (u16.wrap ((spOf c)+u16.wrap (mAt (c,s==5,g,[]) 1)))
 let x3:=x2.2
 let x4:=x3.2
 let x5:=x4.2
 let x6:=x5.2
 let x7:=x6.2
 let x8:=x7.2
 let x9:=x8.2
 .br (Za s) (.Lf (some ((c.1,(rgx c.2.1 c.2.1.2.2.2.2.2.2.2.1 (u16.wrap ((spOf c)-2)) (Zu s)),c.2.2)))) (.br (!mAtC (c,s==5,g,[]) 0||x1.1==44) (.br (mAtC (c,s==5,g,[]) 0) (.br (mAtC (c,s==5,g,[]) 1) (.Lf (some ((c.1,(x2.1,x3.1,x4.1,x5.1,x6.1,x7.1,x8.1,x9.1,x9.2.1,Zq (c,s==5,g,[]) x1.2.1),c.2.2.1,false,false,c.2.2.2.2.2)))) (.Lf none)) (.Lf none)) (.Lf none))
theorem ZA7 (a:HL ZJ):EV0 44 a=Zo6 a.1 a.2.1 a.2.2.1 a.2.2.2:=by kernel_rfl
end
end Go.Proofs.YtpnjbfjomebppaaGreat
