import Derived.Test.YtghoimllhpjkjaaGreatFin0
open Go.IntKind (u8 u16 i64)
set_option linter.unusedSimpArgs false
open Go Go.S3 Go.Proofs
set_option linter.unusedVariables false
set_option maxRecDepth 100000
namespace Go.Proofs.YtghoimllhpjkjaaGreat
noncomputable section
def ZvB (c:TC) (s:Int) (g:List Int) (ln:QT0):RT (Option TC):=
 let x1:=Zc c.1 (mAt (c,s==5,g,[]) 0)
 let x2:=x1.2
 let x3:=x2.2
 let x4:=x3.2.1
 let x5:=x4==6
 let x6:=rSet c.2.1 x3.1 (bif x5 then mAt (c,s==5,g,[]) 1 else rGet c.2.1 x4)
 let x7:=x6.2
 let x8:=x7.2
 let x9:=x8.2
 let x10:=x9.2
 let x11:=x10.2
 let x12:=x11.2
 let x13:=x12.2
 .br (Za s) (.Lf (some ((c.1,(rgx c.2.1 c.2.1.2.2.2.2.2.2.2.1 (u16.wrap ((spOf c)-2)) (Zu s)),c.2.2)))) (.br (!mAtC (c,s==5,g,[]) 0||x1.1==2) (.br (mAtC (c,s==5,g,[]) 0) (.br (!x5||mAtC (c,s==5,g,[]) 1) (.Lf (some ((c.1,(x6.1,x7.1,x8.1,x9.1,x10.1,x11.1,x12.1,x13.1,x13.2.1,Zo (c,s==5,g,[]) x2.1),c.2.2.1,false,false,c.2.2.2.2.2)))) (.Lf none)) (.Lf none)) (.Lf none))
theorem ZEp (a:HL ZJ):EV0 2 a=ZvB a.1 a.2.1 a.2.2.1 a.2.2.2:=by kernel_rfl
def Zvx (c:TC) (s:Int) (g:List Int) (ln:QT0):RT (Option TC):=
 let x1:=Zc c.1 (mAt (c,s==5,g,[]) 0)
 .br (Za s) (.Lf (some ((c.1,(rgx c.2.1 c.2.1.2.2.2.2.2.2.2.1 (u16.wrap ((spOf c)-2)) (Zu s)),c.2.2)))) (.br (!mAtC (c,s==5,g,[]) 0||x1.1==6) (.br (mAtC (c,s==5,g,[]) 0) (.Lf (some ((c.1,(rgx c.2.1 c.2.1.2.2.2.2.2.2.2.1 (spOf c) (Zo (c,s==5,g,[]) x1.2.1)),c.2.2.1,false,false,c.2.2.2.2.2)))) (.Lf none)) (.Lf none))
theorem ZEl (a:HL ZJ):EV0 6 a=Zvx a.1 a.2.1 a.2.2.1 a.2.2.2:=by kernel_rfl
def Zpd (c:TC) (s:Int) (g:List Int) (ln:QT0):RT (Option TC):=
 let x1:=Zc c.1 (mAt (c,s==5,g,[]) 0)
 .br (Za s) (.Lf (some ((c.1,(rgx c.2.1 c.2.1.2.2.2.2.2.2.2.1 (u16.wrap ((spOf c)-2)) (Zu s)),c.2.2)))) (.br (!mAtC (c,s==5,g,[]) 0||x1.1==10) (.br (mAtC (c,s==5,g,[]) 0) (.Lf (some ((c.1,(rgx c.2.1 c.2.1.2.2.2.2.2.2.2.1 (spOf c) (Zo (c,s==5,g,[]) x1.2.1)),c.2.2.1,false,false,c.2.2.2.2.2)))) (.Lf none)) (.Lf none))
theorem ZA0 (a:HL ZJ):EV0 10 a=Zpd a.1 a.2.1 a.2.2.1 a.2.2.2:=by kernel_rfl
def Zo9 (c:TC) (s:Int) (g:List Int) (ln:QT0):RT (Option TC):=
 let x1:=Zc c.1 (mAt (c,s==5,g,[]) 0)
 let x2:=x1.2
 let x3:=x2.2.1
 let x4:=x3==6
 let x5:=Zfn c (14,x2) (bif x4 then mAt (c,s==5,g,[]) 1 else rGet c.2.1 x3)
 let x6:=rSet c.2.1 x3 x5.1
 let x7:=x6.2
 let x8:=x7.2
 let x9:=x8.2
 let x10:=x9.2
 let x11:=x10.2
 let x12:=x11.2
 .br (Za s) (.Lf (some ((c.1,(rgx c.2.1 c.2.1.2.2.2.2.2.2.2.1 (u16.wrap ((spOf c)-2)) (Zu s)),c.2.2)))) (.br (!mAtC (c,s==5,g,[]) 0||x1.1==14) (.br (mAtC (c,s==5,g,[]) 0) (.br (!x4||mAtC (c,s==5,g,[]) 1) (.Lf (some ((c.1,(x6.1,x7.1,x8.1,x9.1,x10.1,x11.1,x12.1,x5.2,x12.2.2.1,Zo (c,s==5,g,[]) x2.1),c.2.2.1,false,false,c.2.2.2.2.2)))) (.Lf none)) (.Lf none)) (.Lf none))
theorem ZAW (a:HL ZJ):EV0 14 a=Zo9 a.1 a.2.1 a.2.2.1 a.2.2.2:=by kernel_rfl
def Zo5 (c:TC) (s:Int) (g:List Int) (ln:QT0):RT (Option TC):=
 let x1:=Zc c.1 (mAt (c,s==5,g,[]) 0)
 let x2:=x1.2
 let x3:=rDad c.1 (Zab c.2.1 2) (Zab c.2.1 x2.2.2.2.1) c.2.1.2.2.2.2.2.2.2.1
 let x4:=Zt c.2.1 2 x3.1
 let x5:=x4.2
 let x6:=x5.2
 let x7:=x6.2
 let x8:=x7.2
 let x9:=x8.2
 let x10:=x9.2
 .br (Za s) (.Lf (some ((c.1,(rgx c.2.1 c.2.1.2.2.2.2.2.2.2.1 (u16.wrap ((spOf c)-2)) (Zu s)),c.2.2)))) (.br (!mAtC (c,s==5,g,[]) 0||x1.1==18) (.br (mAtC (c,s==5,g,[]) 0) (.Lf (some ((c.1,(x4.1,x5.1,x6.1,x7.1,x8.1,x9.1,x10.1,x3.2,x10.2.2.1,Zo (c,s==5,g,[]) x2.1),c.2.2.1,false,false,c.2.2.2.2.2)))) (.Lf none)) (.Lf none))
theorem ZAS (a:HL ZJ):EV0 18 a=Zo5 a.1 a.2.1 a.2.2.1 a.2.2.2:=by kernel_rfl
def Zo1 (c:TC) (s:Int) (g:List Int) (ln:QT0):RT (Option TC):=
 let x1:=Zc c.1 (mAt (c,s==5,g,[]) 0)
 let x2:=c.2.1.2.2.2.2.2.2.2.1.2.2.2
 let x3:=x2.2
 let x4:=x3.2
 .br (Za s) (.Lf (some ((c.1,(rgx c.2.1 c.2.1.2.2.2.2.2.2.2.1 (u16.wrap ((spOf c)-2)) (Zu s)),c.2.2)))) (.br (!mAtC (c,s==5,g,[]) 0||x1.1==22) (.br (mAtC (c,s==5,g,[]) 0) (.Lf (some ((c.1,(rgx c.2.1 ((c.2.1.2.2.2.2.2.2.2.1.1,c.2.1.2.2.2.2.2.2.2.1.2.1,c.2.1.2.2.2.2.2.2.2.1.2.2.1,x2.1,x3.1,x4.1,!x4.2)) (spOf c) (Zo (c,s==5,g,[]) x1.2.1)),c.2.2.1,false,false,c.2.2.2.2.2)))) (.Lf none)) (.Lf none))
theorem ZAO (a:HL ZJ):EV0 22 a=Zo1 a.1 a.2.1 a.2.2.1 a.2.2.2:=by kernel_rfl
def ZoX (c:TC) (s:Int) (g:List Int) (ln:QT0):RT (Option TC):=
 let x1:=Zc c.1 (mAt (c,s==5,g,[]) 0)
 let x2:=x1.2
 let x3:= !ZdC (c,s==5,g,[]) (26,x2)
 let x4:=c.2.1.2.2.2.2.2.2.2.1.2.2.1
 let x5:=c.2.1.2.2.2.2.2.2.2.1.2.2.2
 let x6:=x5.1
 let x7:=x5.2
 let x8:=x7.1
 let x9:=x7.2
 let x10:=x9.1
 let x11:=x9.2
 .br (Za s) (.Lf (some ((c.1,(rgx c.2.1 c.2.1.2.2.2.2.2.2.2.1 (u16.wrap ((spOf c)-2)) (Zu s)),c.2.2)))) (.br (!mAtC (c,s==5,g,[]) 0||x1.1==26) (.br (mAtC (c,s==5,g,[]) 0) (.br (x3||ZbC (c,s==5,g,[]) 1) (.Lf (some ((bif x3 then c.1 else c.1,(bif x3 then c.2.1.1 else c.2.1.1,bif x3 then c.2.1.2.1 else c.2.1.2.1,bif x3 then c.2.1.2.2.1 else c.2.1.2.2.1,bif x3 then c.2.1.2.2.2.1 else c.2.1.2.2.2.1,bif x3 then c.2.1.2.2.2.2.1 else c.2.1.2.2.2.2.1,bif x3 then c.2.1.2.2.2.2.2.1 else c.2.1.2.2.2.2.2.1,bif x3 then c.2.1.2.2.2.2.2.2.1 else c.2.1.2.2.2.2.2.2.1,(bif x3 then c.2.1.2.2.2.2.2.2.2.1.1 else c.2.1.2.2.2.2.2.2.2.1.1,bif x3 then c.2.1.2.2.2.2.2.2.2.1.2.1 else c.2.1.2.2.2.2.2.2.2.1.2.1,bif x3 then x4 else x4,bif x3 then x6 else x6,bif x3 then x8 else x8,bif x3 then x10 else x10,bif x3 then x11 else x11),bif x3 then (spOf c) else u16.wrap ((spOf c)+2),bif x3 then Zo (c,s==5,g,[]) x2.1 else ZdL (c,s==5,g,[]) 1),bif x3 then c.2.2.1 else c.2.2.1,false,false,bif x3 then c.2.2.2.2.2.1 else c.2.2.2.2.2.1,bif x3 then c.2.2.2.2.2.2.1 else c.2.2.2.2.2.2.1,bif x3 then c.2.2.2.2.2.2.2.1 else c.2.2.2.2.2.2.2.1,bif x3 then c.2.2.2.2.2.2.2.2.1 else c.2.2.2.2.2.2.2.2.1,bif x3 then c.2.2.2.2.2.2.2.2.2.1 else c.2.2.2.2.2.2.2.2.2.1,bif x3 then c.2.2.2.2.2.2.2.2.2.2.1 else c.2.2.2.2.2.2.2.2.2.2.1,bif x3 then c.2.2.2.2.2.2.2.2.2.2.2.1 else c.2.2.2.2.2.2.2.2.2.2.2.1,bif x3 then c.2.2.2.2.2.2.2.2.2.2.2.2 else c.2.2.2.2.2.2.2.2.2.2.2.2)))) (.Lf none)) (.Lf none)) (.Lf none))
theorem ZAK (a:HL ZJ):EV0 26 a=ZoX a.1 a.2.1 a.2.2.1 a.2.2.2:=by kernel_rfl
def ZoT (c:TC) (s:Int) (g:List Int) (ln:QT0):RT (Option TC):=
 let x1:=u16.wrap ((spOf c)-2)
 let x2:=Zc c.1 (mAt (c,s==5,g,[]) 0)
 .br (Za s) (.Lf (some ((c.1,(rgx c.2.1 c.2.1.2.2.2.2.2.2.2.1 x1 (Zu s)),c.2.2)))) (.br (!mAtC (c,s==5,g,[]) 0||x2.1==30) (.br (mAtC (c,s==5,g,[]) 0) (.Lf (some ((c.1,(rgx c.2.1 c.2.1.2.2.2.2.2.2.2.1 x1 (Zo (c,s==5,g,[]) x2.2.1)),c.2.2.1,false,false,c.2.2.2.2.2)))) (.Lf none)) (.Lf none))
theorem ZAG (a:HL ZJ):EV0 30 a=ZoT a.1 a.2.1 a.2.2.1 a.2.2.2:=by kernel_rfl
def ZoP (c:TC) (s:Int) (g:List Int) (ln:QT0):RT (Option TC):=
 let x1:=Zc c.1 (mAt (c,s==5,g,[]) 0)
 .br (Za s) (.Lf (some ((c.1,(rgx c.2.1 c.2.1.2.2.2.2.2.2.2.1 (u16.wrap ((spOf c)-2)) (Zu s)),c.2.2)))) (.br (!mAtC (c,s==5,g,[]) 0||x1.1==34) (.br (mAtC (c,s==5,g,[]) 0) (.Lf (some ((c.1,(rgx c.2.1 c.2.1.2.2.2.2.2.2.2.1 (spOf c) (Zo (c,s==5,g,[]) x1.2.1)),c.2.2.1,false,false,c.2.2.2.2.2)))) (.Lf none)) (.Lf none))
theorem ZAC (a:HL ZJ):EV0 34 a=ZoP a.1 a.2.1 a.2.2.1 a.2.2.2:=by kernel_rfl
def ZoL (c:TC) (s:Int) (g:List Int) (ln:QT0):RT (Option TC):=
 let x1:=Zc c.1 (mAt (c,s==5,g,[]) 0)
 let x2:=rRim (c.1,(rgx c.2.1 c.2.1.2.2.2.2.2.2.2.1 (spOf c) (Zo (c,s==5,g,[]) x1.2.1)),c.2.2) ln
 let x3:=x2.2
 let x4:=x3.2
 let x5:=x4.2
 let x6:=x5.2.2.2
 let x7:=x6.2
 let x8:=x7.2
 let x9:=x8.2
 let x10:=x9.2
 .br (Za s) (.Lf (some ((c.1,(rgx c.2.1 c.2.1.2.2.2.2.2.2.2.1 (u16.wrap ((spOf c)-2)) (Zu s)),c.2.2)))) (.br (!mAtC (c,s==5,g,[]) 0||x1.1==38) (.br (mAtC (c,s==5,g,[]) 0) (.Lf (some ((x3.1,(x2.1,x4.1.2),x5.1,false,false,x6.1,x7.1,x8.1,x9.1,x10.1,false,false,x10.2.2.2)))) (.Lf none)) (.Lf none))
theorem ZAy (a:HL ZJ):EV0 38 a=ZoL a.1 a.2.1 a.2.2.1 a.2.2.2:=by kernel_rfl
def ZoH (c:TC) (s:Int) (g:List Int) (ln:QT0):RT (Option TC):=
 let x1:=Zc c.1 (mAt (c,s==5,g,[]) 0)
 let x2:=ZHy (Zab c.2.1 1) c.2.1.2.2.2.2.2.2.2.1.2.2.2.2.2.2
 let x3:=Zt c.2.1 1 x2.1
 let x4:=x3.2
 let x5:=x4.2
 let x6:=x5.2
 let x7:=x6.2
 let x8:=x7.2
 let x9:=x8.2
 let x10:=x9.2
 let x11:=x10.1
 let x12:=x11.2
 let x13:=x12.2
 let x14:=x13.2
 let x15:=x2.2
 .br (Za s) (.Lf (some ((c.1,(rgx c.2.1 c.2.1.2.2.2.2.2.2.2.1 (u16.wrap ((spOf c)-2)) (Zu s)),c.2.2)))) (.br (!mAtC (c,s==5,g,[]) 0||x1.1==42) (.br (mAtC (c,s==5,g,[]) 0) (.Lf (some ((c.1,(x3.1,x4.1,x5.1,x6.1,x7.1,x8.1,x9.1,(x11.1,x12.1,x13.1,x14.1,x14.2.1,x15.2,x15.1),x10.2.1,Zo (c,s==5,g,[]) x1.2.1),c.2.2.1,false,false,c.2.2.2.2.2)))) (.Lf none)) (.Lf none))
theorem ZAu (a:HL ZJ):EV0 42 a=ZoH a.1 a.2.1 a.2.2.1 a.2.2.2:=by kernel_rfl
def ZoD (c:TC) (s:Int) (g:List Int) (ln:QT0):RT (Option TC):=
 let x1:=Zc c.1 (mAt (c,s==5,g,[]) 0)
 .br (Za s) (.Lf (some ((c.1,(rgx c.2.1 c.2.1.2.2.2.2.2.2.2.1 (u16.wrap ((spOf c)-2)) (Zu s)),c.2.2)))) (.br (!mAtC (c,s==5,g,[]) 0||x1.1==46) (.br (mAtC (c,s==5,g,[]) 0) (.Lf (some ((c.1,(rgx c.2.1 c.2.1.2.2.2.2.2.2.2.1 (spOf c) (Zo (c,s==5,g,[]) x1.2.1)),c.2.2.1,false,false,c.2.2.2.2.2)))) (.Lf none)) (.Lf none))
theorem ZAq (a:HL ZJ):EV0 46 a=ZoD a.1 a.2.1 a.2.2.1 a.2.2.2:=by kernel_rfl
end
end Go.Proofs.YtghoimllhpjkjaaGreat
