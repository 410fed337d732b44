import Derived.Test.YtpnjbfjomebppaaGreatFin0
open Go.IntKind (u8 u16 i64)
set_option linter.unusedSimpArgs false
open Go Go.S3 Go.Proofs
set_option linter.unusedVariables false
set_option maxRecDepth 100000
namespace Go.Proofs.YtpnjbfjomebppaaGreat
noncomputable section
def Zv7 (c:TC) (s:Int) (g:List Int) (ln:QT0):RT (Option TC):=
 let x1:=Zc c.1 (mAt (c,s==5,g,[]) 0)
 let x2:=x1.2
 let x3:=rSet c.2.1 x2.2.1 (mAt (c,s==5,g,[]) 1)
 let x4:=x3.2
 let x5:=x4.2
 let x6:=x5.2
 let x7:=x6.2
 let x8:=x7.2
 let x9:=x8.2
 let x10:=x9.2
 .br (Za s) (.Lf (some ((c.1,(rgx c.2.1 c.2.1.2.2.2.2.2.2.2.1 (u16.wrap ((spOf c)-2)) (Zu s)),c.2.2)))) (.br (!mAtC (c,s==5,g,[]) 0||x1.1==3) (.br (mAtC (c,s==5,g,[]) 0) (.br (mAtC (c,s==5,g,[]) 1) (.Lf (some ((c.1,(x3.1,x4.1,x5.1,x6.1,x7.1,x8.1,x9.1,x10.1,x10.2.1,Zq (c,s==5,g,[]) x2.1),c.2.2.1,false,false,c.2.2.2.2.2)))) (.Lf none)) (.Lf none)) (.Lf none))
theorem ZE5 (a:HL ZJ):EV0 3 a=Zv7 a.1 a.2.1 a.2.2.1 a.2.2.2:=by kernel_rfl
def Zv3 (c:TC) (s:Int) (g:List Int) (ln:QT0):RT (Option TC):=
 let x1:=Zc c.1 (mAt (c,s==5,g,[]) 0)
 let x2:= !mAtC (c,s==5,g,[]) 3||mAtC (c,s==5,g,[]) 4
 let x3:= !x2||mAtC (c,s==5,g,[]) 3
 let x4:= !x3||x2
 .br (Za s) (.Lf (some ((c.1,(rgx c.2.1 c.2.1.2.2.2.2.2.2.2.1 (u16.wrap ((spOf c)-2)) (Zu s)),c.2.2)))) (.br (!mAtC (c,s==5,g,[]) 0||x1.1==7) (.br (mAtC (c,s==5,g,[]) 0) (.br (!x4||x3) (.br (x4) (.Lf (some ((c.1,(c.2.1.1,c.2.1.2.1,c.2.1.2.2.1,c.2.1.2.2.2.1,c.2.1.2.2.2.2.1,mAt (c,s==5,g,[]) 4,mAt (c,s==5,g,[]) 3,c.2.1.2.2.2.2.2.2.2.1,spOf c,Zq (c,s==5,g,[]) x1.2.1),c.2.2.1,false,false,c.2.2.2.2.2)))) (.Lf none)) (.Lf none)) (.Lf none)) (.Lf none))
theorem ZE1 (a:HL ZJ):EV0 7 a=Zv3 a.1 a.2.1 a.2.2.1 a.2.2.2:=by kernel_rfl
def ZpD (c:TC) (s:Int) (g:List Int) (ln:QT0):RT (Option TC):=
 let x1:=Zc c.1 (mAt (c,s==5,g,[]) 0)
 .br (Za s) (.Lf (some ((c.1,(rgx c.2.1 c.2.1.2.2.2.2.2.2.2.1 (u16.wrap ((spOf c)-2)) (Zu s)),c.2.2)))) (.br (!mAtC (c,s==5,g,[]) 0||x1.1==11) (.br (mAtC (c,s==5,g,[]) 0) (.Lf (some ((c.1,(c.2.1.1,c.2.1.2.1,c.2.1.2.2.1,c.2.1.2.2.2.2.2.1,c.2.1.2.2.2.2.2.2.1,c.2.1.2.2.2.1,c.2.1.2.2.2.2.1,c.2.1.2.2.2.2.2.2.2.1,spOf c,Zq (c,s==5,g,[]) x1.2.1),c.2.2.1,false,false,c.2.2.2.2.2)))) (.Lf none)) (.Lf none))
theorem ZBE (a:HL ZJ):EV0 11 a=ZpD a.1 a.2.1 a.2.2.1 a.2.2.2:=by kernel_rfl
def Zpz (c:TC) (s:Int) (g:List Int) (ln:QT0):RT (Option TC):=
 let x1:=Zc c.1 (mAt (c,s==5,g,[]) 0)
 let x2:=x1.2
 let x3:=x2.2.1
 let x4:=x3==6
 let x5:=ZfA c (15,x2) (bif x4 then mAt (c,s==5,g,[]) 1 else rGet c.2.1 x3)
 let x6:=rSet c.2.1 x3 x5.1
 let x7:=x6.2
 let x8:=x7.2
 let x9:=x8.2
 let x10:=x9.2
 let x11:=x10.2
 let x12:=x11.2
 .br (Za s) (.Lf (some ((c.1,(rgx c.2.1 c.2.1.2.2.2.2.2.2.2.1 (u16.wrap ((spOf c)-2)) (Zu s)),c.2.2)))) (.br (!mAtC (c,s==5,g,[]) 0||x1.1==15) (.br (mAtC (c,s==5,g,[]) 0) (.br (!x4||mAtC (c,s==5,g,[]) 1) (.Lf (some ((c.1,(x6.1,x7.1,x8.1,x9.1,x10.1,x11.1,x12.1,x5.2,x12.2.2.1,Zq (c,s==5,g,[]) x2.1),c.2.2.1,false,false,c.2.2.2.2.2)))) (.Lf none)) (.Lf none)) (.Lf none))
theorem ZBA (a:HL ZJ):EV0 15 a=Zpz a.1 a.2.1 a.2.2.1 a.2.2.2:=by kernel_rfl
def Zpv (c:TC) (s:Int) (g:List Int) (ln:QT0):RT (Option TC):=
 let x1:=Zc c.1 (mAt (c,s==5,g,[]) 0)
 let x2:=rDaa c.1 c.2.1.1 c.2.1.2.2.2.2.2.2.2.1
 .br (Za s) (.Lf (some ((c.1,(rgx c.2.1 c.2.1.2.2.2.2.2.2.2.1 (u16.wrap ((spOf c)-2)) (Zu s)),c.2.2)))) (.br (!mAtC (c,s==5,g,[]) 0||x1.1==19) (.br (mAtC (c,s==5,g,[]) 0) (.Lf (some ((c.1,(x2.1,c.2.1.2.1,c.2.1.2.2.1,c.2.1.2.2.2.1,c.2.1.2.2.2.2.1,c.2.1.2.2.2.2.2.1,c.2.1.2.2.2.2.2.2.1,x2.2,spOf c,Zq (c,s==5,g,[]) x1.2.1),c.2.2.1,false,false,c.2.2.2.2.2)))) (.Lf none)) (.Lf none))
theorem ZBw (a:HL ZJ):EV0 19 a=Zpv a.1 a.2.1 a.2.2.1 a.2.2.2:=by kernel_rfl
def Zpr (c:TC) (s:Int) (g:List Int) (ln:QT0):RT (Option TC):=
 let x1:=Zc c.1 (mAt (c,s==5,g,[]) 0)
 let x2:=x1.2
 let x3:=c.2.1.2.2.2.2.2.2.2.1.2.2.2
 let x4:=x3.2
 let x5:=x4.2
 let x6:=rRot x2.2.2.2.2.1 c.2.1.1 x5.2
 .br (Za s) (.Lf (some ((c.1,(rgx c.2.1 c.2.1.2.2.2.2.2.2.2.1 (u16.wrap ((spOf c)-2)) (Zu s)),c.2.2)))) (.br (!mAtC (c,s==5,g,[]) 0||x1.1==23) (.br (mAtC (c,s==5,g,[]) 0) (.Lf (some ((c.1,(x6.1,c.2.1.2.1,c.2.1.2.2.1,c.2.1.2.2.2.1,c.2.1.2.2.2.2.1,c.2.1.2.2.2.2.2.1,c.2.1.2.2.2.2.2.2.1,(c.2.1.2.2.2.2.2.2.2.1.1,c.2.1.2.2.2.2.2.2.2.1.2.1,c.2.1.2.2.2.2.2.2.2.1.2.2.1,x3.1,x4.1,x5.1,x6.2),spOf c,Zq (c,s==5,g,[]) x2.1),c.2.2.1,false,false,c.2.2.2.2.2)))) (.Lf none)) (.Lf none))
theorem ZBs (a:HL ZJ):EV0 23 a=Zpr a.1 a.2.1 a.2.2.1 a.2.2.2:=by kernel_rfl
def Zpn (c:TC) (s:Int) (g:List Int) (ln:QT0):RT (Option TC):=
 let x1:=u16.wrap ((spOf c)-2)
 let x2:=Zc c.1 (mAt (c,s==5,g,[]) 0)
 .br (Za s) (.Lf (some ((c.1,(rgx c.2.1 c.2.1.2.2.2.2.2.2.2.1 x1 (Zu s)),c.2.2)))) (.br (!mAtC (c,s==5,g,[]) 0||x2.1==27) (.br (mAtC (c,s==5,g,[]) 0) (.Lf (some ((c.1,(rgx c.2.1 c.2.1.2.2.2.2.2.2.2.1 x1 (u16.wrap (i64.wrap (8*x2.2.2.2.2.2.2.2)))),c.2.2.1,false,false,c.2.2.2.2.2)))) (.Lf none)) (.Lf none))
theorem ZBo (a:HL ZJ):EV0 27 a=Zpn a.1 a.2.1 a.2.2.1 a.2.2.2:=by kernel_rfl
def Zpj (c:TC) (s:Int) (g:List Int) (ln:QT0):RT (Option TC):=
 let x1:=Zc c.1 (mAt (c,s==5,g,[]) 0)
 let x2:=x1.2
 let x3:=x2.2.2.2.1
 let x4:=x3==3
 let x5:= !x4||ZbM (c,s==5,g,[]) 1
 let x6:= !x5||(x4||ZbM (c,s==5,g,[]) 1)
 let x7:= !x6||x5
 let x8:=ZoB c.1 c.2.1 (ZdW (c,s==5,g,[]) 1)
 let x9:=Zt c.2.1 x3 (ZdW (c,s==5,g,[]) 1)
 let x10:=x8.2
 let x11:=x9.2
 let x12:=x10.2
 let x13:=x11.2
 let x14:=x12.2
 let x15:=x13.2
 let x16:=x14.2
 let x17:=x15.2
 let x18:=x16.2
 let x19:=x17.2
 let x20:=x18.2
 let x21:=x19.2
 let x22:=x20.2
 let x23:=x22.1
 let x24:=x21.2
 let x25:=x24.1
 let x26:=x23.2
 let x27:=x25.2
 let x28:=x26.2
 let x29:=x27.2
 let x30:=x28.2
 let x31:=x29.2
 let x32:=x30.2
 let x33:=x31.2
 let x34:=x32.2
 let x35:=x33.2
 .br (Za s) (.Lf (some ((c.1,(rgx c.2.1 c.2.1.2.2.2.2.2.2.2.1 (u16.wrap ((spOf c)-2)) (Zu s)),c.2.2)))) (.br (!mAtC (c,s==5,g,[]) 0||x1.1==31) (.br (mAtC (c,s==5,g,[]) 0) (.br (!x7||x6) (.br (x7) (.Lf (some ((c.1,(bif x4 then x8.1 else x9.1,bif x4 then x10.1 else x11.1,bif x4 then x12.1 else x13.1,bif x4 then x14.1 else x15.1,bif x4 then x16.1 else x17.1,bif x4 then x18.1 else x19.1,bif x4 then x20.1 else x21.1,(bif x4 then x23.1 else x25.1,bif x4 then x26.1 else x27.1,bif x4 then x28.1 else x29.1,bif x4 then x30.1 else x31.1,bif x4 then x32.1 else x33.1,bif x4 then x34.1 else x35.1,bif x4 then x34.2 else x35.2),u16.wrap ((bif x4 then x22.2.1 else x24.2.1)+2),Zq (c,s==5,g,[]) x2.1),c.2.2.1,false,false,c.2.2.2.2.2)))) (.Lf none)) (.Lf none)) (.Lf none)) (.Lf none))
theorem ZBk (a:HL ZJ):EV0 31 a=Zpj a.1 a.2.1 a.2.2.1 a.2.2.2:=by kernel_rfl
def Zpf (c:TC) (s:Int) (g:List Int) (ln:QT0):RT (Option TC):=
 let x1:=Zc c.1 (mAt (c,s==5,g,[]) 0)
 .br (Za s) (.Lf (some ((c.1,(rgx c.2.1 c.2.1.2.2.2.2.2.2.2.1 (u16.wrap ((spOf c)-2)) (Zu s)),c.2.2)))) (.br (!mAtC (c,s==5,g,[]) 0||x1.1==35) (.br (mAtC (c,s==5,g,[]) 0) (.Lf (some ((c.1,(rgx c.2.1 c.2.1.2.2.2.2.2.2.2.1 (spOf c) (Zq (c,s==5,g,[]) x1.2.1)),true,true,false,c.2.2.2.2.2)))) (.Lf none)) (.Lf none))
theorem ZBg (a:HL ZJ):EV0 35 a=Zpf a.1 a.2.1 a.2.2.1 a.2.2.2:=by kernel_rfl
def Zpb (c:TC) (s:Int) (g:List Int) (ln:QT0):RT (Option TC):=
 let x1:=Zc c.1 (mAt (c,s==5,g,[]) 0)
 let x2:=rSim (c.1,(rgx c.2.1 c.2.1.2.2.2.2.2.2.2.1 (spOf c) (Zq (c,s==5,g,[]) x1.2.1)),c.2.2) c.2.1.1
 let x3:=x2.2
 let x4:=x3.2
 .br (Za s) (.Lf (some ((c.1,(rgx c.2.1 c.2.1.2.2.2.2.2.2.2.1 (u16.wrap ((spOf c)-2)) (Zu s)),c.2.2)))) (.br (!mAtC (c,s==5,g,[]) 0||x1.1==39) (.br (mAtC (c,s==5,g,[]) 0) (.Lf (some ((x2.1,x3.1,x4.1,false,false,x4.2.2.2)))) (.Lf none)) (.Lf none))
theorem ZBc (a:HL ZJ):EV0 39 a=Zpb a.1 a.2.1 a.2.2.1 a.2.2.2:=by kernel_rfl
def Zo7 (c:TC) (s:Int) (g:List Int) (ln:QT0):RT (Option TC):=
 let x1:=Zc c.1 (mAt (c,s==5,g,[]) 0)
 let x2:=Zt c.2.1 1 (u16.wrap (Zae c.2.1 2+u16.wrap (mAt (c,s==5,g,[]) 1)))
 let x3:=x2.2
 let x4:=x3.2
 let x5:=x4.2
 let x6:=x5.2
 let x7:=x6.2
 let x8:=x7.2
 let x9:=x8.2
 .br (Za s) (.Lf (some ((c.1,(rgx c.2.1 c.2.1.2.2.2.2.2.2.2.1 (u16.wrap ((spOf c)-2)) (Zu s)),c.2.2)))) (.br (!mAtC (c,s==5,g,[]) 0||x1.1==43) (.br (mAtC (c,s==5,g,[]) 0) (.br (mAtC (c,s==5,g,[]) 1) (.Lf (some ((c.1,(x2.1,x3.1,x4.1,x5.1,x6.1,x7.1,x8.1,x9.1,x9.2.1,Zq (c,s==5,g,[]) x1.2.1),c.2.2.1,false,false,c.2.2.2.2.2)))) (.Lf none)) (.Lf none)) (.Lf none))
theorem ZA8 (a:HL ZJ):EV0 43 a=Zo7 a.1 a.2.1 a.2.2.1 a.2.2.2:=by kernel_rfl
def Zo3 (c:TC) (s:Int) (g:List Int) (ln:QT0):RT (Option TC):=
 let x1:=Zc c.1 (mAt (c,s==5,g,[]) 0)
 let x2:= !mAtC (c,s==5,g,[]) 1||mAtC (c,s==5,g,[]) 2
 let x3:= !x2||mAtC (c,s==5,g,[]) 1
 let x4:= !x3||x2
 .br (Za s) (.Lf (some ((c.1,(rgx c.2.1 c.2.1.2.2.2.2.2.2.2.1 (u16.wrap ((spOf c)-2)) (Zu s)),c.2.2)))) (.br (!mAtC (c,s==5,g,[]) 0||x1.1==47) (.br (mAtC (c,s==5,g,[]) 0) (.br (!x4||x3) (.br (x4) (.Lf (some ((c.1,(c.2.1.1,c.2.1.2.1,c.2.1.2.2.1,c.2.1.2.2.2.1,c.2.1.2.2.2.2.1,mAt (c,s==5,g,[]) 2,mAt (c,s==5,g,[]) 1,c.2.1.2.2.2.2.2.2.2.1,spOf c,Zq (c,s==5,g,[]) x1.2.1),c.2.2.1,false,false,c.2.2.2.2.2)))) (.Lf none)) (.Lf none)) (.Lf none)) (.Lf none))
theorem ZA4 (a:HL ZJ):EV0 47 a=Zo3 a.1 a.2.1 a.2.2.1 a.2.2.2:=by kernel_rfl
end
end Go.Proofs.YtpnjbfjomebppaaGreat
