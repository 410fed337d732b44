import Derived.Test.YteaflmalcclnoaaGreatDoorNext0
open Go.IntKind (u8 u16 i64 wrap)
set_option linter.unusedSimpArgs false
open Go Go.S3 Go.Proofs
set_option linter.unusedVariables false
set_option maxRecDepth 100000
namespace Go.Proofs.YteaflmalcclnoaaGreatDoor
noncomputable section
def Zte (c:TC) (s:Int) (g:List Int):RT (Option (TY×Bool)):=
 let x1:QT0:=(c,s==5,g,(0,0,0,0,0,0,0,0),[])
 let x2:=qAtC x1 0
 let x3:= !x2||(Zc c.1 (qAt x1 0)).1==1
 let x6:QT3:=((pcOf c),0,4)
 .br (!x3||x2) (.br (x3) (.br (Zd s) (fin3 g ([]++[(12,pcOf c,0,6)]++[(5,u16.wrap ((spOf c)-1),u8.wrap (shrI u16 (pcOf c) 8),3)]++[(5,u16.wrap ((spOf c)-2),u8.wrap (pcOf c),3)]:List TY)) (.br (iN (Le g)==0) (fin3 g ([]++[(bif s==5 then 8 else 1,x6)]:List TY)) (fin3 g ([]++[(1,x6)]:List TY)))) Ln) Ln
theorem ZGs (a:HL Zu):EV1 1 a=Zte a.1 a.2.1 a.2.2:=by kernel_rfl
def Zta (c:TC) (s:Int) (g:List Int):RT (Option (TY×Bool)):=
 let x1:QT0:=(c,s==5,g,(0,0,0,0,0,0,0,0),[])
 let x2:=qAtC x1 0
 let x3:=Zc c.1 (qAt x1 0)
 let x4:= !x2||x3.1==5
 let x5:QT3:=((pcOf c),0,4)
 let x6:List TY:=[]++[(1,x5)]
 let x7:List TY:=[(9,pcOf c,0,3)]
 let x8:List TY:=bif s==5 then x6++x7 else x6++[(2,u16.wrap ((pcOf c)+u16.wrap 1),0,3)]
 let x9:List TY:=bif s==5 then x8++x7 else x8++[(2,u16.wrap ((pcOf c)+u16.wrap (i64.wrap (1+1))),0,3)]
 let x10:QT0:=(c,s==5,g,(5,x3.2),x9)
 .br (!x4||x2) (.br (x4) (.br (Zd s||(iN (Le g)==0||Zc4 x10 1)) (.br (Zd s) (fin3 g ([]++[(12,pcOf c,0,6)]++[(5,u16.wrap ((spOf c)-1),u8.wrap (shrI u16 (pcOf c) 8),3)]++[(5,u16.wrap ((spOf c)-2),u8.wrap (pcOf c),3)]:List TY)) (.br (iN (Le g)==0) (fin3 g ([]++[(bif s==5 then 8 else 1,x5)]:List TY)) (fin3 g (x9++[(2,ZgG x10 1,0,3)]:List TY)))) Ln) Ln) Ln
theorem ZGo (a:HL Zu):EV1 5 a=Zta a.1 a.2.1 a.2.2:=by kernel_rfl
def Zs6 (c:TC) (s:Int) (g:List Int):RT (Option (TY×Bool)):=
 let x1:QT0:=(c,s==5,g,(0,0,0,0,0,0,0,0),[])
 let x2:=qAtC x1 0
 let x3:=Zc c.1 (qAt x1 0)
 let x4:= !x2||x3.1==9
 let x7:QT3:=((pcOf c),0,4)
 let x10:List TY:=[]++[(1,x7)]
 let x11:=x3.2
 .br (!x4||x2) (.br (x4) (.br (Zd s) (fin3 g ([]++[(12,pcOf c,0,6)]++[(5,u16.wrap ((spOf c)-1),u8.wrap (shrI u16 (pcOf c) 8),3)]++[(5,u16.wrap ((spOf c)-2),u8.wrap (pcOf c),3)]:List TY)) (.br (iN (Le g)==0) (fin3 g ([]++[(bif s==5 then 8 else 1,x7)]:List TY)) (fin3 g (x10++[(2,Zek (c,s==5,g,(9,x11),x10) x11.2.2.2.1,0,3)]:List TY)))) Ln) Ln
theorem ZGk (a:HL Zu):EV1 9 a=Zs6 a.1 a.2.1 a.2.2:=by kernel_rfl
def Zn9 (c:TC) (s:Int) (g:List Int):RT (Option (TY×Bool)):=
 let x1:QT0:=(c,s==5,g,(0,0,0,0,0,0,0,0),[])
 let x2:=qAtC x1 0
 let x3:= !x2||(Zc c.1 (qAt x1 0)).1==13
 let x6:QT3:=((pcOf c),0,4)
 let x9:List TY:=[]++[(1,x6)]
 .br (!x3||x2) (.br (x3) (.br (Zd s) (fin3 g ([]++[(12,pcOf c,0,6)]++[(5,u16.wrap ((spOf c)-1),u8.wrap (shrI u16 (pcOf c) 8),3)]++[(5,u16.wrap ((spOf c)-2),u8.wrap (pcOf c),3)]:List TY)) (.br (iN (Le g)==0) (fin3 g ([]++[(bif s==5 then 8 else 1,x6)]:List TY)) (fin3 g (bif s==5 then x9++[(9,pcOf c,0,3)] else x9++[(2,u16.wrap ((pcOf c)+u16.wrap 1),0,3)]:List TY)))) Ln) Ln
theorem ZAC (a:HL Zu):EV1 13 a=Zn9 a.1 a.2.1 a.2.2:=by kernel_rfl
def Zn5 (c:TC) (s:Int) (g:List Int):RT (Option (TY×Bool)):=
 let x1:QT0:=(c,s==5,g,(0,0,0,0,0,0,0,0),[])
 let x2:=qAtC x1 0
 let x3:= !x2||(Zc c.1 (qAt x1 0)).1==17
 let x6:QT3:=((pcOf c),0,4)
 .br (!x3||x2) (.br (x3) (.br (Zd s) (fin3 g ([]++[(12,pcOf c,0,6)]++[(5,u16.wrap ((spOf c)-1),u8.wrap (shrI u16 (pcOf c) 8),3)]++[(5,u16.wrap ((spOf c)-2),u8.wrap (pcOf c),3)]:List TY)) (.br (iN (Le g)==0) (fin3 g ([]++[(bif s==5 then 8 else 1,x6)]:List TY)) (fin3 g ([]++[(1,x6)]:List TY)))) Ln) Ln
theorem ZAy (a:HL Zu):EV1 17 a=Zn5 a.1 a.2.1 a.2.2:=by kernel_rfl
def Zn1 (c:TC) (s:Int) (g:List Int):RT (Option (TY×Bool)):=
 let x1:QT0:=(c,s==5,g,(0,0,0,0,0,0,0,0),[])
 let x2:=qAtC x1 0
 let x3:= !x2||(Zc c.1 (qAt x1 0)).1==21
 let x6:QT3:=((pcOf c),0,4)
 .br (!x3||x2) (.br (x3) (.br (Zd s) (fin3 g ([]++[(12,pcOf c,0,6)]++[(5,u16.wrap ((spOf c)-1),u8.wrap (shrI u16 (pcOf c) 8),3)]++[(5,u16.wrap ((spOf c)-2),u8.wrap (pcOf c),3)]:List TY)) (.br (iN (Le g)==0) (fin3 g ([]++[(bif s==5 then 8 else 1,x6)]:List TY)) (fin3 g ([]++[(1,x6)]:List TY)))) Ln) Ln
theorem ZAu (a:HL Zu):EV1 21 a=Zn1 a.1 a.2.1 a.2.2:=by kernel_rfl
def ZnX (c:TC) (s:Int) (g:List Int):RT (Option (TY×Bool)):=
 let x1:QT0:=(c,s==5,g,(0,0,0,0,0,0,0,0),[])
 let x2:=qAtC x1 0
 let x3:=Zc c.1 (qAt x1 0)
 let x4:= !x2||x3.1==25
 let x5:=u16.wrap ((spOf c)-1)
 let x6:=u16.wrap ((spOf c)-2)
 let x9:QT3:=((pcOf c),0,4)
 let x12:QT4:=(25,x3.2)
 let x13:List TY:=[]++[(1,x9)]
 let x14:=ZhT (c,s==5,g,x12,x13)
 let x15:List TY:=[(9,pcOf c,0,3)]
 let x16:List TY:=bif s==5 then x13++x15 else x13++[(2,u16.wrap ((pcOf c)+u16.wrap 1),0,3)]
 let x17:List TY:=bif !x14&&c.1==2 then x16 else bif s==5 then x16++x15 else x16++[(2,u16.wrap ((pcOf c)+u16.wrap (i64.wrap (1+1))),0,3)]
 let x18:=Zx (c,s==5,g,x12,x17)
 .br (!x4||x2) (.br (x4) (.br (Zd s) (fin3 g ([]++[(12,pcOf c,0,6)]++[(5,x5,u8.wrap (shrI u16 (pcOf c) 8),3)]++[(5,x6,u8.wrap (pcOf c),3)]:List TY)) (.br (iN (Le g)==0) (fin3 g ([]++[(bif s==5 then 8 else 1,x9)]:List TY)) (fin3 g (bif x14 then x17++[(5,x5,u8.wrap (shrI u16 x18 8),3)]++[(5,x6,u8.wrap x18,3)] else x17:List TY)))) Ln) Ln
theorem ZAq (a:HL Zu):EV1 25 a=ZnX a.1 a.2.1 a.2.2:=by kernel_rfl
def ZnT (c:TC) (s:Int) (g:List Int):RT (Option (TY×Bool)):=
 let x1:QT0:=(c,s==5,g,(0,0,0,0,0,0,0,0),[])
 let x2:=qAtC x1 0
 let x3:= !x2||(Zc c.1 (qAt x1 0)).1==29
 let x6:QT3:=((pcOf c),0,4)
 .br (!x3||x2) (.br (x3) (.br (Zd s) (fin3 g ([]++[(12,pcOf c,0,6)]++[(5,u16.wrap ((spOf c)-1),u8.wrap (shrI u16 (pcOf c) 8),3)]++[(5,u16.wrap ((spOf c)-2),u8.wrap (pcOf c),3)]:List TY)) (.br (iN (Le g)==0) (fin3 g ([]++[(bif s==5 then 8 else 1,x6)]:List TY)) (fin3 g ([]++[(1,x6)]:List TY)))) Ln) Ln
theorem ZAm (a:HL Zu):EV1 29 a=ZnT a.1 a.2.1 a.2.2:=by kernel_rfl
def ZnP (c:TC) (s:Int) (g:List Int):RT (Option (TY×Bool)):=
 let x1:QT0:=(c,s==5,g,(0,0,0,0,0,0,0,0),[])
 let x2:=qAtC x1 0
 let x3:=Zc c.1 (qAt x1 0)
 let x4:= !x2||x3.1==33
 let x5:QT3:=((pcOf c),0,4)
 let x6:List TY:=[]++[(1,x5)]
 let x7:List TY:=bif s==5 then x6++[(9,pcOf c,0,3)] else x6++[(2,u16.wrap ((pcOf c)+u16.wrap 1),0,3)]
 let x8:QT0:=(c,s==5,g,(33,x3.2),x7)
 let x9:=qAtC x8 1
 let x10:= !x9||x9
 let x11:= !x10||x9
 let x12:=Zd s||(iN (Le g)==0||(!x11||x10))
 let x17:=qAt x8 1
 .br (!x4||x2) (.br (x4) (.br (!x12||(Zd s||(iN (Le g)==0||x11))) (.br (x12) (.br (Zd s) (fin3 g ([]++[(12,pcOf c,0,6)]++[(5,u16.wrap ((spOf c)-1),u8.wrap (shrI u16 (pcOf c) 8),3)]++[(5,u16.wrap ((spOf c)-2),u8.wrap (pcOf c),3)]:List TY)) (.br (iN (Le g)==0) (fin3 g ([]++[(bif s==5 then 8 else 1,x5)]:List TY)) (fin3 g (x7++[(6,Zid x17 x17,0,3)]:List TY)))) Ln) Ln) Ln) Ln
theorem ZAi (a:HL Zu):EV1 33 a=ZnP a.1 a.2.1 a.2.2:=by kernel_rfl
def ZnL (c:TC) (s:Int) (g:List Int):RT (Option (TY×Bool)):=
 let x1:QT0:=(c,s==5,g,(0,0,0,0,0,0,0,0),[])
 let x2:=qAtC x1 0
 let x3:= !x2||(Zc c.1 (qAt x1 0)).1==37
 let x6:QT3:=((pcOf c),0,4)
 let x9:List TY:=[]++[(1,x6)]
 .br (!x3||x2) (.br (x3) (.br (Zd s) (fin3 g ([]++[(12,pcOf c,0,6)]++[(5,u16.wrap ((spOf c)-1),u8.wrap (shrI u16 (pcOf c) 8),3)]++[(5,u16.wrap ((spOf c)-2),u8.wrap (pcOf c),3)]:List TY)) (.br (iN (Le g)==0) (fin3 g ([]++[(bif s==5 then 8 else 1,x6)]:List TY)) (fin3 g (bif c.1 !=2 then x9++[(10,pcOf c,0,3)] else x9:List TY)))) Ln) Ln
theorem ZAe (a:HL Zu):EV1 37 a=ZnL a.1 a.2.1 a.2.2:=by kernel_rfl
def ZnH (c:TC) (s:Int) (g:List Int):RT (Option (TY×Bool)):=
 let x1:QT0:=(c,s==5,g,(0,0,0,0,0,0,0,0),[])
 let x2:=qAtC x1 0
 let x3:= !x2||(Zc c.1 (qAt x1 0)).1==41
 let x6:QT3:=((pcOf c),0,4)
 .br (!x3||x2) (.br (x3) (.br (Zd s) (fin3 g ([]++[(12,pcOf c,0,6)]++[(5,u16.wrap ((spOf c)-1),u8.wrap (shrI u16 (pcOf c) 8),3)]++[(5,u16.wrap ((spOf c)-2),u8.wrap (pcOf c),3)]:List TY)) (.br (iN (Le g)==0) (fin3 g ([]++[(bif s==5 then 8 else 1,x6)]:List TY)) (fin3 g ([]++[(1,x6)]++[(11,pcOf c,0,3)]:List TY)))) Ln) Ln
theorem ZAa (a:HL Zu):EV1 41 a=ZnH a.1 a.2.1 a.2.2:=by kernel_rfl
def ZnD (c:TC) (s:Int) (g:List Int):RT (Option (TY×Bool)):=
 let x1:QT0:=(c,s==5,g,(0,0,0,0,0,0,0,0),[])
 let x2:=qAtC x1 0
 let x3:=Zc c.1 (qAt x1 0)
 let x4:= !x2||x3.1==45
 let x5:=u16.wrap ((spOf c)-1)
 let x6:=u16.wrap ((spOf c)-2)
 let x9:QT3:=((pcOf c),0,4)
 let x12:List TY:=[]++[(1,x9)]
 let x13:QT0:=(c,s==5,g,(45,x3.2),x12)
 let x14:=Zx x13
 .br (!x4||x2) (.br (x4) (.br (Zd s) (fin3 g ([]++[(12,pcOf c,0,6)]++[(5,x5,u8.wrap (shrI u16 (pcOf c) 8),3)]++[(5,x6,u8.wrap (pcOf c),3)]:List TY)) (.br (iN (Le g)==0) (fin3 g ([]++[(bif s==5 then 8 else 1,x9)]:List TY)) (fin3 g (bif ZhT x13 then x12++[(5,x5,u8.wrap (shrI u16 x14 8),3)]++[(5,x6,u8.wrap x14,3)] else x12:List TY)))) Ln) Ln
theorem Zz6 (a:HL Zu):EV1 45 a=ZnD a.1 a.2.1 a.2.2:=by kernel_rfl
