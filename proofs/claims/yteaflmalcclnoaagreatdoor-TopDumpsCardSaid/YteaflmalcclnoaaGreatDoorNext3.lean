import Derived.Test.YteaflmalcclnoaaGreatDoorNext0
open Go.IntKind (u8 u16 i64 wrap)
set_option linter.unusedSimpArgs false
open Go Go.S3 Go.Proofs
set_option linter.unusedVariables false
set_option maxRecDepth 100000
namespace Go.Proofs.YteaflmalcclnoaaGreatDoor
noncomputable section
def Ztc (c:TC) (s:Int) (g:List Int):RT (Option (TY×Bool)):=
 let x1:QT0:=(c,s==5,g,(0,0,0,0,0,0,0,0),[])
 let x2:=qAtC x1 0
 let x3:=Zc c.1 (qAt x1 0)
 let x4:= !x2||x3.1==3
 let x5:=x3.2
 let x6:=x5.2.1==6
 let x7:QT4:=(3,x5)
 let x8:QT3:=((pcOf c),0,4)
 let x9:List TY:=[]++[(1,x8)]
 let x10:List TY:=bif s==5 then x9++[(9,pcOf c,0,3)] else x9++[(2,u16.wrap ((pcOf c)+u16.wrap 1),0,3)]
 let x11:QT0:=(c,s==5,g,x7,x10)
 .br (!x4||x2) (.br (x4) (.br (Zd s||(iN (Le g)==0||(!x6||qAtC x11 1))) (.br (Zd s) (fin3 g ([]++[(12,pcOf c,0,6)]++[(5,u16.wrap ((spOf c)-1),u8.wrap (shrI u16 (pcOf c) 8),3)]++[(5,u16.wrap ((spOf c)-2),u8.wrap (pcOf c),3)]:List TY)) (.br (iN (Le g)==0) (fin3 g ([]++[(bif s==5 then 8 else 1,x8)]:List TY)) (fin3 g (bif x6 then x10++[(3,Zek (c,s==5,g,x7,x9) 2,qAt x11 1,3)] else x10:List TY)))) Ln) Ln) Ln
theorem ZGq (a:HL Zu):EV1 3 a=Ztc a.1 a.2.1 a.2.2:=by kernel_rfl
def Zs8 (c:TC) (s:Int) (g:List Int):RT (Option (TY×Bool)):=
 let x1:QT0:=(c,s==5,g,(0,0,0,0,0,0,0,0),[])
 let x2:=qAtC x1 0
 let x3:=Zc c.1 (qAt x1 0)
 let x4:= !x2||x3.1==7
 let x5:QT3:=((pcOf c),0,4)
 let x6:List TY:=[]++[(1,x5)]
 let x7:List TY:=[(9,pcOf c,0,3)]
 let x8:List TY:=bif s==5 then x6++x7 else x6++[(2,u16.wrap ((pcOf c)+u16.wrap 1),0,3)]
 let x9:List TY:=bif s==5 then x8++x7 else x8++[(2,u16.wrap ((pcOf c)+u16.wrap (i64.wrap (1+1))),0,3)]
 let x10:QT0:=(c,s==5,g,(7,x3.2),x9)
 let x15:=ZgG x10 1
 .br (!x4||x2) (.br (x4) (.br (Zd s||(iN (Le g)==0||Zc4 x10 1)) (.br (Zd s) (fin3 g ([]++[(12,pcOf c,0,6)]++[(5,u16.wrap ((spOf c)-1),u8.wrap (shrI u16 (pcOf c) 8),3)]++[(5,u16.wrap ((spOf c)-2),u8.wrap (pcOf c),3)]:List TY)) (.br (iN (Le g)==0) (fin3 g ([]++[(bif s==5 then 8 else 1,x5)]:List TY)) (fin3 g (x9++[(2,x15,0,3)]++[(2,u16.wrap (x15+1),0,3)]:List TY)))) Ln) Ln) Ln
theorem ZGm (a:HL Zu):EV1 7 a=Zs8 a.1 a.2.1 a.2.2:=by kernel_rfl
def Zob (c:TC) (s:Int) (g:List Int):RT (Option (TY×Bool)):=
 let x1:QT0:=(c,s==5,g,(0,0,0,0,0,0,0,0),[])
 let x2:=qAtC x1 0
 let x3:= !x2||(Zc c.1 (qAt x1 0)).1==11
 let x6:QT3:=((pcOf c),0,4)
 .br (!x3||x2) (.br (x3) (.br (Zd s) (fin3 g ([]++[(12,pcOf c,0,6)]++[(5,u16.wrap ((spOf c)-1),u8.wrap (shrI u16 (pcOf c) 8),3)]++[(5,u16.wrap ((spOf c)-2),u8.wrap (pcOf c),3)]:List TY)) (.br (iN (Le g)==0) (fin3 g ([]++[(bif s==5 then 8 else 1,x6)]:List TY)) (fin3 g ([]++[(1,x6)]:List TY)))) Ln) Ln
theorem ZAE (a:HL Zu):EV1 11 a=Zob a.1 a.2.1 a.2.2:=by kernel_rfl
def Zn7 (c:TC) (s:Int) (g:List Int):RT (Option (TY×Bool)):=
 let x1:QT0:=(c,s==5,g,(0,0,0,0,0,0,0,0),[])
 let x2:=qAtC x1 0
 let x3:=Zc c.1 (qAt x1 0)
 let x4:= !x2||x3.1==15
 let x5:=x3.2
 let x6:=x5.2.1==6
 let x7:QT4:=(15,x5)
 let x8:QT3:=((pcOf c),0,4)
 let x9:List TY:=[]++[(1,x8)]
 let x10:=Zek (c,s==5,g,x7,x9) 2
 let x11:List TY:=x9++[(2,x10,0,3)]
 let x12:QT0:=(c,s==5,g,x7,x11)
 .br (!x4||x2) (.br (x4) (.br (Zd s||(iN (Le g)==0||(!x6||ZgH x12))) (.br (Zd s) (fin3 g ([]++[(12,pcOf c,0,6)]++[(5,u16.wrap ((spOf c)-1),u8.wrap (shrI u16 (pcOf c) 8),3)]++[(5,u16.wrap ((spOf c)-2),u8.wrap (pcOf c),3)]:List TY)) (.br (iN (Le g)==0) (fin3 g ([]++[(bif s==5 then 8 else 1,x8)]:List TY)) (fin3 g (bif x6 then x11++[(3,x10,ZiX x12,3)] else x9:List TY)))) Ln) Ln) Ln
theorem ZAA (a:HL Zu):EV1 15 a=Zn7 a.1 a.2.1 a.2.2:=by kernel_rfl
def Zn3 (c:TC) (s:Int) (g:List Int):RT (Option (TY×Bool)):=
 let x1:QT0:=(c,s==5,g,(0,0,0,0,0,0,0,0),[])
 let x2:=qAtC x1 0
 let x3:= !x2||(Zc c.1 (qAt x1 0)).1==19
 let x6:QT3:=((pcOf c),0,4)
 .br (!x3||x2) (.br (x3) (.br (Zd s) (fin3 g ([]++[(12,pcOf c,0,6)]++[(5,u16.wrap ((spOf c)-1),u8.wrap (shrI u16 (pcOf c) 8),3)]++[(5,u16.wrap ((spOf c)-2),u8.wrap (pcOf c),3)]:List TY)) (.br (iN (Le g)==0) (fin3 g ([]++[(bif s==5 then 8 else 1,x6)]:List TY)) (fin3 g ([]++[(1,x6)]:List TY)))) Ln) Ln
theorem ZAw (a:HL Zu):EV1 19 a=Zn3 a.1 a.2.1 a.2.2:=by kernel_rfl
def ZnZ (c:TC) (s:Int) (g:List Int):RT (Option (TY×Bool)):=
 let x1:QT0:=(c,s==5,g,(0,0,0,0,0,0,0,0),[])
 let x2:=qAtC x1 0
 let x3:= !x2||(Zc c.1 (qAt x1 0)).1==23
 let x6:QT3:=((pcOf c),0,4)
 .br (!x3||x2) (.br (x3) (.br (Zd s) (fin3 g ([]++[(12,pcOf c,0,6)]++[(5,u16.wrap ((spOf c)-1),u8.wrap (shrI u16 (pcOf c) 8),3)]++[(5,u16.wrap ((spOf c)-2),u8.wrap (pcOf c),3)]:List TY)) (.br (iN (Le g)==0) (fin3 g ([]++[(bif s==5 then 8 else 1,x6)]:List TY)) (fin3 g ([]++[(1,x6)]:List TY)))) Ln) Ln
theorem ZAs (a:HL Zu):EV1 23 a=ZnZ a.1 a.2.1 a.2.2:=by kernel_rfl
def ZnV (c:TC) (s:Int) (g:List Int):RT (Option (TY×Bool)):=
 let x1:QT0:=(c,s==5,g,(0,0,0,0,0,0,0,0),[])
 let x2:=qAtC x1 0
 let x3:=Zc c.1 (qAt x1 0)
 let x4:= !x2||x3.1==27
 let x5:=u16.wrap ((spOf c)-1)
 let x6:=u16.wrap ((spOf c)-2)
 let x9:QT3:=((pcOf c),0,4)
 let x12:List TY:=[]++[(1,x9)]
 let x13:=Zx (c,s==5,g,(27,x3.2),x12)
 .br (!x4||x2) (.br (x4) (.br (Zd s) (fin3 g ([]++[(12,pcOf c,0,6)]++[(5,x5,u8.wrap (shrI u16 (pcOf c) 8),3)]++[(5,x6,u8.wrap (pcOf c),3)]:List TY)) (.br (iN (Le g)==0) (fin3 g ([]++[(bif s==5 then 8 else 1,x9)]:List TY)) (fin3 g (x12++[(5,x5,u8.wrap (shrI u16 x13 8),3)]++[(5,x6,u8.wrap x13,3)]:List TY)))) Ln) Ln
theorem ZAo (a:HL Zu):EV1 27 a=ZnV a.1 a.2.1 a.2.2:=by kernel_rfl
def ZnR (c:TC) (s:Int) (g:List Int):RT (Option (TY×Bool)):=
 let x1:QT0:=(c,s==5,g,(0,0,0,0,0,0,0,0),[])
 let x2:=qAtC x1 0
 let x3:= !x2||(Zc c.1 (qAt x1 0)).1==31
 let x6:QT3:=((pcOf c),0,4)
 .br (!x3||x2) (.br (x3) (.br (Zd s) (fin3 g ([]++[(12,pcOf c,0,6)]++[(5,u16.wrap ((spOf c)-1),u8.wrap (shrI u16 (pcOf c) 8),3)]++[(5,u16.wrap ((spOf c)-2),u8.wrap (pcOf c),3)]:List TY)) (.br (iN (Le g)==0) (fin3 g ([]++[(bif s==5 then 8 else 1,x6)]:List TY)) (fin3 g ([]++[(1,x6)]++[(4,spOf c,0,3)]++[(4,u16.wrap ((spOf c)+1),0,3)]:List TY)))) Ln) Ln
theorem ZAk (a:HL Zu):EV1 31 a=ZnR a.1 a.2.1 a.2.2:=by kernel_rfl
def ZnN (c:TC) (s:Int) (g:List Int):RT (Option (TY×Bool)):=
 let x1:QT0:=(c,s==5,g,(0,0,0,0,0,0,0,0),[])
 let x2:=qAtC x1 0
 let x3:= !x2||(Zc c.1 (qAt x1 0)).1==35
 let x6:QT3:=((pcOf c),0,4)
 .br (!x3||x2) (.br (x3) (.br (Zd s) (fin3 g ([]++[(12,pcOf c,0,6)]++[(5,u16.wrap ((spOf c)-1),u8.wrap (shrI u16 (pcOf c) 8),3)]++[(5,u16.wrap ((spOf c)-2),u8.wrap (pcOf c),3)]:List TY)) (.br (iN (Le g)==0) (fin3 g ([]++[(bif s==5 then 8 else 1,x6)]:List TY)) (fin3 g ([]++[(1,x6)]:List TY)))) Ln) Ln
theorem ZAg (a:HL Zu):EV1 35 a=ZnN a.1 a.2.1 a.2.2:=by kernel_rfl
def ZnJ (c:TC) (s:Int) (g:List Int):RT (Option (TY×Bool)):=
 let x1:QT0:=(c,s==5,g,(0,0,0,0,0,0,0,0),[])
 let x2:=qAtC x1 0
 let x3:= !x2||(Zc c.1 (qAt x1 0)).1==39
 let x6:QT3:=((pcOf c),0,4)
 .br (!x3||x2) (.br (x3) (.br (Zd s) (fin3 g ([]++[(12,pcOf c,0,6)]++[(5,u16.wrap ((spOf c)-1),u8.wrap (shrI u16 (pcOf c) 8),3)]++[(5,u16.wrap ((spOf c)-2),u8.wrap (pcOf c),3)]:List TY)) (.br (iN (Le g)==0) (fin3 g ([]++[(bif s==5 then 8 else 1,x6)]:List TY)) (fin3 g ([]++[(1,x6)]:List TY)))) Ln) Ln
theorem ZAc (a:HL Zu):EV1 39 a=ZnJ a.1 a.2.1 a.2.2:=by kernel_rfl
def ZnF (c:TC) (s:Int) (g:List Int):RT (Option (TY×Bool)):=
 let x1:QT0:=(c,s==5,g,(0,0,0,0,0,0,0,0),[])
 let x2:=qAtC x1 0
 let x3:= !x2||(Zc c.1 (qAt x1 0)).1==43
 let x6:QT3:=((pcOf c),0,4)
 let x9:List TY:=[]++[(1,x6)]
 let x10:QT3:=((pcOf c),0,3)
 .br (!x3||x2) (.br (x3) (.br (Zd s) (fin3 g ([]++[(12,pcOf c,0,6)]++[(5,u16.wrap ((spOf c)-1),u8.wrap (shrI u16 (pcOf c) 8),3)]++[(5,u16.wrap ((spOf c)-2),u8.wrap (pcOf c),3)]:List TY)) (.br (iN (Le g)==0) (fin3 g ([]++[(bif s==5 then 8 else 1,x6)]:List TY)) (fin3 g ((bif s==5 then x9++[(9,x10)] else x9++[(2,u16.wrap ((pcOf c)+u16.wrap 1),0,3)])++[(11,x10)]:List TY)))) Ln) Ln
theorem Zz8 (a:HL Zu):EV1 43 a=ZnF a.1 a.2.1 a.2.2:=by kernel_rfl
def ZnB (c:TC) (s:Int) (g:List Int):RT (Option (TY×Bool)):=
 let x1:QT0:=(c,s==5,g,(0,0,0,0,0,0,0,0),[])
 let x2:=qAtC x1 0
 let x3:=Zc c.1 (qAt x1 0)
 let x4:= !x2||x3.1==47
 let x7:QT3:=((pcOf c),0,4)
 let x10:List TY:=[]++[(1,x7)]
 let x11:=Zek (c,s==5,g,(47,x3.2),x10) 1
 .br (!x4||x2) (.br (x4) (.br (Zd s) (fin3 g ([]++[(12,pcOf c,0,6)]++[(5,u16.wrap ((spOf c)-1),u8.wrap (shrI u16 (pcOf c) 8),3)]++[(5,u16.wrap ((spOf c)-2),u8.wrap (pcOf c),3)]:List TY)) (.br (iN (Le g)==0) (fin3 g ([]++[(bif s==5 then 8 else 1,x7)]:List TY)) (fin3 g (x10++[(2,x11,0,3)]++[(2,u16.wrap (x11+1),0,3)]:List TY)))) Ln) Ln
theorem Zz4 (a:HL Zu):EV1 47 a=ZnB a.1 a.2.1 a.2.2:=by kernel_rfl
