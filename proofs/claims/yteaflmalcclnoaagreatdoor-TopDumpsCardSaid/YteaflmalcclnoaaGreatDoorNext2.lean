import Derived.Test.YteaflmalcclnoaaGreatDoorNext0
open Go.IntKind (u8 u16 i64 wrap)
set_option linter.unusedSimpArgs false
open Go Go.S3 Go.Proofs
set_option linter.unusedVariables false
set_option maxRecDepth 100000
namespace Go.Proofs.YteaflmalcclnoaaGreatDoor
noncomputable section
def Ztd (c:TC) (s:Int) (g:List Int):RT (Option (TY×Bool)):=
 let x1:QT0:=(c,s==5,g,(0,0,0,0,0,0,0,0),[])
 let x2:=qAtC x1 0
 let x3:=Zc c.1 (qAt x1 0)
 let x4:= !x2||x3.1==2
 let x7:QT3:=((pcOf c),0,4)
 let x10:=x3.2
 let x11:=x10.2
 let x12:=x11.2.1
 let x13:List TY:=[]++[(1,x7)]
 let x14:QT0:=(c,s==5,g,(2,x10),x13)
 let x15:=Zek x14 2
 .br (!x4||x2) (.br (x4) (.br (Zd s) (fin3 g ([]++[(12,pcOf c,0,6)]++[(5,u16.wrap ((spOf c)-1),u8.wrap (shrI u16 (pcOf c) 8),3)]++[(5,u16.wrap ((spOf c)-2),u8.wrap (pcOf c),3)]:List TY)) (.br (iN (Le g)==0) (fin3 g ([]++[(bif s==5 then 8 else 1,x7)]:List TY)) (fin3 g (bif x12==6 then x13++[(2,x15,0,3)] else bif x11.1==6 then x13++[(3,x15,qReg x14 x12,3)] else x13:List TY)))) Ln) Ln
theorem ZGr (a:HL Zu):EV1 2 a=Ztd a.1 a.2.1 a.2.2:=by kernel_rfl
def Zs9 (c:TC) (s:Int) (g:List Int):RT (Option (TY×Bool)):=
 let x1:QT0:=(c,s==5,g,(0,0,0,0,0,0,0,0),[])
 let x2:=qAtC x1 0
 let x3:=Zc c.1 (qAt x1 0)
 let x4:= !x2||x3.1==6
 let x5:QT3:=((pcOf c),0,4)
 let x6:List TY:=[]++[(1,x5)]
 let x7:List TY:=[(9,pcOf c,0,3)]
 let x8:List TY:=bif s==5 then x6++x7 else x6++[(2,u16.wrap ((pcOf c)+u16.wrap 1),0,3)]
 let x9:List TY:=bif s==5 then x8++x7 else x8++[(2,u16.wrap ((pcOf c)+u16.wrap (i64.wrap (1+1))),0,3)]
 let x10:QT0:=(c,s==5,g,(6,x3.2),x9)
 .br (!x4||x2) (.br (x4) (.br (Zd s||(iN (Le g)==0||Zc4 x10 1)) (.br (Zd s) (fin3 g ([]++[(12,pcOf c,0,6)]++[(5,u16.wrap ((spOf c)-1),u8.wrap (shrI u16 (pcOf c) 8),3)]++[(5,u16.wrap ((spOf c)-2),u8.wrap (pcOf c),3)]:List TY)) (.br (iN (Le g)==0) (fin3 g ([]++[(bif s==5 then 8 else 1,x5)]:List TY)) (fin3 g (x9++[(3,ZgG x10 1,c.2.1.1,3)]:List TY)))) Ln) Ln) Ln
theorem ZGn (a:HL Zu):EV1 6 a=Zs9 a.1 a.2.1 a.2.2:=by kernel_rfl
def Zoc (c:TC) (s:Int) (g:List Int):RT (Option (TY×Bool)):=
 let x1:QT0:=(c,s==5,g,(0,0,0,0,0,0,0,0),[])
 let x2:=qAtC x1 0
 let x3:=Zc c.1 (qAt x1 0)
 let x4:= !x2||x3.1==10
 let x7:QT3:=((pcOf c),0,4)
 let x10:List TY:=[]++[(1,x7)]
 let x11:=x3.2
 .br (!x4||x2) (.br (x4) (.br (Zd s) (fin3 g ([]++[(12,pcOf c,0,6)]++[(5,u16.wrap ((spOf c)-1),u8.wrap (shrI u16 (pcOf c) 8),3)]++[(5,u16.wrap ((spOf c)-2),u8.wrap (pcOf c),3)]:List TY)) (.br (iN (Le g)==0) (fin3 g ([]++[(bif s==5 then 8 else 1,x7)]:List TY)) (fin3 g (x10++[(3,Zek (c,s==5,g,(10,x11),x10) x11.2.2.2.1,c.2.1.1,3)]:List TY)))) Ln) Ln
theorem ZAF (a:HL Zu):EV1 10 a=Zoc a.1 a.2.1 a.2.2:=by kernel_rfl
def Zn8 (c:TC) (s:Int) (g:List Int):RT (Option (TY×Bool)):=
 let x1:QT0:=(c,s==5,g,(0,0,0,0,0,0,0,0),[])
 let x2:=qAtC x1 0
 let x3:=Zc c.1 (qAt x1 0)
 let x4:= !x2||x3.1==14
 let x5:=x3.2
 let x6:=x5.2.1==6
 let x7:QT4:=(14,x5)
 let x8:QT3:=((pcOf c),0,4)
 let x9:List TY:=[]++[(1,x8)]
 let x10:=Zek (c,s==5,g,x7,x9) 2
 let x11:List TY:=x9++[(2,x10,0,3)]
 let x12:QT0:=(c,s==5,g,x7,x11)
 .br (!x4||x2) (.br (x4) (.br (Zd s||(iN (Le g)==0||(!x6||ZgH x12))) (.br (Zd s) (fin3 g ([]++[(12,pcOf c,0,6)]++[(5,u16.wrap ((spOf c)-1),u8.wrap (shrI u16 (pcOf c) 8),3)]++[(5,u16.wrap ((spOf c)-2),u8.wrap (pcOf c),3)]:List TY)) (.br (iN (Le g)==0) (fin3 g ([]++[(bif s==5 then 8 else 1,x8)]:List TY)) (fin3 g (bif x6 then x11++[(3,x10,ZiX x12,3)] else x9:List TY)))) Ln) Ln) Ln
theorem ZAB (a:HL Zu):EV1 14 a=Zn8 a.1 a.2.1 a.2.2:=by kernel_rfl
def Zn4 (c:TC) (s:Int) (g:List Int):RT (Option (TY×Bool)):=
 let x1:QT0:=(c,s==5,g,(0,0,0,0,0,0,0,0),[])
 let x2:=qAtC x1 0
 let x3:= !x2||(Zc c.1 (qAt x1 0)).1==18
 let x6:QT3:=((pcOf c),0,4)
 let x9:List TY:=[(11,pcOf c,0,3)]
 .br (!x3||x2) (.br (x3) (.br (Zd s) (fin3 g ([]++[(12,pcOf c,0,6)]++[(5,u16.wrap ((spOf c)-1),u8.wrap (shrI u16 (pcOf c) 8),3)]++[(5,u16.wrap ((spOf c)-2),u8.wrap (pcOf c),3)]:List TY)) (.br (iN (Le g)==0) (fin3 g ([]++[(bif s==5 then 8 else 1,x6)]:List TY)) (fin3 g ([]++[(1,x6)]++x9++x9:List TY)))) Ln) Ln
theorem ZAx (a:HL Zu):EV1 18 a=Zn4 a.1 a.2.1 a.2.2:=by kernel_rfl
def Zn0 (c:TC) (s:Int) (g:List Int):RT (Option (TY×Bool)):=
 let x1:QT0:=(c,s==5,g,(0,0,0,0,0,0,0,0),[])
 let x2:=qAtC x1 0
 let x3:= !x2||(Zc c.1 (qAt x1 0)).1==22
 let x6:QT3:=((pcOf c),0,4)
 .br (!x3||x2) (.br (x3) (.br (Zd s) (fin3 g ([]++[(12,pcOf c,0,6)]++[(5,u16.wrap ((spOf c)-1),u8.wrap (shrI u16 (pcOf c) 8),3)]++[(5,u16.wrap ((spOf c)-2),u8.wrap (pcOf c),3)]:List TY)) (.br (iN (Le g)==0) (fin3 g ([]++[(bif s==5 then 8 else 1,x6)]:List TY)) (fin3 g ([]++[(1,x6)]:List TY)))) Ln) Ln
theorem ZAt (a:HL Zu):EV1 22 a=Zn0 a.1 a.2.1 a.2.2:=by kernel_rfl
def ZnW (c:TC) (s:Int) (g:List Int):RT (Option (TY×Bool)):=
 let x1:QT0:=(c,s==5,g,(0,0,0,0,0,0,0,0),[])
 let x2:=qAtC x1 0
 let x3:=Zc c.1 (qAt x1 0)
 let x4:= !x2||x3.1==26
 let x7:QT3:=((pcOf c),0,4)
 let x10:List TY:=[]++[(1,x7)]
 .br (!x4||x2) (.br (x4) (.br (Zd s) (fin3 g ([]++[(12,pcOf c,0,6)]++[(5,u16.wrap ((spOf c)-1),u8.wrap (shrI u16 (pcOf c) 8),3)]++[(5,u16.wrap ((spOf c)-2),u8.wrap (pcOf c),3)]:List TY)) (.br (iN (Le g)==0) (fin3 g ([]++[(bif s==5 then 8 else 1,x7)]:List TY)) (fin3 g (bif ZhT (c,s==5,g,(26,x3.2),x10) then x10++[(4,spOf c,0,3)]++[(4,u16.wrap ((spOf c)+1),0,3)] else x10:List TY)))) Ln) Ln
theorem ZAp (a:HL Zu):EV1 26 a=ZnW a.1 a.2.1 a.2.2:=by kernel_rfl
def ZnS (c:TC) (s:Int) (g:List Int):RT (Option (TY×Bool)):=
 let x1:QT0:=(c,s==5,g,(0,0,0,0,0,0,0,0),[])
 let x2:=qAtC x1 0
 let x3:=Zc c.1 (qAt x1 0)
 let x4:= !x2||x3.1==30
 let x5:=u16.wrap ((spOf c)-1)
 let x6:=u16.wrap ((spOf c)-2)
 let x9:QT3:=((pcOf c),0,4)
 let x12:List TY:=[]++[(1,x9)]
 let x13:=x3.2
 let x14:=x13.2.2.2.1
 let x15:Int:=bif x14==3 then rPSW c.1 c.2.1 else Zek (c,s==5,g,(30,x13),x12) x14
 .br (!x4||x2) (.br (x4) (.br (Zd s) (fin3 g ([]++[(12,pcOf c,0,6)]++[(5,x5,u8.wrap (shrI u16 (pcOf c) 8),3)]++[(5,x6,u8.wrap (pcOf c),3)]:List TY)) (.br (iN (Le g)==0) (fin3 g ([]++[(bif s==5 then 8 else 1,x9)]:List TY)) (fin3 g (x12++[(5,x5,u8.wrap (shrI u16 x15 8),3)]++[(5,x6,u8.wrap x15,3)]:List TY)))) Ln) Ln
theorem ZAl (a:HL Zu):EV1 30 a=ZnS a.1 a.2.1 a.2.2:=by kernel_rfl
def ZnO (c:TC) (s:Int) (g:List Int):RT (Option (TY×Bool)):=
 let x1:QT0:=(c,s==5,g,(0,0,0,0,0,0,0,0),[])
 let x2:=qAtC x1 0
 let x3:=Zc c.1 (qAt x1 0)
 let x4:= !x2||x3.1==34
 let x5:QT3:=((pcOf c),0,4)
 let x6:List TY:=[]++[(1,x5)]
 let x7:List TY:=bif s==5 then x6++[(9,pcOf c,0,3)] else x6++[(2,u16.wrap ((pcOf c)+u16.wrap 1),0,3)]
 let x8:QT0:=(c,s==5,g,(34,x3.2),x7)
 let x9:=qAtC x8 1
 let x10:= !x9||x9
 let x11:= !x10||x9
 let x12:=Zd s||(iN (Le g)==0||(!x11||x10))
 let x17:=qAt x8 1
 .br (!x4||x2) (.br (x4) (.br (!x12||(Zd s||(iN (Le g)==0||x11))) (.br (x12) (.br (Zd s) (fin3 g ([]++[(12,pcOf c,0,6)]++[(5,u16.wrap ((spOf c)-1),u8.wrap (shrI u16 (pcOf c) 8),3)]++[(5,u16.wrap ((spOf c)-2),u8.wrap (pcOf c),3)]:List TY)) (.br (iN (Le g)==0) (fin3 g ([]++[(bif s==5 then 8 else 1,x5)]:List TY)) (fin3 g (x7++[(7,Zid x17 x17,c.2.1.1,3)]:List TY)))) Ln) Ln) Ln) Ln
theorem ZAh (a:HL Zu):EV1 34 a=ZnO a.1 a.2.1 a.2.2:=by kernel_rfl
def ZnK (c:TC) (s:Int) (g:List Int):RT (Option (TY×Bool)):=
 let x1:QT0:=(c,s==5,g,(0,0,0,0,0,0,0,0),[])
 let x2:=qAtC x1 0
 let x3:= !x2||(Zc c.1 (qAt x1 0)).1==38
 let x6:QT3:=((pcOf c),0,4)
 .br (!x3||x2) (.br (x3) (.br (Zd s) (fin3 g ([]++[(12,pcOf c,0,6)]++[(5,u16.wrap ((spOf c)-1),u8.wrap (shrI u16 (pcOf c) 8),3)]++[(5,u16.wrap ((spOf c)-2),u8.wrap (pcOf c),3)]:List TY)) (.br (iN (Le g)==0) (fin3 g ([]++[(bif s==5 then 8 else 1,x6)]:List TY)) (fin3 g ([]++[(1,x6)]:List TY)))) Ln) Ln
theorem ZAd (a:HL Zu):EV1 38 a=ZnK a.1 a.2.1 a.2.2:=by kernel_rfl
def ZnG (c:TC) (s:Int) (g:List Int):RT (Option (TY×Bool)):=
 let x1:QT0:=(c,s==5,g,(0,0,0,0,0,0,0,0),[])
 let x2:=qAtC x1 0
 let x3:= !x2||(Zc c.1 (qAt x1 0)).1==42
 let x6:QT3:=((pcOf c),0,4)
 let x9:List TY:=[(11,pcOf c,0,3)]
 .br (!x3||x2) (.br (x3) (.br (Zd s) (fin3 g ([]++[(12,pcOf c,0,6)]++[(5,u16.wrap ((spOf c)-1),u8.wrap (shrI u16 (pcOf c) 8),3)]++[(5,u16.wrap ((spOf c)-2),u8.wrap (pcOf c),3)]:List TY)) (.br (iN (Le g)==0) (fin3 g ([]++[(bif s==5 then 8 else 1,x6)]:List TY)) (fin3 g ([]++[(1,x6)]++x9++x9:List TY)))) Ln) Ln
theorem Zz9 (a:HL Zu):EV1 42 a=ZnG a.1 a.2.1 a.2.2:=by kernel_rfl
def ZnC (c:TC) (s:Int) (g:List Int):RT (Option (TY×Bool)):=
 let x1:QT0:=(c,s==5,g,(0,0,0,0,0,0,0,0),[])
 let x2:=qAtC x1 0
 let x3:=Zc c.1 (qAt x1 0)
 let x4:= !x2||x3.1==46
 let x7:QT3:=((pcOf c),0,4)
 let x10:List TY:=[]++[(1,x7)]
 let x11:=Zek (c,s==5,g,(46,x3.2),x10) 1
 .br (!x4||x2) (.br (x4) (.br (Zd s) (fin3 g ([]++[(12,pcOf c,0,6)]++[(5,u16.wrap ((spOf c)-1),u8.wrap (shrI u16 (pcOf c) 8),3)]++[(5,u16.wrap ((spOf c)-2),u8.wrap (pcOf c),3)]:List TY)) (.br (iN (Le g)==0) (fin3 g ([]++[(bif s==5 then 8 else 1,x7)]:List TY)) (fin3 g (x10++[(3,x11,c.2.1.2.2.2.2.2.2.1,3)]++[(3,u16.wrap (x11+1),c.2.1.2.2.2.2.2.1,3)]:List TY)))) Ln) Ln
theorem Zz5 (a:HL Zu):EV1 46 a=ZnC a.1 a.2.1 a.2.2:=by kernel_rfl
