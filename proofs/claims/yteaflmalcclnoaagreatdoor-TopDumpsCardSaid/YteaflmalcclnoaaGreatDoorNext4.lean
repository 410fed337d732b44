import Derived.Test.YteaflmalcclnoaaGreatDoorNext0
open Go.IntKind (u8 u16 i64 wrap)
set_option linter.unusedSimpArgs false
open Go Go.S3 Go.Proofs
set_option linter.unusedVariables false
set_option maxRecDepth 100000
namespace Go.Proofs.YteaflmalcclnoaaGreatDoor
noncomputable section
def Ztb (c:TC) (s:Int) (g:List Int):RT (Option (TY×Bool)):=
 let x1:QT0:=(c,s==5,g,(0,0,0,0,0,0,0,0),[])
 let x2:=qAtC x1 0
 let x3:=Zc c.1 (qAt x1 0)
 let x4:= !x2||x3.1==4
 let x5:QT3:=((pcOf c),0,4)
 let x6:List TY:=[]++[(1,x5)]
 let x7:List TY:=[(9,pcOf c,0,3)]
 let x8:List TY:=bif s==5 then x6++x7 else x6++[(2,u16.wrap ((pcOf c)+u16.wrap 1),0,3)]
 let x9:List TY:=bif s==5 then x8++x7 else x8++[(2,u16.wrap ((pcOf c)+u16.wrap (i64.wrap (1+1))),0,3)]
 .br (!x4||x2) (.br (x4) (.br (Zd s||(iN (Le g)==0||Zc4 (c,s==5,g,(4,x3.2),x9) 1)) (.br (Zd s) (fin3 g ([]++[(12,pcOf c,0,6)]++[(5,u16.wrap ((spOf c)-1),u8.wrap (shrI u16 (pcOf c) 8),3)]++[(5,u16.wrap ((spOf c)-2),u8.wrap (pcOf c),3)]:List TY)) (.br (iN (Le g)==0) (fin3 g ([]++[(bif s==5 then 8 else 1,x5)]:List TY)) (fin3 g x9))) Ln) Ln) Ln
theorem ZGp (a:HL Zu):EV1 4 a=Ztb a.1 a.2.1 a.2.2:=by kernel_rfl
def Zs7 (c:TC) (s:Int) (g:List Int):RT (Option (TY×Bool)):=
 let x1:QT0:=(c,s==5,g,(0,0,0,0,0,0,0,0),[])
 let x2:=qAtC x1 0
 let x3:=Zc c.1 (qAt x1 0)
 let x4:= !x2||x3.1==8
 let x5:QT3:=((pcOf c),0,4)
 let x6:List TY:=[]++[(1,x5)]
 let x7:List TY:=[(9,pcOf c,0,3)]
 let x8:List TY:=bif s==5 then x6++x7 else x6++[(2,u16.wrap ((pcOf c)+u16.wrap 1),0,3)]
 let x9:List TY:=bif s==5 then x8++x7 else x8++[(2,u16.wrap ((pcOf c)+u16.wrap (i64.wrap (1+1))),0,3)]
 let x10:QT0:=(c,s==5,g,(8,x3.2),x9)
 let x15:=ZgG x10 1
 .br (!x4||x2) (.br (x4) (.br (Zd s||(iN (Le g)==0||Zc4 x10 1)) (.br (Zd s) (fin3 g ([]++[(12,pcOf c,0,6)]++[(5,u16.wrap ((spOf c)-1),u8.wrap (shrI u16 (pcOf c) 8),3)]++[(5,u16.wrap ((spOf c)-2),u8.wrap (pcOf c),3)]:List TY)) (.br (iN (Le g)==0) (fin3 g ([]++[(bif s==5 then 8 else 1,x5)]:List TY)) (fin3 g (x9++[(3,x15,c.2.1.2.2.2.2.2.2.1,3)]++[(3,u16.wrap (x15+1),c.2.1.2.2.2.2.2.1,3)]:List TY)))) Ln) Ln) Ln
theorem ZGl (a:HL Zu):EV1 8 a=Zs7 a.1 a.2.1 a.2.2:=by kernel_rfl
def Zoa (c:TC) (s:Int) (g:List Int):RT (Option (TY×Bool)):=
 let x1:QT0:=(c,s==5,g,(0,0,0,0,0,0,0,0),[])
 let x2:=qAtC x1 0
 let x3:=Zc c.1 (qAt x1 0)
 let x4:= !x2||x3.1==12
 let x7:QT3:=((pcOf c),0,4)
 let x10:=x3.2
 let x11:List TY:=[]++[(1,x7)]
 .br (!x4||x2) (.br (x4) (.br (Zd s) (fin3 g ([]++[(12,pcOf c,0,6)]++[(5,u16.wrap ((spOf c)-1),u8.wrap (shrI u16 (pcOf c) 8),3)]++[(5,u16.wrap ((spOf c)-2),u8.wrap (pcOf c),3)]:List TY)) (.br (iN (Le g)==0) (fin3 g ([]++[(bif s==5 then 8 else 1,x7)]:List TY)) (fin3 g (bif x10.2.2.1==6 then x11++[(2,Zek (c,s==5,g,(12,x10),x11) 2,0,3)] else x11:List TY)))) Ln) Ln
theorem ZAD (a:HL Zu):EV1 12 a=Zoa a.1 a.2.1 a.2.2:=by kernel_rfl
def Zn6 (c:TC) (s:Int) (g:List Int):RT (Option (TY×Bool)):=
 let x1:QT0:=(c,s==5,g,(0,0,0,0,0,0,0,0),[])
 let x2:=qAtC x1 0
 let x3:= !x2||(Zc c.1 (qAt x1 0)).1==16
 let x6:QT3:=((pcOf c),0,4)
 .br (!x3||x2) (.br (x3) (.br (Zd s) (fin3 g ([]++[(12,pcOf c,0,6)]++[(5,u16.wrap ((spOf c)-1),u8.wrap (shrI u16 (pcOf c) 8),3)]++[(5,u16.wrap ((spOf c)-2),u8.wrap (pcOf c),3)]:List TY)) (.br (iN (Le g)==0) (fin3 g ([]++[(bif s==5 then 8 else 1,x6)]:List TY)) (fin3 g ([]++[(1,x6)]:List TY)))) Ln) Ln
theorem ZAz (a:HL Zu):EV1 16 a=Zn6 a.1 a.2.1 a.2.2:=by kernel_rfl
def Zn2 (c:TC) (s:Int) (g:List Int):RT (Option (TY×Bool)):=
 let x1:QT0:=(c,s==5,g,(0,0,0,0,0,0,0,0),[])
 let x2:=qAtC x1 0
 let x3:= !x2||(Zc c.1 (qAt x1 0)).1==20
 let x6:QT3:=((pcOf c),0,4)
 .br (!x3||x2) (.br (x3) (.br (Zd s) (fin3 g ([]++[(12,pcOf c,0,6)]++[(5,u16.wrap ((spOf c)-1),u8.wrap (shrI u16 (pcOf c) 8),3)]++[(5,u16.wrap ((spOf c)-2),u8.wrap (pcOf c),3)]:List TY)) (.br (iN (Le g)==0) (fin3 g ([]++[(bif s==5 then 8 else 1,x6)]:List TY)) (fin3 g ([]++[(1,x6)]:List TY)))) Ln) Ln
theorem ZAv (a:HL Zu):EV1 20 a=Zn2 a.1 a.2.1 a.2.2:=by kernel_rfl
def ZnY (c:TC) (s:Int) (g:List Int):RT (Option (TY×Bool)):=
 let x1:QT0:=(c,s==5,g,(0,0,0,0,0,0,0,0),[])
 let x2:=qAtC x1 0
 let x3:=Zc c.1 (qAt x1 0)
 let x4:= !x2||x3.1==24
 let x7:QT3:=((pcOf c),0,4)
 let x10:List TY:=[]++[(1,x7)]
 let x11:List TY:=[(9,pcOf c,0,3)]
 let x12:List TY:=bif s==5 then x10++x11 else x10++[(2,u16.wrap ((pcOf c)+u16.wrap 1),0,3)]
 .br (!x4||x2) (.br (x4) (.br (Zd s) (fin3 g ([]++[(12,pcOf c,0,6)]++[(5,u16.wrap ((spOf c)-1),u8.wrap (shrI u16 (pcOf c) 8),3)]++[(5,u16.wrap ((spOf c)-2),u8.wrap (pcOf c),3)]:List TY)) (.br (iN (Le g)==0) (fin3 g ([]++[(bif s==5 then 8 else 1,x7)]:List TY)) (fin3 g (bif !ZhT (c,s==5,g,(24,x3.2),x10)&&c.1==2 then x12 else bif s==5 then x12++x11 else x12++[(2,u16.wrap ((pcOf c)+u16.wrap (i64.wrap (1+1))),0,3)]:List TY)))) Ln) Ln
theorem ZAr (a:HL Zu):EV1 24 a=ZnY a.1 a.2.1 a.2.2:=by kernel_rfl
def ZnU (c:TC) (s:Int) (g:List Int):RT (Option (TY×Bool)):=
 let x1:QT0:=(c,s==5,g,(0,0,0,0,0,0,0,0),[])
 let x2:=qAtC x1 0
 let x3:= !x2||(Zc c.1 (qAt x1 0)).1==28
 let x6:QT3:=((pcOf c),0,4)
 .br (!x3||x2) (.br (x3) (.br (Zd s) (fin3 g ([]++[(12,pcOf c,0,6)]++[(5,u16.wrap ((spOf c)-1),u8.wrap (shrI u16 (pcOf c) 8),3)]++[(5,u16.wrap ((spOf c)-2),u8.wrap (pcOf c),3)]:List TY)) (.br (iN (Le g)==0) (fin3 g ([]++[(bif s==5 then 8 else 1,x6)]:List TY)) (fin3 g ([]++[(1,x6)]:List TY)))) Ln) Ln
theorem ZAn (a:HL Zu):EV1 28 a=ZnU a.1 a.2.1 a.2.2:=by kernel_rfl
def ZnQ (c:TC) (s:Int) (g:List Int):RT (Option (TY×Bool)):=
 let x1:QT0:=(c,s==5,g,(0,0,0,0,0,0,0,0),[])
 let x2:=qAtC x1 0
 let x3:= !x2||(Zc c.1 (qAt x1 0)).1==32
 let x6:QT3:=((pcOf c),0,4)
 let x9:=u16.wrap ((spOf c)+1)
 let x10:List TY:=[]++[(1,x6)]++[(4,spOf c,0,3)]++[(4,x9,0,3)]++[(5,x9,c.2.1.2.2.2.2.2.1,3)]++[(5,spOf c,c.2.1.2.2.2.2.2.2.1,3)]
 let x11:=i64.wrap (iN (Le x10)-1)
 let x12:QT15:=R.get (RY) x10 x11
 let x13:=x12.2
 .br (!x3||x2) (.br (x3) (.br (Zd s) (fin3 g ([]++[(12,pcOf c,0,6)]++[(5,u16.wrap ((spOf c)-1),u8.wrap (shrI u16 (pcOf c) 8),3)]++[(5,u16.wrap ((spOf c)-2),u8.wrap (pcOf c),3)]:List TY)) (.br (iN (Le g)==0) (fin3 g ([]++[(bif s==5 then 8 else 1,x6)]:List TY)) (fin3 g (bif c.1 !=2 then setI x10 x11 (x12.1,x13.1,x13.2.1,5) else x10:List TY)))) Ln) Ln
theorem ZAj (a:HL Zu):EV1 32 a=ZnQ a.1 a.2.1 a.2.2:=by kernel_rfl
def ZnM (c:TC) (s:Int) (g:List Int):RT (Option (TY×Bool)):=
 let x1:QT0:=(c,s==5,g,(0,0,0,0,0,0,0,0),[])
 let x2:=qAtC x1 0
 let x3:= !x2||(Zc c.1 (qAt x1 0)).1==36
 let x6:QT3:=((pcOf c),0,4)
 .br (!x3||x2) (.br (x3) (.br (Zd s) (fin3 g ([]++[(12,pcOf c,0,6)]++[(5,u16.wrap ((spOf c)-1),u8.wrap (shrI u16 (pcOf c) 8),3)]++[(5,u16.wrap ((spOf c)-2),u8.wrap (pcOf c),3)]:List TY)) (.br (iN (Le g)==0) (fin3 g ([]++[(bif s==5 then 8 else 1,x6)]:List TY)) (fin3 g ([]++[(1,x6)]:List TY)))) Ln) Ln
theorem ZAf (a:HL Zu):EV1 36 a=ZnM a.1 a.2.1 a.2.2:=by kernel_rfl
def ZnI (c:TC) (s:Int) (g:List Int):RT (Option (TY×Bool)):=
 let x1:QT0:=(c,s==5,g,(0,0,0,0,0,0,0,0),[])
 let x2:=qAtC x1 0
 let x3:= !x2||(Zc c.1 (qAt x1 0)).1==40
 let x6:QT3:=((pcOf c),0,4)
 let x9:List TY:=[(11,pcOf c,0,3)]
 .br (!x3||x2) (.br (x3) (.br (Zd s) (fin3 g ([]++[(12,pcOf c,0,6)]++[(5,u16.wrap ((spOf c)-1),u8.wrap (shrI u16 (pcOf c) 8),3)]++[(5,u16.wrap ((spOf c)-2),u8.wrap (pcOf c),3)]:List TY)) (.br (iN (Le g)==0) (fin3 g ([]++[(bif s==5 then 8 else 1,x6)]:List TY)) (fin3 g ([]++[(1,x6)]++x9++x9:List TY)))) Ln) Ln
theorem ZAb (a:HL Zu):EV1 40 a=ZnI a.1 a.2.1 a.2.2:=by kernel_rfl
def ZnE (c:TC) (s:Int) (g:List Int):RT (Option (TY×Bool)):=
 let x1:QT0:=(c,s==5,g,(0,0,0,0,0,0,0,0),[])
 let x2:=qAtC x1 0
 let x3:= !x2||(Zc c.1 (qAt x1 0)).1==44
 let x6:QT3:=((pcOf c),0,4)
 let x9:List TY:=[]++[(1,x6)]
 let x10:QT3:=((pcOf c),0,3)
 .br (!x3||x2) (.br (x3) (.br (Zd s) (fin3 g ([]++[(12,pcOf c,0,6)]++[(5,u16.wrap ((spOf c)-1),u8.wrap (shrI u16 (pcOf c) 8),3)]++[(5,u16.wrap ((spOf c)-2),u8.wrap (pcOf c),3)]:List TY)) (.br (iN (Le g)==0) (fin3 g ([]++[(bif s==5 then 8 else 1,x6)]:List TY)) (fin3 g ((bif s==5 then x9++[(9,x10)] else x9++[(2,u16.wrap ((pcOf c)+u16.wrap 1),0,3)])++[(11,x10)]:List TY)))) Ln) Ln
theorem Zz7 (a:HL Zu):EV1 44 a=ZnE a.1 a.2.1 a.2.2:=by kernel_rfl
