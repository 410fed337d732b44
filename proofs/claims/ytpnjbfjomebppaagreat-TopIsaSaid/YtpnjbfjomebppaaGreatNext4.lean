import Derived.Test.YtpnjbfjomebppaaGreatNext0
open Go.IntKind (u8 u16 i64)
set_option linter.unusedSimpArgs false
open Go Go.S3 Go.Proofs
set_option linter.unusedVariables false
set_option maxRecDepth 100000
namespace Go.Proofs.YtpnjbfjomebppaaGreat
noncomputable section
def ZtR (c:TC) (s:Int) (g:List Int):RT (Option (TY×Bool)):=
 let x1:QT0:=(c,s==5,g,(0,0,0,0,0,0,0,0),[])
 let x2:=qAtC x1 0
 let x3:=Zc c.1 (qAt x1 0)
 let x4:= !x2||x3.1==4
 let x5:QT3:=((pcOf c),0,4)
 let x6:List TY:=[]++[(1,x5)]
 let x7:List TY:=[(9,pcOf c,0,3)]
 let x8:List TY:=bif s==5 then x6++x7 else x6++[(2,u16.wrap ((pcOf c)+u16.wrap 1),0,3)]
 let x9:List TY:=bif s==5 then x8++x7 else x8++[(2,u16.wrap ((pcOf c)+u16.wrap (i64.wrap (1+1))),0,3)]
 let x10:List TY:=[]++[(12,pcOf c,0,6)]++[(5,u16.wrap ((spOf c)-1),u8.wrap (shrI u16 (pcOf c) 8),3)]++[(5,u16.wrap ((spOf c)-2),u8.wrap (pcOf c),3)]
 let x12:List TY:=[]++[(bif s==5 then 8 else 1,x5)]
 .br (!x4||x2) (.br (x4) (.br (Ze s||(iN (Le g)==0||Zc8 (c,s==5,g,(4,x3.2),x9) 1)) (.br (Ze s) (fin3 g x10) (.br (iN (Le g)==0) (fin3 g x12) (fin3 g x9))) Ln) Ln) Ln
theorem ZHC (a:HL Zu):EV1 4 a=ZtR a.1 a.2.1 a.2.2:=by kernel_rfl
def ZtN (c:TC) (s:Int) (g:List Int):RT (Option (TY×Bool)):=
 let x1:QT0:=(c,s==5,g,(0,0,0,0,0,0,0,0),[])
 let x2:=qAtC x1 0
 let x3:=Zc c.1 (qAt x1 0)
 let x4:= !x2||x3.1==8
 let x5:QT3:=((pcOf c),0,4)
 let x6:List TY:=[]++[(1,x5)]
 let x7:List TY:=[(9,pcOf c,0,3)]
 let x8:List TY:=bif s==5 then x6++x7 else x6++[(2,u16.wrap ((pcOf c)+u16.wrap 1),0,3)]
 let x9:List TY:=bif s==5 then x8++x7 else x8++[(2,u16.wrap ((pcOf c)+u16.wrap (i64.wrap (1+1))),0,3)]
 let x10:QT0:=(c,s==5,g,(8,x3.2),x9)
 let x11:List TY:=[]++[(12,pcOf c,0,6)]++[(5,u16.wrap ((spOf c)-1),u8.wrap (shrI u16 (pcOf c) 8),3)]++[(5,u16.wrap ((spOf c)-2),u8.wrap (pcOf c),3)]
 let x13:List TY:=[]++[(bif s==5 then 8 else 1,x5)]
 let x15:=ZgN x10 1
 let x16:List TY:=x9++[(3,x15,c.2.1.2.2.2.2.2.2.1,3)]++[(3,u16.wrap (x15+1),c.2.1.2.2.2.2.2.1,3)]
 .br (!x4||x2) (.br (x4) (.br (Ze s||(iN (Le g)==0||Zc8 x10 1)) (.br (Ze s) (fin3 g x11) (.br (iN (Le g)==0) (fin3 g x13) (fin3 g x16))) Ln) Ln) Ln
theorem ZHy (a:HL Zu):EV1 8 a=ZtN a.1 a.2.1 a.2.2:=by kernel_rfl
def ZoG (c:TC) (s:Int) (g:List Int):RT (Option (TY×Bool)):=
 let x1:QT0:=(c,s==5,g,(0,0,0,0,0,0,0,0),[])
 let x2:=qAtC x1 0
 let x3:=Zc c.1 (qAt x1 0)
 let x4:= !x2||x3.1==12
 let x5:List TY:=[]++[(12,pcOf c,0,6)]++[(5,u16.wrap ((spOf c)-1),u8.wrap (shrI u16 (pcOf c) 8),3)]++[(5,u16.wrap ((spOf c)-2),u8.wrap (pcOf c),3)]
 let x7:QT3:=((pcOf c),0,4)
 let x8:List TY:=[]++[(bif s==5 then 8 else 1,x7)]
 let x10:=x3.2
 let x11:List TY:=[]++[(1,x7)]
 let x12:List TY:=bif x10.2.2.1==6 then x11++[(2,Zen (c,s==5,g,(12,x10),x11) 2,0,3)] else x11
 .br (!x4||x2) (.br (x4) (.br (Ze s) (fin3 g x5) (.br (iN (Le g)==0) (fin3 g x8) (fin3 g x12))) Ln) Ln
theorem ZBT (a:HL Zu):EV1 12 a=ZoG a.1 a.2.1 a.2.2:=by kernel_rfl
def ZoC (c:TC) (s:Int) (g:List Int):RT (Option (TY×Bool)):=
 let x1:QT0:=(c,s==5,g,(0,0,0,0,0,0,0,0),[])
 let x2:=qAtC x1 0
 let x3:= !x2||(Zc c.1 (qAt x1 0)).1==16
 let x4:List TY:=[]++[(12,pcOf c,0,6)]++[(5,u16.wrap ((spOf c)-1),u8.wrap (shrI u16 (pcOf c) 8),3)]++[(5,u16.wrap ((spOf c)-2),u8.wrap (pcOf c),3)]
 let x6:QT3:=((pcOf c),0,4)
 let x7:List TY:=[]++[(bif s==5 then 8 else 1,x6)]
 let x9:List TY:=[]++[(1,x6)]
 .br (!x3||x2) (.br (x3) (.br (Ze s) (fin3 g x4) (.br (iN (Le g)==0) (fin3 g x7) (fin3 g x9))) Ln) Ln
theorem ZBP (a:HL Zu):EV1 16 a=ZoC a.1 a.2.1 a.2.2:=by kernel_rfl
def Zoy (c:TC) (s:Int) (g:List Int):RT (Option (TY×Bool)):=
 let x1:QT0:=(c,s==5,g,(0,0,0,0,0,0,0,0),[])
 let x2:=qAtC x1 0
 let x3:= !x2||(Zc c.1 (qAt x1 0)).1==20
 let x4:List TY:=[]++[(12,pcOf c,0,6)]++[(5,u16.wrap ((spOf c)-1),u8.wrap (shrI u16 (pcOf c) 8),3)]++[(5,u16.wrap ((spOf c)-2),u8.wrap (pcOf c),3)]
 let x6:QT3:=((pcOf c),0,4)
 let x7:List TY:=[]++[(bif s==5 then 8 else 1,x6)]
 let x9:List TY:=[]++[(1,x6)]
 .br (!x3||x2) (.br (x3) (.br (Ze s) (fin3 g x4) (.br (iN (Le g)==0) (fin3 g x7) (fin3 g x9))) Ln) Ln
theorem ZBL (a:HL Zu):EV1 20 a=Zoy a.1 a.2.1 a.2.2:=by kernel_rfl
def Zou (c:TC) (s:Int) (g:List Int):RT (Option (TY×Bool)):=
 let x1:QT0:=(c,s==5,g,(0,0,0,0,0,0,0,0),[])
 let x2:=qAtC x1 0
 let x3:=Zc c.1 (qAt x1 0)
 let x4:= !x2||x3.1==24
 let x5:List TY:=[]++[(12,pcOf c,0,6)]++[(5,u16.wrap ((spOf c)-1),u8.wrap (shrI u16 (pcOf c) 8),3)]++[(5,u16.wrap ((spOf c)-2),u8.wrap (pcOf c),3)]
 let x7:QT3:=((pcOf c),0,4)
 let x8:List TY:=[]++[(bif s==5 then 8 else 1,x7)]
 let x10:List TY:=[]++[(1,x7)]
 let x11:List TY:=[(9,pcOf c,0,3)]
 let x12:List TY:=bif s==5 then x10++x11 else x10++[(2,u16.wrap ((pcOf c)+u16.wrap 1),0,3)]
 let x13:List TY:=bif !ZhZ (c,s==5,g,(24,x3.2),x10)&&c.1==2 then x12 else bif s==5 then x12++x11 else x12++[(2,u16.wrap ((pcOf c)+u16.wrap (i64.wrap (1+1))),0,3)]
 .br (!x4||x2) (.br (x4) (.br (Ze s) (fin3 g x5) (.br (iN (Le g)==0) (fin3 g x8) (fin3 g x13))) Ln) Ln
theorem ZBH (a:HL Zu):EV1 24 a=Zou a.1 a.2.1 a.2.2:=by kernel_rfl
def Zoq (c:TC) (s:Int) (g:List Int):RT (Option (TY×Bool)):=
 let x1:QT0:=(c,s==5,g,(0,0,0,0,0,0,0,0),[])
 let x2:=qAtC x1 0
 let x3:= !x2||(Zc c.1 (qAt x1 0)).1==28
 let x4:List TY:=[]++[(12,pcOf c,0,6)]++[(5,u16.wrap ((spOf c)-1),u8.wrap (shrI u16 (pcOf c) 8),3)]++[(5,u16.wrap ((spOf c)-2),u8.wrap (pcOf c),3)]
 let x6:QT3:=((pcOf c),0,4)
 let x7:List TY:=[]++[(bif s==5 then 8 else 1,x6)]
 let x9:List TY:=[]++[(1,x6)]
 .br (!x3||x2) (.br (x3) (.br (Ze s) (fin3 g x4) (.br (iN (Le g)==0) (fin3 g x7) (fin3 g x9))) Ln) Ln
theorem ZBD (a:HL Zu):EV1 28 a=Zoq a.1 a.2.1 a.2.2:=by kernel_rfl
def Zom (c:TC) (s:Int) (g:List Int):RT (Option (TY×Bool)):=
 let x1:QT0:=(c,s==5,g,(0,0,0,0,0,0,0,0),[])
 let x2:=qAtC x1 0
 let x3:= !x2||(Zc c.1 (qAt x1 0)).1==32
 let x4:List TY:=[]++[(12,pcOf c,0,6)]++[(5,u16.wrap ((spOf c)-1),u8.wrap (shrI u16 (pcOf c) 8),3)]++[(5,u16.wrap ((spOf c)-2),u8.wrap (pcOf c),3)]
 let x6:QT3:=((pcOf c),0,4)
 let x7:List TY:=[]++[(bif s==5 then 8 else 1,x6)]
 let x9:=u16.wrap ((spOf c)+1)
 let x10:List TY:=[]++[(1,x6)]++[(4,spOf c,0,3)]++[(4,x9,0,3)]++[(5,x9,c.2.1.2.2.2.2.2.1,3)]++[(5,spOf c,c.2.1.2.2.2.2.2.2.1,3)]
 let x11:=i64.wrap (iN (Le x10)-1)
 let x12:QT18:=R.get (RY) x10 x11
 let x13:=x12.2
 let x14:List TY:=bif c.1 !=2 then setI x10 x11 (x12.1,x13.1,x13.2.1,5) else x10
 .br (!x3||x2) (.br (x3) (.br (Ze s) (fin3 g x4) (.br (iN (Le g)==0) (fin3 g x7) (fin3 g x14))) Ln) Ln
theorem ZBz (a:HL Zu):EV1 32 a=Zom a.1 a.2.1 a.2.2:=by kernel_rfl
def Zoi (c:TC) (s:Int) (g:List Int):RT (Option (TY×Bool)):=
 let x1:QT0:=(c,s==5,g,(0,0,0,0,0,0,0,0),[])
 let x2:=qAtC x1 0
 let x3:= !x2||(Zc c.1 (qAt x1 0)).1==36
 let x4:List TY:=[]++[(12,pcOf c,0,6)]++[(5,u16.wrap ((spOf c)-1),u8.wrap (shrI u16 (pcOf c) 8),3)]++[(5,u16.wrap ((spOf c)-2),u8.wrap (pcOf c),3)]
 let x6:QT3:=((pcOf c),0,4)
 let x7:List TY:=[]++[(bif s==5 then 8 else 1,x6)]
 let x9:List TY:=[]++[(1,x6)]
 .br (!x3||x2) (.br (x3) (.br (Ze s) (fin3 g x4) (.br (iN (Le g)==0) (fin3 g x7) (fin3 g x9))) Ln) Ln
theorem ZBv (a:HL Zu):EV1 36 a=Zoi a.1 a.2.1 a.2.2:=by kernel_rfl
def Zoe (c:TC) (s:Int) (g:List Int):RT (Option (TY×Bool)):=
 let x1:QT0:=(c,s==5,g,(0,0,0,0,0,0,0,0),[])
 let x2:=qAtC x1 0
 let x3:= !x2||(Zc c.1 (qAt x1 0)).1==40
 let x4:List TY:=[]++[(12,pcOf c,0,6)]++[(5,u16.wrap ((spOf c)-1),u8.wrap (shrI u16 (pcOf c) 8),3)]++[(5,u16.wrap ((spOf c)-2),u8.wrap (pcOf c),3)]
 let x6:QT3:=((pcOf c),0,4)
 let x7:List TY:=[]++[(bif s==5 then 8 else 1,x6)]
 let x9:List TY:=[(11,pcOf c,0,3)]
 let x10:List TY:=[]++[(1,x6)]++x9++x9
 .br (!x3||x2) (.br (x3) (.br (Ze s) (fin3 g x4) (.br (iN (Le g)==0) (fin3 g x7) (fin3 g x10))) Ln) Ln
theorem ZBr (a:HL Zu):EV1 40 a=Zoe a.1 a.2.1 a.2.2:=by kernel_rfl
def Zoa (c:TC) (s:Int) (g:List Int):RT (Option (TY×Bool)):=
 let x1:QT0:=(c,s==5,g,(0,0,0,0,0,0,0,0),[])
 let x2:=qAtC x1 0
 let x3:= !x2||(Zc c.1 (qAt x1 0)).1==44
 let x4:List TY:=[]++[(12,pcOf c,0,6)]++[(5,u16.wrap ((spOf c)-1),u8.wrap (shrI u16 (pcOf c) 8),3)]++[(5,u16.wrap ((spOf c)-2),u8.wrap (pcOf c),3)]
 let x6:QT3:=((pcOf c),0,4)
 let x7:List TY:=[]++[(bif s==5 then 8 else 1,x6)]
 let x9:List TY:=[]++[(1,x6)]
 let x10:QT3:=((pcOf c),0,3)
 let x11:List TY:=(bif s==5 then x9++[(9,x10)] else x9++[(2,u16.wrap ((pcOf c)+u16.wrap 1),0,3)])++[(11,x10)]
 .br (!x3||x2) (.br (x3) (.br (Ze s) (fin3 g x4) (.br (iN (Le g)==0) (fin3 g x7) (fin3 g x11))) Ln) Ln
theorem ZBn (a:HL Zu):EV1 44 a=Zoa a.1 a.2.1 a.2.2:=by kernel_rfl
def ZEz (c:TC) (s:Int) (g:List Int):RT (Option (TY×Bool)):=
 let x1:List TY:=[(12,pcOf c,0,6)]++[(5,u16.wrap ((spOf c)-1),u8.wrap (shrI u16 (pcOf c) 8),3)]++[(5,u16.wrap ((spOf c)-2),u8.wrap (pcOf c),3)]
 let x3:List TY:=[(bif s==5 then 8 else 1,pcOf c,0,4)]
 .br (Zd s||(!decide (iN (Le g)>0)||(!Zf 0 (Le g)||(Zc c.1 (R.get Ka g 0)).1==1))) (.br (Zd s||(!decide (iN (Le g)>0)||Zf 0 (Le g))) (.br (Zd s) (fin3 g x1) (fin3 g x3)) Ln) Ln
def ZEv (c:TC) (s:Int) (g:List Int):RT (Option (TY×Bool)):=
 let x1:List TY:=[(bif s==5 then 8 else 1,pcOf c,0,4)]
 let x2:List TY:=[(9,pcOf c,0,3)]
 let x3:List TY:=x1++x2
 let x4:List TY:=[(2,u16.wrap ((pcOf c)+u16.wrap (i64.wrap (1+1))),0,3)]
 let x5:List TY:=bif s==5 then x3++x2 else x3++x4
 let x6:QT6:=(c,s==5,g,x5)
 let x7:= !s==5||ZeW x6 1
 let x8:List TY:=x1++[(2,u16.wrap ((pcOf c)+u16.wrap 1),0,3)]
 let x9:List TY:=bif s==5 then x8++x2 else x8++x4
 let x10:QT6:=(c,s==5,g,x9)
 let x11:List TY:=[(12,pcOf c,0,6)]++[(5,u16.wrap ((spOf c)-1),u8.wrap (shrI u16 (pcOf c) 8),3)]++[(5,u16.wrap ((spOf c)-2),u8.wrap (pcOf c),3)]
 let x13:List TY:=x5++[(2,Zjz x6 1,0,3)]
 let x15:List TY:=x9++[(2,Zjz x10 1,0,3)]
 .br (Zd s||(!decide (iN (Le g)>0)||(!Zf 0 (Le g)||(!(Zc c.1 (R.get Ka g 0)).1==5||(!x7||(s==5||ZeW x10 1)))))) (.br (Zd s||(!decide (iN (Le g)>0)||(!Zf 0 (Le g)||(!(Zc c.1 (R.get Ka g 0)).1==5||x7)))) (.br (Zd s||(!decide (iN (Le g)>0)||(!Zf 0 (Le g)||(Zc c.1 (R.get Ka g 0)).1==5))) (.br (Zd s||(!decide (iN (Le g)>0)||Zf 0 (Le g))) (.br (Zd s) (fin3 g x11) (.br (decide (iN (Le g)>0)) (.br (s==5) (fin3 g x13) (fin3 g x15)) (fin3 g x1))) Ln) Ln) Ln) Ln
def ZEr (c:TC) (s:Int) (g:List Int):RT (Option (TY×Bool)):=
 let x1:List TY:=[(12,pcOf c,0,6)]++[(5,u16.wrap ((spOf c)-1),u8.wrap (shrI u16 (pcOf c) 8),3)]++[(5,u16.wrap ((spOf c)-2),u8.wrap (pcOf c),3)]
 let x3:List TY:=[(bif s==5 then 8 else 1,pcOf c,0,4)]
 let x4:List TY:=x3++[(2,ZbJ c.2.1 (Zc c.1 (R.get Ka g 0)).2.2.2.2.1,0,3)]
 .br (Zd s||(!decide (iN (Le g)>0)||(!Zf 0 (Le g)||(Zc c.1 (R.get Ka g 0)).1==9))) (.br (Zd s||(!decide (iN (Le g)>0)||Zf 0 (Le g))) (.br (Zd s) (fin3 g x1) (.br (decide (iN (Le g)>0)) (fin3 g x4) (fin3 g x3))) Ln) Ln
def Zxn (c:TC) (s:Int) (g:List Int):RT (Option (TY×Bool)):=
 let x1:List TY:=[(12,pcOf c,0,6)]++[(5,u16.wrap ((spOf c)-1),u8.wrap (shrI u16 (pcOf c) 8),3)]++[(5,u16.wrap ((spOf c)-2),u8.wrap (pcOf c),3)]
 let x3:List TY:=[(bif s==5 then 8 else 1,pcOf c,0,4)]
 let x4:List TY:=x3++[(9,pcOf c,0,3)]
 let x6:List TY:=x3++[(2,u16.wrap ((pcOf c)+u16.wrap 1),0,3)]
 .br (Zd s||(!decide (iN (Le g)>0)||(!Zf 0 (Le g)||(Zc c.1 (R.get Ka g 0)).1==13))) (.br (Zd s||(!decide (iN (Le g)>0)||Zf 0 (Le g))) (.br (Zd s) (fin3 g x1) (.br (decide (iN (Le g)>0)) (.br (s==5) (fin3 g x4) (fin3 g x6)) (fin3 g x3))) Ln) Ln
def Zxj (c:TC) (s:Int) (g:List Int):RT (Option (TY×Bool)):=
 let x1:List TY:=[(12,pcOf c,0,6)]++[(5,u16.wrap ((spOf c)-1),u8.wrap (shrI u16 (pcOf c) 8),3)]++[(5,u16.wrap ((spOf c)-2),u8.wrap (pcOf c),3)]
 let x3:List TY:=[(bif s==5 then 8 else 1,pcOf c,0,4)]
 .br (Zd s||(!decide (iN (Le g)>0)||(!Zf 0 (Le g)||(Zc c.1 (R.get Ka g 0)).1==17))) (.br (Zd s||(!decide (iN (Le g)>0)||Zf 0 (Le g))) (.br (Zd s) (fin3 g x1) (fin3 g x3)) Ln) Ln
def Zxf (c:TC) (s:Int) (g:List Int):RT (Option (TY×Bool)):=
 let x1:List TY:=[(12,pcOf c,0,6)]++[(5,u16.wrap ((spOf c)-1),u8.wrap (shrI u16 (pcOf c) 8),3)]++[(5,u16.wrap ((spOf c)-2),u8.wrap (pcOf c),3)]
 let x3:List TY:=[(bif s==5 then 8 else 1,pcOf c,0,4)]
 .br (Zd s||(!decide (iN (Le g)>0)||(!Zf 0 (Le g)||(Zc c.1 (R.get Ka g 0)).1==21))) (.br (Zd s||(!decide (iN (Le g)>0)||Zf 0 (Le g))) (.br (Zd s) (fin3 g x1) (fin3 g x3)) Ln) Ln
def Zxb (c:TC) (s:Int) (g:List Int):RT (Option (TY×Bool)):=
 let x1:=u16.wrap ((spOf c)-1)
 let x2:=u16.wrap ((spOf c)-2)
 let x3:List TY:=[(12,pcOf c,0,6)]++[(5,x1,u8.wrap (shrI u16 (pcOf c) 8),3)]++[(5,x2,u8.wrap (pcOf c),3)]
 let x5:List TY:=[(bif s==5 then 8 else 1,pcOf c,0,4)]
 let x6:List TY:=[(9,pcOf c,0,3)]
 let x7:List TY:=x5++x6
 let x8:QT6:=(c,s==5,g,x7)
 let x9:=Zit x8 (Zc c.1 (R.get Ka g 0)).2.1
 let x10:List TY:=bif ZjA x8 (25,(Zc c.1 (R.get Ka g 0)).2) then x7++[(5,x1,u8.wrap (shrI u16 x9 8),3)]++[(5,x2,u8.wrap x9,3)] else x7
 let x12:List TY:=x5++[(2,u16.wrap ((pcOf c)+u16.wrap 1),0,3)]
 let x13:QT6:=(c,s==5,g,x12)
 let x14:=Zit x13 (Zc c.1 (R.get Ka g 0)).2.1
 let x15:List TY:=bif ZjA x13 (25,(Zc c.1 (R.get Ka g 0)).2) then x12++[(5,x1,u8.wrap (shrI u16 x14 8),3)]++[(5,x2,u8.wrap x14,3)] else x12
 let x17:List TY:=[(2,u16.wrap ((pcOf c)+u16.wrap (i64.wrap (1+1))),0,3)]
 let x18:List TY:=bif s==5 then x7++x6 else x7++x17
 let x19:QT6:=(c,s==5,g,x18)
 let x20:=Zit x19 (Zc c.1 (R.get Ka g 0)).2.1
 let x21:List TY:=bif ZjA x19 (25,(Zc c.1 (R.get Ka g 0)).2) then x18++[(5,x1,u8.wrap (shrI u16 x20 8),3)]++[(5,x2,u8.wrap x20,3)] else x18
 let x23:List TY:=bif s==5 then x12++x6 else x12++x17
 let x24:QT6:=(c,s==5,g,x23)
 let x25:=Zit x24 (Zc c.1 (R.get Ka g 0)).2.1
 let x26:List TY:=bif ZjA x24 (25,(Zc c.1 (R.get Ka g 0)).2) then x23++[(5,x1,u8.wrap (shrI u16 x25 8),3)]++[(5,x2,u8.wrap x25,3)] else x23
 .br (Zd s||(!decide (iN (Le g)>0)||(!Zf 0 (Le g)||(Zc c.1 (R.get Ka g 0)).1==25))) (.br (Zd s||(!decide (iN (Le g)>0)||Zf 0 (Le g))) (.br (Zd s) (fin3 g x3) (.br (decide (iN (Le g)>0)) (.br (rOn c.1&& !ZjA (c,s==5,g,x5) (25,(Zc c.1 (R.get Ka g 0)).2)) (.br (s==5) (fin3 g x10) (fin3 g x15)) (.br (s==5) (fin3 g x21) (fin3 g x26))) (fin3 g x5))) Ln) Ln
def Zw7 (c:TC) (s:Int) (g:List Int):RT (Option (TY×Bool)):=
 let x1:List TY:=[(12,pcOf c,0,6)]++[(5,u16.wrap ((spOf c)-1),u8.wrap (shrI u16 (pcOf c) 8),3)]++[(5,u16.wrap ((spOf c)-2),u8.wrap (pcOf c),3)]
 let x3:List TY:=[(bif s==5 then 8 else 1,pcOf c,0,4)]
 .br (Zd s||(!decide (iN (Le g)>0)||(!Zf 0 (Le g)||(Zc c.1 (R.get Ka g 0)).1==29))) (.br (Zd s||(!decide (iN (Le g)>0)||Zf 0 (Le g))) (.br (Zd s) (fin3 g x1) (fin3 g x3)) Ln) Ln
def Zw3 (c:TC) (s:Int) (g:List Int):RT (Option (TY×Bool)):=
 let x1:List TY:=[(bif s==5 then 8 else 1,pcOf c,0,4)]
 let x2:List TY:=x1++[(9,pcOf c,0,3)]
 let x3:QT6:=(c,s==5,g,x2)
 let x4:=mAtC x3 1
 let x5:= !x4||x4
 let x6:= !s==5||(!x5||x4)
 let x7:= !x6
 let x8:= !s==5||x5
 let x9:= !x8
 let x10:List TY:=x1++[(2,u16.wrap ((pcOf c)+u16.wrap 1),0,3)]
 let x11:QT6:=(c,s==5,g,x10)
 let x12:=mAtC x11 1
 let x13:= !x12||x12
 let x14:=s==5||(!x13||x12)
 let x15:List TY:=[(12,pcOf c,0,6)]++[(5,u16.wrap ((spOf c)-1),u8.wrap (shrI u16 (pcOf c) 8),3)]++[(5,u16.wrap ((spOf c)-2),u8.wrap (pcOf c),3)]
 let x17:=mAt x3 1
 let x18:List TY:=x2++[(6,ZfO x17 x17,0,3)]
 let x20:=mAt x11 1
 let x21:List TY:=x10++[(6,ZfO x20 x20,0,3)]
 .br (Zd s||(!decide (iN (Le g)>0)||(!Zf 0 (Le g)||(!(Zc c.1 (R.get Ka g 0)).1==33||(x7||(x9||(!x14||(s==5||x13)))))))) (.br (Zd s||(!decide (iN (Le g)>0)||(!Zf 0 (Le g)||(!(Zc c.1 (R.get Ka g 0)).1==33||(x7||(x9||x14)))))) (.br (Zd s||(!decide (iN (Le g)>0)||(!Zf 0 (Le g)||(!(Zc c.1 (R.get Ka g 0)).1==33||(x7||x8))))) (.br (Zd s||(!decide (iN (Le g)>0)||(!Zf 0 (Le g)||(!(Zc c.1 (R.get Ka g 0)).1==33||x6)))) (.br (Zd s||(!decide (iN (Le g)>0)||(!Zf 0 (Le g)||(Zc c.1 (R.get Ka g 0)).1==33))) (.br (Zd s||(!decide (iN (Le g)>0)||Zf 0 (Le g))) (.br (Zd s) (fin3 g x15) (.br (decide (iN (Le g)>0)) (.br (s==5) (fin3 g x18) (fin3 g x21)) (fin3 g x1))) Ln) Ln) Ln) Ln) Ln) Ln
def ZwZ (c:TC) (s:Int) (g:List Int):RT (Option (TY×Bool)):=
 let x1:List TY:=[(12,pcOf c,0,6)]++[(5,u16.wrap ((spOf c)-1),u8.wrap (shrI u16 (pcOf c) 8),3)]++[(5,u16.wrap ((spOf c)-2),u8.wrap (pcOf c),3)]
 let x3:List TY:=[(bif s==5 then 8 else 1,pcOf c,0,4)]
 let x4:List TY:=x3++[(10,pcOf c,0,3)]
 let x6:Nat:=Le x3
 let x7:=decide (iN (Le g)>=iN x6)
 let x8:=Zf (iN (Le g)) x6
 let x9:TY×Bool:=(R.get (RY) x3 (iN (Le g)),true)
 .br (Zd s||(!decide (iN (Le g)>0)||(!Zf 0 (Le g)||(Zc c.1 (R.get Ka g 0)).1==37))) (.br (Zd s||(!decide (iN (Le g)>0)||Zf 0 (Le g))) (.br (Zd s) (fin3 g x1) (.br (decide (iN (Le g)>0)) (.br (!rOn c.1) (fin3 g x4) (.br (x7) (Ls (((0,0,0,0),false))) (.br (x8) (Ls (x9)) Ln))) (.br (x7) (Ls (((0,0,0,0),false))) (.br (x8) (Ls (x9)) Ln)))) Ln) Ln
def ZwV (c:TC) (s:Int) (g:List Int):RT (Option (TY×Bool)):=
 let x1:List TY:=[(12,pcOf c,0,6)]++[(5,u16.wrap ((spOf c)-1),u8.wrap (shrI u16 (pcOf c) 8),3)]++[(5,u16.wrap ((spOf c)-2),u8.wrap (pcOf c),3)]
 let x3:List TY:=[(bif s==5 then 8 else 1,pcOf c,0,4)]
 let x4:List TY:=x3++[(11,pcOf c,0,3)]
 .br (Zd s||(!decide (iN (Le g)>0)||(!Zf 0 (Le g)||(Zc c.1 (R.get Ka g 0)).1==41))) (.br (Zd s||(!decide (iN (Le g)>0)||Zf 0 (Le g))) (.br (Zd s) (fin3 g x1) (.br (decide (iN (Le g)>0)) (fin3 g x4) (fin3 g x3))) Ln) Ln
def ZwR (c:TC) (s:Int) (g:List Int):RT (Option (TY×Bool)):=
 let x1:=u16.wrap ((spOf c)-1)
 let x2:=u16.wrap ((spOf c)-2)
 let x3:List TY:=[(12,pcOf c,0,6)]++[(5,x1,u8.wrap (shrI u16 (pcOf c) 8),3)]++[(5,x2,u8.wrap (pcOf c),3)]
 let x5:List TY:=[(bif s==5 then 8 else 1,pcOf c,0,4)]
 let x6:QT6:=(c,s==5,g,x5)
 let x7:=Zit x6 (Zc c.1 (R.get Ka g 0)).2.1
 let x8:List TY:=x5++[(5,x1,u8.wrap (shrI u16 x7 8),3)]++[(5,x2,u8.wrap x7,3)]
 let x10:Nat:=Le x5
 let x11:=decide (iN (Le g)>=iN x10)
 let x12:=Zf (iN (Le g)) x10
 let x13:TY×Bool:=(R.get (RY) x5 (iN (Le g)),true)
 .br (Zd s||(!decide (iN (Le g)>0)||(!Zf 0 (Le g)||(Zc c.1 (R.get Ka g 0)).1==45))) (.br (Zd s||(!decide (iN (Le g)>0)||Zf 0 (Le g))) (.br (Zd s) (fin3 g x3) (.br (decide (iN (Le g)>0)) (.br (ZjA x6 (45,(Zc c.1 (R.get Ka g 0)).2)) (fin3 g x8) (.br (x11) (Ls (((0,0,0,0),false))) (.br (x12) (Ls (x13)) Ln))) (.br (x11) (Ls (((0,0,0,0),false))) (.br (x12) (Ls (x13)) Ln)))) Ln) Ln
