import Derived.Test.YtpnjbfjomebppaaGreatNext0
open Go.IntKind (u8 u16 i64)
set_option linter.unusedSimpArgs false
open Go Go.S3 Go.Proofs
set_option linter.unusedVariables false
set_option maxRecDepth 100000
namespace Go.Proofs.YtpnjbfjomebppaaGreat
noncomputable section
def Zts (c:TC) (s:Int) (g:List Int):RT (Option (TY×Bool)):=
 let x1:QT0:=(c,s==5,g,(0,0,0,0,0,0,0,0),[])
 let x2:=qAtC x1 0
 let x3:= !x2||(Zc c.1 (qAt x1 0)).1==1
 let x4:List TY:=[]++[(12,pcOf c,0,6)]++[(5,u16.wrap ((spOf c)-1),u8.wrap (shrI u16 (pcOf c) 8),3)]++[(5,u16.wrap ((spOf c)-2),u8.wrap (pcOf c),3)]
 let x6:QT4:=((pcOf c),0,4)
 let x7:List TY:=[]++[(bif s==5 then 8 else 1,x6)]
 let x9:List TY:=[]++[(1,x6)]
 .br (!x3||x2) (.br (x3) (.br (Ze s) (fin3 g x4) (.br (iN (List.length g)==0) (fin3 g x7) (fin3 g x9))) (.Lf none)) (.Lf none)
theorem ZGQ (a:HL Zt):EV1 1 a=Zts a.1 a.2.1 a.2.2:=by kernel_rfl
def Zto (c:TC) (s:Int) (g:List Int):RT (Option (TY×Bool)):=
 let x1:QT0:=(c,s==5,g,(0,0,0,0,0,0,0,0),[])
 let x2:=qAtC x1 0
 let x3:=Zc c.1 (qAt x1 0)
 let x4:= !x2||x3.1==5
 let x5:QT4:=((pcOf c),0,4)
 let x6:List TY:=[]++[(1,x5)]
 let x7:List TY:=[(9,pcOf c,0,3)]
 let x8:List TY:=bif s==5 then x6++x7 else x6++[(2,u16.wrap ((pcOf c)+u16.wrap 1),0,3)]
 let x9:List TY:=bif s==5 then x8++x7 else x8++[(2,u16.wrap ((pcOf c)+u16.wrap (i64.wrap (1+1))),0,3)]
 let x10:QT0:=(c,s==5,g,(5,x3.2),x9)
 let x11:List TY:=[]++[(12,pcOf c,0,6)]++[(5,u16.wrap ((spOf c)-1),u8.wrap (shrI u16 (pcOf c) 8),3)]++[(5,u16.wrap ((spOf c)-2),u8.wrap (pcOf c),3)]
 let x13:List TY:=[]++[(bif s==5 then 8 else 1,x5)]
 let x15:List TY:=x9++[(2,ZgF x10 1,0,3)]
 .br (!x4||x2) (.br (x4) (.br (Ze s||(iN (List.length g)==0||Zc8 x10 1)) (.br (Ze s) (fin3 g x11) (.br (iN (List.length g)==0) (fin3 g x13) (fin3 g x15))) (.Lf none)) (.Lf none)) (.Lf none)
theorem ZGM (a:HL Zt):EV1 5 a=Zto a.1 a.2.1 a.2.2:=by kernel_rfl
def Ztk (c:TC) (s:Int) (g:List Int):RT (Option (TY×Bool)):=
 let x1:QT0:=(c,s==5,g,(0,0,0,0,0,0,0,0),[])
 let x2:=qAtC x1 0
 let x3:=Zc c.1 (qAt x1 0)
 let x4:= !x2||x3.1==9
 let x5:List TY:=[]++[(12,pcOf c,0,6)]++[(5,u16.wrap ((spOf c)-1),u8.wrap (shrI u16 (pcOf c) 8),3)]++[(5,u16.wrap ((spOf c)-2),u8.wrap (pcOf c),3)]
 let x7:QT4:=((pcOf c),0,4)
 let x8:List TY:=[]++[(bif s==5 then 8 else 1,x7)]
 let x10:List TY:=[]++[(1,x7)]
 let x11:=x3.2
 let x12:List TY:=x10++[(2,Zek (c,s==5,g,(9,x11),x10) x11.2.2.2.1,0,3)]
 .br (!x4||x2) (.br (x4) (.br (Ze s) (fin3 g x5) (.br (iN (List.length g)==0) (fin3 g x8) (fin3 g x12))) (.Lf none)) (.Lf none)
theorem ZGI (a:HL Zt):EV1 9 a=Ztk a.1 a.2.1 a.2.2:=by kernel_rfl
def Zoh (c:TC) (s:Int) (g:List Int):RT (Option (TY×Bool)):=
 let x1:QT0:=(c,s==5,g,(0,0,0,0,0,0,0,0),[])
 let x2:=qAtC x1 0
 let x3:= !x2||(Zc c.1 (qAt x1 0)).1==13
 let x4:List TY:=[]++[(12,pcOf c,0,6)]++[(5,u16.wrap ((spOf c)-1),u8.wrap (shrI u16 (pcOf c) 8),3)]++[(5,u16.wrap ((spOf c)-2),u8.wrap (pcOf c),3)]
 let x6:QT4:=((pcOf c),0,4)
 let x7:List TY:=[]++[(bif s==5 then 8 else 1,x6)]
 let x9:List TY:=[]++[(1,x6)]
 let x10:List TY:=bif s==5 then x9++[(9,pcOf c,0,3)] else x9++[(2,u16.wrap ((pcOf c)+u16.wrap 1),0,3)]
 .br (!x3||x2) (.br (x3) (.br (Ze s) (fin3 g x4) (.br (iN (List.length g)==0) (fin3 g x7) (fin3 g x10))) (.Lf none)) (.Lf none)
theorem ZBc (a:HL Zt):EV1 13 a=Zoh a.1 a.2.1 a.2.2:=by kernel_rfl
def Zod (c:TC) (s:Int) (g:List Int):RT (Option (TY×Bool)):=
 let x1:QT0:=(c,s==5,g,(0,0,0,0,0,0,0,0),[])
 let x2:=qAtC x1 0
 let x3:= !x2||(Zc c.1 (qAt x1 0)).1==17
 let x4:List TY:=[]++[(12,pcOf c,0,6)]++[(5,u16.wrap ((spOf c)-1),u8.wrap (shrI u16 (pcOf c) 8),3)]++[(5,u16.wrap ((spOf c)-2),u8.wrap (pcOf c),3)]
 let x6:QT4:=((pcOf c),0,4)
 let x7:List TY:=[]++[(bif s==5 then 8 else 1,x6)]
 let x9:List TY:=[]++[(1,x6)]
 .br (!x3||x2) (.br (x3) (.br (Ze s) (fin3 g x4) (.br (iN (List.length g)==0) (fin3 g x7) (fin3 g x9))) (.Lf none)) (.Lf none)
theorem ZA8 (a:HL Zt):EV1 17 a=Zod a.1 a.2.1 a.2.2:=by kernel_rfl
def Zn9 (c:TC) (s:Int) (g:List Int):RT (Option (TY×Bool)):=
 let x1:QT0:=(c,s==5,g,(0,0,0,0,0,0,0,0),[])
 let x2:=qAtC x1 0
 let x3:= !x2||(Zc c.1 (qAt x1 0)).1==21
 let x4:List TY:=[]++[(12,pcOf c,0,6)]++[(5,u16.wrap ((spOf c)-1),u8.wrap (shrI u16 (pcOf c) 8),3)]++[(5,u16.wrap ((spOf c)-2),u8.wrap (pcOf c),3)]
 let x6:QT4:=((pcOf c),0,4)
 let x7:List TY:=[]++[(bif s==5 then 8 else 1,x6)]
 let x9:List TY:=[]++[(1,x6)]
 .br (!x3||x2) (.br (x3) (.br (Ze s) (fin3 g x4) (.br (iN (List.length g)==0) (fin3 g x7) (fin3 g x9))) (.Lf none)) (.Lf none)
theorem ZA4 (a:HL Zt):EV1 21 a=Zn9 a.1 a.2.1 a.2.2:=by kernel_rfl
def Zn5 (c:TC) (s:Int) (g:List Int):RT (Option (TY×Bool)):=
 let x1:QT0:=(c,s==5,g,(0,0,0,0,0,0,0,0),[])
 let x2:=qAtC x1 0
 let x3:=Zc c.1 (qAt x1 0)
 let x4:= !x2||x3.1==25
 let x5:=u16.wrap ((spOf c)-1)
 let x6:=u16.wrap ((spOf c)-2)
 let x7:List TY:=[]++[(12,pcOf c,0,6)]++[(5,x5,u8.wrap (shrI u16 (pcOf c) 8),3)]++[(5,x6,u8.wrap (pcOf c),3)]
 let x9:QT4:=((pcOf c),0,4)
 let x10:List TY:=[]++[(bif s==5 then 8 else 1,x9)]
 let x12:QT6:=(25,x3.2)
 let x13:List TY:=[]++[(1,x9)]
 let x14:=ZhR (c,s==5,g,x12,x13)
 let x15:List TY:=[(9,pcOf c,0,3)]
 let x16:List TY:=bif s==5 then x13++x15 else x13++[(2,u16.wrap ((pcOf c)+u16.wrap 1),0,3)]
 let x17:List TY:=bif !x14&&c.1==2 then x16 else bif s==5 then x16++x15 else x16++[(2,u16.wrap ((pcOf c)+u16.wrap (i64.wrap (1+1))),0,3)]
 let x18:=Zw (c,s==5,g,x12,x17)
 let x19:List TY:=bif x14 then x17++[(5,x5,u8.wrap (shrI u16 x18 8),3)]++[(5,x6,u8.wrap x18,3)] else x17
 .br (!x4||x2) (.br (x4) (.br (Ze s) (fin3 g x7) (.br (iN (List.length g)==0) (fin3 g x10) (fin3 g x19))) (.Lf none)) (.Lf none)
theorem ZA0 (a:HL Zt):EV1 25 a=Zn5 a.1 a.2.1 a.2.2:=by kernel_rfl
def Zn1 (c:TC) (s:Int) (g:List Int):RT (Option (TY×Bool)):=
 let x1:QT0:=(c,s==5,g,(0,0,0,0,0,0,0,0),[])
 let x2:=qAtC x1 0
 let x3:= !x2||(Zc c.1 (qAt x1 0)).1==29
 let x4:List TY:=[]++[(12,pcOf c,0,6)]++[(5,u16.wrap ((spOf c)-1),u8.wrap (shrI u16 (pcOf c) 8),3)]++[(5,u16.wrap ((spOf c)-2),u8.wrap (pcOf c),3)]
 let x6:QT4:=((pcOf c),0,4)
 let x7:List TY:=[]++[(bif s==5 then 8 else 1,x6)]
 let x9:List TY:=[]++[(1,x6)]
 .br (!x3||x2) (.br (x3) (.br (Ze s) (fin3 g x4) (.br (iN (List.length g)==0) (fin3 g x7) (fin3 g x9))) (.Lf none)) (.Lf none)
theorem ZAW (a:HL Zt):EV1 29 a=Zn1 a.1 a.2.1 a.2.2:=by kernel_rfl
def ZnX (c:TC) (s:Int) (g:List Int):RT (Option (TY×Bool)):=
 let x1:QT0:=(c,s==5,g,(0,0,0,0,0,0,0,0),[])
 let x2:=qAtC x1 0
 let x3:=Zc c.1 (qAt x1 0)
 let x4:= !x2||x3.1==33
 let x5:QT4:=((pcOf c),0,4)
 let x6:List TY:=[]++[(1,x5)]
 let x7:List TY:=bif s==5 then x6++[(9,pcOf c,0,3)] else x6++[(2,u16.wrap ((pcOf c)+u16.wrap 1),0,3)]
 let x8:QT0:=(c,s==5,g,(33,x3.2),x7)
 let x9:=qAtC x8 1
 let x10:= !x9||x9
 let x11:= !x10||x9
 let x12:=Ze s||(iN (List.length g)==0||(!x11||x10))
 let x13:List TY:=[]++[(12,pcOf c,0,6)]++[(5,u16.wrap ((spOf c)-1),u8.wrap (shrI u16 (pcOf c) 8),3)]++[(5,u16.wrap ((spOf c)-2),u8.wrap (pcOf c),3)]
 let x15:List TY:=[]++[(bif s==5 then 8 else 1,x5)]
 let x17:=qAt x8 1
 let x18:List TY:=x7++[(6,ZfI x17 x17,0,3)]
 .br (!x4||x2) (.br (x4) (.br (!x12||(Ze s||(iN (List.length g)==0||x11))) (.br (x12) (.br (Ze s) (fin3 g x13) (.br (iN (List.length g)==0) (fin3 g x15) (fin3 g x18))) (.Lf none)) (.Lf none)) (.Lf none)) (.Lf none)
theorem ZAS (a:HL Zt):EV1 33 a=ZnX a.1 a.2.1 a.2.2:=by kernel_rfl
def ZnT (c:TC) (s:Int) (g:List Int):RT (Option (TY×Bool)):=
 let x1:QT0:=(c,s==5,g,(0,0,0,0,0,0,0,0),[])
 let x2:=qAtC x1 0
 let x3:= !x2||(Zc c.1 (qAt x1 0)).1==37
 let x4:List TY:=[]++[(12,pcOf c,0,6)]++[(5,u16.wrap ((spOf c)-1),u8.wrap (shrI u16 (pcOf c) 8),3)]++[(5,u16.wrap ((spOf c)-2),u8.wrap (pcOf c),3)]
 let x6:QT4:=((pcOf c),0,4)
 let x7:List TY:=[]++[(bif s==5 then 8 else 1,x6)]
 let x9:List TY:=[]++[(1,x6)]
 let x10:List TY:=bif c.1 !=2 then x9++[(10,pcOf c,0,3)] else x9
 .br (!x3||x2) (.br (x3) (.br (Ze s) (fin3 g x4) (.br (iN (List.length g)==0) (fin3 g x7) (fin3 g x10))) (.Lf none)) (.Lf none)
theorem ZAO (a:HL Zt):EV1 37 a=ZnT a.1 a.2.1 a.2.2:=by kernel_rfl
def ZnP (c:TC) (s:Int) (g:List Int):RT (Option (TY×Bool)):=
 let x1:QT0:=(c,s==5,g,(0,0,0,0,0,0,0,0),[])
 let x2:=qAtC x1 0
 let x3:= !x2||(Zc c.1 (qAt x1 0)).1==41
 let x4:List TY:=[]++[(12,pcOf c,0,6)]++[(5,u16.wrap ((spOf c)-1),u8.wrap (shrI u16 (pcOf c) 8),3)]++[(5,u16.wrap ((spOf c)-2),u8.wrap (pcOf c),3)]
 let x6:QT4:=((pcOf c),0,4)
 let x7:List TY:=[]++[(bif s==5 then 8 else 1,x6)]
 let x9:List TY:=[]++[(1,x6)]++[(11,pcOf c,0,3)]
 .br (!x3||x2) (.br (x3) (.br (Ze s) (fin3 g x4) (.br (iN (List.length g)==0) (fin3 g x7) (fin3 g x9))) (.Lf none)) (.Lf none)
theorem ZAK (a:HL Zt):EV1 41 a=ZnP a.1 a.2.1 a.2.2:=by kernel_rfl
def ZnL (c:TC) (s:Int) (g:List Int):RT (Option (TY×Bool)):=
 let x1:QT0:=(c,s==5,g,(0,0,0,0,0,0,0,0),[])
 let x2:=qAtC x1 0
 let x3:=Zc c.1 (qAt x1 0)
 let x4:= !x2||x3.1==45
 let x5:=u16.wrap ((spOf c)-1)
 let x6:=u16.wrap ((spOf c)-2)
 let x7:List TY:=[]++[(12,pcOf c,0,6)]++[(5,x5,u8.wrap (shrI u16 (pcOf c) 8),3)]++[(5,x6,u8.wrap (pcOf c),3)]
 let x9:QT4:=((pcOf c),0,4)
 let x10:List TY:=[]++[(bif s==5 then 8 else 1,x9)]
 let x12:List TY:=[]++[(1,x9)]
 let x13:QT0:=(c,s==5,g,(45,x3.2),x12)
 let x14:=Zw x13
 let x15:List TY:=bif ZhR x13 then x12++[(5,x5,u8.wrap (shrI u16 x14 8),3)]++[(5,x6,u8.wrap x14,3)] else x12
 .br (!x4||x2) (.br (x4) (.br (Ze s) (fin3 g x7) (.br (iN (List.length g)==0) (fin3 g x10) (fin3 g x15))) (.Lf none)) (.Lf none)
theorem ZAG (a:HL Zt):EV1 45 a=ZnL a.1 a.2.1 a.2.2:=by kernel_rfl
def ZDJ (c:TC) (s:Int) (g:List Int):RT (Option (TY×Bool)):=
 let x1:List TY:=[(12,pcOf c,0,6)]++[(5,u16.wrap ((spOf c)-1),u8.wrap (shrI u16 (pcOf c) 8),3)]++[(5,u16.wrap ((spOf c)-2),u8.wrap (pcOf c),3)]
 let x3:List TY:=[(bif s==5 then 8 else 1,pcOf c,0,4)]
 let x4:List TY:=x3++[(2,ZbN c.2.1 2,0,3)]
 let x6:List TY:=x3++[(3,ZbN c.2.1 2,rGet c.2.1 (Zc c.1 (R.get (R.int u8) g 0)).2.2.2.1,3)]
 let x8:Nat:=List.length x3
 let x9:=decide (iN (List.length g)>=iN x8)
 let x10:=Zf (iN (List.length g)) x8
 let x11:TY×Bool:=(R.get (RY) x3 (iN (List.length g)),true)
 .br (Zd s||(!decide (iN (List.length g)>0)||(!Zf 0 (List.length g)||(Zc c.1 (R.get (R.int u8) g 0)).1==2))) (.br (Zd s||(!decide (iN (List.length g)>0)||Zf 0 (List.length g))) (.br (Zd s) (fin3 g x1) (.br (decide (iN (List.length g)>0)) (.br ((Zc c.1 (R.get (R.int u8) g 0)).2.2.2.1==6) (fin3 g x4) (.br ((Zc c.1 (R.get (R.int u8) g 0)).2.2.1==6) (fin3 g x6) (.br (x9) (.Lf (some (((0,0,0,0),false)))) (.br (x10) (.Lf (some (x11))) (.Lf none))))) (.br (x9) (.Lf (some (((0,0,0,0),false)))) (.br (x10) (.Lf (some (x11))) (.Lf none))))) (.Lf none)) (.Lf none)
def ZDF (c:TC) (s:Int) (g:List Int):RT (Option (TY×Bool)):=
 let x1:List TY:=[(bif s==5 then 8 else 1,pcOf c,0,4)]
 let x2:List TY:=[(9,pcOf c,0,3)]
 let x3:List TY:=x1++x2
 let x4:List TY:=[(2,u16.wrap ((pcOf c)+u16.wrap (i64.wrap (1+1))),0,3)]
 let x5:List TY:=bif s==5 then x3++x2 else x3++x4
 let x6:QT5:=(c,s==5,g,x5)
 let x7:= !s==5||ZeX x6 1
 let x8:List TY:=x1++[(2,u16.wrap ((pcOf c)+u16.wrap 1),0,3)]
 let x9:List TY:=bif s==5 then x8++x2 else x8++x4
 let x10:QT5:=(c,s==5,g,x9)
 let x11:List TY:=[(12,pcOf c,0,6)]++[(5,u16.wrap ((spOf c)-1),u8.wrap (shrI u16 (pcOf c) 8),3)]++[(5,u16.wrap ((spOf c)-2),u8.wrap (pcOf c),3)]
 let x13:List TY:=x5++[(3,Zjq x6 1,c.2.1.1,3)]
 let x15:List TY:=x9++[(3,Zjq x10 1,c.2.1.1,3)]
 .br (Zd s||(!decide (iN (List.length g)>0)||(!Zf 0 (List.length g)||(!(Zc c.1 (R.get (R.int u8) g 0)).1==6||(!x7||(s==5||ZeX x10 1)))))) (.br (Zd s||(!decide (iN (List.length g)>0)||(!Zf 0 (List.length g)||(!(Zc c.1 (R.get (R.int u8) g 0)).1==6||x7)))) (.br (Zd s||(!decide (iN (List.length g)>0)||(!Zf 0 (List.length g)||(Zc c.1 (R.get (R.int u8) g 0)).1==6))) (.br (Zd s||(!decide (iN (List.length g)>0)||Zf 0 (List.length g))) (.br (Zd s) (fin3 g x11) (.br (decide (iN (List.length g)>0)) (.br (s==5) (fin3 g x13) (fin3 g x15)) (fin3 g x1))) (.Lf none)) (.Lf none)) (.Lf none)) (.Lf none)
def ZwO (c:TC) (s:Int) (g:List Int):RT (Option (TY×Bool)):=
 let x1:List TY:=[(12,pcOf c,0,6)]++[(5,u16.wrap ((spOf c)-1),u8.wrap (shrI u16 (pcOf c) 8),3)]++[(5,u16.wrap ((spOf c)-2),u8.wrap (pcOf c),3)]
 let x3:List TY:=[(bif s==5 then 8 else 1,pcOf c,0,4)]
 let x4:List TY:=x3++[(3,ZbN c.2.1 (Zc c.1 (R.get (R.int u8) g 0)).2.2.2.2.1,c.2.1.1,3)]
 .br (Zd s||(!decide (iN (List.length g)>0)||(!Zf 0 (List.length g)||(Zc c.1 (R.get (R.int u8) g 0)).1==10))) (.br (Zd s||(!decide (iN (List.length g)>0)||Zf 0 (List.length g))) (.br (Zd s) (fin3 g x1) (.br (decide (iN (List.length g)>0)) (fin3 g x4) (fin3 g x3))) (.Lf none)) (.Lf none)
def ZwK (c:TC) (s:Int) (g:List Int):RT (Option (TY×Bool)):=
 let x1:List TY:=[(bif s==5 then 8 else 1,pcOf c,0,4)]
 let x2:QT5:=(c,s==5,g,x1)
 let x3:List TY:=[(12,pcOf c,0,6)]++[(5,u16.wrap ((spOf c)-1),u8.wrap (shrI u16 (pcOf c) 8),3)]++[(5,u16.wrap ((spOf c)-2),u8.wrap (pcOf c),3)]
 let x5:List TY:=x1++[(2,ZbN c.2.1 2,0,3)]++[(3,ZbN c.2.1 2,(Zsk c (14,(Zc c.1 (R.get (R.int u8) g 0)).2) (mAt x2 1)).1,3)]
 let x7:Nat:=List.length x1
 let x8:=decide (iN (List.length g)>=iN x7)
 let x9:=Zf (iN (List.length g)) x7
 let x10:TY×Bool:=(R.get (RY) x1 (iN (List.length g)),true)
 .br (Zd s||(!decide (iN (List.length g)>0)||(!Zf 0 (List.length g)||(!(Zc c.1 (R.get (R.int u8) g 0)).1==14||(!(Zc c.1 (R.get (R.int u8) g 0)).2.2.1==6||mAtC x2 1))))) (.br (Zd s||(!decide (iN (List.length g)>0)||(!Zf 0 (List.length g)||(Zc c.1 (R.get (R.int u8) g 0)).1==14))) (.br (Zd s||(!decide (iN (List.length g)>0)||Zf 0 (List.length g))) (.br (Zd s) (fin3 g x3) (.br (decide (iN (List.length g)>0)) (.br ((Zc c.1 (R.get (R.int u8) g 0)).2.2.1==6) (fin3 g x5) (.br (x8) (.Lf (some (((0,0,0,0),false)))) (.br (x9) (.Lf (some (x10))) (.Lf none)))) (.br (x8) (.Lf (some (((0,0,0,0),false)))) (.br (x9) (.Lf (some (x10))) (.Lf none))))) (.Lf none)) (.Lf none)) (.Lf none)
def ZwG (c:TC) (s:Int) (g:List Int):RT (Option (TY×Bool)):=
 let x1:List TY:=[(12,pcOf c,0,6)]++[(5,u16.wrap ((spOf c)-1),u8.wrap (shrI u16 (pcOf c) 8),3)]++[(5,u16.wrap ((spOf c)-2),u8.wrap (pcOf c),3)]
 let x3:List TY:=[(bif s==5 then 8 else 1,pcOf c,0,4)]
 let x4:List TY:=[(11,pcOf c,0,3)]
 let x5:List TY:=x3++x4++x4
 .br (Zd s||(!decide (iN (List.length g)>0)||(!Zf 0 (List.length g)||(Zc c.1 (R.get (R.int u8) g 0)).1==18))) (.br (Zd s||(!decide (iN (List.length g)>0)||Zf 0 (List.length g))) (.br (Zd s) (fin3 g x1) (.br (decide (iN (List.length g)>0)) (fin3 g x5) (fin3 g x3))) (.Lf none)) (.Lf none)
def ZwC (c:TC) (s:Int) (g:List Int):RT (Option (TY×Bool)):=
 let x1:List TY:=[(12,pcOf c,0,6)]++[(5,u16.wrap ((spOf c)-1),u8.wrap (shrI u16 (pcOf c) 8),3)]++[(5,u16.wrap ((spOf c)-2),u8.wrap (pcOf c),3)]
 let x3:List TY:=[(bif s==5 then 8 else 1,pcOf c,0,4)]
 .br (Zd s||(!decide (iN (List.length g)>0)||(!Zf 0 (List.length g)||(Zc c.1 (R.get (R.int u8) g 0)).1==22))) (.br (Zd s||(!decide (iN (List.length g)>0)||Zf 0 (List.length g))) (.br (Zd s) (fin3 g x1) (fin3 g x3)) (.Lf none)) (.Lf none)
def Zwy (c:TC) (s:Int) (g:List Int):RT (Option (TY×Bool)):=
 let x1:List TY:=[(12,pcOf c,0,6)]++[(5,u16.wrap ((spOf c)-1),u8.wrap (shrI u16 (pcOf c) 8),3)]++[(5,u16.wrap ((spOf c)-2),u8.wrap (pcOf c),3)]
 let x3:List TY:=[(bif s==5 then 8 else 1,pcOf c,0,4)]
 let x4:List TY:=x3++[(4,spOf c,0,3)]++[(4,u16.wrap ((spOf c)+1),0,3)]
 let x6:Nat:=List.length x3
 let x7:=decide (iN (List.length g)>=iN x6)
 let x8:=Zf (iN (List.length g)) x6
 let x9:TY×Bool:=(R.get (RY) x3 (iN (List.length g)),true)
 .br (Zd s||(!decide (iN (List.length g)>0)||(!Zf 0 (List.length g)||(Zc c.1 (R.get (R.int u8) g 0)).1==26))) (.br (Zd s||(!decide (iN (List.length g)>0)||Zf 0 (List.length g))) (.br (Zd s) (fin3 g x1) (.br (decide (iN (List.length g)>0)) (.br (Zjr (c,s==5,g,x3) (26,(Zc c.1 (R.get (R.int u8) g 0)).2)) (fin3 g x4) (.br (x7) (.Lf (some (((0,0,0,0),false)))) (.br (x8) (.Lf (some (x9))) (.Lf none)))) (.br (x7) (.Lf (some (((0,0,0,0),false)))) (.br (x8) (.Lf (some (x9))) (.Lf none))))) (.Lf none)) (.Lf none)
def Zwu (c:TC) (s:Int) (g:List Int):RT (Option (TY×Bool)):=
 let x1:=u16.wrap ((spOf c)-1)
 let x2:=u16.wrap ((spOf c)-2)
 let x3:List TY:=[(12,pcOf c,0,6)]++[(5,x1,u8.wrap (shrI u16 (pcOf c) 8),3)]++[(5,x2,u8.wrap (pcOf c),3)]
 let x5:List TY:=[(bif s==5 then 8 else 1,pcOf c,0,4)]
 let x6:Int:=bif (Zc c.1 (R.get (R.int u8) g 0)).2.2.2.2.1==3 then rPSW c.1 c.2.1 else ZbN c.2.1 (Zc c.1 (R.get (R.int u8) g 0)).2.2.2.2.1
 let x7:List TY:=x5++[(5,x1,u8.wrap (shrI u16 x6 8),3)]++[(5,x2,u8.wrap x6,3)]
 .br (Zd s||(!decide (iN (List.length g)>0)||(!Zf 0 (List.length g)||(Zc c.1 (R.get (R.int u8) g 0)).1==30))) (.br (Zd s||(!decide (iN (List.length g)>0)||Zf 0 (List.length g))) (.br (Zd s) (fin3 g x3) (.br (decide (iN (List.length g)>0)) (fin3 g x7) (fin3 g x5))) (.Lf none)) (.Lf none)
def Zwq (c:TC) (s:Int) (g:List Int):RT (Option (TY×Bool)):=
 let x1:List TY:=[(bif s==5 then 8 else 1,pcOf c,0,4)]
 let x2:List TY:=x1++[(9,pcOf c,0,3)]
 let x3:QT5:=(c,s==5,g,x2)
 let x4:=mAtC x3 1
 let x5:= !x4||x4
 let x6:= !s==5||(!x5||x4)
 let x7:= !x6
 let x8:= !s==5||x5
 let x9:= !x8
 let x10:List TY:=x1++[(2,u16.wrap ((pcOf c)+u16.wrap 1),0,3)]
 let x11:QT5:=(c,s==5,g,x10)
 let x12:=mAtC x11 1
 let x13:= !x12||x12
 let x14:=s==5||(!x13||x12)
 let x15:List TY:=[(12,pcOf c,0,6)]++[(5,u16.wrap ((spOf c)-1),u8.wrap (shrI u16 (pcOf c) 8),3)]++[(5,u16.wrap ((spOf c)-2),u8.wrap (pcOf c),3)]
 let x17:=mAt x3 1
 let x18:List TY:=x2++[(7,ZfI x17 x17,c.2.1.1,3)]
 let x20:=mAt x11 1
 let x21:List TY:=x10++[(7,ZfI x20 x20,c.2.1.1,3)]
 .br (Zd s||(!decide (iN (List.length g)>0)||(!Zf 0 (List.length g)||(!(Zc c.1 (R.get (R.int u8) g 0)).1==34||(x7||(x9||(!x14||(s==5||x13)))))))) (.br (Zd s||(!decide (iN (List.length g)>0)||(!Zf 0 (List.length g)||(!(Zc c.1 (R.get (R.int u8) g 0)).1==34||(x7||(x9||x14)))))) (.br (Zd s||(!decide (iN (List.length g)>0)||(!Zf 0 (List.length g)||(!(Zc c.1 (R.get (R.int u8) g 0)).1==34||(x7||x8))))) (.br (Zd s||(!decide (iN (List.length g)>0)||(!Zf 0 (List.length g)||(!(Zc c.1 (R.get (R.int u8) g 0)).1==34||x6)))) (.br (Zd s||(!decide (iN (List.length g)>0)||(!Zf 0 (List.length g)||(Zc c.1 (R.get (R.int u8) g 0)).1==34))) (.br (Zd s||(!decide (iN (List.length g)>0)||Zf 0 (List.length g))) (.br (Zd s) (fin3 g x15) (.br (decide (iN (List.length g)>0)) (.br (s==5) (fin3 g x18) (fin3 g x21)) (fin3 g x1))) (.Lf none)) (.Lf none)) (.Lf none)) (.Lf none)) (.Lf none)) (.Lf none)
def Zwm (c:TC) (s:Int) (g:List Int):RT (Option (TY×Bool)):=
 let x1:List TY:=[(12,pcOf c,0,6)]++[(5,u16.wrap ((spOf c)-1),u8.wrap (shrI u16 (pcOf c) 8),3)]++[(5,u16.wrap ((spOf c)-2),u8.wrap (pcOf c),3)]
 let x3:List TY:=[(bif s==5 then 8 else 1,pcOf c,0,4)]
 .br (Zd s||(!decide (iN (List.length g)>0)||(!Zf 0 (List.length g)||(Zc c.1 (R.get (R.int u8) g 0)).1==38))) (.br (Zd s||(!decide (iN (List.length g)>0)||Zf 0 (List.length g))) (.br (Zd s) (fin3 g x1) (fin3 g x3)) (.Lf none)) (.Lf none)
def Zwi (c:TC) (s:Int) (g:List Int):RT (Option (TY×Bool)):=
 let x1:List TY:=[(12,pcOf c,0,6)]++[(5,u16.wrap ((spOf c)-1),u8.wrap (shrI u16 (pcOf c) 8),3)]++[(5,u16.wrap ((spOf c)-2),u8.wrap (pcOf c),3)]
 let x3:List TY:=[(bif s==5 then 8 else 1,pcOf c,0,4)]
 let x4:List TY:=[(11,pcOf c,0,3)]
 let x5:List TY:=x3++x4++x4
 .br (Zd s||(!decide (iN (List.length g)>0)||(!Zf 0 (List.length g)||(Zc c.1 (R.get (R.int u8) g 0)).1==42))) (.br (Zd s||(!decide (iN (List.length g)>0)||Zf 0 (List.length g))) (.br (Zd s) (fin3 g x1) (.br (decide (iN (List.length g)>0)) (fin3 g x5) (fin3 g x3))) (.Lf none)) (.Lf none)
def Zwe (c:TC) (s:Int) (g:List Int):RT (Option (TY×Bool)):=
 let x1:List TY:=[(12,pcOf c,0,6)]++[(5,u16.wrap ((spOf c)-1),u8.wrap (shrI u16 (pcOf c) 8),3)]++[(5,u16.wrap ((spOf c)-2),u8.wrap (pcOf c),3)]
 let x3:List TY:=[(bif s==5 then 8 else 1,pcOf c,0,4)]
 let x4:List TY:=x3++[(3,ZbN c.2.1 1,c.2.1.2.2.2.2.2.2.1,3)]++[(3,u16.wrap (ZbN c.2.1 1+1),c.2.1.2.2.2.2.2.1,3)]
 .br (Zd s||(!decide (iN (List.length g)>0)||(!Zf 0 (List.length g)||(Zc c.1 (R.get (R.int u8) g 0)).1==46))) (.br (Zd s||(!decide (iN (List.length g)>0)||Zf 0 (List.length g))) (.br (Zd s) (fin3 g x1) (.br (decide (iN (List.length g)>0)) (fin3 g x4) (fin3 g x3))) (.Lf none)) (.Lf none)
end
end Go.Proofs.YtpnjbfjomebppaaGreat
