import Derived.Test.YtpnjbfjomebppaaGreatNext0
open Go.IntKind (u8 u16 i64)
set_option linter.unusedSimpArgs false
open Go Go.S3 Go.Proofs
set_option linter.unusedVariables false
set_option maxRecDepth 100000
namespace Go.Proofs.YtpnjbfjomebppaaGreat
noncomputable section
def ZsF (c:TC) (s:Int) (g:List Int):RT (Option (TY×Bool)):=
 let x1:QT0:=(c,s==5,g,(0,0,0,0,0,0,0,0),[])
 let x2:=qAtC x1 0
 let x3:=Zc c.1 (qAt x1 0)
 let x4:= !x2||x3.1==3
 let x5:=x3.2
 let x6:=x5.2.1==6
 let x7:QT6:=(3,x5)
 let x8:QT4:=((pcOf c),0,4)
 let x9:List TY:=[]++[(1,x8)]
 let x10:List TY:=bif s==5 then x9++[(9,pcOf c,0,3)] else x9++[(2,u16.wrap ((pcOf c)+u16.wrap 1),0,3)]
 let x11:QT0:=(c,s==5,g,x7,x10)
 let x12:List TY:=[]++[(12,pcOf c,0,6)]++[(5,u16.wrap ((spOf c)-1),u8.wrap (shrI u16 (pcOf c) 8),3)]++[(5,u16.wrap ((spOf c)-2),u8.wrap (pcOf c),3)]
 let x14:List TY:=[]++[(bif s==5 then 8 else 1,x8)]
 let x16:List TY:=bif x6 then x10++[(3,ZdM (c,s==5,g,x7,x9) 2,qAt x11 1,3)] else x10
 .br (!x4||x2) (.br (x4) (.br (Ze s||(iN (List.length g)==0||(!x6||qAtC x11 1))) (.br (Ze s) (fin3 g x12) (.br (iN (List.length g)==0) (fin3 g x14) (fin3 g x16))) (.Lf none)) (.Lf none)) (.Lf none)
theorem ZGd (a:HL Zq):EV1 3 a=ZsF a.1 a.2.1 a.2.2:=by kernel_rfl
def ZsB (c:TC) (s:Int) (g:List Int):RT (Option (TY×Bool)):=
 let x1:QT0:=(c,s==5,g,(0,0,0,0,0,0,0,0),[])
 let x2:=qAtC x1 0
 let x3:=Zc c.1 (qAt x1 0)
 let x4:= !x2||x3.1==7
 let x5:QT4:=((pcOf c),0,4)
 let x6:List TY:=[]++[(1,x5)]
 let x7:List TY:=[(9,pcOf c,0,3)]
 let x8:List TY:=bif s==5 then x6++x7 else x6++[(2,u16.wrap ((pcOf c)+u16.wrap 1),0,3)]
 let x9:List TY:=bif s==5 then x8++x7 else x8++[(2,u16.wrap ((pcOf c)+u16.wrap (i64.wrap (1+1))),0,3)]
 let x10:QT0:=(c,s==5,g,(7,x3.2),x9)
 let x11:List TY:=[]++[(12,pcOf c,0,6)]++[(5,u16.wrap ((spOf c)-1),u8.wrap (shrI u16 (pcOf c) 8),3)]++[(5,u16.wrap ((spOf c)-2),u8.wrap (pcOf c),3)]
 let x13:List TY:=[]++[(bif s==5 then 8 else 1,x5)]
 let x15:=ZfU x10 1
 let x16:List TY:=x9++[(2,x15,0,3)]++[(2,u16.wrap (x15+1),0,3)]
 .br (!x4||x2) (.br (x4) (.br (Ze s||(iN (List.length g)==0||Zcz x10 1)) (.br (Ze s) (fin3 g x11) (.br (iN (List.length g)==0) (fin3 g x13) (fin3 g x16))) (.Lf none)) (.Lf none)) (.Lf none)
theorem ZF9 (a:HL Zq):EV1 7 a=ZsB a.1 a.2.1 a.2.2:=by kernel_rfl
def ZnA (c:TC) (s:Int) (g:List Int):RT (Option (TY×Bool)):=
 let x1:QT0:=(c,s==5,g,(0,0,0,0,0,0,0,0),[])
 let x2:=qAtC x1 0
 let x3:= !x2||(Zc c.1 (qAt x1 0)).1==11
 let x4:List TY:=[]++[(12,pcOf c,0,6)]++[(5,u16.wrap ((spOf c)-1),u8.wrap (shrI u16 (pcOf c) 8),3)]++[(5,u16.wrap ((spOf c)-2),u8.wrap (pcOf c),3)]
 let x6:QT4:=((pcOf c),0,4)
 let x7:List TY:=[]++[(bif s==5 then 8 else 1,x6)]
 let x9:List TY:=[]++[(1,x6)]
 .br (!x3||x2) (.br (x3) (.br (Ze s) (fin3 g x4) (.br (iN (List.length g)==0) (fin3 g x7) (fin3 g x9))) (.Lf none)) (.Lf none)
theorem ZAu (a:HL Zq):EV1 11 a=ZnA a.1 a.2.1 a.2.2:=by kernel_rfl
def Znw (c:TC) (s:Int) (g:List Int):RT (Option (TY×Bool)):=
 let x1:QT0:=(c,s==5,g,(0,0,0,0,0,0,0,0),[])
 let x2:=qAtC x1 0
 let x3:=Zc c.1 (qAt x1 0)
 let x4:= !x2||x3.1==15
 let x5:=x3.2
 let x6:=x5.2.1==6
 let x7:QT6:=(15,x5)
 let x8:QT4:=((pcOf c),0,4)
 let x9:List TY:=[]++[(1,x8)]
 let x10:=ZdM (c,s==5,g,x7,x9) 2
 let x11:List TY:=x9++[(2,x10,0,3)]
 let x12:QT0:=(c,s==5,g,x7,x11)
 let x13:List TY:=[]++[(12,pcOf c,0,6)]++[(5,u16.wrap ((spOf c)-1),u8.wrap (shrI u16 (pcOf c) 8),3)]++[(5,u16.wrap ((spOf c)-2),u8.wrap (pcOf c),3)]
 let x15:List TY:=[]++[(bif s==5 then 8 else 1,x8)]
 let x17:List TY:=bif x6 then x11++[(3,x10,Zh1 x12,3)] else x9
 .br (!x4||x2) (.br (x4) (.br (Ze s||(iN (List.length g)==0||(!x6||ZfV x12))) (.br (Ze s) (fin3 g x13) (.br (iN (List.length g)==0) (fin3 g x15) (fin3 g x17))) (.Lf none)) (.Lf none)) (.Lf none)
theorem ZAq (a:HL Zq):EV1 15 a=Znw a.1 a.2.1 a.2.2:=by kernel_rfl
def Zns (c:TC) (s:Int) (g:List Int):RT (Option (TY×Bool)):=
 let x1:QT0:=(c,s==5,g,(0,0,0,0,0,0,0,0),[])
 let x2:=qAtC x1 0
 let x3:= !x2||(Zc c.1 (qAt x1 0)).1==19
 let x4:List TY:=[]++[(12,pcOf c,0,6)]++[(5,u16.wrap ((spOf c)-1),u8.wrap (shrI u16 (pcOf c) 8),3)]++[(5,u16.wrap ((spOf c)-2),u8.wrap (pcOf c),3)]
 let x6:QT4:=((pcOf c),0,4)
 let x7:List TY:=[]++[(bif s==5 then 8 else 1,x6)]
 let x9:List TY:=[]++[(1,x6)]
 .br (!x3||x2) (.br (x3) (.br (Ze s) (fin3 g x4) (.br (iN (List.length g)==0) (fin3 g x7) (fin3 g x9))) (.Lf none)) (.Lf none)
theorem ZAm (a:HL Zq):EV1 19 a=Zns a.1 a.2.1 a.2.2:=by kernel_rfl
def Zno (c:TC) (s:Int) (g:List Int):RT (Option (TY×Bool)):=
 let x1:QT0:=(c,s==5,g,(0,0,0,0,0,0,0,0),[])
 let x2:=qAtC x1 0
 let x3:= !x2||(Zc c.1 (qAt x1 0)).1==23
 let x4:List TY:=[]++[(12,pcOf c,0,6)]++[(5,u16.wrap ((spOf c)-1),u8.wrap (shrI u16 (pcOf c) 8),3)]++[(5,u16.wrap ((spOf c)-2),u8.wrap (pcOf c),3)]
 let x6:QT4:=((pcOf c),0,4)
 let x7:List TY:=[]++[(bif s==5 then 8 else 1,x6)]
 let x9:List TY:=[]++[(1,x6)]
 .br (!x3||x2) (.br (x3) (.br (Ze s) (fin3 g x4) (.br (iN (List.length g)==0) (fin3 g x7) (fin3 g x9))) (.Lf none)) (.Lf none)
theorem ZAi (a:HL Zq):EV1 23 a=Zno a.1 a.2.1 a.2.2:=by kernel_rfl
def Znk (c:TC) (s:Int) (g:List Int):RT (Option (TY×Bool)):=
 let x1:QT0:=(c,s==5,g,(0,0,0,0,0,0,0,0),[])
 let x2:=qAtC x1 0
 let x3:=Zc c.1 (qAt x1 0)
 let x4:= !x2||x3.1==27
 let x5:=u16.wrap ((spOf c)-1)
 let x6:=u16.wrap ((spOf c)-2)
 let x7:List TY:=[]++[(12,pcOf c,0,6)]++[(5,x5,u8.wrap (shrI u16 (pcOf c) 8),3)]++[(5,x6,u8.wrap (pcOf c),3)]
 let x9:QT4:=((pcOf c),0,4)
 let x10:List TY:=[]++[(bif s==5 then 8 else 1,x9)]
 let x12:List TY:=[]++[(1,x9)]
 let x13:=Zt (c,s==5,g,(27,x3.2),x12)
 let x14:List TY:=x12++[(5,x5,u8.wrap (shrI u16 x13 8),3)]++[(5,x6,u8.wrap x13,3)]
 .br (!x4||x2) (.br (x4) (.br (Ze s) (fin3 g x7) (.br (iN (List.length g)==0) (fin3 g x10) (fin3 g x14))) (.Lf none)) (.Lf none)
theorem ZAe (a:HL Zq):EV1 27 a=Znk a.1 a.2.1 a.2.2:=by kernel_rfl
def Zng (c:TC) (s:Int) (g:List Int):RT (Option (TY×Bool)):=
 let x1:QT0:=(c,s==5,g,(0,0,0,0,0,0,0,0),[])
 let x2:=qAtC x1 0
 let x3:= !x2||(Zc c.1 (qAt x1 0)).1==31
 let x4:List TY:=[]++[(12,pcOf c,0,6)]++[(5,u16.wrap ((spOf c)-1),u8.wrap (shrI u16 (pcOf c) 8),3)]++[(5,u16.wrap ((spOf c)-2),u8.wrap (pcOf c),3)]
 let x6:QT4:=((pcOf c),0,4)
 let x7:List TY:=[]++[(bif s==5 then 8 else 1,x6)]
 let x9:List TY:=[]++[(1,x6)]++[(4,spOf c,0,3)]++[(4,u16.wrap ((spOf c)+1),0,3)]
 .br (!x3||x2) (.br (x3) (.br (Ze s) (fin3 g x4) (.br (iN (List.length g)==0) (fin3 g x7) (fin3 g x9))) (.Lf none)) (.Lf none)
theorem ZAa (a:HL Zq):EV1 31 a=Zng a.1 a.2.1 a.2.2:=by kernel_rfl
def Znc (c:TC) (s:Int) (g:List Int):RT (Option (TY×Bool)):=
 let x1:QT0:=(c,s==5,g,(0,0,0,0,0,0,0,0),[])
 let x2:=qAtC x1 0
 let x3:= !x2||(Zc c.1 (qAt x1 0)).1==35
 let x4:List TY:=[]++[(12,pcOf c,0,6)]++[(5,u16.wrap ((spOf c)-1),u8.wrap (shrI u16 (pcOf c) 8),3)]++[(5,u16.wrap ((spOf c)-2),u8.wrap (pcOf c),3)]
 let x6:QT4:=((pcOf c),0,4)
 let x7:List TY:=[]++[(bif s==5 then 8 else 1,x6)]
 let x9:List TY:=[]++[(1,x6)]
 .br (!x3||x2) (.br (x3) (.br (Ze s) (fin3 g x4) (.br (iN (List.length g)==0) (fin3 g x7) (fin3 g x9))) (.Lf none)) (.Lf none)
theorem Zz6 (a:HL Zq):EV1 35 a=Znc a.1 a.2.1 a.2.2:=by kernel_rfl
def Zm8 (c:TC) (s:Int) (g:List Int):RT (Option (TY×Bool)):=
 let x1:QT0:=(c,s==5,g,(0,0,0,0,0,0,0,0),[])
 let x2:=qAtC x1 0
 let x3:= !x2||(Zc c.1 (qAt x1 0)).1==39
 let x4:List TY:=[]++[(12,pcOf c,0,6)]++[(5,u16.wrap ((spOf c)-1),u8.wrap (shrI u16 (pcOf c) 8),3)]++[(5,u16.wrap ((spOf c)-2),u8.wrap (pcOf c),3)]
 let x6:QT4:=((pcOf c),0,4)
 let x7:List TY:=[]++[(bif s==5 then 8 else 1,x6)]
 let x9:List TY:=[]++[(1,x6)]
 .br (!x3||x2) (.br (x3) (.br (Ze s) (fin3 g x4) (.br (iN (List.length g)==0) (fin3 g x7) (fin3 g x9))) (.Lf none)) (.Lf none)
theorem Zz2 (a:HL Zq):EV1 39 a=Zm8 a.1 a.2.1 a.2.2:=by kernel_rfl
def Zm4 (c:TC) (s:Int) (g:List Int):RT (Option (TY×Bool)):=
 let x1:QT0:=(c,s==5,g,(0,0,0,0,0,0,0,0),[])
 let x2:=qAtC x1 0
 let x3:= !x2||(Zc c.1 (qAt x1 0)).1==43
 let x4:List TY:=[]++[(12,pcOf c,0,6)]++[(5,u16.wrap ((spOf c)-1),u8.wrap (shrI u16 (pcOf c) 8),3)]++[(5,u16.wrap ((spOf c)-2),u8.wrap (pcOf c),3)]
 let x6:QT4:=((pcOf c),0,4)
 let x7:List TY:=[]++[(bif s==5 then 8 else 1,x6)]
 let x9:List TY:=[]++[(1,x6)]
 let x10:QT4:=((pcOf c),0,3)
 let x11:List TY:=(bif s==5 then x9++[(9,x10)] else x9++[(2,u16.wrap ((pcOf c)+u16.wrap 1),0,3)])++[(11,x10)]
 .br (!x3||x2) (.br (x3) (.br (Ze s) (fin3 g x4) (.br (iN (List.length g)==0) (fin3 g x7) (fin3 g x11))) (.Lf none)) (.Lf none)
theorem ZzY (a:HL Zq):EV1 43 a=Zm4 a.1 a.2.1 a.2.2:=by kernel_rfl
def Zm0 (c:TC) (s:Int) (g:List Int):RT (Option (TY×Bool)):=
 let x1:QT0:=(c,s==5,g,(0,0,0,0,0,0,0,0),[])
 let x2:=qAtC x1 0
 let x3:=Zc c.1 (qAt x1 0)
 let x4:= !x2||x3.1==47
 let x5:List TY:=[]++[(12,pcOf c,0,6)]++[(5,u16.wrap ((spOf c)-1),u8.wrap (shrI u16 (pcOf c) 8),3)]++[(5,u16.wrap ((spOf c)-2),u8.wrap (pcOf c),3)]
 let x7:QT4:=((pcOf c),0,4)
 let x8:List TY:=[]++[(bif s==5 then 8 else 1,x7)]
 let x10:List TY:=[]++[(1,x7)]
 let x11:=ZdM (c,s==5,g,(47,x3.2),x10) 1
 let x12:List TY:=x10++[(2,x11,0,3)]++[(2,u16.wrap (x11+1),0,3)]
 .br (!x4||x2) (.br (x4) (.br (Ze s) (fin3 g x5) (.br (iN (List.length g)==0) (fin3 g x8) (fin3 g x12))) (.Lf none)) (.Lf none)
theorem ZzU (a:HL Zq):EV1 47 a=Zm0 a.1 a.2.1 a.2.2:=by kernel_rfl
def ZrF (c:TC) (s:Int) (g:List Int):RT (Option (TY×Bool)):=
 let x1:List TY:=[(12,pcOf c,0,6)]++[(5,u16.wrap ((spOf c)-1),u8.wrap (shrI u16 (pcOf c) 8),3)]++[(5,u16.wrap ((spOf c)-2),u8.wrap (pcOf c),3)]
 let x3:List TY:=[(bif s==5 then 8 else 1,pcOf c,0,4)]
 let x4:List TY:=[(9,pcOf c,0,3)]
 let x5:List TY:=x3++x4
 let x6:List TY:=[(2,u16.wrap ((pcOf c)+u16.wrap (i64.wrap (1+1))),0,3)]
 let x7:List TY:=bif s==5 then x5++x4 else x5++x6
 let x9:List TY:=x3++[(2,u16.wrap ((pcOf c)+u16.wrap 1),0,3)]
 let x10:List TY:=bif s==5 then x9++x4 else x9++x6
 .br (Zd s||(!decide (iN (List.length g)>0)||(!Zf 0 (List.length g)||(Zc c.1 (R.get (R.int u8) g 0)).1==4))) (.br (Zd s||(!decide (iN (List.length g)>0)||Zf 0 (List.length g))) (.br (Zd s) (fin3 g x1) (.br (decide (iN (List.length g)>0)) (.br (s==5) (fin3 g x7) (fin3 g x10)) (fin3 g x3))) (.Lf none)) (.Lf none)
theorem ZFB (a:HL Zp):EV2 4 a=ZrF a.1 a.2.1 a.2.2:=by kernel_rfl
def ZrB (c:TC) (s:Int) (g:List Int):RT (Option (TY×Bool)):=
 let x1:List TY:=[(bif s==5 then 8 else 1,pcOf c,0,4)]
 let x2:List TY:=[(9,pcOf c,0,3)]
 let x3:List TY:=x1++x2
 let x4:List TY:=[(2,u16.wrap ((pcOf c)+u16.wrap (i64.wrap (1+1))),0,3)]
 let x5:List TY:=bif s==5 then x3++x2 else x3++x4
 let x6:QT5:=(c,s==5,g,x5)
 let x7:=ZdV x6 1
 let x8:List TY:=x5++[(3,Zhq x6 1,c.2.1.2.2.2.2.2.2.1,3)]
 let x9:QT5:=(c,s==5,g,x8)
 let x10:= !s==5||(!x7||ZdV x9 1)
 let x11:= !x10
 let x12:= !s==5||x7
 let x13:= !x12
 let x14:List TY:=x1++[(2,u16.wrap ((pcOf c)+u16.wrap 1),0,3)]
 let x15:List TY:=bif s==5 then x14++x2 else x14++x4
 let x16:QT5:=(c,s==5,g,x15)
 let x17:=ZdV x16 1
 let x18:List TY:=x15++[(3,Zhq x16 1,c.2.1.2.2.2.2.2.2.1,3)]
 let x19:QT5:=(c,s==5,g,x18)
 let x20:=s==5||(!x17||ZdV x19 1)
 let x21:List TY:=[(12,pcOf c,0,6)]++[(5,u16.wrap ((spOf c)-1),u8.wrap (shrI u16 (pcOf c) 8),3)]++[(5,u16.wrap ((spOf c)-2),u8.wrap (pcOf c),3)]
 let x23:List TY:=x8++[(3,u16.wrap (Zhq x9 1+1),c.2.1.2.2.2.2.2.1,3)]
 let x25:List TY:=x18++[(3,u16.wrap (Zhq x19 1+1),c.2.1.2.2.2.2.2.1,3)]
 .br (Zd s||(!decide (iN (List.length g)>0)||(!Zf 0 (List.length g)||(!(Zc c.1 (R.get (R.int u8) g 0)).1==8||(x11||(x13||(!x20||(s==5||x17)))))))) (.br (Zd s||(!decide (iN (List.length g)>0)||(!Zf 0 (List.length g)||(!(Zc c.1 (R.get (R.int u8) g 0)).1==8||(x11||(x13||x20)))))) (.br (Zd s||(!decide (iN (List.length g)>0)||(!Zf 0 (List.length g)||(!(Zc c.1 (R.get (R.int u8) g 0)).1==8||(x11||x12))))) (.br (Zd s||(!decide (iN (List.length g)>0)||(!Zf 0 (List.length g)||(!(Zc c.1 (R.get (R.int u8) g 0)).1==8||x10)))) (.br (Zd s||(!decide (iN (List.length g)>0)||(!Zf 0 (List.length g)||(Zc c.1 (R.get (R.int u8) g 0)).1==8))) (.br (Zd s||(!decide (iN (List.length g)>0)||Zf 0 (List.length g))) (.br (Zd s) (fin3 g x21) (.br (decide (iN (List.length g)>0)) (.br (s==5) (fin3 g x23) (fin3 g x25)) (fin3 g x1))) (.Lf none)) (.Lf none)) (.Lf none)) (.Lf none)) (.Lf none)) (.Lf none)
theorem ZFx (a:HL Zp):EV2 8 a=ZrB a.1 a.2.1 a.2.2:=by kernel_rfl
def Zmg (c:TC) (s:Int) (g:List Int):RT (Option (TY×Bool)):=
 let x1:List TY:=[(12,pcOf c,0,6)]++[(5,u16.wrap ((spOf c)-1),u8.wrap (shrI u16 (pcOf c) 8),3)]++[(5,u16.wrap ((spOf c)-2),u8.wrap (pcOf c),3)]
 let x3:List TY:=[(bif s==5 then 8 else 1,pcOf c,0,4)]
 let x4:List TY:=x3++[(2,Zbe c.2.1 2,0,3)]
 let x6:Nat:=List.length x3
 let x7:=decide (iN (List.length g)>=iN x6)
 let x8:=Zf (iN (List.length g)) x6
 let x9:TY×Bool:=(R.get (RY) x3 (iN (List.length g)),true)
 .br (Zd s||(!decide (iN (List.length g)>0)||(!Zf 0 (List.length g)||(Zc c.1 (R.get (R.int u8) g 0)).1==12))) (.br (Zd s||(!decide (iN (List.length g)>0)||Zf 0 (List.length g))) (.br (Zd s) (fin3 g x1) (.br (decide (iN (List.length g)>0)) (.br ((Zc c.1 (R.get (R.int u8) g 0)).2.2.2.1==6) (fin3 g x4) (.br (x7) (.Lf (some (((0,0,0,0),false)))) (.br (x8) (.Lf (some (x9))) (.Lf none)))) (.br (x7) (.Lf (some (((0,0,0,0),false)))) (.br (x8) (.Lf (some (x9))) (.Lf none))))) (.Lf none)) (.Lf none)
theorem ZyW (a:HL Zp):EV2 12 a=Zmg a.1 a.2.1 a.2.2:=by kernel_rfl
def Zmc (c:TC) (s:Int) (g:List Int):RT (Option (TY×Bool)):=
 let x1:List TY:=[(12,pcOf c,0,6)]++[(5,u16.wrap ((spOf c)-1),u8.wrap (shrI u16 (pcOf c) 8),3)]++[(5,u16.wrap ((spOf c)-2),u8.wrap (pcOf c),3)]
 let x3:List TY:=[(bif s==5 then 8 else 1,pcOf c,0,4)]
 .br (Zd s||(!decide (iN (List.length g)>0)||(!Zf 0 (List.length g)||(Zc c.1 (R.get (R.int u8) g 0)).1==16))) (.br (Zd s||(!decide (iN (List.length g)>0)||Zf 0 (List.length g))) (.br (Zd s) (fin3 g x1) (fin3 g x3)) (.Lf none)) (.Lf none)
theorem ZyS (a:HL Zp):EV2 16 a=Zmc a.1 a.2.1 a.2.2:=by kernel_rfl
def Zl8 (c:TC) (s:Int) (g:List Int):RT (Option (TY×Bool)):=
 let x1:List TY:=[(12,pcOf c,0,6)]++[(5,u16.wrap ((spOf c)-1),u8.wrap (shrI u16 (pcOf c) 8),3)]++[(5,u16.wrap ((spOf c)-2),u8.wrap (pcOf c),3)]
 let x3:List TY:=[(bif s==5 then 8 else 1,pcOf c,0,4)]
 .br (Zd s||(!decide (iN (List.length g)>0)||(!Zf 0 (List.length g)||(Zc c.1 (R.get (R.int u8) g 0)).1==20))) (.br (Zd s||(!decide (iN (List.length g)>0)||Zf 0 (List.length g))) (.br (Zd s) (fin3 g x1) (fin3 g x3)) (.Lf none)) (.Lf none)
theorem ZyO (a:HL Zp):EV2 20 a=Zl8 a.1 a.2.1 a.2.2:=by kernel_rfl
def Zl4 (c:TC) (s:Int) (g:List Int):RT (Option (TY×Bool)):=
 let x1:List TY:=[(12,pcOf c,0,6)]++[(5,u16.wrap ((spOf c)-1),u8.wrap (shrI u16 (pcOf c) 8),3)]++[(5,u16.wrap ((spOf c)-2),u8.wrap (pcOf c),3)]
 let x3:List TY:=[(bif s==5 then 8 else 1,pcOf c,0,4)]
 let x4:List TY:=[(9,pcOf c,0,3)]
 let x5:List TY:=x3++x4
 let x7:List TY:=x3++[(2,u16.wrap ((pcOf c)+u16.wrap 1),0,3)]
 let x9:List TY:=[(2,u16.wrap ((pcOf c)+u16.wrap (i64.wrap (1+1))),0,3)]
 let x10:List TY:=bif s==5 then x5++x4 else x5++x9
 let x12:List TY:=bif s==5 then x7++x4 else x7++x9
 .br (Zd s||(!decide (iN (List.length g)>0)||(!Zf 0 (List.length g)||(Zc c.1 (R.get (R.int u8) g 0)).1==24))) (.br (Zd s||(!decide (iN (List.length g)>0)||Zf 0 (List.length g))) (.br (Zd s) (fin3 g x1) (.br (decide (iN (List.length g)>0)) (.br (rOn c.1&& !Zg1 (c,s==5,g,x3) (24,(Zc c.1 (R.get (R.int u8) g 0)).2)) (.br (s==5) (fin3 g x5) (fin3 g x7)) (.br (s==5) (fin3 g x10) (fin3 g x12))) (fin3 g x3))) (.Lf none)) (.Lf none)
theorem ZyK (a:HL Zp):EV2 24 a=Zl4 a.1 a.2.1 a.2.2:=by kernel_rfl
def Zl0 (c:TC) (s:Int) (g:List Int):RT (Option (TY×Bool)):=
 let x1:List TY:=[(12,pcOf c,0,6)]++[(5,u16.wrap ((spOf c)-1),u8.wrap (shrI u16 (pcOf c) 8),3)]++[(5,u16.wrap ((spOf c)-2),u8.wrap (pcOf c),3)]
 let x3:List TY:=[(bif s==5 then 8 else 1,pcOf c,0,4)]
 .br (Zd s||(!decide (iN (List.length g)>0)||(!Zf 0 (List.length g)||(Zc c.1 (R.get (R.int u8) g 0)).1==28))) (.br (Zd s||(!decide (iN (List.length g)>0)||Zf 0 (List.length g))) (.br (Zd s) (fin3 g x1) (fin3 g x3)) (.Lf none)) (.Lf none)
theorem ZyG (a:HL Zp):EV2 28 a=Zl0 a.1 a.2.1 a.2.2:=by kernel_rfl
def ZlW (c:TC) (s:Int) (g:List Int):RT (Option (TY×Bool)):=
 let x1:List TY:=[(12,pcOf c,0,6)]++[(5,u16.wrap ((spOf c)-1),u8.wrap (shrI u16 (pcOf c) 8),3)]++[(5,u16.wrap ((spOf c)-2),u8.wrap (pcOf c),3)]
 let x3:List TY:=[(bif s==5 then 8 else 1,pcOf c,0,4)]
 let x4:=u16.wrap ((spOf c)+1)
 let x5:List TY:=x3++[(4,spOf c,0,3)]++[(4,x4,0,3)]++[(5,x4,c.2.1.2.2.2.2.2.1,3)]++[(5,spOf c,c.2.1.2.2.2.2.2.2.1,3)]
 let x6:=i64.wrap (iN (List.length x5)-1)
 let x7:QT22:=R.get (RY) x5 x6
 let x8:=x7.2
 let x9:List TY:=bif !rOn c.1 then setI x5 x6 (x7.1,x8.1,x8.2.1,5) else x5
 .br (Zd s||(!decide (iN (List.length g)>0)||(!Zf 0 (List.length g)||(Zc c.1 (R.get (R.int u8) g 0)).1==32))) (.br (Zd s||(!decide (iN (List.length g)>0)||Zf 0 (List.length g))) (.br (Zd s) (fin3 g x1) (.br (decide (iN (List.length g)>0)) (fin3 g x9) (fin3 g x3))) (.Lf none)) (.Lf none)
theorem ZyC (a:HL Zp):EV2 32 a=ZlW a.1 a.2.1 a.2.2:=by kernel_rfl
def ZlS (c:TC) (s:Int) (g:List Int):RT (Option (TY×Bool)):=
 let x1:List TY:=[(12,pcOf c,0,6)]++[(5,u16.wrap ((spOf c)-1),u8.wrap (shrI u16 (pcOf c) 8),3)]++[(5,u16.wrap ((spOf c)-2),u8.wrap (pcOf c),3)]
 let x3:List TY:=[(bif s==5 then 8 else 1,pcOf c,0,4)]
 .br (Zd s||(!decide (iN (List.length g)>0)||(!Zf 0 (List.length g)||(Zc c.1 (R.get (R.int u8) g 0)).1==36))) (.br (Zd s||(!decide (iN (List.length g)>0)||Zf 0 (List.length g))) (.br (Zd s) (fin3 g x1) (fin3 g x3)) (.Lf none)) (.Lf none)
theorem Zyy (a:HL Zp):EV2 36 a=ZlS a.1 a.2.1 a.2.2:=by kernel_rfl
def ZlO (c:TC) (s:Int) (g:List Int):RT (Option (TY×Bool)):=
 let x1:List TY:=[(12,pcOf c,0,6)]++[(5,u16.wrap ((spOf c)-1),u8.wrap (shrI u16 (pcOf c) 8),3)]++[(5,u16.wrap ((spOf c)-2),u8.wrap (pcOf c),3)]
 let x3:List TY:=[(bif s==5 then 8 else 1,pcOf c,0,4)]
 let x4:List TY:=[(11,pcOf c,0,3)]
 let x5:List TY:=x3++x4++x4
 .br (Zd s||(!decide (iN (List.length g)>0)||(!Zf 0 (List.length g)||(Zc c.1 (R.get (R.int u8) g 0)).1==40))) (.br (Zd s||(!decide (iN (List.length g)>0)||Zf 0 (List.length g))) (.br (Zd s) (fin3 g x1) (.br (decide (iN (List.length g)>0)) (fin3 g x5) (fin3 g x3))) (.Lf none)) (.Lf none)
theorem Zyu (a:HL Zp):EV2 40 a=ZlO a.1 a.2.1 a.2.2:=by kernel_rfl
def ZlK (c:TC) (s:Int) (g:List Int):RT (Option (TY×Bool)):=
 let x1:List TY:=[(12,pcOf c,0,6)]++[(5,u16.wrap ((spOf c)-1),u8.wrap (shrI u16 (pcOf c) 8),3)]++[(5,u16.wrap ((spOf c)-2),u8.wrap (pcOf c),3)]
 let x3:List TY:=[(bif s==5 then 8 else 1,pcOf c,0,4)]
 let x4:QT4:=((pcOf c),0,3)
 let x5:List TY:=[(11,x4)]
 let x6:List TY:=x3++[(9,x4)]++x5
 let x8:List TY:=x3++[(2,u16.wrap ((pcOf c)+u16.wrap 1),0,3)]++x5
 .br (Zd s||(!decide (iN (List.length g)>0)||(!Zf 0 (List.length g)||(Zc c.1 (R.get (R.int u8) g 0)).1==44))) (.br (Zd s||(!decide (iN (List.length g)>0)||Zf 0 (List.length g))) (.br (Zd s) (fin3 g x1) (.br (decide (iN (List.length g)>0)) (.br (s==5) (fin3 g x6) (fin3 g x8)) (fin3 g x3))) (.Lf none)) (.Lf none)
theorem Zyq (a:HL Zp):EV2 44 a=ZlK a.1 a.2.1 a.2.2:=by kernel_rfl
end
end Go.Proofs.YtpnjbfjomebppaaGreat
