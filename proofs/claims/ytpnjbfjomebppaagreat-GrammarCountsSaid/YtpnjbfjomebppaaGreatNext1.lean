import Derived.Test.YtpnjbfjomebppaaGreatNext0
open Go.IntKind (u8 u16 i64)
set_option linter.unusedSimpArgs false
open Go Go.S3 Go.Proofs
set_option linter.unusedVariables false
set_option maxRecDepth 100000
namespace Go.Proofs.YtpnjbfjomebppaaGreat
noncomputable section
def Zzm (c:TC) (s:Int) (g:List Int):RT (Option (TY×Bool)):=
 let x1:QT1:=(c,s==5,g,(0,0,0,0,0,0,0,0),[])
 let x2:=qAtC x1 0
 let x3:= !x2||(Zc c.1 (qAt x1 0)).1==1
 let x4:List TY:=[]++[(12,pcOf c,0,6)]++[(5,u16.wrap ((spOf c)-1),u8.wrap (shrI u16 (pcOf c) 8),3)]++[(5,u16.wrap ((spOf c)-2),u8.wrap (pcOf c),3)]
 let x6:QT6:=((pcOf c),0,4)
 let x7:List TY:=[]++[(bif s==5 then 8 else 1,x6)]
 let x9:List TY:=[]++[(1,x6)]
 .br (!x3||x2) (.br (x3) (.br (Zh s) (fin3 g x4) (.br (iN (List.length g)==0) (fin3 g x7) (fin3 g x9))) (.Lf none)) (.Lf none)
def Zzi (c:TC) (s:Int) (g:List Int):RT (Option (TY×Bool)):=
 let x1:QT1:=(c,s==5,g,(0,0,0,0,0,0,0,0),[])
 let x2:=qAtC x1 0
 let x3:=Zc c.1 (qAt x1 0)
 let x4:= !x2||x3.1==5
 let x5:QT6:=((pcOf c),0,4)
 let x6:List TY:=[]++[(1,x5)]
 let x7:List TY:=[(9,pcOf c,0,3)]
 let x8:List TY:=bif s==5 then x6++x7 else x6++[(2,u16.wrap ((pcOf c)+u16.wrap 1),0,3)]
 let x9:List TY:=bif s==5 then x8++x7 else x8++[(2,u16.wrap ((pcOf c)+u16.wrap (i64.wrap (1+1))),0,3)]
 let x10:QT1:=(c,s==5,g,(5,x3.2),x9)
 let x11:List TY:=[]++[(12,pcOf c,0,6)]++[(5,u16.wrap ((spOf c)-1),u8.wrap (shrI u16 (pcOf c) 8),3)]++[(5,u16.wrap ((spOf c)-2),u8.wrap (pcOf c),3)]
 let x13:List TY:=[]++[(bif s==5 then 8 else 1,x5)]
 let x15:List TY:=x9++[(2,Zse x10 1,0,3)]
 .br (!x4||x2) (.br (x4) (.br (Zh s||(iN (List.length g)==0||Zhd x10 1)) (.br (Zh s) (fin3 g x11) (.br (iN (List.length g)==0) (fin3 g x13) (fin3 g x15))) (.Lf none)) (.Lf none)) (.Lf none)
def Zze (c:TC) (s:Int) (g:List Int):RT (Option (TY×Bool)):=
 let x1:QT1:=(c,s==5,g,(0,0,0,0,0,0,0,0),[])
 let x2:=qAtC x1 0
 let x3:=Zc c.1 (qAt x1 0)
 let x4:= !x2||x3.1==9
 let x5:List TY:=[]++[(12,pcOf c,0,6)]++[(5,u16.wrap ((spOf c)-1),u8.wrap (shrI u16 (pcOf c) 8),3)]++[(5,u16.wrap ((spOf c)-2),u8.wrap (pcOf c),3)]
 let x7:QT6:=((pcOf c),0,4)
 let x8:List TY:=[]++[(bif s==5 then 8 else 1,x7)]
 let x10:List TY:=[]++[(1,x7)]
 let x11:=x3.2
 let x12:List TY:=x10++[(2,Zk5 (c,s==5,g,(9,x11),x10) x11.2.2.2.1,0,3)]
 .br (!x4||x2) (.br (x4) (.br (Zh s) (fin3 g x5) (.br (iN (List.length g)==0) (fin3 g x8) (fin3 g x12))) (.Lf none)) (.Lf none)
def ZsP (c:TC) (s:Int) (g:List Int):RT (Option (TY×Bool)):=
 let x1:QT1:=(c,s==5,g,(0,0,0,0,0,0,0,0),[])
 let x2:=qAtC x1 0
 let x3:= !x2||(Zc c.1 (qAt x1 0)).1==13
 let x4:List TY:=[]++[(12,pcOf c,0,6)]++[(5,u16.wrap ((spOf c)-1),u8.wrap (shrI u16 (pcOf c) 8),3)]++[(5,u16.wrap ((spOf c)-2),u8.wrap (pcOf c),3)]
 let x6:QT6:=((pcOf c),0,4)
 let x7:List TY:=[]++[(bif s==5 then 8 else 1,x6)]
 let x9:List TY:=[]++[(1,x6)]
 let x10:List TY:=bif s==5 then x9++[(9,pcOf c,0,3)] else x9++[(2,u16.wrap ((pcOf c)+u16.wrap 1),0,3)]
 .br (!x3||x2) (.br (x3) (.br (Zh s) (fin3 g x4) (.br (iN (List.length g)==0) (fin3 g x7) (fin3 g x10))) (.Lf none)) (.Lf none)
def ZsL (c:TC) (s:Int) (g:List Int):RT (Option (TY×Bool)):=
 let x1:QT1:=(c,s==5,g,(0,0,0,0,0,0,0,0),[])
 let x2:=qAtC x1 0
 let x3:= !x2||(Zc c.1 (qAt x1 0)).1==17
 let x4:List TY:=[]++[(12,pcOf c,0,6)]++[(5,u16.wrap ((spOf c)-1),u8.wrap (shrI u16 (pcOf c) 8),3)]++[(5,u16.wrap ((spOf c)-2),u8.wrap (pcOf c),3)]
 let x6:QT6:=((pcOf c),0,4)
 let x7:List TY:=[]++[(bif s==5 then 8 else 1,x6)]
 let x9:List TY:=[]++[(1,x6)]
 .br (!x3||x2) (.br (x3) (.br (Zh s) (fin3 g x4) (.br (iN (List.length g)==0) (fin3 g x7) (fin3 g x9))) (.Lf none)) (.Lf none)
def ZsH (c:TC) (s:Int) (g:List Int):RT (Option (TY×Bool)):=
 let x1:QT1:=(c,s==5,g,(0,0,0,0,0,0,0,0),[])
 let x2:=qAtC x1 0
 let x3:= !x2||(Zc c.1 (qAt x1 0)).1==21
 let x4:List TY:=[]++[(12,pcOf c,0,6)]++[(5,u16.wrap ((spOf c)-1),u8.wrap (shrI u16 (pcOf c) 8),3)]++[(5,u16.wrap ((spOf c)-2),u8.wrap (pcOf c),3)]
 let x6:QT6:=((pcOf c),0,4)
 let x7:List TY:=[]++[(bif s==5 then 8 else 1,x6)]
 let x9:List TY:=[]++[(1,x6)]
 .br (!x3||x2) (.br (x3) (.br (Zh s) (fin3 g x4) (.br (iN (List.length g)==0) (fin3 g x7) (fin3 g x9))) (.Lf none)) (.Lf none)
def ZsD (c:TC) (s:Int) (g:List Int):RT (Option (TY×Bool)):=
 let x1:QT1:=(c,s==5,g,(0,0,0,0,0,0,0,0),[])
 let x2:=qAtC x1 0
 let x3:=Zc c.1 (qAt x1 0)
 let x4:= !x2||x3.1==25
 let x5:=u16.wrap ((spOf c)-1)
 let x6:=u16.wrap ((spOf c)-2)
 let x7:List TY:=[]++[(12,pcOf c,0,6)]++[(5,x5,u8.wrap (shrI u16 (pcOf c) 8),3)]++[(5,x6,u8.wrap (pcOf c),3)]
 let x9:QT6:=((pcOf c),0,4)
 let x10:List TY:=[]++[(bif s==5 then 8 else 1,x9)]
 let x12:QT5:=(25,x3.2)
 let x13:List TY:=[]++[(1,x9)]
 let x14:=Zsc (c,s==5,g,x12,x13)
 let x15:List TY:=[(9,pcOf c,0,3)]
 let x16:List TY:=bif s==5 then x13++x15 else x13++[(2,u16.wrap ((pcOf c)+u16.wrap 1),0,3)]
 let x17:List TY:=bif !x14&&c.1==2 then x16 else bif s==5 then x16++x15 else x16++[(2,u16.wrap ((pcOf c)+u16.wrap (i64.wrap (1+1))),0,3)]
 let x18:=ZpK (c,s==5,g,x12,x17)
 let x19:List TY:=bif x14 then x17++[(5,x5,u8.wrap (shrI u16 x18 8),3)]++[(5,x6,u8.wrap x18,3)] else x17
 .br (!x4||x2) (.br (x4) (.br (Zh s) (fin3 g x7) (.br (iN (List.length g)==0) (fin3 g x10) (fin3 g x19))) (.Lf none)) (.Lf none)
def Zsz (c:TC) (s:Int) (g:List Int):RT (Option (TY×Bool)):=
 let x1:QT1:=(c,s==5,g,(0,0,0,0,0,0,0,0),[])
 let x2:=qAtC x1 0
 let x3:= !x2||(Zc c.1 (qAt x1 0)).1==29
 let x4:List TY:=[]++[(12,pcOf c,0,6)]++[(5,u16.wrap ((spOf c)-1),u8.wrap (shrI u16 (pcOf c) 8),3)]++[(5,u16.wrap ((spOf c)-2),u8.wrap (pcOf c),3)]
 let x6:QT6:=((pcOf c),0,4)
 let x7:List TY:=[]++[(bif s==5 then 8 else 1,x6)]
 let x9:List TY:=[]++[(1,x6)]
 .br (!x3||x2) (.br (x3) (.br (Zh s) (fin3 g x4) (.br (iN (List.length g)==0) (fin3 g x7) (fin3 g x9))) (.Lf none)) (.Lf none)
def Zsv (c:TC) (s:Int) (g:List Int):RT (Option (TY×Bool)):=
 let x1:QT1:=(c,s==5,g,(0,0,0,0,0,0,0,0),[])
 let x2:=qAtC x1 0
 let x3:=Zc c.1 (qAt x1 0)
 let x4:= !x2||x3.1==33
 let x5:QT6:=((pcOf c),0,4)
 let x6:List TY:=[]++[(1,x5)]
 let x7:List TY:=bif s==5 then x6++[(9,pcOf c,0,3)] else x6++[(2,u16.wrap ((pcOf c)+u16.wrap 1),0,3)]
 let x8:QT1:=(c,s==5,g,(33,x3.2),x7)
 let x9:=qAtC x8 1
 let x10:= !x9||x9
 let x11:= !x10||x9
 let x12:=Zh s||(iN (List.length g)==0||(!x11||x10))
 let x13:List TY:=[]++[(12,pcOf c,0,6)]++[(5,u16.wrap ((spOf c)-1),u8.wrap (shrI u16 (pcOf c) 8),3)]++[(5,u16.wrap ((spOf c)-2),u8.wrap (pcOf c),3)]
 let x15:List TY:=[]++[(bif s==5 then 8 else 1,x5)]
 let x17:=qAt x8 1
 let x18:List TY:=x7++[(6,ZcG x17 x17,0,3)]
 .br (!x4||x2) (.br (x4) (.br (!x12||(Zh s||(iN (List.length g)==0||x11))) (.br (x12) (.br (Zh s) (fin3 g x13) (.br (iN (List.length g)==0) (fin3 g x15) (fin3 g x18))) (.Lf none)) (.Lf none)) (.Lf none)) (.Lf none)
def Zsr (c:TC) (s:Int) (g:List Int):RT (Option (TY×Bool)):=
 let x1:QT1:=(c,s==5,g,(0,0,0,0,0,0,0,0),[])
 let x2:=qAtC x1 0
 let x3:= !x2||(Zc c.1 (qAt x1 0)).1==37
 let x4:List TY:=[]++[(12,pcOf c,0,6)]++[(5,u16.wrap ((spOf c)-1),u8.wrap (shrI u16 (pcOf c) 8),3)]++[(5,u16.wrap ((spOf c)-2),u8.wrap (pcOf c),3)]
 let x6:QT6:=((pcOf c),0,4)
 let x7:List TY:=[]++[(bif s==5 then 8 else 1,x6)]
 let x9:List TY:=[]++[(1,x6)]
 let x10:List TY:=bif c.1 !=2 then x9++[(10,pcOf c,0,3)] else x9
 .br (!x3||x2) (.br (x3) (.br (Zh s) (fin3 g x4) (.br (iN (List.length g)==0) (fin3 g x7) (fin3 g x10))) (.Lf none)) (.Lf none)
def Zsn (c:TC) (s:Int) (g:List Int):RT (Option (TY×Bool)):=
 let x1:QT1:=(c,s==5,g,(0,0,0,0,0,0,0,0),[])
 let x2:=qAtC x1 0
 let x3:= !x2||(Zc c.1 (qAt x1 0)).1==41
 let x4:List TY:=[]++[(12,pcOf c,0,6)]++[(5,u16.wrap ((spOf c)-1),u8.wrap (shrI u16 (pcOf c) 8),3)]++[(5,u16.wrap ((spOf c)-2),u8.wrap (pcOf c),3)]
 let x6:QT6:=((pcOf c),0,4)
 let x7:List TY:=[]++[(bif s==5 then 8 else 1,x6)]
 let x9:List TY:=[]++[(1,x6)]++[(11,pcOf c,0,3)]
 .br (!x3||x2) (.br (x3) (.br (Zh s) (fin3 g x4) (.br (iN (List.length g)==0) (fin3 g x7) (fin3 g x9))) (.Lf none)) (.Lf none)
def Zsj (c:TC) (s:Int) (g:List Int):RT (Option (TY×Bool)):=
 let x1:QT1:=(c,s==5,g,(0,0,0,0,0,0,0,0),[])
 let x2:=qAtC x1 0
 let x3:=Zc c.1 (qAt x1 0)
 let x4:= !x2||x3.1==45
 let x5:=u16.wrap ((spOf c)-1)
 let x6:=u16.wrap ((spOf c)-2)
 let x7:List TY:=[]++[(12,pcOf c,0,6)]++[(5,x5,u8.wrap (shrI u16 (pcOf c) 8),3)]++[(5,x6,u8.wrap (pcOf c),3)]
 let x9:QT6:=((pcOf c),0,4)
 let x10:List TY:=[]++[(bif s==5 then 8 else 1,x9)]
 let x12:List TY:=[]++[(1,x9)]
 let x13:QT1:=(c,s==5,g,(45,x3.2),x12)
 let x14:=ZpK x13
 let x15:List TY:=bif Zsc x13 then x12++[(5,x5,u8.wrap (shrI u16 x14 8),3)]++[(5,x6,u8.wrap x14,3)] else x12
 .br (!x4||x2) (.br (x4) (.br (Zh s) (fin3 g x7) (.br (iN (List.length g)==0) (fin3 g x10) (fin3 g x15))) (.Lf none)) (.Lf none)
def ZoW (c:TC) (s:Int) (g:List Int):RT (Option (TY×Bool)):=
 let x1:List TY:=[(12,pcOf c,0,6)]++[(5,u16.wrap ((spOf c)-1),u8.wrap (shrI u16 (pcOf c) 8),3)]++[(5,u16.wrap ((spOf c)-2),u8.wrap (pcOf c),3)]
 let x3:List TY:=[(bif s==5 then 8 else 1,pcOf c,0,4)]
 let x4:List TY:=x3++[(2,Zae c.2.1 2,0,3)]
 let x6:List TY:=x3++[(3,Zae c.2.1 2,rGet c.2.1 (Zc c.1 (R.get (R.int u8) g 0)).2.2.2.1,3)]
 let x8:Nat:=List.length x3
 let x9:=decide (iN (List.length g)>=iN x8)
 let x10:=Ze (iN (List.length g)) x8
 let x11:TY×Bool:=(R.get (RY) x3 (iN (List.length g)),true)
 .br (Za s||(!decide (iN (List.length g)>0)||(!Ze 0 (List.length g)||(Zc c.1 (R.get (R.int u8) g 0)).1==2))) (.br (Za s||(!decide (iN (List.length g)>0)||Ze 0 (List.length g))) (.br (Za s) (fin3 g x1) (.br (decide (iN (List.length g)>0)) (.br ((Zc c.1 (R.get (R.int u8) g 0)).2.2.2.1==6) (fin3 g x4) (.br ((Zc c.1 (R.get (R.int u8) g 0)).2.2.1==6) (fin3 g x6) (.br (x9) (.Lf (some (((0,0,0,0),false)))) (.br (x10) (.Lf (some (x11))) (.Lf none))))) (.br (x9) (.Lf (some (((0,0,0,0),false)))) (.br (x10) (.Lf (some (x11))) (.Lf none))))) (.Lf none)) (.Lf none)
theorem ZAW (a:HL Zr):EV1 2 a=ZoW a.1 a.2.1 a.2.2:=by kernel_rfl
def ZoS (c:TC) (s:Int) (g:List Int):RT (Option (TY×Bool)):=
 let x1:List TY:=[(bif s==5 then 8 else 1,pcOf c,0,4)]
 let x2:List TY:=[(9,pcOf c,0,3)]
 let x3:List TY:=x1++x2
 let x4:List TY:=[(2,u16.wrap ((pcOf c)+u16.wrap (i64.wrap (1+1))),0,3)]
 let x5:List TY:=bif s==5 then x3++x2 else x3++x4
 let x6:QT2:=(c,s==5,g,x5)
 let x7:= !s==5||ZbM x6 1
 let x8:List TY:=x1++[(2,u16.wrap ((pcOf c)+u16.wrap 1),0,3)]
 let x9:List TY:=bif s==5 then x8++x2 else x8++x4
 let x10:QT2:=(c,s==5,g,x9)
 let x11:List TY:=[(12,pcOf c,0,6)]++[(5,u16.wrap ((spOf c)-1),u8.wrap (shrI u16 (pcOf c) 8),3)]++[(5,u16.wrap ((spOf c)-2),u8.wrap (pcOf c),3)]
 let x13:List TY:=x5++[(3,ZdW x6 1,c.2.1.1,3)]
 let x15:List TY:=x9++[(3,ZdW x10 1,c.2.1.1,3)]
 .br (Za s||(!decide (iN (List.length g)>0)||(!Ze 0 (List.length g)||(!(Zc c.1 (R.get (R.int u8) g 0)).1==6||(!x7||(s==5||ZbM x10 1)))))) (.br (Za s||(!decide (iN (List.length g)>0)||(!Ze 0 (List.length g)||(!(Zc c.1 (R.get (R.int u8) g 0)).1==6||x7)))) (.br (Za s||(!decide (iN (List.length g)>0)||(!Ze 0 (List.length g)||(Zc c.1 (R.get (R.int u8) g 0)).1==6))) (.br (Za s||(!decide (iN (List.length g)>0)||Ze 0 (List.length g))) (.br (Za s) (fin3 g x11) (.br (decide (iN (List.length g)>0)) (.br (s==5) (fin3 g x13) (fin3 g x15)) (fin3 g x1))) (.Lf none)) (.Lf none)) (.Lf none)) (.Lf none)
theorem ZAS (a:HL Zr):EV1 6 a=ZoS a.1 a.2.1 a.2.2:=by kernel_rfl
def ZkT (c:TC) (s:Int) (g:List Int):RT (Option (TY×Bool)):=
 let x1:List TY:=[(12,pcOf c,0,6)]++[(5,u16.wrap ((spOf c)-1),u8.wrap (shrI u16 (pcOf c) 8),3)]++[(5,u16.wrap ((spOf c)-2),u8.wrap (pcOf c),3)]
 let x3:List TY:=[(bif s==5 then 8 else 1,pcOf c,0,4)]
 let x4:List TY:=x3++[(3,Zae c.2.1 (Zc c.1 (R.get (R.int u8) g 0)).2.2.2.2.1,c.2.1.1,3)]
 .br (Za s||(!decide (iN (List.length g)>0)||(!Ze 0 (List.length g)||(Zc c.1 (R.get (R.int u8) g 0)).1==10))) (.br (Za s||(!decide (iN (List.length g)>0)||Ze 0 (List.length g))) (.br (Za s) (fin3 g x1) (.br (decide (iN (List.length g)>0)) (fin3 g x4) (fin3 g x3))) (.Lf none)) (.Lf none)
theorem ZvQ (a:HL Zr):EV1 10 a=ZkT a.1 a.2.1 a.2.2:=by kernel_rfl
def ZkP (c:TC) (s:Int) (g:List Int):RT (Option (TY×Bool)):=
 let x1:List TY:=[(bif s==5 then 8 else 1,pcOf c,0,4)]
 let x2:QT2:=(c,s==5,g,x1)
 let x3:List TY:=[(12,pcOf c,0,6)]++[(5,u16.wrap ((spOf c)-1),u8.wrap (shrI u16 (pcOf c) 8),3)]++[(5,u16.wrap ((spOf c)-2),u8.wrap (pcOf c),3)]
 let x5:List TY:=x1++[(2,Zae c.2.1 2,0,3)]++[(3,Zae c.2.1 2,(ZfA c (14,(Zc c.1 (R.get (R.int u8) g 0)).2) (mAt x2 1)).1,3)]
 let x7:Nat:=List.length x1
 let x8:=decide (iN (List.length g)>=iN x7)
 let x9:=Ze (iN (List.length g)) x7
 let x10:TY×Bool:=(R.get (RY) x1 (iN (List.length g)),true)
 .br (Za s||(!decide (iN (List.length g)>0)||(!Ze 0 (List.length g)||(!(Zc c.1 (R.get (R.int u8) g 0)).1==14||(!(Zc c.1 (R.get (R.int u8) g 0)).2.2.1==6||mAtC x2 1))))) (.br (Za s||(!decide (iN (List.length g)>0)||(!Ze 0 (List.length g)||(Zc c.1 (R.get (R.int u8) g 0)).1==14))) (.br (Za s||(!decide (iN (List.length g)>0)||Ze 0 (List.length g))) (.br (Za s) (fin3 g x3) (.br (decide (iN (List.length g)>0)) (.br ((Zc c.1 (R.get (R.int u8) g 0)).2.2.1==6) (fin3 g x5) (.br (x8) (.Lf (some (((0,0,0,0),false)))) (.br (x9) (.Lf (some (x10))) (.Lf none)))) (.br (x8) (.Lf (some (((0,0,0,0),false)))) (.br (x9) (.Lf (some (x10))) (.Lf none))))) (.Lf none)) (.Lf none)) (.Lf none)
theorem ZvM (a:HL Zr):EV1 14 a=ZkP a.1 a.2.1 a.2.2:=by kernel_rfl
def ZkL (c:TC) (s:Int) (g:List Int):RT (Option (TY×Bool)):=
 let x1:List TY:=[(12,pcOf c,0,6)]++[(5,u16.wrap ((spOf c)-1),u8.wrap (shrI u16 (pcOf c) 8),3)]++[(5,u16.wrap ((spOf c)-2),u8.wrap (pcOf c),3)]
 let x3:List TY:=[(bif s==5 then 8 else 1,pcOf c,0,4)]
 let x4:List TY:=[(11,pcOf c,0,3)]
 let x5:List TY:=x3++x4++x4
 .br (Za s||(!decide (iN (List.length g)>0)||(!Ze 0 (List.length g)||(Zc c.1 (R.get (R.int u8) g 0)).1==18))) (.br (Za s||(!decide (iN (List.length g)>0)||Ze 0 (List.length g))) (.br (Za s) (fin3 g x1) (.br (decide (iN (List.length g)>0)) (fin3 g x5) (fin3 g x3))) (.Lf none)) (.Lf none)
theorem ZvI (a:HL Zr):EV1 18 a=ZkL a.1 a.2.1 a.2.2:=by kernel_rfl
def ZkH (c:TC) (s:Int) (g:List Int):RT (Option (TY×Bool)):=
 let x1:List TY:=[(12,pcOf c,0,6)]++[(5,u16.wrap ((spOf c)-1),u8.wrap (shrI u16 (pcOf c) 8),3)]++[(5,u16.wrap ((spOf c)-2),u8.wrap (pcOf c),3)]
 let x3:List TY:=[(bif s==5 then 8 else 1,pcOf c,0,4)]
 .br (Za s||(!decide (iN (List.length g)>0)||(!Ze 0 (List.length g)||(Zc c.1 (R.get (R.int u8) g 0)).1==22))) (.br (Za s||(!decide (iN (List.length g)>0)||Ze 0 (List.length g))) (.br (Za s) (fin3 g x1) (fin3 g x3)) (.Lf none)) (.Lf none)
theorem ZvE (a:HL Zr):EV1 22 a=ZkH a.1 a.2.1 a.2.2:=by kernel_rfl
def ZkD (c:TC) (s:Int) (g:List Int):RT (Option (TY×Bool)):=
 let x1:List TY:=[(12,pcOf c,0,6)]++[(5,u16.wrap ((spOf c)-1),u8.wrap (shrI u16 (pcOf c) 8),3)]++[(5,u16.wrap ((spOf c)-2),u8.wrap (pcOf c),3)]
 let x3:List TY:=[(bif s==5 then 8 else 1,pcOf c,0,4)]
 let x4:List TY:=x3++[(4,spOf c,0,3)]++[(4,u16.wrap ((spOf c)+1),0,3)]
 let x6:Nat:=List.length x3
 let x7:=decide (iN (List.length g)>=iN x6)
 let x8:=Ze (iN (List.length g)) x6
 let x9:TY×Bool:=(R.get (RY) x3 (iN (List.length g)),true)
 .br (Za s||(!decide (iN (List.length g)>0)||(!Ze 0 (List.length g)||(Zc c.1 (R.get (R.int u8) g 0)).1==26))) (.br (Za s||(!decide (iN (List.length g)>0)||Ze 0 (List.length g))) (.br (Za s) (fin3 g x1) (.br (decide (iN (List.length g)>0)) (.br (ZdM (c,s==5,g,x3) (26,(Zc c.1 (R.get (R.int u8) g 0)).2)) (fin3 g x4) (.br (x7) (.Lf (some (((0,0,0,0),false)))) (.br (x8) (.Lf (some (x9))) (.Lf none)))) (.br (x7) (.Lf (some (((0,0,0,0),false)))) (.br (x8) (.Lf (some (x9))) (.Lf none))))) (.Lf none)) (.Lf none)
theorem ZvA (a:HL Zr):EV1 26 a=ZkD a.1 a.2.1 a.2.2:=by kernel_rfl
def Zkz (c:TC) (s:Int) (g:List Int):RT (Option (TY×Bool)):=
 let x1:=u16.wrap ((spOf c)-1)
 let x2:=u16.wrap ((spOf c)-2)
 let x3:List TY:=[(12,pcOf c,0,6)]++[(5,x1,u8.wrap (shrI u16 (pcOf c) 8),3)]++[(5,x2,u8.wrap (pcOf c),3)]
 let x5:List TY:=[(bif s==5 then 8 else 1,pcOf c,0,4)]
 let x6:Int:=bif (Zc c.1 (R.get (R.int u8) g 0)).2.2.2.2.1==3 then rPSW c.1 c.2.1 else Zae c.2.1 (Zc c.1 (R.get (R.int u8) g 0)).2.2.2.2.1
 let x7:List TY:=x5++[(5,x1,u8.wrap (shrI u16 x6 8),3)]++[(5,x2,u8.wrap x6,3)]
 .br (Za s||(!decide (iN (List.length g)>0)||(!Ze 0 (List.length g)||(Zc c.1 (R.get (R.int u8) g 0)).1==30))) (.br (Za s||(!decide (iN (List.length g)>0)||Ze 0 (List.length g))) (.br (Za s) (fin3 g x3) (.br (decide (iN (List.length g)>0)) (fin3 g x7) (fin3 g x5))) (.Lf none)) (.Lf none)
theorem Zvw (a:HL Zr):EV1 30 a=Zkz a.1 a.2.1 a.2.2:=by kernel_rfl
def Zkv (c:TC) (s:Int) (g:List Int):RT (Option (TY×Bool)):=
 let x1:List TY:=[(bif s==5 then 8 else 1,pcOf c,0,4)]
 let x2:List TY:=x1++[(9,pcOf c,0,3)]
 let x3:QT2:=(c,s==5,g,x2)
 let x4:=mAtC x3 1
 let x5:= !x4||x4
 let x6:= !s==5||(!x5||x4)
 let x7:= !x6
 let x8:= !s==5||x5
 let x9:= !x8
 let x10:List TY:=x1++[(2,u16.wrap ((pcOf c)+u16.wrap 1),0,3)]
 let x11:QT2:=(c,s==5,g,x10)
 let x12:=mAtC x11 1
 let x13:= !x12||x12
 let x14:=s==5||(!x13||x12)
 let x15:List TY:=[(12,pcOf c,0,6)]++[(5,u16.wrap ((spOf c)-1),u8.wrap (shrI u16 (pcOf c) 8),3)]++[(5,u16.wrap ((spOf c)-2),u8.wrap (pcOf c),3)]
 let x17:=mAt x3 1
 let x18:List TY:=x2++[(7,ZcG x17 x17,c.2.1.1,3)]
 let x20:=mAt x11 1
 let x21:List TY:=x10++[(7,ZcG x20 x20,c.2.1.1,3)]
 .br (Za s||(!decide (iN (List.length g)>0)||(!Ze 0 (List.length g)||(!(Zc c.1 (R.get (R.int u8) g 0)).1==34||(x7||(x9||(!x14||(s==5||x13)))))))) (.br (Za s||(!decide (iN (List.length g)>0)||(!Ze 0 (List.length g)||(!(Zc c.1 (R.get (R.int u8) g 0)).1==34||(x7||(x9||x14)))))) (.br (Za s||(!decide (iN (List.length g)>0)||(!Ze 0 (List.length g)||(!(Zc c.1 (R.get (R.int u8) g 0)).1==34||(x7||x8))))) (.br (Za s||(!decide (iN (List.length g)>0)||(!Ze 0 (List.length g)||(!(Zc c.1 (R.get (R.int u8) g 0)).1==34||x6)))) (.br (Za s||(!decide (iN (List.length g)>0)||(!Ze 0 (List.length g)||(Zc c.1 (R.get (R.int u8) g 0)).1==34))) (.br (Za s||(!decide (iN (List.length g)>0)||Ze 0 (List.length g))) (.br (Za s) (fin3 g x15) (.br (decide (iN (List.length g)>0)) (.br (s==5) (fin3 g x18) (fin3 g x21)) (fin3 g x1))) (.Lf none)) (.Lf none)) (.Lf none)) (.Lf none)) (.Lf none)) (.Lf none)
theorem Zvs (a:HL Zr):EV1 34 a=Zkv a.1 a.2.1 a.2.2:=by kernel_rfl
def Zkr (c:TC) (s:Int) (g:List Int):RT (Option (TY×Bool)):=
 let x1:List TY:=[(12,pcOf c,0,6)]++[(5,u16.wrap ((spOf c)-1),u8.wrap (shrI u16 (pcOf c) 8),3)]++[(5,u16.wrap ((spOf c)-2),u8.wrap (pcOf c),3)]
 let x3:List TY:=[(bif s==5 then 8 else 1,pcOf c,0,4)]
 .br (Za s||(!decide (iN (List.length g)>0)||(!Ze 0 (List.length g)||(Zc c.1 (R.get (R.int u8) g 0)).1==38))) (.br (Za s||(!decide (iN (List.length g)>0)||Ze 0 (List.length g))) (.br (Za s) (fin3 g x1) (fin3 g x3)) (.Lf none)) (.Lf none)
theorem Zvo (a:HL Zr):EV1 38 a=Zkr a.1 a.2.1 a.2.2:=by kernel_rfl
def Zkn (c:TC) (s:Int) (g:List Int):RT (Option (TY×Bool)):=
 let x1:List TY:=[(12,pcOf c,0,6)]++[(5,u16.wrap ((spOf c)-1),u8.wrap (shrI u16 (pcOf c) 8),3)]++[(5,u16.wrap ((spOf c)-2),u8.wrap (pcOf c),3)]
 let x3:List TY:=[(bif s==5 then 8 else 1,pcOf c,0,4)]
 let x4:List TY:=[(11,pcOf c,0,3)]
 let x5:List TY:=x3++x4++x4
 .br (Za s||(!decide (iN (List.length g)>0)||(!Ze 0 (List.length g)||(Zc c.1 (R.get (R.int u8) g 0)).1==42))) (.br (Za s||(!decide (iN (List.length g)>0)||Ze 0 (List.length g))) (.br (Za s) (fin3 g x1) (.br (decide (iN (List.length g)>0)) (fin3 g x5) (fin3 g x3))) (.Lf none)) (.Lf none)
theorem Zvk (a:HL Zr):EV1 42 a=Zkn a.1 a.2.1 a.2.2:=by kernel_rfl
def Zkj (c:TC) (s:Int) (g:List Int):RT (Option (TY×Bool)):=
 let x1:List TY:=[(12,pcOf c,0,6)]++[(5,u16.wrap ((spOf c)-1),u8.wrap (shrI u16 (pcOf c) 8),3)]++[(5,u16.wrap ((spOf c)-2),u8.wrap (pcOf c),3)]
 let x3:List TY:=[(bif s==5 then 8 else 1,pcOf c,0,4)]
 let x4:List TY:=x3++[(3,Zae c.2.1 1,c.2.1.2.2.2.2.2.2.1,3)]++[(3,u16.wrap (Zae c.2.1 1+1),c.2.1.2.2.2.2.2.1,3)]
 .br (Za s||(!decide (iN (List.length g)>0)||(!Ze 0 (List.length g)||(Zc c.1 (R.get (R.int u8) g 0)).1==46))) (.br (Za s||(!decide (iN (List.length g)>0)||Ze 0 (List.length g))) (.br (Za s) (fin3 g x1) (.br (decide (iN (List.length g)>0)) (fin3 g x4) (fin3 g x3))) (.Lf none)) (.Lf none)
theorem Zvg (a:HL Zr):EV1 46 a=Zkj a.1 a.2.1 a.2.2:=by kernel_rfl
end
end Go.Proofs.YtpnjbfjomebppaaGreat
