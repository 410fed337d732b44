import Derived.Test.YtpnjbfjomebppaaGreatNext0
open Go.IntKind (u8 u16 i64)
set_option linter.unusedSimpArgs false
open Go Go.S3 Go.Proofs
set_option linter.unusedVariables false
set_option maxRecDepth 100000
namespace Go.Proofs.YtpnjbfjomebppaaGreat
noncomputable section
def Zzk (c:TC) (s:Int) (g:List Int):RT (Option (TY×Bool)):=
 let x1:QT1:=(c,s==5,g,(0,0,0,0,0,0,0,0),[])
 let x2:=qAtC x1 0
 let x3:=Zc c.1 (qAt x1 0)
 let x4:= !x2||x3.1==3
 let x5:=x3.2
 let x6:=x5.2.1==6
 let x7:QT5:=(3,x5)
 let x8:QT6:=((pcOf c),0,4)
 let x9:List TY:=[]++[(1,x8)]
 let x10:List TY:=bif s==5 then x9++[(9,pcOf c,0,3)] else x9++[(2,u16.wrap ((pcOf c)+u16.wrap 1),0,3)]
 let x11:QT1:=(c,s==5,g,x7,x10)
 let x12:List TY:=[]++[(12,pcOf c,0,6)]++[(5,u16.wrap ((spOf c)-1),u8.wrap (shrI u16 (pcOf c) 8),3)]++[(5,u16.wrap ((spOf c)-2),u8.wrap (pcOf c),3)]
 let x14:List TY:=[]++[(bif s==5 then 8 else 1,x8)]
 let x16:List TY:=bif x6 then x10++[(3,Zk5 (c,s==5,g,x7,x9) 2,qAt x11 1,3)] else x10
 .br (!x4||x2) (.br (x4) (.br (Zh s||(iN (List.length g)==0||(!x6||qAtC x11 1))) (.br (Zh s) (fin3 g x12) (.br (iN (List.length g)==0) (fin3 g x14) (fin3 g x16))) (.Lf none)) (.Lf none)) (.Lf none)
def Zzg (c:TC) (s:Int) (g:List Int):RT (Option (TY×Bool)):=
 let x1:QT1:=(c,s==5,g,(0,0,0,0,0,0,0,0),[])
 let x2:=qAtC x1 0
 let x3:=Zc c.1 (qAt x1 0)
 let x4:= !x2||x3.1==7
 let x5:QT6:=((pcOf c),0,4)
 let x6:List TY:=[]++[(1,x5)]
 let x7:List TY:=[(9,pcOf c,0,3)]
 let x8:List TY:=bif s==5 then x6++x7 else x6++[(2,u16.wrap ((pcOf c)+u16.wrap 1),0,3)]
 let x9:List TY:=bif s==5 then x8++x7 else x8++[(2,u16.wrap ((pcOf c)+u16.wrap (i64.wrap (1+1))),0,3)]
 let x10:QT1:=(c,s==5,g,(7,x3.2),x9)
 let x11:List TY:=[]++[(12,pcOf c,0,6)]++[(5,u16.wrap ((spOf c)-1),u8.wrap (shrI u16 (pcOf c) 8),3)]++[(5,u16.wrap ((spOf c)-2),u8.wrap (pcOf c),3)]
 let x13:List TY:=[]++[(bif s==5 then 8 else 1,x5)]
 let x15:=Zse x10 1
 let x16:List TY:=x9++[(2,x15,0,3)]++[(2,u16.wrap (x15+1),0,3)]
 .br (!x4||x2) (.br (x4) (.br (Zh s||(iN (List.length g)==0||Zhd x10 1)) (.br (Zh s) (fin3 g x11) (.br (iN (List.length g)==0) (fin3 g x13) (fin3 g x16))) (.Lf none)) (.Lf none)) (.Lf none)
def ZsR (c:TC) (s:Int) (g:List Int):RT (Option (TY×Bool)):=
 let x1:QT1:=(c,s==5,g,(0,0,0,0,0,0,0,0),[])
 let x2:=qAtC x1 0
 let x3:= !x2||(Zc c.1 (qAt x1 0)).1==11
 let x4:List TY:=[]++[(12,pcOf c,0,6)]++[(5,u16.wrap ((spOf c)-1),u8.wrap (shrI u16 (pcOf c) 8),3)]++[(5,u16.wrap ((spOf c)-2),u8.wrap (pcOf c),3)]
 let x6:QT6:=((pcOf c),0,4)
 let x7:List TY:=[]++[(bif s==5 then 8 else 1,x6)]
 let x9:List TY:=[]++[(1,x6)]
 .br (!x3||x2) (.br (x3) (.br (Zh s) (fin3 g x4) (.br (iN (List.length g)==0) (fin3 g x7) (fin3 g x9))) (.Lf none)) (.Lf none)
def ZsN (c:TC) (s:Int) (g:List Int):RT (Option (TY×Bool)):=
 let x1:QT1:=(c,s==5,g,(0,0,0,0,0,0,0,0),[])
 let x2:=qAtC x1 0
 let x3:=Zc c.1 (qAt x1 0)
 let x4:= !x2||x3.1==15
 let x5:=x3.2
 let x6:=x5.2.1==6
 let x7:QT5:=(15,x5)
 let x8:QT6:=((pcOf c),0,4)
 let x9:List TY:=[]++[(1,x8)]
 let x10:=Zk5 (c,s==5,g,x7,x9) 2
 let x11:List TY:=x9++[(2,x10,0,3)]
 let x12:QT1:=(c,s==5,g,x7,x11)
 let x13:List TY:=[]++[(12,pcOf c,0,6)]++[(5,u16.wrap ((spOf c)-1),u8.wrap (shrI u16 (pcOf c) 8),3)]++[(5,u16.wrap ((spOf c)-2),u8.wrap (pcOf c),3)]
 let x15:List TY:=[]++[(bif s==5 then 8 else 1,x8)]
 let x17:List TY:=bif x6 then x11++[(3,x10,Zjm x12,3)] else x9
 .br (!x4||x2) (.br (x4) (.br (Zh s||(iN (List.length g)==0||(!x6||Zhe x12))) (.br (Zh s) (fin3 g x13) (.br (iN (List.length g)==0) (fin3 g x15) (fin3 g x17))) (.Lf none)) (.Lf none)) (.Lf none)
def ZsJ (c:TC) (s:Int) (g:List Int):RT (Option (TY×Bool)):=
 let x1:QT1:=(c,s==5,g,(0,0,0,0,0,0,0,0),[])
 let x2:=qAtC x1 0
 let x3:= !x2||(Zc c.1 (qAt x1 0)).1==19
 let x4:List TY:=[]++[(12,pcOf c,0,6)]++[(5,u16.wrap ((spOf c)-1),u8.wrap (shrI u16 (pcOf c) 8),3)]++[(5,u16.wrap ((spOf c)-2),u8.wrap (pcOf c),3)]
 let x6:QT6:=((pcOf c),0,4)
 let x7:List TY:=[]++[(bif s==5 then 8 else 1,x6)]
 let x9:List TY:=[]++[(1,x6)]
 .br (!x3||x2) (.br (x3) (.br (Zh s) (fin3 g x4) (.br (iN (List.length g)==0) (fin3 g x7) (fin3 g x9))) (.Lf none)) (.Lf none)
def ZsF (c:TC) (s:Int) (g:List Int):RT (Option (TY×Bool)):=
 let x1:QT1:=(c,s==5,g,(0,0,0,0,0,0,0,0),[])
 let x2:=qAtC x1 0
 let x3:= !x2||(Zc c.1 (qAt x1 0)).1==23
 let x4:List TY:=[]++[(12,pcOf c,0,6)]++[(5,u16.wrap ((spOf c)-1),u8.wrap (shrI u16 (pcOf c) 8),3)]++[(5,u16.wrap ((spOf c)-2),u8.wrap (pcOf c),3)]
 let x6:QT6:=((pcOf c),0,4)
 let x7:List TY:=[]++[(bif s==5 then 8 else 1,x6)]
 let x9:List TY:=[]++[(1,x6)]
 .br (!x3||x2) (.br (x3) (.br (Zh s) (fin3 g x4) (.br (iN (List.length g)==0) (fin3 g x7) (fin3 g x9))) (.Lf none)) (.Lf none)
def ZsB (c:TC) (s:Int) (g:List Int):RT (Option (TY×Bool)):=
 let x1:QT1:=(c,s==5,g,(0,0,0,0,0,0,0,0),[])
 let x2:=qAtC x1 0
 let x3:=Zc c.1 (qAt x1 0)
 let x4:= !x2||x3.1==27
 let x5:=u16.wrap ((spOf c)-1)
 let x6:=u16.wrap ((spOf c)-2)
 let x7:List TY:=[]++[(12,pcOf c,0,6)]++[(5,x5,u8.wrap (shrI u16 (pcOf c) 8),3)]++[(5,x6,u8.wrap (pcOf c),3)]
 let x9:QT6:=((pcOf c),0,4)
 let x10:List TY:=[]++[(bif s==5 then 8 else 1,x9)]
 let x12:List TY:=[]++[(1,x9)]
 let x13:=ZpK (c,s==5,g,(27,x3.2),x12)
 let x14:List TY:=x12++[(5,x5,u8.wrap (shrI u16 x13 8),3)]++[(5,x6,u8.wrap x13,3)]
 .br (!x4||x2) (.br (x4) (.br (Zh s) (fin3 g x7) (.br (iN (List.length g)==0) (fin3 g x10) (fin3 g x14))) (.Lf none)) (.Lf none)
def Zsx (c:TC) (s:Int) (g:List Int):RT (Option (TY×Bool)):=
 let x1:QT1:=(c,s==5,g,(0,0,0,0,0,0,0,0),[])
 let x2:=qAtC x1 0
 let x3:= !x2||(Zc c.1 (qAt x1 0)).1==31
 let x4:List TY:=[]++[(12,pcOf c,0,6)]++[(5,u16.wrap ((spOf c)-1),u8.wrap (shrI u16 (pcOf c) 8),3)]++[(5,u16.wrap ((spOf c)-2),u8.wrap (pcOf c),3)]
 let x6:QT6:=((pcOf c),0,4)
 let x7:List TY:=[]++[(bif s==5 then 8 else 1,x6)]
 let x9:List TY:=[]++[(1,x6)]++[(4,spOf c,0,3)]++[(4,u16.wrap ((spOf c)+1),0,3)]
 .br (!x3||x2) (.br (x3) (.br (Zh s) (fin3 g x4) (.br (iN (List.length g)==0) (fin3 g x7) (fin3 g x9))) (.Lf none)) (.Lf none)
def Zst (c:TC) (s:Int) (g:List Int):RT (Option (TY×Bool)):=
 let x1:QT1:=(c,s==5,g,(0,0,0,0,0,0,0,0),[])
 let x2:=qAtC x1 0
 let x3:= !x2||(Zc c.1 (qAt x1 0)).1==35
 let x4:List TY:=[]++[(12,pcOf c,0,6)]++[(5,u16.wrap ((spOf c)-1),u8.wrap (shrI u16 (pcOf c) 8),3)]++[(5,u16.wrap ((spOf c)-2),u8.wrap (pcOf c),3)]
 let x6:QT6:=((pcOf c),0,4)
 let x7:List TY:=[]++[(bif s==5 then 8 else 1,x6)]
 let x9:List TY:=[]++[(1,x6)]
 .br (!x3||x2) (.br (x3) (.br (Zh s) (fin3 g x4) (.br (iN (List.length g)==0) (fin3 g x7) (fin3 g x9))) (.Lf none)) (.Lf none)
def Zsp (c:TC) (s:Int) (g:List Int):RT (Option (TY×Bool)):=
 let x1:QT1:=(c,s==5,g,(0,0,0,0,0,0,0,0),[])
 let x2:=qAtC x1 0
 let x3:= !x2||(Zc c.1 (qAt x1 0)).1==39
 let x4:List TY:=[]++[(12,pcOf c,0,6)]++[(5,u16.wrap ((spOf c)-1),u8.wrap (shrI u16 (pcOf c) 8),3)]++[(5,u16.wrap ((spOf c)-2),u8.wrap (pcOf c),3)]
 let x6:QT6:=((pcOf c),0,4)
 let x7:List TY:=[]++[(bif s==5 then 8 else 1,x6)]
 let x9:List TY:=[]++[(1,x6)]
 .br (!x3||x2) (.br (x3) (.br (Zh s) (fin3 g x4) (.br (iN (List.length g)==0) (fin3 g x7) (fin3 g x9))) (.Lf none)) (.Lf none)
def Zsl (c:TC) (s:Int) (g:List Int):RT (Option (TY×Bool)):=
 let x1:QT1:=(c,s==5,g,(0,0,0,0,0,0,0,0),[])
 let x2:=qAtC x1 0
 let x3:= !x2||(Zc c.1 (qAt x1 0)).1==43
 let x4:List TY:=[]++[(12,pcOf c,0,6)]++[(5,u16.wrap ((spOf c)-1),u8.wrap (shrI u16 (pcOf c) 8),3)]++[(5,u16.wrap ((spOf c)-2),u8.wrap (pcOf c),3)]
 let x6:QT6:=((pcOf c),0,4)
 let x7:List TY:=[]++[(bif s==5 then 8 else 1,x6)]
 let x9:List TY:=[]++[(1,x6)]
 let x10:QT6:=((pcOf c),0,3)
 let x11:List TY:=(bif s==5 then x9++[(9,x10)] else x9++[(2,u16.wrap ((pcOf c)+u16.wrap 1),0,3)])++[(11,x10)]
 .br (!x3||x2) (.br (x3) (.br (Zh s) (fin3 g x4) (.br (iN (List.length g)==0) (fin3 g x7) (fin3 g x11))) (.Lf none)) (.Lf none)
def Zsh (c:TC) (s:Int) (g:List Int):RT (Option (TY×Bool)):=
 let x1:QT1:=(c,s==5,g,(0,0,0,0,0,0,0,0),[])
 let x2:=qAtC x1 0
 let x3:=Zc c.1 (qAt x1 0)
 let x4:= !x2||x3.1==47
 let x5:List TY:=[]++[(12,pcOf c,0,6)]++[(5,u16.wrap ((spOf c)-1),u8.wrap (shrI u16 (pcOf c) 8),3)]++[(5,u16.wrap ((spOf c)-2),u8.wrap (pcOf c),3)]
 let x7:QT6:=((pcOf c),0,4)
 let x8:List TY:=[]++[(bif s==5 then 8 else 1,x7)]
 let x10:List TY:=[]++[(1,x7)]
 let x11:=Zk5 (c,s==5,g,(47,x3.2),x10) 1
 let x12:List TY:=x10++[(2,x11,0,3)]++[(2,u16.wrap (x11+1),0,3)]
 .br (!x4||x2) (.br (x4) (.br (Zh s) (fin3 g x5) (.br (iN (List.length g)==0) (fin3 g x8) (fin3 g x12))) (.Lf none)) (.Lf none)
def ZoU (c:TC) (s:Int) (g:List Int):RT (Option (TY×Bool)):=
 let x1:List TY:=[(12,pcOf c,0,6)]++[(5,u16.wrap ((spOf c)-1),u8.wrap (shrI u16 (pcOf c) 8),3)]++[(5,u16.wrap ((spOf c)-2),u8.wrap (pcOf c),3)]
 let x3:List TY:=[(bif s==5 then 8 else 1,pcOf c,0,4)]
 let x4:List TY:=[(9,pcOf c,0,3)]
 let x5:List TY:=x3++x4
 let x6:List TY:=[(2,u16.wrap ((pcOf c)+u16.wrap (i64.wrap (1+1))),0,3)]
 let x7:List TY:=bif s==5 then x5++x4 else x5++x6
 let x9:List TY:=x3++[(2,u16.wrap ((pcOf c)+u16.wrap 1),0,3)]
 let x10:List TY:=bif s==5 then x9++x4 else x9++x6
 .br (Za s||(!decide (iN (List.length g)>0)||(!Ze 0 (List.length g)||(Zc c.1 (R.get (R.int u8) g 0)).1==4))) (.br (Za s||(!decide (iN (List.length g)>0)||Ze 0 (List.length g))) (.br (Za s) (fin3 g x1) (.br (decide (iN (List.length g)>0)) (.br (s==5) (fin3 g x7) (fin3 g x10)) (fin3 g x3))) (.Lf none)) (.Lf none)
theorem ZAU (a:HL Zr):EV1 4 a=ZoU a.1 a.2.1 a.2.2:=by kernel_rfl
def ZoQ (c:TC) (s:Int) (g:List Int):RT (Option (TY×Bool)):=
 let x1:List TY:=[(bif s==5 then 8 else 1,pcOf c,0,4)]
 let x2:List TY:=[(9,pcOf c,0,3)]
 let x3:List TY:=x1++x2
 let x4:List TY:=[(2,u16.wrap ((pcOf c)+u16.wrap (i64.wrap (1+1))),0,3)]
 let x5:List TY:=bif s==5 then x3++x2 else x3++x4
 let x6:QT2:=(c,s==5,g,x5)
 let x7:=ZbM x6 1
 let x8:List TY:=x5++[(3,ZdW x6 1,c.2.1.2.2.2.2.2.2.1,3)]
 let x9:QT2:=(c,s==5,g,x8)
 let x10:= !s==5||(!x7||ZbM x9 1)
 let x11:= !x10
 let x12:= !s==5||x7
 let x13:= !x12
 let x14:List TY:=x1++[(2,u16.wrap ((pcOf c)+u16.wrap 1),0,3)]
 let x15:List TY:=bif s==5 then x14++x2 else x14++x4
 let x16:QT2:=(c,s==5,g,x15)
 let x17:=ZbM x16 1
 let x18:List TY:=x15++[(3,ZdW x16 1,c.2.1.2.2.2.2.2.2.1,3)]
 let x19:QT2:=(c,s==5,g,x18)
 let x20:=s==5||(!x17||ZbM x19 1)
 let x21:List TY:=[(12,pcOf c,0,6)]++[(5,u16.wrap ((spOf c)-1),u8.wrap (shrI u16 (pcOf c) 8),3)]++[(5,u16.wrap ((spOf c)-2),u8.wrap (pcOf c),3)]
 let x23:List TY:=x8++[(3,u16.wrap (ZdW x9 1+1),c.2.1.2.2.2.2.2.1,3)]
 let x25:List TY:=x18++[(3,u16.wrap (ZdW x19 1+1),c.2.1.2.2.2.2.2.1,3)]
 .br (Za s||(!decide (iN (List.length g)>0)||(!Ze 0 (List.length g)||(!(Zc c.1 (R.get (R.int u8) g 0)).1==8||(x11||(x13||(!x20||(s==5||x17)))))))) (.br (Za s||(!decide (iN (List.length g)>0)||(!Ze 0 (List.length g)||(!(Zc c.1 (R.get (R.int u8) g 0)).1==8||(x11||(x13||x20)))))) (.br (Za s||(!decide (iN (List.length g)>0)||(!Ze 0 (List.length g)||(!(Zc c.1 (R.get (R.int u8) g 0)).1==8||(x11||x12))))) (.br (Za s||(!decide (iN (List.length g)>0)||(!Ze 0 (List.length g)||(!(Zc c.1 (R.get (R.int u8) g 0)).1==8||x10)))) (.br (Za s||(!decide (iN (List.length g)>0)||(!Ze 0 (List.length g)||(Zc c.1 (R.get (R.int u8) g 0)).1==8))) (.br (Za s||(!decide (iN (List.length g)>0)||Ze 0 (List.length g))) (.br (Za s) (fin3 g x21) (.br (decide (iN (List.length g)>0)) (.br (s==5) (fin3 g x23) (fin3 g x25)) (fin3 g x1))) (.Lf none)) (.Lf none)) (.Lf none)) (.Lf none)) (.Lf none)) (.Lf none)
theorem ZAQ (a:HL Zr):EV1 8 a=ZoQ a.1 a.2.1 a.2.2:=by kernel_rfl
def ZkR (c:TC) (s:Int) (g:List Int):RT (Option (TY×Bool)):=
 let x1:List TY:=[(12,pcOf c,0,6)]++[(5,u16.wrap ((spOf c)-1),u8.wrap (shrI u16 (pcOf c) 8),3)]++[(5,u16.wrap ((spOf c)-2),u8.wrap (pcOf c),3)]
 let x3:List TY:=[(bif s==5 then 8 else 1,pcOf c,0,4)]
 let x4:List TY:=x3++[(2,Zae c.2.1 2,0,3)]
 let x6:Nat:=List.length x3
 let x7:=decide (iN (List.length g)>=iN x6)
 let x8:=Ze (iN (List.length g)) x6
 let x9:TY×Bool:=(R.get (RY) x3 (iN (List.length g)),true)
 .br (Za s||(!decide (iN (List.length g)>0)||(!Ze 0 (List.length g)||(Zc c.1 (R.get (R.int u8) g 0)).1==12))) (.br (Za s||(!decide (iN (List.length g)>0)||Ze 0 (List.length g))) (.br (Za s) (fin3 g x1) (.br (decide (iN (List.length g)>0)) (.br ((Zc c.1 (R.get (R.int u8) g 0)).2.2.2.1==6) (fin3 g x4) (.br (x7) (.Lf (some (((0,0,0,0),false)))) (.br (x8) (.Lf (some (x9))) (.Lf none)))) (.br (x7) (.Lf (some (((0,0,0,0),false)))) (.br (x8) (.Lf (some (x9))) (.Lf none))))) (.Lf none)) (.Lf none)
theorem ZvO (a:HL Zr):EV1 12 a=ZkR a.1 a.2.1 a.2.2:=by kernel_rfl
def ZkN (c:TC) (s:Int) (g:List Int):RT (Option (TY×Bool)):=
 let x1:List TY:=[(12,pcOf c,0,6)]++[(5,u16.wrap ((spOf c)-1),u8.wrap (shrI u16 (pcOf c) 8),3)]++[(5,u16.wrap ((spOf c)-2),u8.wrap (pcOf c),3)]
 let x3:List TY:=[(bif s==5 then 8 else 1,pcOf c,0,4)]
 .br (Za s||(!decide (iN (List.length g)>0)||(!Ze 0 (List.length g)||(Zc c.1 (R.get (R.int u8) g 0)).1==16))) (.br (Za s||(!decide (iN (List.length g)>0)||Ze 0 (List.length g))) (.br (Za s) (fin3 g x1) (fin3 g x3)) (.Lf none)) (.Lf none)
theorem ZvK (a:HL Zr):EV1 16 a=ZkN a.1 a.2.1 a.2.2:=by kernel_rfl
def ZkJ (c:TC) (s:Int) (g:List Int):RT (Option (TY×Bool)):=
 let x1:List TY:=[(12,pcOf c,0,6)]++[(5,u16.wrap ((spOf c)-1),u8.wrap (shrI u16 (pcOf c) 8),3)]++[(5,u16.wrap ((spOf c)-2),u8.wrap (pcOf c),3)]
 let x3:List TY:=[(bif s==5 then 8 else 1,pcOf c,0,4)]
 .br (Za s||(!decide (iN (List.length g)>0)||(!Ze 0 (List.length g)||(Zc c.1 (R.get (R.int u8) g 0)).1==20))) (.br (Za s||(!decide (iN (List.length g)>0)||Ze 0 (List.length g))) (.br (Za s) (fin3 g x1) (fin3 g x3)) (.Lf none)) (.Lf none)
theorem ZvG (a:HL Zr):EV1 20 a=ZkJ a.1 a.2.1 a.2.2:=by kernel_rfl
def ZkF (c:TC) (s:Int) (g:List Int):RT (Option (TY×Bool)):=
 let x1:List TY:=[(12,pcOf c,0,6)]++[(5,u16.wrap ((spOf c)-1),u8.wrap (shrI u16 (pcOf c) 8),3)]++[(5,u16.wrap ((spOf c)-2),u8.wrap (pcOf c),3)]
 let x3:List TY:=[(bif s==5 then 8 else 1,pcOf c,0,4)]
 let x4:List TY:=[(9,pcOf c,0,3)]
 let x5:List TY:=x3++x4
 let x7:List TY:=x3++[(2,u16.wrap ((pcOf c)+u16.wrap 1),0,3)]
 let x9:List TY:=[(2,u16.wrap ((pcOf c)+u16.wrap (i64.wrap (1+1))),0,3)]
 let x10:List TY:=bif s==5 then x5++x4 else x5++x9
 let x12:List TY:=bif s==5 then x7++x4 else x7++x9
 .br (Za s||(!decide (iN (List.length g)>0)||(!Ze 0 (List.length g)||(Zc c.1 (R.get (R.int u8) g 0)).1==24))) (.br (Za s||(!decide (iN (List.length g)>0)||Ze 0 (List.length g))) (.br (Za s) (fin3 g x1) (.br (decide (iN (List.length g)>0)) (.br (rOn c.1&& !ZdM (c,s==5,g,x3) (24,(Zc c.1 (R.get (R.int u8) g 0)).2)) (.br (s==5) (fin3 g x5) (fin3 g x7)) (.br (s==5) (fin3 g x10) (fin3 g x12))) (fin3 g x3))) (.Lf none)) (.Lf none)
theorem ZvC (a:HL Zr):EV1 24 a=ZkF a.1 a.2.1 a.2.2:=by kernel_rfl
def ZkB (c:TC) (s:Int) (g:List Int):RT (Option (TY×Bool)):=
 let x1:List TY:=[(12,pcOf c,0,6)]++[(5,u16.wrap ((spOf c)-1),u8.wrap (shrI u16 (pcOf c) 8),3)]++[(5,u16.wrap ((spOf c)-2),u8.wrap (pcOf c),3)]
 let x3:List TY:=[(bif s==5 then 8 else 1,pcOf c,0,4)]
 .br (Za s||(!decide (iN (List.length g)>0)||(!Ze 0 (List.length g)||(Zc c.1 (R.get (R.int u8) g 0)).1==28))) (.br (Za s||(!decide (iN (List.length g)>0)||Ze 0 (List.length g))) (.br (Za s) (fin3 g x1) (fin3 g x3)) (.Lf none)) (.Lf none)
theorem Zvy (a:HL Zr):EV1 28 a=ZkB a.1 a.2.1 a.2.2:=by kernel_rfl
def Zkx (c:TC) (s:Int) (g:List Int):RT (Option (TY×Bool)):=
 let x1:List TY:=[(12,pcOf c,0,6)]++[(5,u16.wrap ((spOf c)-1),u8.wrap (shrI u16 (pcOf c) 8),3)]++[(5,u16.wrap ((spOf c)-2),u8.wrap (pcOf c),3)]
 let x3:List TY:=[(bif s==5 then 8 else 1,pcOf c,0,4)]
 let x4:=u16.wrap ((spOf c)+1)
 let x5:List TY:=x3++[(4,spOf c,0,3)]++[(4,x4,0,3)]++[(5,x4,c.2.1.2.2.2.2.2.1,3)]++[(5,spOf c,c.2.1.2.2.2.2.2.2.1,3)]
 let x6:=i64.wrap (iN (List.length x5)-1)
 let x7:QT11:=R.get (RY) x5 x6
 let x8:=x7.2
 let x9:List TY:=bif !rOn c.1 then setI x5 x6 (x7.1,x8.1,x8.2.1,5) else x5
 .br (Za s||(!decide (iN (List.length g)>0)||(!Ze 0 (List.length g)||(Zc c.1 (R.get (R.int u8) g 0)).1==32))) (.br (Za s||(!decide (iN (List.length g)>0)||Ze 0 (List.length g))) (.br (Za s) (fin3 g x1) (.br (decide (iN (List.length g)>0)) (fin3 g x9) (fin3 g x3))) (.Lf none)) (.Lf none)
theorem Zvu (a:HL Zr):EV1 32 a=Zkx a.1 a.2.1 a.2.2:=by kernel_rfl
def Zkt (c:TC) (s:Int) (g:List Int):RT (Option (TY×Bool)):=
 let x1:List TY:=[(12,pcOf c,0,6)]++[(5,u16.wrap ((spOf c)-1),u8.wrap (shrI u16 (pcOf c) 8),3)]++[(5,u16.wrap ((spOf c)-2),u8.wrap (pcOf c),3)]
 let x3:List TY:=[(bif s==5 then 8 else 1,pcOf c,0,4)]
 .br (Za s||(!decide (iN (List.length g)>0)||(!Ze 0 (List.length g)||(Zc c.1 (R.get (R.int u8) g 0)).1==36))) (.br (Za s||(!decide (iN (List.length g)>0)||Ze 0 (List.length g))) (.br (Za s) (fin3 g x1) (fin3 g x3)) (.Lf none)) (.Lf none)
theorem Zvq (a:HL Zr):EV1 36 a=Zkt a.1 a.2.1 a.2.2:=by kernel_rfl
def Zkp (c:TC) (s:Int) (g:List Int):RT (Option (TY×Bool)):=
 let x1:List TY:=[(12,pcOf c,0,6)]++[(5,u16.wrap ((spOf c)-1),u8.wrap (shrI u16 (pcOf c) 8),3)]++[(5,u16.wrap ((spOf c)-2),u8.wrap (pcOf c),3)]
 let x3:List TY:=[(bif s==5 then 8 else 1,pcOf c,0,4)]
 let x4:List TY:=[(11,pcOf c,0,3)]
 let x5:List TY:=x3++x4++x4
 .br (Za s||(!decide (iN (List.length g)>0)||(!Ze 0 (List.length g)||(Zc c.1 (R.get (R.int u8) g 0)).1==40))) (.br (Za s||(!decide (iN (List.length g)>0)||Ze 0 (List.length g))) (.br (Za s) (fin3 g x1) (.br (decide (iN (List.length g)>0)) (fin3 g x5) (fin3 g x3))) (.Lf none)) (.Lf none)
theorem Zvm (a:HL Zr):EV1 40 a=Zkp a.1 a.2.1 a.2.2:=by kernel_rfl
def Zkl (c:TC) (s:Int) (g:List Int):RT (Option (TY×Bool)):=
 let x1:List TY:=[(12,pcOf c,0,6)]++[(5,u16.wrap ((spOf c)-1),u8.wrap (shrI u16 (pcOf c) 8),3)]++[(5,u16.wrap ((spOf c)-2),u8.wrap (pcOf c),3)]
 let x3:List TY:=[(bif s==5 then 8 else 1,pcOf c,0,4)]
 let x4:QT6:=((pcOf c),0,3)
 let x5:List TY:=[(11,x4)]
 let x6:List TY:=x3++[(9,x4)]++x5
 let x8:List TY:=x3++[(2,u16.wrap ((pcOf c)+u16.wrap 1),0,3)]++x5
 .br (Za s||(!decide (iN (List.length g)>0)||(!Ze 0 (List.length g)||(Zc c.1 (R.get (R.int u8) g 0)).1==44))) (.br (Za s||(!decide (iN (List.length g)>0)||Ze 0 (List.length g))) (.br (Za s) (fin3 g x1) (.br (decide (iN (List.length g)>0)) (.br (s==5) (fin3 g x6) (fin3 g x8)) (fin3 g x3))) (.Lf none)) (.Lf none)
theorem Zvi (a:HL Zr):EV1 44 a=Zkl a.1 a.2.1 a.2.2:=by kernel_rfl
end
end Go.Proofs.YtpnjbfjomebppaaGreat
