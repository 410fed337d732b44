import Derived.Test.YtpnjbfjomebppaaGreatNext0
open Go.IntKind (u8 u16 i64)
set_option linter.unusedSimpArgs false
open Go Go.S3 Go.Proofs
set_option linter.unusedVariables false
set_option maxRecDepth 100000
namespace Go.Proofs.YtpnjbfjomebppaaGreat
noncomputable section
def Zvb (c:TC) (s:Int) (g:List Int):RT (Option (TY×Bool)):=
 let x1:QT1:=(c,s==5,g,(0,0,0,0,0,0,0,0),[])
 let x2:=qAtC x1 0
 let x3:=Zb c.1 (qAt x1 0)
 let x4:= !x2||x3.1==3
 let x5:=x3.2
 let x6:=x5.2.1==6
 let x7:QT6:=(3,x5)
 let x8:QT7:=((pcOf c),0,4)
 let x9:List TY:=[]++[(1,x8)]
 let x10:List TY:=bif s==5 then x9++[(9,pcOf c,0,3)] else x9++[(2,u16.wrap ((pcOf c)+u16.wrap 1),0,3)]
 let x11:QT1:=(c,s==5,g,x7,x10)
 let x12:List TY:=[]++[(12,pcOf c,0,6)]++[(5,u16.wrap ((spOf c)-1),u8.wrap (shrI u16 (pcOf c) 8),3)]++[(5,u16.wrap ((spOf c)-2),u8.wrap (pcOf c),3)]
 let x14:List TY:=[]++[(bif s==5 then 8 else 1,x8)]
 let x16:List TY:=bif x6 then x10++[(3,Zd0 (c,s==5,g,x7,x9) 2,qAt x11 1,3)] else x10
 .br (!x4||x2) (.br (x4) (.br (Zf s||(iN (Le g)==0||(!x6||qAtC x11 1))) (.br (Zf s) (fin3 g x12) (.br (iN (Le g)==0) (fin3 g x14) (fin3 g x16))) Ln) Ln) Ln
theorem ZKy (a:HL Zy):EV1 3 a=Zvb a.1 a.2.1 a.2.2:=by kernel_rfl
def Zu7 (c:TC) (s:Int) (g:List Int):RT (Option (TY×Bool)):=
 let x1:QT1:=(c,s==5,g,(0,0,0,0,0,0,0,0),[])
 let x2:=qAtC x1 0
 let x3:=Zb c.1 (qAt x1 0)
 let x4:= !x2||x3.1==7
 let x5:QT7:=((pcOf c),0,4)
 let x6:List TY:=[]++[(1,x5)]
 let x7:List TY:=[(9,pcOf c,0,3)]
 let x8:List TY:=bif s==5 then x6++x7 else x6++[(2,u16.wrap ((pcOf c)+u16.wrap 1),0,3)]
 let x9:List TY:=bif s==5 then x8++x7 else x8++[(2,u16.wrap ((pcOf c)+u16.wrap (i64.wrap (1+1))),0,3)]
 let x10:QT1:=(c,s==5,g,(7,x3.2),x9)
 let x11:List TY:=[]++[(12,pcOf c,0,6)]++[(5,u16.wrap ((spOf c)-1),u8.wrap (shrI u16 (pcOf c) 8),3)]++[(5,u16.wrap ((spOf c)-2),u8.wrap (pcOf c),3)]
 let x13:List TY:=[]++[(bif s==5 then 8 else 1,x5)]
 let x15:=Zgq x10 1
 let x16:List TY:=x9++[(2,x15,0,3)]++[(2,u16.wrap (x15+1),0,3)]
 .br (!x4||x2) (.br (x4) (.br (Zf s||(iN (Le g)==0||ZcA x10 1)) (.br (Zf s) (fin3 g x11) (.br (iN (Le g)==0) (fin3 g x13) (fin3 g x16))) Ln) Ln) Ln
theorem ZKu (a:HL Zy):EV1 7 a=Zu7 a.1 a.2.1 a.2.2:=by kernel_rfl
def ZoQ (c:TC) (s:Int) (g:List Int):RT (Option (TY×Bool)):=
 let x1:QT1:=(c,s==5,g,(0,0,0,0,0,0,0,0),[])
 let x2:=qAtC x1 0
 let x3:= !x2||(Zb c.1 (qAt x1 0)).1==11
 let x4:List TY:=[]++[(12,pcOf c,0,6)]++[(5,u16.wrap ((spOf c)-1),u8.wrap (shrI u16 (pcOf c) 8),3)]++[(5,u16.wrap ((spOf c)-2),u8.wrap (pcOf c),3)]
 let x6:QT7:=((pcOf c),0,4)
 let x7:List TY:=[]++[(bif s==5 then 8 else 1,x6)]
 let x9:List TY:=[]++[(1,x6)]
 .br (!x3||x2) (.br (x3) (.br (Zf s) (fin3 g x4) (.br (iN (Le g)==0) (fin3 g x7) (fin3 g x9))) Ln) Ln
theorem ZDM (a:HL Zy):EV1 11 a=ZoQ a.1 a.2.1 a.2.2:=by kernel_rfl
def ZoM (c:TC) (s:Int) (g:List Int):RT (Option (TY×Bool)):=
 let x1:QT1:=(c,s==5,g,(0,0,0,0,0,0,0,0),[])
 let x2:=qAtC x1 0
 let x3:=Zb c.1 (qAt x1 0)
 let x4:= !x2||x3.1==15
 let x5:=x3.2
 let x6:=x5.2.1==6
 let x7:QT6:=(15,x5)
 let x8:QT7:=((pcOf c),0,4)
 let x9:List TY:=[]++[(1,x8)]
 let x10:=Zd0 (c,s==5,g,x7,x9) 2
 let x11:List TY:=x9++[(2,x10,0,3)]
 let x12:QT1:=(c,s==5,g,x7,x11)
 let x13:List TY:=[]++[(12,pcOf c,0,6)]++[(5,u16.wrap ((spOf c)-1),u8.wrap (shrI u16 (pcOf c) 8),3)]++[(5,u16.wrap ((spOf c)-2),u8.wrap (pcOf c),3)]
 let x15:List TY:=[]++[(bif s==5 then 8 else 1,x8)]
 let x17:List TY:=bif x6 then x11++[(3,x10,Zi0 x12,3)] else x9
 .br (!x4||x2) (.br (x4) (.br (Zf s||(iN (Le g)==0||(!x6||Zgr x12))) (.br (Zf s) (fin3 g x13) (.br (iN (Le g)==0) (fin3 g x15) (fin3 g x17))) Ln) Ln) Ln
theorem ZDI (a:HL Zy):EV1 15 a=ZoM a.1 a.2.1 a.2.2:=by kernel_rfl
def ZoI (c:TC) (s:Int) (g:List Int):RT (Option (TY×Bool)):=
 let x1:QT1:=(c,s==5,g,(0,0,0,0,0,0,0,0),[])
 let x2:=qAtC x1 0
 let x3:= !x2||(Zb c.1 (qAt x1 0)).1==19
 let x4:List TY:=[]++[(12,pcOf c,0,6)]++[(5,u16.wrap ((spOf c)-1),u8.wrap (shrI u16 (pcOf c) 8),3)]++[(5,u16.wrap ((spOf c)-2),u8.wrap (pcOf c),3)]
 let x6:QT7:=((pcOf c),0,4)
 let x7:List TY:=[]++[(bif s==5 then 8 else 1,x6)]
 let x9:List TY:=[]++[(1,x6)]
 .br (!x3||x2) (.br (x3) (.br (Zf s) (fin3 g x4) (.br (iN (Le g)==0) (fin3 g x7) (fin3 g x9))) Ln) Ln
theorem ZDE (a:HL Zy):EV1 19 a=ZoI a.1 a.2.1 a.2.2:=by kernel_rfl
def ZoE (c:TC) (s:Int) (g:List Int):RT (Option (TY×Bool)):=
 let x1:QT1:=(c,s==5,g,(0,0,0,0,0,0,0,0),[])
 let x2:=qAtC x1 0
 let x3:= !x2||(Zb c.1 (qAt x1 0)).1==23
 let x4:List TY:=[]++[(12,pcOf c,0,6)]++[(5,u16.wrap ((spOf c)-1),u8.wrap (shrI u16 (pcOf c) 8),3)]++[(5,u16.wrap ((spOf c)-2),u8.wrap (pcOf c),3)]
 let x6:QT7:=((pcOf c),0,4)
 let x7:List TY:=[]++[(bif s==5 then 8 else 1,x6)]
 let x9:List TY:=[]++[(1,x6)]
 .br (!x3||x2) (.br (x3) (.br (Zf s) (fin3 g x4) (.br (iN (Le g)==0) (fin3 g x7) (fin3 g x9))) Ln) Ln
theorem ZDA (a:HL Zy):EV1 23 a=ZoE a.1 a.2.1 a.2.2:=by kernel_rfl
def ZoA (c:TC) (s:Int) (g:List Int):RT (Option (TY×Bool)):=
 let x1:QT1:=(c,s==5,g,(0,0,0,0,0,0,0,0),[])
 let x2:=qAtC x1 0
 let x3:=Zb c.1 (qAt x1 0)
 let x4:= !x2||x3.1==27
 let x5:=u16.wrap ((spOf c)-1)
 let x6:=u16.wrap ((spOf c)-2)
 let x7:List TY:=[]++[(12,pcOf c,0,6)]++[(5,x5,u8.wrap (shrI u16 (pcOf c) 8),3)]++[(5,x6,u8.wrap (pcOf c),3)]
 let x9:QT7:=((pcOf c),0,4)
 let x10:List TY:=[]++[(bif s==5 then 8 else 1,x9)]
 let x12:List TY:=[]++[(1,x9)]
 let x13:=ZA (c,s==5,g,(27,x3.2),x12)
 let x14:List TY:=x12++[(5,x5,u8.wrap (shrI u16 x13 8),3)]++[(5,x6,u8.wrap x13,3)]
 .br (!x4||x2) (.br (x4) (.br (Zf s) (fin3 g x7) (.br (iN (Le g)==0) (fin3 g x10) (fin3 g x14))) Ln) Ln
theorem ZDw (a:HL Zy):EV1 27 a=ZoA a.1 a.2.1 a.2.2:=by kernel_rfl
def Zow (c:TC) (s:Int) (g:List Int):RT (Option (TY×Bool)):=
 let x1:QT1:=(c,s==5,g,(0,0,0,0,0,0,0,0),[])
 let x2:=qAtC x1 0
 let x3:= !x2||(Zb c.1 (qAt x1 0)).1==31
 let x4:List TY:=[]++[(12,pcOf c,0,6)]++[(5,u16.wrap ((spOf c)-1),u8.wrap (shrI u16 (pcOf c) 8),3)]++[(5,u16.wrap ((spOf c)-2),u8.wrap (pcOf c),3)]
 let x6:QT7:=((pcOf c),0,4)
 let x7:List TY:=[]++[(bif s==5 then 8 else 1,x6)]
 let x9:List TY:=[]++[(1,x6)]++[(4,spOf c,0,3)]++[(4,u16.wrap ((spOf c)+1),0,3)]
 .br (!x3||x2) (.br (x3) (.br (Zf s) (fin3 g x4) (.br (iN (Le g)==0) (fin3 g x7) (fin3 g x9))) Ln) Ln
theorem ZDs (a:HL Zy):EV1 31 a=Zow a.1 a.2.1 a.2.2:=by kernel_rfl
def Zos (c:TC) (s:Int) (g:List Int):RT (Option (TY×Bool)):=
 let x1:QT1:=(c,s==5,g,(0,0,0,0,0,0,0,0),[])
 let x2:=qAtC x1 0
 let x3:= !x2||(Zb c.1 (qAt x1 0)).1==35
 let x4:List TY:=[]++[(12,pcOf c,0,6)]++[(5,u16.wrap ((spOf c)-1),u8.wrap (shrI u16 (pcOf c) 8),3)]++[(5,u16.wrap ((spOf c)-2),u8.wrap (pcOf c),3)]
 let x6:QT7:=((pcOf c),0,4)
 let x7:List TY:=[]++[(bif s==5 then 8 else 1,x6)]
 let x9:List TY:=[]++[(1,x6)]
 .br (!x3||x2) (.br (x3) (.br (Zf s) (fin3 g x4) (.br (iN (Le g)==0) (fin3 g x7) (fin3 g x9))) Ln) Ln
theorem ZDo (a:HL Zy):EV1 35 a=Zos a.1 a.2.1 a.2.2:=by kernel_rfl
def Zoo (c:TC) (s:Int) (g:List Int):RT (Option (TY×Bool)):=
 let x1:QT1:=(c,s==5,g,(0,0,0,0,0,0,0,0),[])
 let x2:=qAtC x1 0
 let x3:= !x2||(Zb c.1 (qAt x1 0)).1==39
 let x4:List TY:=[]++[(12,pcOf c,0,6)]++[(5,u16.wrap ((spOf c)-1),u8.wrap (shrI u16 (pcOf c) 8),3)]++[(5,u16.wrap ((spOf c)-2),u8.wrap (pcOf c),3)]
 let x6:QT7:=((pcOf c),0,4)
 let x7:List TY:=[]++[(bif s==5 then 8 else 1,x6)]
 let x9:List TY:=[]++[(1,x6)]
 .br (!x3||x2) (.br (x3) (.br (Zf s) (fin3 g x4) (.br (iN (Le g)==0) (fin3 g x7) (fin3 g x9))) Ln) Ln
theorem ZDk (a:HL Zy):EV1 39 a=Zoo a.1 a.2.1 a.2.2:=by kernel_rfl
def Zok (c:TC) (s:Int) (g:List Int):RT (Option (TY×Bool)):=
 let x1:QT1:=(c,s==5,g,(0,0,0,0,0,0,0,0),[])
 let x2:=qAtC x1 0
 let x3:= !x2||(Zb c.1 (qAt x1 0)).1==43
 let x4:List TY:=[]++[(12,pcOf c,0,6)]++[(5,u16.wrap ((spOf c)-1),u8.wrap (shrI u16 (pcOf c) 8),3)]++[(5,u16.wrap ((spOf c)-2),u8.wrap (pcOf c),3)]
 let x6:QT7:=((pcOf c),0,4)
 let x7:List TY:=[]++[(bif s==5 then 8 else 1,x6)]
 let x9:List TY:=[]++[(1,x6)]
 let x10:QT7:=((pcOf c),0,3)
 let x11:List TY:=(bif s==5 then x9++[(9,x10)] else x9++[(2,u16.wrap ((pcOf c)+u16.wrap 1),0,3)])++[(11,x10)]
 .br (!x3||x2) (.br (x3) (.br (Zf s) (fin3 g x4) (.br (iN (Le g)==0) (fin3 g x7) (fin3 g x11))) Ln) Ln
theorem ZDg (a:HL Zy):EV1 43 a=Zok a.1 a.2.1 a.2.2:=by kernel_rfl
def Zog (c:TC) (s:Int) (g:List Int):RT (Option (TY×Bool)):=
 let x1:QT1:=(c,s==5,g,(0,0,0,0,0,0,0,0),[])
 let x2:=qAtC x1 0
 let x3:=Zb c.1 (qAt x1 0)
 let x4:= !x2||x3.1==47
 let x5:List TY:=[]++[(12,pcOf c,0,6)]++[(5,u16.wrap ((spOf c)-1),u8.wrap (shrI u16 (pcOf c) 8),3)]++[(5,u16.wrap ((spOf c)-2),u8.wrap (pcOf c),3)]
 let x7:QT7:=((pcOf c),0,4)
 let x8:List TY:=[]++[(bif s==5 then 8 else 1,x7)]
 let x10:List TY:=[]++[(1,x7)]
 let x11:=Zd0 (c,s==5,g,(47,x3.2),x10) 1
 let x12:List TY:=x10++[(2,x11,0,3)]++[(2,u16.wrap (x11+1),0,3)]
 .br (!x4||x2) (.br (x4) (.br (Zf s) (fin3 g x5) (.br (iN (Le g)==0) (fin3 g x8) (fin3 g x12))) Ln) Ln
theorem ZDc (a:HL Zy):EV1 47 a=Zog a.1 a.2.1 a.2.2:=by kernel_rfl
def ZtN (c:TC) (s:Int) (g:List Int):RT (Option (TY×Bool)):=
 let x1:List TY:=[(12,pcOf c,0,6)]++[(5,u16.wrap ((spOf c)-1),u8.wrap (shrI u16 (pcOf c) 8),3)]++[(5,u16.wrap ((spOf c)-2),u8.wrap (pcOf c),3)]
 let x3:List TY:=[(bif s==5 then 8 else 1,pcOf c,0,4)]
 let x4:List TY:=[(9,pcOf c,0,3)]
 let x5:List TY:=x3++x4
 let x6:List TY:=[(2,u16.wrap ((pcOf c)+u16.wrap (i64.wrap (1+1))),0,3)]
 let x7:List TY:=bif s==5 then x5++x4 else x5++x6
 let x9:List TY:=x3++[(2,u16.wrap ((pcOf c)+u16.wrap 1),0,3)]
 let x10:List TY:=bif s==5 then x9++x4 else x9++x6
 .br (Zc s||(!decide (iN (Le g)>0)||(!Ze 0 (Le g)||(Zb c.1 (R.get Ka g 0)).1==4))) (.br (Zc s||(!decide (iN (Le g)>0)||Ze 0 (Le g))) (.br (Zc s) (fin3 g x1) (.br (decide (iN (Le g)>0)) (.br (s==5) (fin3 g x7) (fin3 g x10)) (fin3 g x3))) Ln) Ln
theorem ZJr (a:HL Zy):EV3 4 a=ZtN a.1 a.2.1 a.2.2:=by kernel_rfl
def ZtJ (c:TC) (s:Int) (g:List Int):RT (Option (TY×Bool)):=
 let x1:List TY:=[(bif s==5 then 8 else 1,pcOf c,0,4)]
 let x2:List TY:=[(9,pcOf c,0,3)]
 let x3:List TY:=x1++x2
 let x4:List TY:=[(2,u16.wrap ((pcOf c)+u16.wrap (i64.wrap (1+1))),0,3)]
 let x5:List TY:=bif s==5 then x3++x2 else x3++x4
 let x6:QT4:=(c,s==5,g,x5)
 let x7:=Zb3 x6 1
 let x8:List TY:=x5++[(3,Zew x6 1,c.2.1.2.2.2.2.2.2.1,3)]
 let x9:QT4:=(c,s==5,g,x8)
 let x10:= !s==5||(!x7||Zb3 x9 1)
 let x11:= !x10
 let x12:= !s==5||x7
 let x13:= !x12
 let x14:List TY:=x1++[(2,u16.wrap ((pcOf c)+u16.wrap 1),0,3)]
 let x15:List TY:=bif s==5 then x14++x2 else x14++x4
 let x16:QT4:=(c,s==5,g,x15)
 let x17:=Zb3 x16 1
 let x18:List TY:=x15++[(3,Zew x16 1,c.2.1.2.2.2.2.2.2.1,3)]
 let x19:QT4:=(c,s==5,g,x18)
 let x20:=s==5||(!x17||Zb3 x19 1)
 let x21:List TY:=[(12,pcOf c,0,6)]++[(5,u16.wrap ((spOf c)-1),u8.wrap (shrI u16 (pcOf c) 8),3)]++[(5,u16.wrap ((spOf c)-2),u8.wrap (pcOf c),3)]
 let x23:List TY:=x8++[(3,u16.wrap (Zew x9 1+1),c.2.1.2.2.2.2.2.1,3)]
 let x25:List TY:=x18++[(3,u16.wrap (Zew x19 1+1),c.2.1.2.2.2.2.2.1,3)]
 .br (Zc s||(!decide (iN (Le g)>0)||(!Ze 0 (Le g)||(!(Zb c.1 (R.get Ka g 0)).1==8||(x11||(x13||(!x20||(s==5||x17)))))))) (.br (Zc s||(!decide (iN (Le g)>0)||(!Ze 0 (Le g)||(!(Zb c.1 (R.get Ka g 0)).1==8||(x11||(x13||x20)))))) (.br (Zc s||(!decide (iN (Le g)>0)||(!Ze 0 (Le g)||(!(Zb c.1 (R.get Ka g 0)).1==8||(x11||x12))))) (.br (Zc s||(!decide (iN (Le g)>0)||(!Ze 0 (Le g)||(!(Zb c.1 (R.get Ka g 0)).1==8||x10)))) (.br (Zc s||(!decide (iN (Le g)>0)||(!Ze 0 (Le g)||(Zb c.1 (R.get Ka g 0)).1==8))) (.br (Zc s||(!decide (iN (Le g)>0)||Ze 0 (Le g))) (.br (Zc s) (fin3 g x21) (.br (decide (iN (Le g)>0)) (.br (s==5) (fin3 g x23) (fin3 g x25)) (fin3 g x1))) Ln) Ln) Ln) Ln) Ln) Ln
theorem ZJn (a:HL Zy):EV3 8 a=ZtJ a.1 a.2.1 a.2.2:=by kernel_rfl
def ZnJ (c:TC) (s:Int) (g:List Int):RT (Option (TY×Bool)):=
 let x1:List TY:=[(12,pcOf c,0,6)]++[(5,u16.wrap ((spOf c)-1),u8.wrap (shrI u16 (pcOf c) 8),3)]++[(5,u16.wrap ((spOf c)-2),u8.wrap (pcOf c),3)]
 let x3:List TY:=[(bif s==5 then 8 else 1,pcOf c,0,4)]
 let x4:List TY:=x3++[(2,Zab c.2.1 2,0,3)]
 let x6:Nat:=Le x3
 let x7:=decide (iN (Le g)>=iN x6)
 let x8:=Ze (iN (Le g)) x6
 let x9:TY×Bool:=(R.get (RY) x3 (iN (Le g)),true)
 .br (Zc s||(!decide (iN (Le g)>0)||(!Ze 0 (Le g)||(Zb c.1 (R.get Ka g 0)).1==12))) (.br (Zc s||(!decide (iN (Le g)>0)||Ze 0 (Le g))) (.br (Zc s) (fin3 g x1) (.br (decide (iN (Le g)>0)) (.br ((Zb c.1 (R.get Ka g 0)).2.2.2.1==6) (fin3 g x4) (.br (x7) (Ls (((0,0,0,0),false))) (.br (x8) (Ls (x9)) Ln))) (.br (x7) (Ls (((0,0,0,0),false))) (.br (x8) (Ls (x9)) Ln)))) Ln) Ln
theorem ZCk (a:HL Zy):EV3 12 a=ZnJ a.1 a.2.1 a.2.2:=by kernel_rfl
def ZnF (c:TC) (s:Int) (g:List Int):RT (Option (TY×Bool)):=
 let x1:List TY:=[(12,pcOf c,0,6)]++[(5,u16.wrap ((spOf c)-1),u8.wrap (shrI u16 (pcOf c) 8),3)]++[(5,u16.wrap ((spOf c)-2),u8.wrap (pcOf c),3)]
 let x3:List TY:=[(bif s==5 then 8 else 1,pcOf c,0,4)]
 .br (Zc s||(!decide (iN (Le g)>0)||(!Ze 0 (Le g)||(Zb c.1 (R.get Ka g 0)).1==16))) (.br (Zc s||(!decide (iN (Le g)>0)||Ze 0 (Le g))) (.br (Zc s) (fin3 g x1) (fin3 g x3)) Ln) Ln
theorem ZCg (a:HL Zy):EV3 16 a=ZnF a.1 a.2.1 a.2.2:=by kernel_rfl
def ZnB (c:TC) (s:Int) (g:List Int):RT (Option (TY×Bool)):=
 let x1:List TY:=[(12,pcOf c,0,6)]++[(5,u16.wrap ((spOf c)-1),u8.wrap (shrI u16 (pcOf c) 8),3)]++[(5,u16.wrap ((spOf c)-2),u8.wrap (pcOf c),3)]
 let x3:List TY:=[(bif s==5 then 8 else 1,pcOf c,0,4)]
 .br (Zc s||(!decide (iN (Le g)>0)||(!Ze 0 (Le g)||(Zb c.1 (R.get Ka g 0)).1==20))) (.br (Zc s||(!decide (iN (Le g)>0)||Ze 0 (Le g))) (.br (Zc s) (fin3 g x1) (fin3 g x3)) Ln) Ln
theorem ZCc (a:HL Zy):EV3 20 a=ZnB a.1 a.2.1 a.2.2:=by kernel_rfl
def Znx (c:TC) (s:Int) (g:List Int):RT (Option (TY×Bool)):=
 let x1:List TY:=[(12,pcOf c,0,6)]++[(5,u16.wrap ((spOf c)-1),u8.wrap (shrI u16 (pcOf c) 8),3)]++[(5,u16.wrap ((spOf c)-2),u8.wrap (pcOf c),3)]
 let x3:List TY:=[(bif s==5 then 8 else 1,pcOf c,0,4)]
 let x4:List TY:=[(9,pcOf c,0,3)]
 let x5:List TY:=x3++x4
 let x7:List TY:=x3++[(2,u16.wrap ((pcOf c)+u16.wrap 1),0,3)]
 let x9:List TY:=[(2,u16.wrap ((pcOf c)+u16.wrap (i64.wrap (1+1))),0,3)]
 let x10:List TY:=bif s==5 then x5++x4 else x5++x9
 let x12:List TY:=bif s==5 then x7++x4 else x7++x9
 .br (Zc s||(!decide (iN (Le g)>0)||(!Ze 0 (Le g)||(Zb c.1 (R.get Ka g 0)).1==24))) (.br (Zc s||(!decide (iN (Le g)>0)||Ze 0 (Le g))) (.br (Zc s) (fin3 g x1) (.br (decide (iN (Le g)>0)) (.br (rOn c.1&& !Zeq (c,s==5,g,x3) (24,(Zb c.1 (R.get Ka g 0)).2)) (.br (s==5) (fin3 g x5) (fin3 g x7)) (.br (s==5) (fin3 g x10) (fin3 g x12))) (fin3 g x3))) Ln) Ln
theorem ZB8 (a:HL Zy):EV3 24 a=Znx a.1 a.2.1 a.2.2:=by kernel_rfl
def Znt (c:TC) (s:Int) (g:List Int):RT (Option (TY×Bool)):=
 let x1:List TY:=[(12,pcOf c,0,6)]++[(5,u16.wrap ((spOf c)-1),u8.wrap (shrI u16 (pcOf c) 8),3)]++[(5,u16.wrap ((spOf c)-2),u8.wrap (pcOf c),3)]
 let x3:List TY:=[(bif s==5 then 8 else 1,pcOf c,0,4)]
 .br (Zc s||(!decide (iN (Le g)>0)||(!Ze 0 (Le g)||(Zb c.1 (R.get Ka g 0)).1==28))) (.br (Zc s||(!decide (iN (Le g)>0)||Ze 0 (Le g))) (.br (Zc s) (fin3 g x1) (fin3 g x3)) Ln) Ln
theorem ZB4 (a:HL Zy):EV3 28 a=Znt a.1 a.2.1 a.2.2:=by kernel_rfl
def Znp (c:TC) (s:Int) (g:List Int):RT (Option (TY×Bool)):=
 let x1:List TY:=[(12,pcOf c,0,6)]++[(5,u16.wrap ((spOf c)-1),u8.wrap (shrI u16 (pcOf c) 8),3)]++[(5,u16.wrap ((spOf c)-2),u8.wrap (pcOf c),3)]
 let x3:List TY:=[(bif s==5 then 8 else 1,pcOf c,0,4)]
 let x4:=u16.wrap ((spOf c)+1)
 let x5:List TY:=x3++[(4,spOf c,0,3)]++[(4,x4,0,3)]++[(5,x4,c.2.1.2.2.2.2.2.1,3)]++[(5,spOf c,c.2.1.2.2.2.2.2.2.1,3)]
 let x6:=i64.wrap (iN (Le x5)-1)
 let x7:QT11:=R.get (RY) x5 x6
 let x8:=x7.2
 let x9:List TY:=bif !rOn c.1 then setI x5 x6 (x7.1,x8.1,x8.2.1,5) else x5
 .br (Zc s||(!decide (iN (Le g)>0)||(!Ze 0 (Le g)||(Zb c.1 (R.get Ka g 0)).1==32))) (.br (Zc s||(!decide (iN (Le g)>0)||Ze 0 (Le g))) (.br (Zc s) (fin3 g x1) (.br (decide (iN (Le g)>0)) (fin3 g x9) (fin3 g x3))) Ln) Ln
theorem ZB0 (a:HL Zy):EV3 32 a=Znp a.1 a.2.1 a.2.2:=by kernel_rfl
def Znl (c:TC) (s:Int) (g:List Int):RT (Option (TY×Bool)):=
 let x1:List TY:=[(12,pcOf c,0,6)]++[(5,u16.wrap ((spOf c)-1),u8.wrap (shrI u16 (pcOf c) 8),3)]++[(5,u16.wrap ((spOf c)-2),u8.wrap (pcOf c),3)]
 let x3:List TY:=[(bif s==5 then 8 else 1,pcOf c,0,4)]
 .br (Zc s||(!decide (iN (Le g)>0)||(!Ze 0 (Le g)||(Zb c.1 (R.get Ka g 0)).1==36))) (.br (Zc s||(!decide (iN (Le g)>0)||Ze 0 (Le g))) (.br (Zc s) (fin3 g x1) (fin3 g x3)) Ln) Ln
theorem ZBW (a:HL Zy):EV3 36 a=Znl a.1 a.2.1 a.2.2:=by kernel_rfl
def Znh (c:TC) (s:Int) (g:List Int):RT (Option (TY×Bool)):=
 let x1:List TY:=[(12,pcOf c,0,6)]++[(5,u16.wrap ((spOf c)-1),u8.wrap (shrI u16 (pcOf c) 8),3)]++[(5,u16.wrap ((spOf c)-2),u8.wrap (pcOf c),3)]
 let x3:List TY:=[(bif s==5 then 8 else 1,pcOf c,0,4)]
 let x4:List TY:=[(11,pcOf c,0,3)]
 let x5:List TY:=x3++x4++x4
 .br (Zc s||(!decide (iN (Le g)>0)||(!Ze 0 (Le g)||(Zb c.1 (R.get Ka g 0)).1==40))) (.br (Zc s||(!decide (iN (Le g)>0)||Ze 0 (Le g))) (.br (Zc s) (fin3 g x1) (.br (decide (iN (Le g)>0)) (fin3 g x5) (fin3 g x3))) Ln) Ln
theorem ZBS (a:HL Zy):EV3 40 a=Znh a.1 a.2.1 a.2.2:=by kernel_rfl
def Znd (c:TC) (s:Int) (g:List Int):RT (Option (TY×Bool)):=
 let x1:List TY:=[(12,pcOf c,0,6)]++[(5,u16.wrap ((spOf c)-1),u8.wrap (shrI u16 (pcOf c) 8),3)]++[(5,u16.wrap ((spOf c)-2),u8.wrap (pcOf c),3)]
 let x3:List TY:=[(bif s==5 then 8 else 1,pcOf c,0,4)]
 let x4:QT7:=((pcOf c),0,3)
 let x5:List TY:=[(11,x4)]
 let x6:List TY:=x3++[(9,x4)]++x5
 let x8:List TY:=x3++[(2,u16.wrap ((pcOf c)+u16.wrap 1),0,3)]++x5
 .br (Zc s||(!decide (iN (Le g)>0)||(!Ze 0 (Le g)||(Zb c.1 (R.get Ka g 0)).1==44))) (.br (Zc s||(!decide (iN (Le g)>0)||Ze 0 (Le g))) (.br (Zc s) (fin3 g x1) (.br (decide (iN (Le g)>0)) (.br (s==5) (fin3 g x6) (fin3 g x8)) (fin3 g x3))) Ln) Ln
theorem ZBO (a:HL Zy):EV3 44 a=Znd a.1 a.2.1 a.2.2:=by kernel_rfl
