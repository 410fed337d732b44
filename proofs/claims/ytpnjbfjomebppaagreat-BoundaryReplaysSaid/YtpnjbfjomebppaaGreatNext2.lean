import Derived.Test.YtpnjbfjomebppaaGreatNext0
open Go.IntKind (u8 u16 i64)
set_option linter.unusedSimpArgs false
open Go Go.S3 Go.Proofs
set_option linter.unusedVariables false
set_option maxRecDepth 100000
namespace Go.Proofs.YtpnjbfjomebppaaGreat
noncomputable section
def Zvc (c:TC) (s:Int) (g:List Int):RT (Option (TY×Bool)):=
 let x1:QT1:=(c,s==5,g,(0,0,0,0,0,0,0,0),[])
 let x2:=qAtC x1 0
 let x3:=Zb c.1 (qAt x1 0)
 let x4:= !x2||x3.1==2
 let x5:List TY:=[]++[(12,pcOf c,0,6)]++[(5,u16.wrap ((spOf c)-1),u8.wrap (shrI u16 (pcOf c) 8),3)]++[(5,u16.wrap ((spOf c)-2),u8.wrap (pcOf c),3)]
 let x7:QT7:=((pcOf c),0,4)
 let x8:List TY:=[]++[(bif s==5 then 8 else 1,x7)]
 let x10:=x3.2
 let x11:=x10.2
 let x12:=x11.2.1
 let x13:List TY:=[]++[(1,x7)]
 let x14:QT1:=(c,s==5,g,(2,x10),x13)
 let x15:=Zd0 x14 2
 let x16:List TY:=bif x12==6 then x13++[(2,x15,0,3)] else bif x11.1==6 then x13++[(3,x15,qReg x14 x12,3)] else x13
 .br (!x4||x2) (.br (x4) (.br (Zf s) (fin3 g x5) (.br (iN (Le g)==0) (fin3 g x8) (fin3 g x16))) Ln) Ln
theorem ZKz (a:HL Zy):EV1 2 a=Zvc a.1 a.2.1 a.2.2:=by kernel_rfl
def Zu8 (c:TC) (s:Int) (g:List Int):RT (Option (TY×Bool)):=
 let x1:QT1:=(c,s==5,g,(0,0,0,0,0,0,0,0),[])
 let x2:=qAtC x1 0
 let x3:=Zb c.1 (qAt x1 0)
 let x4:= !x2||x3.1==6
 let x5:QT7:=((pcOf c),0,4)
 let x6:List TY:=[]++[(1,x5)]
 let x7:List TY:=[(9,pcOf c,0,3)]
 let x8:List TY:=bif s==5 then x6++x7 else x6++[(2,u16.wrap ((pcOf c)+u16.wrap 1),0,3)]
 let x9:List TY:=bif s==5 then x8++x7 else x8++[(2,u16.wrap ((pcOf c)+u16.wrap (i64.wrap (1+1))),0,3)]
 let x10:QT1:=(c,s==5,g,(6,x3.2),x9)
 let x11:List TY:=[]++[(12,pcOf c,0,6)]++[(5,u16.wrap ((spOf c)-1),u8.wrap (shrI u16 (pcOf c) 8),3)]++[(5,u16.wrap ((spOf c)-2),u8.wrap (pcOf c),3)]
 let x13:List TY:=[]++[(bif s==5 then 8 else 1,x5)]
 let x15:List TY:=x9++[(3,Zgq x10 1,c.2.1.1,3)]
 .br (!x4||x2) (.br (x4) (.br (Zf s||(iN (Le g)==0||ZcA x10 1)) (.br (Zf s) (fin3 g x11) (.br (iN (Le g)==0) (fin3 g x13) (fin3 g x15))) Ln) Ln) Ln
theorem ZKv (a:HL Zy):EV1 6 a=Zu8 a.1 a.2.1 a.2.2:=by kernel_rfl
def ZoR (c:TC) (s:Int) (g:List Int):RT (Option (TY×Bool)):=
 let x1:QT1:=(c,s==5,g,(0,0,0,0,0,0,0,0),[])
 let x2:=qAtC x1 0
 let x3:=Zb c.1 (qAt x1 0)
 let x4:= !x2||x3.1==10
 let x5:List TY:=[]++[(12,pcOf c,0,6)]++[(5,u16.wrap ((spOf c)-1),u8.wrap (shrI u16 (pcOf c) 8),3)]++[(5,u16.wrap ((spOf c)-2),u8.wrap (pcOf c),3)]
 let x7:QT7:=((pcOf c),0,4)
 let x8:List TY:=[]++[(bif s==5 then 8 else 1,x7)]
 let x10:List TY:=[]++[(1,x7)]
 let x11:=x3.2
 let x12:List TY:=x10++[(3,Zd0 (c,s==5,g,(10,x11),x10) x11.2.2.2.1,c.2.1.1,3)]
 .br (!x4||x2) (.br (x4) (.br (Zf s) (fin3 g x5) (.br (iN (Le g)==0) (fin3 g x8) (fin3 g x12))) Ln) Ln
theorem ZDN (a:HL Zy):EV1 10 a=ZoR a.1 a.2.1 a.2.2:=by kernel_rfl
def ZoN (c:TC) (s:Int) (g:List Int):RT (Option (TY×Bool)):=
 let x1:QT1:=(c,s==5,g,(0,0,0,0,0,0,0,0),[])
 let x2:=qAtC x1 0
 let x3:=Zb c.1 (qAt x1 0)
 let x4:= !x2||x3.1==14
 let x5:=x3.2
 let x6:=x5.2.1==6
 let x7:QT6:=(14,x5)
 let x8:QT7:=((pcOf c),0,4)
 let x9:List TY:=[]++[(1,x8)]
 let x10:=Zd0 (c,s==5,g,x7,x9) 2
 let x11:List TY:=x9++[(2,x10,0,3)]
 let x12:QT1:=(c,s==5,g,x7,x11)
 let x13:List TY:=[]++[(12,pcOf c,0,6)]++[(5,u16.wrap ((spOf c)-1),u8.wrap (shrI u16 (pcOf c) 8),3)]++[(5,u16.wrap ((spOf c)-2),u8.wrap (pcOf c),3)]
 let x15:List TY:=[]++[(bif s==5 then 8 else 1,x8)]
 let x17:List TY:=bif x6 then x11++[(3,x10,Zi0 x12,3)] else x9
 .br (!x4||x2) (.br (x4) (.br (Zf s||(iN (Le g)==0||(!x6||Zgr x12))) (.br (Zf s) (fin3 g x13) (.br (iN (Le g)==0) (fin3 g x15) (fin3 g x17))) Ln) Ln) Ln
theorem ZDJ (a:HL Zy):EV1 14 a=ZoN a.1 a.2.1 a.2.2:=by kernel_rfl
def ZoJ (c:TC) (s:Int) (g:List Int):RT (Option (TY×Bool)):=
 let x1:QT1:=(c,s==5,g,(0,0,0,0,0,0,0,0),[])
 let x2:=qAtC x1 0
 let x3:= !x2||(Zb c.1 (qAt x1 0)).1==18
 let x4:List TY:=[]++[(12,pcOf c,0,6)]++[(5,u16.wrap ((spOf c)-1),u8.wrap (shrI u16 (pcOf c) 8),3)]++[(5,u16.wrap ((spOf c)-2),u8.wrap (pcOf c),3)]
 let x6:QT7:=((pcOf c),0,4)
 let x7:List TY:=[]++[(bif s==5 then 8 else 1,x6)]
 let x9:List TY:=[(11,pcOf c,0,3)]
 let x10:List TY:=[]++[(1,x6)]++x9++x9
 .br (!x3||x2) (.br (x3) (.br (Zf s) (fin3 g x4) (.br (iN (Le g)==0) (fin3 g x7) (fin3 g x10))) Ln) Ln
theorem ZDF (a:HL Zy):EV1 18 a=ZoJ a.1 a.2.1 a.2.2:=by kernel_rfl
def ZoF (c:TC) (s:Int) (g:List Int):RT (Option (TY×Bool)):=
 let x1:QT1:=(c,s==5,g,(0,0,0,0,0,0,0,0),[])
 let x2:=qAtC x1 0
 let x3:= !x2||(Zb c.1 (qAt x1 0)).1==22
 let x4:List TY:=[]++[(12,pcOf c,0,6)]++[(5,u16.wrap ((spOf c)-1),u8.wrap (shrI u16 (pcOf c) 8),3)]++[(5,u16.wrap ((spOf c)-2),u8.wrap (pcOf c),3)]
 let x6:QT7:=((pcOf c),0,4)
 let x7:List TY:=[]++[(bif s==5 then 8 else 1,x6)]
 let x9:List TY:=[]++[(1,x6)]
 .br (!x3||x2) (.br (x3) (.br (Zf s) (fin3 g x4) (.br (iN (Le g)==0) (fin3 g x7) (fin3 g x9))) Ln) Ln
theorem ZDB (a:HL Zy):EV1 22 a=ZoF a.1 a.2.1 a.2.2:=by kernel_rfl
def ZoB (c:TC) (s:Int) (g:List Int):RT (Option (TY×Bool)):=
 let x1:QT1:=(c,s==5,g,(0,0,0,0,0,0,0,0),[])
 let x2:=qAtC x1 0
 let x3:=Zb c.1 (qAt x1 0)
 let x4:= !x2||x3.1==26
 let x5:List TY:=[]++[(12,pcOf c,0,6)]++[(5,u16.wrap ((spOf c)-1),u8.wrap (shrI u16 (pcOf c) 8),3)]++[(5,u16.wrap ((spOf c)-2),u8.wrap (pcOf c),3)]
 let x7:QT7:=((pcOf c),0,4)
 let x8:List TY:=[]++[(bif s==5 then 8 else 1,x7)]
 let x10:List TY:=[]++[(1,x7)]
 let x11:List TY:=bif ZhA (c,s==5,g,(26,x3.2),x10) then x10++[(4,spOf c,0,3)]++[(4,u16.wrap ((spOf c)+1),0,3)] else x10
 .br (!x4||x2) (.br (x4) (.br (Zf s) (fin3 g x5) (.br (iN (Le g)==0) (fin3 g x8) (fin3 g x11))) Ln) Ln
theorem ZDx (a:HL Zy):EV1 26 a=ZoB a.1 a.2.1 a.2.2:=by kernel_rfl
def Zox (c:TC) (s:Int) (g:List Int):RT (Option (TY×Bool)):=
 let x1:QT1:=(c,s==5,g,(0,0,0,0,0,0,0,0),[])
 let x2:=qAtC x1 0
 let x3:=Zb c.1 (qAt x1 0)
 let x4:= !x2||x3.1==30
 let x5:=u16.wrap ((spOf c)-1)
 let x6:=u16.wrap ((spOf c)-2)
 let x7:List TY:=[]++[(12,pcOf c,0,6)]++[(5,x5,u8.wrap (shrI u16 (pcOf c) 8),3)]++[(5,x6,u8.wrap (pcOf c),3)]
 let x9:QT7:=((pcOf c),0,4)
 let x10:List TY:=[]++[(bif s==5 then 8 else 1,x9)]
 let x12:List TY:=[]++[(1,x9)]
 let x13:=x3.2
 let x14:=x13.2.2.2.1
 let x15:Int:=bif x14==3 then rPSW c.1 c.2.1 else Zd0 (c,s==5,g,(30,x13),x12) x14
 let x16:List TY:=x12++[(5,x5,u8.wrap (shrI u16 x15 8),3)]++[(5,x6,u8.wrap x15,3)]
 .br (!x4||x2) (.br (x4) (.br (Zf s) (fin3 g x7) (.br (iN (Le g)==0) (fin3 g x10) (fin3 g x16))) Ln) Ln
theorem ZDt (a:HL Zy):EV1 30 a=Zox a.1 a.2.1 a.2.2:=by kernel_rfl
def Zot (c:TC) (s:Int) (g:List Int):RT (Option (TY×Bool)):=
 let x1:QT1:=(c,s==5,g,(0,0,0,0,0,0,0,0),[])
 let x2:=qAtC x1 0
 let x3:=Zb c.1 (qAt x1 0)
 let x4:= !x2||x3.1==34
 let x5:QT7:=((pcOf c),0,4)
 let x6:List TY:=[]++[(1,x5)]
 let x7:List TY:=bif s==5 then x6++[(9,pcOf c,0,3)] else x6++[(2,u16.wrap ((pcOf c)+u16.wrap 1),0,3)]
 let x8:QT1:=(c,s==5,g,(34,x3.2),x7)
 let x9:=qAtC x8 1
 let x10:= !x9||x9
 let x11:= !x10||x9
 let x12:=Zf s||(iN (Le g)==0||(!x11||x10))
 let x13:List TY:=[]++[(12,pcOf c,0,6)]++[(5,u16.wrap ((spOf c)-1),u8.wrap (shrI u16 (pcOf c) 8),3)]++[(5,u16.wrap ((spOf c)-2),u8.wrap (pcOf c),3)]
 let x15:List TY:=[]++[(bif s==5 then 8 else 1,x5)]
 let x17:=qAt x8 1
 let x18:List TY:=x7++[(7,Zcx x17 x17,c.2.1.1,3)]
 .br (!x4||x2) (.br (x4) (.br (!x12||(Zf s||(iN (Le g)==0||x11))) (.br (x12) (.br (Zf s) (fin3 g x13) (.br (iN (Le g)==0) (fin3 g x15) (fin3 g x18))) Ln) Ln) Ln) Ln
theorem ZDp (a:HL Zy):EV1 34 a=Zot a.1 a.2.1 a.2.2:=by kernel_rfl
def Zop (c:TC) (s:Int) (g:List Int):RT (Option (TY×Bool)):=
 let x1:QT1:=(c,s==5,g,(0,0,0,0,0,0,0,0),[])
 let x2:=qAtC x1 0
 let x3:= !x2||(Zb c.1 (qAt x1 0)).1==38
 let x4:List TY:=[]++[(12,pcOf c,0,6)]++[(5,u16.wrap ((spOf c)-1),u8.wrap (shrI u16 (pcOf c) 8),3)]++[(5,u16.wrap ((spOf c)-2),u8.wrap (pcOf c),3)]
 let x6:QT7:=((pcOf c),0,4)
 let x7:List TY:=[]++[(bif s==5 then 8 else 1,x6)]
 let x9:List TY:=[]++[(1,x6)]
 .br (!x3||x2) (.br (x3) (.br (Zf s) (fin3 g x4) (.br (iN (Le g)==0) (fin3 g x7) (fin3 g x9))) Ln) Ln
theorem ZDl (a:HL Zy):EV1 38 a=Zop a.1 a.2.1 a.2.2:=by kernel_rfl
def Zol (c:TC) (s:Int) (g:List Int):RT (Option (TY×Bool)):=
 let x1:QT1:=(c,s==5,g,(0,0,0,0,0,0,0,0),[])
 let x2:=qAtC x1 0
 let x3:= !x2||(Zb c.1 (qAt x1 0)).1==42
 let x4:List TY:=[]++[(12,pcOf c,0,6)]++[(5,u16.wrap ((spOf c)-1),u8.wrap (shrI u16 (pcOf c) 8),3)]++[(5,u16.wrap ((spOf c)-2),u8.wrap (pcOf c),3)]
 let x6:QT7:=((pcOf c),0,4)
 let x7:List TY:=[]++[(bif s==5 then 8 else 1,x6)]
 let x9:List TY:=[(11,pcOf c,0,3)]
 let x10:List TY:=[]++[(1,x6)]++x9++x9
 .br (!x3||x2) (.br (x3) (.br (Zf s) (fin3 g x4) (.br (iN (Le g)==0) (fin3 g x7) (fin3 g x10))) Ln) Ln
theorem ZDh (a:HL Zy):EV1 42 a=Zol a.1 a.2.1 a.2.2:=by kernel_rfl
def Zoh (c:TC) (s:Int) (g:List Int):RT (Option (TY×Bool)):=
 let x1:QT1:=(c,s==5,g,(0,0,0,0,0,0,0,0),[])
 let x2:=qAtC x1 0
 let x3:=Zb c.1 (qAt x1 0)
 let x4:= !x2||x3.1==46
 let x5:List TY:=[]++[(12,pcOf c,0,6)]++[(5,u16.wrap ((spOf c)-1),u8.wrap (shrI u16 (pcOf c) 8),3)]++[(5,u16.wrap ((spOf c)-2),u8.wrap (pcOf c),3)]
 let x7:QT7:=((pcOf c),0,4)
 let x8:List TY:=[]++[(bif s==5 then 8 else 1,x7)]
 let x10:List TY:=[]++[(1,x7)]
 let x11:=Zd0 (c,s==5,g,(46,x3.2),x10) 1
 let x12:List TY:=x10++[(3,x11,c.2.1.2.2.2.2.2.2.1,3)]++[(3,u16.wrap (x11+1),c.2.1.2.2.2.2.2.1,3)]
 .br (!x4||x2) (.br (x4) (.br (Zf s) (fin3 g x5) (.br (iN (Le g)==0) (fin3 g x8) (fin3 g x12))) Ln) Ln
theorem ZDd (a:HL Zy):EV1 46 a=Zoh a.1 a.2.1 a.2.2:=by kernel_rfl
def ZtO (c:TC) (s:Int) (g:List Int):RT (Option (TY×Bool)):=
 let x1:= !(Zb c.1 (R.get Ka g 0)).2.2.1==6
 let x2:List TY:=[(bif s==5 then 8 else 1,pcOf c,0,4)]
 let x3:List TY:=x2++[(9,pcOf c,0,3)]
 let x4:QT4:=(c,s==5,g,x3)
 let x5:= !s==5||(x1||mAtC x4 1)
 let x6:List TY:=x2++[(2,u16.wrap ((pcOf c)+u16.wrap 1),0,3)]
 let x7:QT4:=(c,s==5,g,x6)
 let x8:List TY:=[(12,pcOf c,0,6)]++[(5,u16.wrap ((spOf c)-1),u8.wrap (shrI u16 (pcOf c) 8),3)]++[(5,u16.wrap ((spOf c)-2),u8.wrap (pcOf c),3)]
 let x10:List TY:=bif (Zb c.1 (R.get Ka g 0)).2.2.1==6 then x3++[(3,Zab c.2.1 2,mAt x4 1,3)] else x3
 let x12:List TY:=bif (Zb c.1 (R.get Ka g 0)).2.2.1==6 then x6++[(3,Zab c.2.1 2,mAt x7 1,3)] else x6
 .br (Zc s||(!decide (iN (Le g)>0)||(!Ze 0 (Le g)||(!(Zb c.1 (R.get Ka g 0)).1==3||(!x5||(s==5||(x1||mAtC x7 1))))))) (.br (Zc s||(!decide (iN (Le g)>0)||(!Ze 0 (Le g)||(!(Zb c.1 (R.get Ka g 0)).1==3||x5)))) (.br (Zc s||(!decide (iN (Le g)>0)||(!Ze 0 (Le g)||(Zb c.1 (R.get Ka g 0)).1==3))) (.br (Zc s||(!decide (iN (Le g)>0)||Ze 0 (Le g))) (.br (Zc s) (fin3 g x8) (.br (decide (iN (Le g)>0)) (.br (s==5) (fin3 g x10) (fin3 g x12)) (fin3 g x2))) Ln) Ln) Ln) Ln
theorem ZJs (a:HL Zy):EV3 3 a=ZtO a.1 a.2.1 a.2.2:=by kernel_rfl
def ZtK (c:TC) (s:Int) (g:List Int):RT (Option (TY×Bool)):=
 let x1:List TY:=[(bif s==5 then 8 else 1,pcOf c,0,4)]
 let x2:List TY:=[(9,pcOf c,0,3)]
 let x3:List TY:=x1++x2
 let x4:List TY:=[(2,u16.wrap ((pcOf c)+u16.wrap (i64.wrap (1+1))),0,3)]
 let x5:List TY:=bif s==5 then x3++x2 else x3++x4
 let x6:QT4:=(c,s==5,g,x5)
 let x7:=Zb3 x6 1
 let x8:List TY:=x5++[(2,Zew x6 1,0,3)]
 let x9:QT4:=(c,s==5,g,x8)
 let x10:= !s==5||(!x7||Zb3 x9 1)
 let x11:= !x10
 let x12:= !s==5||x7
 let x13:= !x12
 let x14:List TY:=x1++[(2,u16.wrap ((pcOf c)+u16.wrap 1),0,3)]
 let x15:List TY:=bif s==5 then x14++x2 else x14++x4
 let x16:QT4:=(c,s==5,g,x15)
 let x17:=Zb3 x16 1
 let x18:List TY:=x15++[(2,Zew x16 1,0,3)]
 let x19:QT4:=(c,s==5,g,x18)
 let x20:=s==5||(!x17||Zb3 x19 1)
 let x21:List TY:=[(12,pcOf c,0,6)]++[(5,u16.wrap ((spOf c)-1),u8.wrap (shrI u16 (pcOf c) 8),3)]++[(5,u16.wrap ((spOf c)-2),u8.wrap (pcOf c),3)]
 let x23:List TY:=x8++[(2,u16.wrap (Zew x9 1+1),0,3)]
 let x25:List TY:=x18++[(2,u16.wrap (Zew x19 1+1),0,3)]
 .br (Zc s||(!decide (iN (Le g)>0)||(!Ze 0 (Le g)||(!(Zb c.1 (R.get Ka g 0)).1==7||(x11||(x13||(!x20||(s==5||x17)))))))) (.br (Zc s||(!decide (iN (Le g)>0)||(!Ze 0 (Le g)||(!(Zb c.1 (R.get Ka g 0)).1==7||(x11||(x13||x20)))))) (.br (Zc s||(!decide (iN (Le g)>0)||(!Ze 0 (Le g)||(!(Zb c.1 (R.get Ka g 0)).1==7||(x11||x12))))) (.br (Zc s||(!decide (iN (Le g)>0)||(!Ze 0 (Le g)||(!(Zb c.1 (R.get Ka g 0)).1==7||x10)))) (.br (Zc s||(!decide (iN (Le g)>0)||(!Ze 0 (Le g)||(Zb c.1 (R.get Ka g 0)).1==7))) (.br (Zc s||(!decide (iN (Le g)>0)||Ze 0 (Le g))) (.br (Zc s) (fin3 g x21) (.br (decide (iN (Le g)>0)) (.br (s==5) (fin3 g x23) (fin3 g x25)) (fin3 g x1))) Ln) Ln) Ln) Ln) Ln) Ln
theorem ZJo (a:HL Zy):EV3 7 a=ZtK a.1 a.2.1 a.2.2:=by kernel_rfl
def ZnK (c:TC) (s:Int) (g:List Int):RT (Option (TY×Bool)):=
 let x1:List TY:=[(12,pcOf c,0,6)]++[(5,u16.wrap ((spOf c)-1),u8.wrap (shrI u16 (pcOf c) 8),3)]++[(5,u16.wrap ((spOf c)-2),u8.wrap (pcOf c),3)]
 let x3:List TY:=[(bif s==5 then 8 else 1,pcOf c,0,4)]
 .br (Zc s||(!decide (iN (Le g)>0)||(!Ze 0 (Le g)||(Zb c.1 (R.get Ka g 0)).1==11))) (.br (Zc s||(!decide (iN (Le g)>0)||Ze 0 (Le g))) (.br (Zc s) (fin3 g x1) (fin3 g x3)) Ln) Ln
theorem ZCl (a:HL Zy):EV3 11 a=ZnK a.1 a.2.1 a.2.2:=by kernel_rfl
def ZnG (c:TC) (s:Int) (g:List Int):RT (Option (TY×Bool)):=
 let x1:List TY:=[(bif s==5 then 8 else 1,pcOf c,0,4)]
 let x2:QT4:=(c,s==5,g,x1)
 let x3:List TY:=[(12,pcOf c,0,6)]++[(5,u16.wrap ((spOf c)-1),u8.wrap (shrI u16 (pcOf c) 8),3)]++[(5,u16.wrap ((spOf c)-2),u8.wrap (pcOf c),3)]
 let x5:List TY:=x1++[(2,Zab c.2.1 2,0,3)]++[(3,Zab c.2.1 2,(Zg2 c (15,(Zb c.1 (R.get Ka g 0)).2) (mAt x2 1)).1,3)]
 let x7:Nat:=Le x1
 let x8:=decide (iN (Le g)>=iN x7)
 let x9:=Ze (iN (Le g)) x7
 let x10:TY×Bool:=(R.get (RY) x1 (iN (Le g)),true)
 .br (Zc s||(!decide (iN (Le g)>0)||(!Ze 0 (Le g)||(!(Zb c.1 (R.get Ka g 0)).1==15||(!(Zb c.1 (R.get Ka g 0)).2.2.1==6||mAtC x2 1))))) (.br (Zc s||(!decide (iN (Le g)>0)||(!Ze 0 (Le g)||(Zb c.1 (R.get Ka g 0)).1==15))) (.br (Zc s||(!decide (iN (Le g)>0)||Ze 0 (Le g))) (.br (Zc s) (fin3 g x3) (.br (decide (iN (Le g)>0)) (.br ((Zb c.1 (R.get Ka g 0)).2.2.1==6) (fin3 g x5) (.br (x8) (Ls (((0,0,0,0),false))) (.br (x9) (Ls (x10)) Ln))) (.br (x8) (Ls (((0,0,0,0),false))) (.br (x9) (Ls (x10)) Ln)))) Ln) Ln) Ln
theorem ZCh (a:HL Zy):EV3 15 a=ZnG a.1 a.2.1 a.2.2:=by kernel_rfl
def ZnC (c:TC) (s:Int) (g:List Int):RT (Option (TY×Bool)):=
 let x1:List TY:=[(12,pcOf c,0,6)]++[(5,u16.wrap ((spOf c)-1),u8.wrap (shrI u16 (pcOf c) 8),3)]++[(5,u16.wrap ((spOf c)-2),u8.wrap (pcOf c),3)]
 let x3:List TY:=[(bif s==5 then 8 else 1,pcOf c,0,4)]
 .br (Zc s||(!decide (iN (Le g)>0)||(!Ze 0 (Le g)||(Zb c.1 (R.get Ka g 0)).1==19))) (.br (Zc s||(!decide (iN (Le g)>0)||Ze 0 (Le g))) (.br (Zc s) (fin3 g x1) (fin3 g x3)) Ln) Ln
theorem ZCd (a:HL Zy):EV3 19 a=ZnC a.1 a.2.1 a.2.2:=by kernel_rfl
def Zny (c:TC) (s:Int) (g:List Int):RT (Option (TY×Bool)):=
 let x1:List TY:=[(12,pcOf c,0,6)]++[(5,u16.wrap ((spOf c)-1),u8.wrap (shrI u16 (pcOf c) 8),3)]++[(5,u16.wrap ((spOf c)-2),u8.wrap (pcOf c),3)]
 let x3:List TY:=[(bif s==5 then 8 else 1,pcOf c,0,4)]
 .br (Zc s||(!decide (iN (Le g)>0)||(!Ze 0 (Le g)||(Zb c.1 (R.get Ka g 0)).1==23))) (.br (Zc s||(!decide (iN (Le g)>0)||Ze 0 (Le g))) (.br (Zc s) (fin3 g x1) (fin3 g x3)) Ln) Ln
theorem ZB9 (a:HL Zy):EV3 23 a=Zny a.1 a.2.1 a.2.2:=by kernel_rfl
def Znu (c:TC) (s:Int) (g:List Int):RT (Option (TY×Bool)):=
 let x1:=u16.wrap ((spOf c)-1)
 let x2:=u16.wrap ((spOf c)-2)
 let x3:List TY:=[(12,pcOf c,0,6)]++[(5,x1,u8.wrap (shrI u16 (pcOf c) 8),3)]++[(5,x2,u8.wrap (pcOf c),3)]
 let x5:List TY:=[(bif s==5 then 8 else 1,pcOf c,0,4)]
 let x6:=Zw (c,s==5,g,x5) (Zb c.1 (R.get Ka g 0)).2.1
 let x7:List TY:=x5++[(5,x1,u8.wrap (shrI u16 x6 8),3)]++[(5,x2,u8.wrap x6,3)]
 .br (Zc s||(!decide (iN (Le g)>0)||(!Ze 0 (Le g)||(Zb c.1 (R.get Ka g 0)).1==27))) (.br (Zc s||(!decide (iN (Le g)>0)||Ze 0 (Le g))) (.br (Zc s) (fin3 g x3) (.br (decide (iN (Le g)>0)) (fin3 g x7) (fin3 g x5))) Ln) Ln
theorem ZB5 (a:HL Zy):EV3 27 a=Znu a.1 a.2.1 a.2.2:=by kernel_rfl
def Znq (c:TC) (s:Int) (g:List Int):RT (Option (TY×Bool)):=
 let x1:List TY:=[(12,pcOf c,0,6)]++[(5,u16.wrap ((spOf c)-1),u8.wrap (shrI u16 (pcOf c) 8),3)]++[(5,u16.wrap ((spOf c)-2),u8.wrap (pcOf c),3)]
 let x3:List TY:=[(bif s==5 then 8 else 1,pcOf c,0,4)]
 let x4:List TY:=x3++[(4,spOf c,0,3)]++[(4,u16.wrap ((spOf c)+1),0,3)]
 .br (Zc s||(!decide (iN (Le g)>0)||(!Ze 0 (Le g)||(Zb c.1 (R.get Ka g 0)).1==31))) (.br (Zc s||(!decide (iN (Le g)>0)||Ze 0 (Le g))) (.br (Zc s) (fin3 g x1) (.br (decide (iN (Le g)>0)) (fin3 g x4) (fin3 g x3))) Ln) Ln
theorem ZB1 (a:HL Zy):EV3 31 a=Znq a.1 a.2.1 a.2.2:=by kernel_rfl
def Znm (c:TC) (s:Int) (g:List Int):RT (Option (TY×Bool)):=
 let x1:List TY:=[(12,pcOf c,0,6)]++[(5,u16.wrap ((spOf c)-1),u8.wrap (shrI u16 (pcOf c) 8),3)]++[(5,u16.wrap ((spOf c)-2),u8.wrap (pcOf c),3)]
 let x3:List TY:=[(bif s==5 then 8 else 1,pcOf c,0,4)]
 .br (Zc s||(!decide (iN (Le g)>0)||(!Ze 0 (Le g)||(Zb c.1 (R.get Ka g 0)).1==35))) (.br (Zc s||(!decide (iN (Le g)>0)||Ze 0 (Le g))) (.br (Zc s) (fin3 g x1) (fin3 g x3)) Ln) Ln
theorem ZBX (a:HL Zy):EV3 35 a=Znm a.1 a.2.1 a.2.2:=by kernel_rfl
def Zni (c:TC) (s:Int) (g:List Int):RT (Option (TY×Bool)):=
 let x1:List TY:=[(12,pcOf c,0,6)]++[(5,u16.wrap ((spOf c)-1),u8.wrap (shrI u16 (pcOf c) 8),3)]++[(5,u16.wrap ((spOf c)-2),u8.wrap (pcOf c),3)]
 let x3:List TY:=[(bif s==5 then 8 else 1,pcOf c,0,4)]
 .br (Zc s||(!decide (iN (Le g)>0)||(!Ze 0 (Le g)||(Zb c.1 (R.get Ka g 0)).1==39))) (.br (Zc s||(!decide (iN (Le g)>0)||Ze 0 (Le g))) (.br (Zc s) (fin3 g x1) (fin3 g x3)) Ln) Ln
theorem ZBT (a:HL Zy):EV3 39 a=Zni a.1 a.2.1 a.2.2:=by kernel_rfl
def Zne (c:TC) (s:Int) (g:List Int):RT (Option (TY×Bool)):=
 let x1:List TY:=[(12,pcOf c,0,6)]++[(5,u16.wrap ((spOf c)-1),u8.wrap (shrI u16 (pcOf c) 8),3)]++[(5,u16.wrap ((spOf c)-2),u8.wrap (pcOf c),3)]
 let x3:List TY:=[(bif s==5 then 8 else 1,pcOf c,0,4)]
 let x4:QT7:=((pcOf c),0,3)
 let x5:List TY:=[(11,x4)]
 let x6:List TY:=x3++[(9,x4)]++x5
 let x8:List TY:=x3++[(2,u16.wrap ((pcOf c)+u16.wrap 1),0,3)]++x5
 .br (Zc s||(!decide (iN (Le g)>0)||(!Ze 0 (Le g)||(Zb c.1 (R.get Ka g 0)).1==43))) (.br (Zc s||(!decide (iN (Le g)>0)||Ze 0 (Le g))) (.br (Zc s) (fin3 g x1) (.br (decide (iN (Le g)>0)) (.br (s==5) (fin3 g x6) (fin3 g x8)) (fin3 g x3))) Ln) Ln
theorem ZBP (a:HL Zy):EV3 43 a=Zne a.1 a.2.1 a.2.2:=by kernel_rfl
def Zna (c:TC) (s:Int) (g:List Int):RT (Option (TY×Bool)):=
 let x1:List TY:=[(12,pcOf c,0,6)]++[(5,u16.wrap ((spOf c)-1),u8.wrap (shrI u16 (pcOf c) 8),3)]++[(5,u16.wrap ((spOf c)-2),u8.wrap (pcOf c),3)]
 let x3:List TY:=[(bif s==5 then 8 else 1,pcOf c,0,4)]
 let x4:List TY:=x3++[(2,Zab c.2.1 1,0,3)]++[(2,u16.wrap (Zab c.2.1 1+1),0,3)]
 .br (Zc s||(!decide (iN (Le g)>0)||(!Ze 0 (Le g)||(Zb c.1 (R.get Ka g 0)).1==47))) (.br (Zc s||(!decide (iN (Le g)>0)||Ze 0 (Le g))) (.br (Zc s) (fin3 g x1) (.br (decide (iN (Le g)>0)) (fin3 g x4) (fin3 g x3))) Ln) Ln
theorem ZBL (a:HL Zy):EV3 47 a=Zna a.1 a.2.1 a.2.2:=by kernel_rfl
