import Derived.Test.YtpnjbfjomebppaaGreatNext0
open Go.IntKind (u8 u16 i64)
set_option linter.unusedSimpArgs false
open Go Go.S3 Go.Proofs
set_option linter.unusedVariables false
set_option maxRecDepth 100000
namespace Go.Proofs.YtpnjbfjomebppaaGreat
noncomputable section
def Zvd (c:TC) (s:Int) (g:List Int):RT (Option (TY×Bool)):=
 let x1:QT1:=(c,s==5,g,(0,0,0,0,0,0,0,0),[])
 let x2:=qAtC x1 0
 let x3:= !x2||(Zb c.1 (qAt x1 0)).1==1
 let x4:List TY:=[]++[(12,pcOf c,0,6)]++[(5,u16.wrap ((spOf c)-1),u8.wrap (shrI u16 (pcOf c) 8),3)]++[(5,u16.wrap ((spOf c)-2),u8.wrap (pcOf c),3)]
 let x6:QT7:=((pcOf c),0,4)
 let x7:List TY:=[]++[(bif s==5 then 8 else 1,x6)]
 let x9:List TY:=[]++[(1,x6)]
 .br (!x3||x2) (.br (x3) (.br (Zf s) (fin3 g x4) (.br (iN (Le g)==0) (fin3 g x7) (fin3 g x9))) Ln) Ln
theorem ZKA (a:HL Zy):EV1 1 a=Zvd a.1 a.2.1 a.2.2:=by kernel_rfl
def Zu9 (c:TC) (s:Int) (g:List Int):RT (Option (TY×Bool)):=
 let x1:QT1:=(c,s==5,g,(0,0,0,0,0,0,0,0),[])
 let x2:=qAtC x1 0
 let x3:=Zb c.1 (qAt x1 0)
 let x4:= !x2||x3.1==5
 let x5:QT7:=((pcOf c),0,4)
 let x6:List TY:=[]++[(1,x5)]
 let x7:List TY:=[(9,pcOf c,0,3)]
 let x8:List TY:=bif s==5 then x6++x7 else x6++[(2,u16.wrap ((pcOf c)+u16.wrap 1),0,3)]
 let x9:List TY:=bif s==5 then x8++x7 else x8++[(2,u16.wrap ((pcOf c)+u16.wrap (i64.wrap (1+1))),0,3)]
 let x10:QT1:=(c,s==5,g,(5,x3.2),x9)
 let x11:List TY:=[]++[(12,pcOf c,0,6)]++[(5,u16.wrap ((spOf c)-1),u8.wrap (shrI u16 (pcOf c) 8),3)]++[(5,u16.wrap ((spOf c)-2),u8.wrap (pcOf c),3)]
 let x13:List TY:=[]++[(bif s==5 then 8 else 1,x5)]
 let x15:List TY:=x9++[(2,Zgq x10 1,0,3)]
 .br (!x4||x2) (.br (x4) (.br (Zf s||(iN (Le g)==0||ZcA x10 1)) (.br (Zf s) (fin3 g x11) (.br (iN (Le g)==0) (fin3 g x13) (fin3 g x15))) Ln) Ln) Ln
theorem ZKw (a:HL Zy):EV1 5 a=Zu9 a.1 a.2.1 a.2.2:=by kernel_rfl
def Zu5 (c:TC) (s:Int) (g:List Int):RT (Option (TY×Bool)):=
 let x1:QT1:=(c,s==5,g,(0,0,0,0,0,0,0,0),[])
 let x2:=qAtC x1 0
 let x3:=Zb c.1 (qAt x1 0)
 let x4:= !x2||x3.1==9
 let x5:List TY:=[]++[(12,pcOf c,0,6)]++[(5,u16.wrap ((spOf c)-1),u8.wrap (shrI u16 (pcOf c) 8),3)]++[(5,u16.wrap ((spOf c)-2),u8.wrap (pcOf c),3)]
 let x7:QT7:=((pcOf c),0,4)
 let x8:List TY:=[]++[(bif s==5 then 8 else 1,x7)]
 let x10:List TY:=[]++[(1,x7)]
 let x11:=x3.2
 let x12:List TY:=x10++[(2,Zd0 (c,s==5,g,(9,x11),x10) x11.2.2.2.1,0,3)]
 .br (!x4||x2) (.br (x4) (.br (Zf s) (fin3 g x5) (.br (iN (Le g)==0) (fin3 g x8) (fin3 g x12))) Ln) Ln
theorem ZKs (a:HL Zy):EV1 9 a=Zu5 a.1 a.2.1 a.2.2:=by kernel_rfl
def ZoO (c:TC) (s:Int) (g:List Int):RT (Option (TY×Bool)):=
 let x1:QT1:=(c,s==5,g,(0,0,0,0,0,0,0,0),[])
 let x2:=qAtC x1 0
 let x3:= !x2||(Zb c.1 (qAt x1 0)).1==13
 let x4:List TY:=[]++[(12,pcOf c,0,6)]++[(5,u16.wrap ((spOf c)-1),u8.wrap (shrI u16 (pcOf c) 8),3)]++[(5,u16.wrap ((spOf c)-2),u8.wrap (pcOf c),3)]
 let x6:QT7:=((pcOf c),0,4)
 let x7:List TY:=[]++[(bif s==5 then 8 else 1,x6)]
 let x9:List TY:=[]++[(1,x6)]
 let x10:List TY:=bif s==5 then x9++[(9,pcOf c,0,3)] else x9++[(2,u16.wrap ((pcOf c)+u16.wrap 1),0,3)]
 .br (!x3||x2) (.br (x3) (.br (Zf s) (fin3 g x4) (.br (iN (Le g)==0) (fin3 g x7) (fin3 g x10))) Ln) Ln
theorem ZDK (a:HL Zy):EV1 13 a=ZoO a.1 a.2.1 a.2.2:=by kernel_rfl
def ZoK (c:TC) (s:Int) (g:List Int):RT (Option (TY×Bool)):=
 let x1:QT1:=(c,s==5,g,(0,0,0,0,0,0,0,0),[])
 let x2:=qAtC x1 0
 let x3:= !x2||(Zb c.1 (qAt x1 0)).1==17
 let x4:List TY:=[]++[(12,pcOf c,0,6)]++[(5,u16.wrap ((spOf c)-1),u8.wrap (shrI u16 (pcOf c) 8),3)]++[(5,u16.wrap ((spOf c)-2),u8.wrap (pcOf c),3)]
 let x6:QT7:=((pcOf c),0,4)
 let x7:List TY:=[]++[(bif s==5 then 8 else 1,x6)]
 let x9:List TY:=[]++[(1,x6)]
 .br (!x3||x2) (.br (x3) (.br (Zf s) (fin3 g x4) (.br (iN (Le g)==0) (fin3 g x7) (fin3 g x9))) Ln) Ln
theorem ZDG (a:HL Zy):EV1 17 a=ZoK a.1 a.2.1 a.2.2:=by kernel_rfl
def ZoG (c:TC) (s:Int) (g:List Int):RT (Option (TY×Bool)):=
 let x1:QT1:=(c,s==5,g,(0,0,0,0,0,0,0,0),[])
 let x2:=qAtC x1 0
 let x3:= !x2||(Zb c.1 (qAt x1 0)).1==21
 let x4:List TY:=[]++[(12,pcOf c,0,6)]++[(5,u16.wrap ((spOf c)-1),u8.wrap (shrI u16 (pcOf c) 8),3)]++[(5,u16.wrap ((spOf c)-2),u8.wrap (pcOf c),3)]
 let x6:QT7:=((pcOf c),0,4)
 let x7:List TY:=[]++[(bif s==5 then 8 else 1,x6)]
 let x9:List TY:=[]++[(1,x6)]
 .br (!x3||x2) (.br (x3) (.br (Zf s) (fin3 g x4) (.br (iN (Le g)==0) (fin3 g x7) (fin3 g x9))) Ln) Ln
theorem ZDC (a:HL Zy):EV1 21 a=ZoG a.1 a.2.1 a.2.2:=by kernel_rfl
def ZoC (c:TC) (s:Int) (g:List Int):RT (Option (TY×Bool)):=
 let x1:QT1:=(c,s==5,g,(0,0,0,0,0,0,0,0),[])
 let x2:=qAtC x1 0
 let x3:=Zb c.1 (qAt x1 0)
 let x4:= !x2||x3.1==25
 let x5:=u16.wrap ((spOf c)-1)
 let x6:=u16.wrap ((spOf c)-2)
 let x7:List TY:=[]++[(12,pcOf c,0,6)]++[(5,x5,u8.wrap (shrI u16 (pcOf c) 8),3)]++[(5,x6,u8.wrap (pcOf c),3)]
 let x9:QT7:=((pcOf c),0,4)
 let x10:List TY:=[]++[(bif s==5 then 8 else 1,x9)]
 let x12:QT6:=(25,x3.2)
 let x13:List TY:=[]++[(1,x9)]
 let x14:=ZhA (c,s==5,g,x12,x13)
 let x15:List TY:=[(9,pcOf c,0,3)]
 let x16:List TY:=bif s==5 then x13++x15 else x13++[(2,u16.wrap ((pcOf c)+u16.wrap 1),0,3)]
 let x17:List TY:=bif !x14&&c.1==2 then x16 else bif s==5 then x16++x15 else x16++[(2,u16.wrap ((pcOf c)+u16.wrap (i64.wrap (1+1))),0,3)]
 let x18:=ZA (c,s==5,g,x12,x17)
 let x19:List TY:=bif x14 then x17++[(5,x5,u8.wrap (shrI u16 x18 8),3)]++[(5,x6,u8.wrap x18,3)] else x17
 .br (!x4||x2) (.br (x4) (.br (Zf s) (fin3 g x7) (.br (iN (Le g)==0) (fin3 g x10) (fin3 g x19))) Ln) Ln
theorem ZDy (a:HL Zy):EV1 25 a=ZoC a.1 a.2.1 a.2.2:=by kernel_rfl
def Zoy (c:TC) (s:Int) (g:List Int):RT (Option (TY×Bool)):=
 let x1:QT1:=(c,s==5,g,(0,0,0,0,0,0,0,0),[])
 let x2:=qAtC x1 0
 let x3:= !x2||(Zb c.1 (qAt x1 0)).1==29
 let x4:List TY:=[]++[(12,pcOf c,0,6)]++[(5,u16.wrap ((spOf c)-1),u8.wrap (shrI u16 (pcOf c) 8),3)]++[(5,u16.wrap ((spOf c)-2),u8.wrap (pcOf c),3)]
 let x6:QT7:=((pcOf c),0,4)
 let x7:List TY:=[]++[(bif s==5 then 8 else 1,x6)]
 let x9:List TY:=[]++[(1,x6)]
 .br (!x3||x2) (.br (x3) (.br (Zf s) (fin3 g x4) (.br (iN (Le g)==0) (fin3 g x7) (fin3 g x9))) Ln) Ln
theorem ZDu (a:HL Zy):EV1 29 a=Zoy a.1 a.2.1 a.2.2:=by kernel_rfl
def Zou (c:TC) (s:Int) (g:List Int):RT (Option (TY×Bool)):=
 let x1:QT1:=(c,s==5,g,(0,0,0,0,0,0,0,0),[])
 let x2:=qAtC x1 0
 let x3:=Zb c.1 (qAt x1 0)
 let x4:= !x2||x3.1==33
 let x5:QT7:=((pcOf c),0,4)
 let x6:List TY:=[]++[(1,x5)]
 let x7:List TY:=bif s==5 then x6++[(9,pcOf c,0,3)] else x6++[(2,u16.wrap ((pcOf c)+u16.wrap 1),0,3)]
 let x8:QT1:=(c,s==5,g,(33,x3.2),x7)
 let x9:=qAtC x8 1
 let x10:= !x9||x9
 let x11:= !x10||x9
 let x12:=Zf s||(iN (Le g)==0||(!x11||x10))
 let x13:List TY:=[]++[(12,pcOf c,0,6)]++[(5,u16.wrap ((spOf c)-1),u8.wrap (shrI u16 (pcOf c) 8),3)]++[(5,u16.wrap ((spOf c)-2),u8.wrap (pcOf c),3)]
 let x15:List TY:=[]++[(bif s==5 then 8 else 1,x5)]
 let x17:=qAt x8 1
 let x18:List TY:=x7++[(6,Zcx x17 x17,0,3)]
 .br (!x4||x2) (.br (x4) (.br (!x12||(Zf s||(iN (Le g)==0||x11))) (.br (x12) (.br (Zf s) (fin3 g x13) (.br (iN (Le g)==0) (fin3 g x15) (fin3 g x18))) Ln) Ln) Ln) Ln
theorem ZDq (a:HL Zy):EV1 33 a=Zou a.1 a.2.1 a.2.2:=by kernel_rfl
def Zoq (c:TC) (s:Int) (g:List Int):RT (Option (TY×Bool)):=
 let x1:QT1:=(c,s==5,g,(0,0,0,0,0,0,0,0),[])
 let x2:=qAtC x1 0
 let x3:= !x2||(Zb c.1 (qAt x1 0)).1==37
 let x4:List TY:=[]++[(12,pcOf c,0,6)]++[(5,u16.wrap ((spOf c)-1),u8.wrap (shrI u16 (pcOf c) 8),3)]++[(5,u16.wrap ((spOf c)-2),u8.wrap (pcOf c),3)]
 let x6:QT7:=((pcOf c),0,4)
 let x7:List TY:=[]++[(bif s==5 then 8 else 1,x6)]
 let x9:List TY:=[]++[(1,x6)]
 let x10:List TY:=bif c.1 !=2 then x9++[(10,pcOf c,0,3)] else x9
 .br (!x3||x2) (.br (x3) (.br (Zf s) (fin3 g x4) (.br (iN (Le g)==0) (fin3 g x7) (fin3 g x10))) Ln) Ln
theorem ZDm (a:HL Zy):EV1 37 a=Zoq a.1 a.2.1 a.2.2:=by kernel_rfl
def Zom (c:TC) (s:Int) (g:List Int):RT (Option (TY×Bool)):=
 let x1:QT1:=(c,s==5,g,(0,0,0,0,0,0,0,0),[])
 let x2:=qAtC x1 0
 let x3:= !x2||(Zb c.1 (qAt x1 0)).1==41
 let x4:List TY:=[]++[(12,pcOf c,0,6)]++[(5,u16.wrap ((spOf c)-1),u8.wrap (shrI u16 (pcOf c) 8),3)]++[(5,u16.wrap ((spOf c)-2),u8.wrap (pcOf c),3)]
 let x6:QT7:=((pcOf c),0,4)
 let x7:List TY:=[]++[(bif s==5 then 8 else 1,x6)]
 let x9:List TY:=[]++[(1,x6)]++[(11,pcOf c,0,3)]
 .br (!x3||x2) (.br (x3) (.br (Zf s) (fin3 g x4) (.br (iN (Le g)==0) (fin3 g x7) (fin3 g x9))) Ln) Ln
theorem ZDi (a:HL Zy):EV1 41 a=Zom a.1 a.2.1 a.2.2:=by kernel_rfl
def Zoi (c:TC) (s:Int) (g:List Int):RT (Option (TY×Bool)):=
 let x1:QT1:=(c,s==5,g,(0,0,0,0,0,0,0,0),[])
 let x2:=qAtC x1 0
 let x3:=Zb c.1 (qAt x1 0)
 let x4:= !x2||x3.1==45
 let x5:=u16.wrap ((spOf c)-1)
 let x6:=u16.wrap ((spOf c)-2)
 let x7:List TY:=[]++[(12,pcOf c,0,6)]++[(5,x5,u8.wrap (shrI u16 (pcOf c) 8),3)]++[(5,x6,u8.wrap (pcOf c),3)]
 let x9:QT7:=((pcOf c),0,4)
 let x10:List TY:=[]++[(bif s==5 then 8 else 1,x9)]
 let x12:List TY:=[]++[(1,x9)]
 let x13:QT1:=(c,s==5,g,(45,x3.2),x12)
 let x14:=ZA x13
 let x15:List TY:=bif ZhA x13 then x12++[(5,x5,u8.wrap (shrI u16 x14 8),3)]++[(5,x6,u8.wrap x14,3)] else x12
 .br (!x4||x2) (.br (x4) (.br (Zf s) (fin3 g x7) (.br (iN (Le g)==0) (fin3 g x10) (fin3 g x15))) Ln) Ln
theorem ZDe (a:HL Zy):EV1 45 a=Zoi a.1 a.2.1 a.2.2:=by kernel_rfl
def ZtP (c:TC) (s:Int) (g:List Int):RT (Option (TY×Bool)):=
 let x1:List TY:=[(12,pcOf c,0,6)]++[(5,u16.wrap ((spOf c)-1),u8.wrap (shrI u16 (pcOf c) 8),3)]++[(5,u16.wrap ((spOf c)-2),u8.wrap (pcOf c),3)]
 let x3:List TY:=[(bif s==5 then 8 else 1,pcOf c,0,4)]
 let x4:List TY:=x3++[(2,Zab c.2.1 2,0,3)]
 let x6:List TY:=x3++[(3,Zab c.2.1 2,rGet c.2.1 (Zb c.1 (R.get Ka g 0)).2.2.2.1,3)]
 let x8:Nat:=Le x3
 let x9:=decide (iN (Le g)>=iN x8)
 let x10:=Ze (iN (Le g)) x8
 let x11:TY×Bool:=(R.get (RY) x3 (iN (Le g)),true)
 .br (Zc s||(!decide (iN (Le g)>0)||(!Ze 0 (Le g)||(Zb c.1 (R.get Ka g 0)).1==2))) (.br (Zc s||(!decide (iN (Le g)>0)||Ze 0 (Le g))) (.br (Zc s) (fin3 g x1) (.br (decide (iN (Le g)>0)) (.br ((Zb c.1 (R.get Ka g 0)).2.2.2.1==6) (fin3 g x4) (.br ((Zb c.1 (R.get Ka g 0)).2.2.1==6) (fin3 g x6) (.br (x9) (Ls (((0,0,0,0),false))) (.br (x10) (Ls (x11)) Ln)))) (.br (x9) (Ls (((0,0,0,0),false))) (.br (x10) (Ls (x11)) Ln)))) Ln) Ln
theorem ZJt (a:HL Zy):EV3 2 a=ZtP a.1 a.2.1 a.2.2:=by kernel_rfl
def ZtL (c:TC) (s:Int) (g:List Int):RT (Option (TY×Bool)):=
 let x1:List TY:=[(bif s==5 then 8 else 1,pcOf c,0,4)]
 let x2:List TY:=[(9,pcOf c,0,3)]
 let x3:List TY:=x1++x2
 let x4:List TY:=[(2,u16.wrap ((pcOf c)+u16.wrap (i64.wrap (1+1))),0,3)]
 let x5:List TY:=bif s==5 then x3++x2 else x3++x4
 let x6:QT4:=(c,s==5,g,x5)
 let x7:= !s==5||Zb3 x6 1
 let x8:List TY:=x1++[(2,u16.wrap ((pcOf c)+u16.wrap 1),0,3)]
 let x9:List TY:=bif s==5 then x8++x2 else x8++x4
 let x10:QT4:=(c,s==5,g,x9)
 let x11:List TY:=[(12,pcOf c,0,6)]++[(5,u16.wrap ((spOf c)-1),u8.wrap (shrI u16 (pcOf c) 8),3)]++[(5,u16.wrap ((spOf c)-2),u8.wrap (pcOf c),3)]
 let x13:List TY:=x5++[(3,Zew x6 1,c.2.1.1,3)]
 let x15:List TY:=x9++[(3,Zew x10 1,c.2.1.1,3)]
 .br (Zc s||(!decide (iN (Le g)>0)||(!Ze 0 (Le g)||(!(Zb c.1 (R.get Ka g 0)).1==6||(!x7||(s==5||Zb3 x10 1)))))) (.br (Zc s||(!decide (iN (Le g)>0)||(!Ze 0 (Le g)||(!(Zb c.1 (R.get Ka g 0)).1==6||x7)))) (.br (Zc s||(!decide (iN (Le g)>0)||(!Ze 0 (Le g)||(Zb c.1 (R.get Ka g 0)).1==6))) (.br (Zc s||(!decide (iN (Le g)>0)||Ze 0 (Le g))) (.br (Zc s) (fin3 g x11) (.br (decide (iN (Le g)>0)) (.br (s==5) (fin3 g x13) (fin3 g x15)) (fin3 g x1))) Ln) Ln) Ln) Ln
theorem ZJp (a:HL Zy):EV3 6 a=ZtL a.1 a.2.1 a.2.2:=by kernel_rfl
def ZnL (c:TC) (s:Int) (g:List Int):RT (Option (TY×Bool)):=
 let x1:List TY:=[(12,pcOf c,0,6)]++[(5,u16.wrap ((spOf c)-1),u8.wrap (shrI u16 (pcOf c) 8),3)]++[(5,u16.wrap ((spOf c)-2),u8.wrap (pcOf c),3)]
 let x3:List TY:=[(bif s==5 then 8 else 1,pcOf c,0,4)]
 let x4:List TY:=x3++[(3,Zab c.2.1 (Zb c.1 (R.get Ka g 0)).2.2.2.2.1,c.2.1.1,3)]
 .br (Zc s||(!decide (iN (Le g)>0)||(!Ze 0 (Le g)||(Zb c.1 (R.get Ka g 0)).1==10))) (.br (Zc s||(!decide (iN (Le g)>0)||Ze 0 (Le g))) (.br (Zc s) (fin3 g x1) (.br (decide (iN (Le g)>0)) (fin3 g x4) (fin3 g x3))) Ln) Ln
theorem ZCm (a:HL Zy):EV3 10 a=ZnL a.1 a.2.1 a.2.2:=by kernel_rfl
def ZnH (c:TC) (s:Int) (g:List Int):RT (Option (TY×Bool)):=
 let x1:List TY:=[(bif s==5 then 8 else 1,pcOf c,0,4)]
 let x2:QT4:=(c,s==5,g,x1)
 let x3:List TY:=[(12,pcOf c,0,6)]++[(5,u16.wrap ((spOf c)-1),u8.wrap (shrI u16 (pcOf c) 8),3)]++[(5,u16.wrap ((spOf c)-2),u8.wrap (pcOf c),3)]
 let x5:List TY:=x1++[(2,Zab c.2.1 2,0,3)]++[(3,Zab c.2.1 2,(Zg2 c (14,(Zb c.1 (R.get Ka g 0)).2) (mAt x2 1)).1,3)]
 let x7:Nat:=Le x1
 let x8:=decide (iN (Le g)>=iN x7)
 let x9:=Ze (iN (Le g)) x7
 let x10:TY×Bool:=(R.get (RY) x1 (iN (Le g)),true)
 .br (Zc s||(!decide (iN (Le g)>0)||(!Ze 0 (Le g)||(!(Zb c.1 (R.get Ka g 0)).1==14||(!(Zb c.1 (R.get Ka g 0)).2.2.1==6||mAtC x2 1))))) (.br (Zc s||(!decide (iN (Le g)>0)||(!Ze 0 (Le g)||(Zb c.1 (R.get Ka g 0)).1==14))) (.br (Zc s||(!decide (iN (Le g)>0)||Ze 0 (Le g))) (.br (Zc s) (fin3 g x3) (.br (decide (iN (Le g)>0)) (.br ((Zb c.1 (R.get Ka g 0)).2.2.1==6) (fin3 g x5) (.br (x8) (Ls (((0,0,0,0),false))) (.br (x9) (Ls (x10)) Ln))) (.br (x8) (Ls (((0,0,0,0),false))) (.br (x9) (Ls (x10)) Ln)))) Ln) Ln) Ln
theorem ZCi (a:HL Zy):EV3 14 a=ZnH a.1 a.2.1 a.2.2:=by kernel_rfl
def ZnD (c:TC) (s:Int) (g:List Int):RT (Option (TY×Bool)):=
 let x1:List TY:=[(12,pcOf c,0,6)]++[(5,u16.wrap ((spOf c)-1),u8.wrap (shrI u16 (pcOf c) 8),3)]++[(5,u16.wrap ((spOf c)-2),u8.wrap (pcOf c),3)]
 let x3:List TY:=[(bif s==5 then 8 else 1,pcOf c,0,4)]
 let x4:List TY:=[(11,pcOf c,0,3)]
 let x5:List TY:=x3++x4++x4
 .br (Zc s||(!decide (iN (Le g)>0)||(!Ze 0 (Le g)||(Zb c.1 (R.get Ka g 0)).1==18))) (.br (Zc s||(!decide (iN (Le g)>0)||Ze 0 (Le g))) (.br (Zc s) (fin3 g x1) (.br (decide (iN (Le g)>0)) (fin3 g x5) (fin3 g x3))) Ln) Ln
theorem ZCe (a:HL Zy):EV3 18 a=ZnD a.1 a.2.1 a.2.2:=by kernel_rfl
def Znz (c:TC) (s:Int) (g:List Int):RT (Option (TY×Bool)):=
 let x1:List TY:=[(12,pcOf c,0,6)]++[(5,u16.wrap ((spOf c)-1),u8.wrap (shrI u16 (pcOf c) 8),3)]++[(5,u16.wrap ((spOf c)-2),u8.wrap (pcOf c),3)]
 let x3:List TY:=[(bif s==5 then 8 else 1,pcOf c,0,4)]
 .br (Zc s||(!decide (iN (Le g)>0)||(!Ze 0 (Le g)||(Zb c.1 (R.get Ka g 0)).1==22))) (.br (Zc s||(!decide (iN (Le g)>0)||Ze 0 (Le g))) (.br (Zc s) (fin3 g x1) (fin3 g x3)) Ln) Ln
theorem ZCa (a:HL Zy):EV3 22 a=Znz a.1 a.2.1 a.2.2:=by kernel_rfl
def Znv (c:TC) (s:Int) (g:List Int):RT (Option (TY×Bool)):=
 let x1:List TY:=[(12,pcOf c,0,6)]++[(5,u16.wrap ((spOf c)-1),u8.wrap (shrI u16 (pcOf c) 8),3)]++[(5,u16.wrap ((spOf c)-2),u8.wrap (pcOf c),3)]
 let x3:List TY:=[(bif s==5 then 8 else 1,pcOf c,0,4)]
 let x4:List TY:=x3++[(4,spOf c,0,3)]++[(4,u16.wrap ((spOf c)+1),0,3)]
 let x6:Nat:=Le x3
 let x7:=decide (iN (Le g)>=iN x6)
 let x8:=Ze (iN (Le g)) x6
 let x9:TY×Bool:=(R.get (RY) x3 (iN (Le g)),true)
 .br (Zc s||(!decide (iN (Le g)>0)||(!Ze 0 (Le g)||(Zb c.1 (R.get Ka g 0)).1==26))) (.br (Zc s||(!decide (iN (Le g)>0)||Ze 0 (Le g))) (.br (Zc s) (fin3 g x1) (.br (decide (iN (Le g)>0)) (.br (Zeq (c,s==5,g,x3) (26,(Zb c.1 (R.get Ka g 0)).2)) (fin3 g x4) (.br (x7) (Ls (((0,0,0,0),false))) (.br (x8) (Ls (x9)) Ln))) (.br (x7) (Ls (((0,0,0,0),false))) (.br (x8) (Ls (x9)) Ln)))) Ln) Ln
theorem ZB6 (a:HL Zy):EV3 26 a=Znv a.1 a.2.1 a.2.2:=by kernel_rfl
def Znr (c:TC) (s:Int) (g:List Int):RT (Option (TY×Bool)):=
 let x1:=u16.wrap ((spOf c)-1)
 let x2:=u16.wrap ((spOf c)-2)
 let x3:List TY:=[(12,pcOf c,0,6)]++[(5,x1,u8.wrap (shrI u16 (pcOf c) 8),3)]++[(5,x2,u8.wrap (pcOf c),3)]
 let x5:List TY:=[(bif s==5 then 8 else 1,pcOf c,0,4)]
 let x6:Int:=bif (Zb c.1 (R.get Ka g 0)).2.2.2.2.1==3 then rPSW c.1 c.2.1 else Zab c.2.1 (Zb c.1 (R.get Ka g 0)).2.2.2.2.1
 let x7:List TY:=x5++[(5,x1,u8.wrap (shrI u16 x6 8),3)]++[(5,x2,u8.wrap x6,3)]
 .br (Zc s||(!decide (iN (Le g)>0)||(!Ze 0 (Le g)||(Zb c.1 (R.get Ka g 0)).1==30))) (.br (Zc s||(!decide (iN (Le g)>0)||Ze 0 (Le g))) (.br (Zc s) (fin3 g x3) (.br (decide (iN (Le g)>0)) (fin3 g x7) (fin3 g x5))) Ln) Ln
theorem ZB2 (a:HL Zy):EV3 30 a=Znr a.1 a.2.1 a.2.2:=by kernel_rfl
def Znn (c:TC) (s:Int) (g:List Int):RT (Option (TY×Bool)):=
 let x1:List TY:=[(bif s==5 then 8 else 1,pcOf c,0,4)]
 let x2:List TY:=x1++[(9,pcOf c,0,3)]
 let x3:QT4:=(c,s==5,g,x2)
 let x4:=mAtC x3 1
 let x5:= !x4||x4
 let x6:= !s==5||(!x5||x4)
 let x7:= !x6
 let x8:= !s==5||x5
 let x9:= !x8
 let x10:List TY:=x1++[(2,u16.wrap ((pcOf c)+u16.wrap 1),0,3)]
 let x11:QT4:=(c,s==5,g,x10)
 let x12:=mAtC x11 1
 let x13:= !x12||x12
 let x14:=s==5||(!x13||x12)
 let x15:List TY:=[(12,pcOf c,0,6)]++[(5,u16.wrap ((spOf c)-1),u8.wrap (shrI u16 (pcOf c) 8),3)]++[(5,u16.wrap ((spOf c)-2),u8.wrap (pcOf c),3)]
 let x17:=mAt x3 1
 let x18:List TY:=x2++[(7,Zcx x17 x17,c.2.1.1,3)]
 let x20:=mAt x11 1
 let x21:List TY:=x10++[(7,Zcx x20 x20,c.2.1.1,3)]
 .br (Zc s||(!decide (iN (Le g)>0)||(!Ze 0 (Le g)||(!(Zb c.1 (R.get Ka g 0)).1==34||(x7||(x9||(!x14||(s==5||x13)))))))) (.br (Zc s||(!decide (iN (Le g)>0)||(!Ze 0 (Le g)||(!(Zb c.1 (R.get Ka g 0)).1==34||(x7||(x9||x14)))))) (.br (Zc s||(!decide (iN (Le g)>0)||(!Ze 0 (Le g)||(!(Zb c.1 (R.get Ka g 0)).1==34||(x7||x8))))) (.br (Zc s||(!decide (iN (Le g)>0)||(!Ze 0 (Le g)||(!(Zb c.1 (R.get Ka g 0)).1==34||x6)))) (.br (Zc s||(!decide (iN (Le g)>0)||(!Ze 0 (Le g)||(Zb c.1 (R.get Ka g 0)).1==34))) (.br (Zc s||(!decide (iN (Le g)>0)||Ze 0 (Le g))) (.br (Zc s) (fin3 g x15) (.br (decide (iN (Le g)>0)) (.br (s==5) (fin3 g x18) (fin3 g x21)) (fin3 g x1))) Ln) Ln) Ln) Ln) Ln) Ln
theorem ZBY (a:HL Zy):EV3 34 a=Znn a.1 a.2.1 a.2.2:=by kernel_rfl
def Znj (c:TC) (s:Int) (g:List Int):RT (Option (TY×Bool)):=
 let x1:List TY:=[(12,pcOf c,0,6)]++[(5,u16.wrap ((spOf c)-1),u8.wrap (shrI u16 (pcOf c) 8),3)]++[(5,u16.wrap ((spOf c)-2),u8.wrap (pcOf c),3)]
 let x3:List TY:=[(bif s==5 then 8 else 1,pcOf c,0,4)]
 .br (Zc s||(!decide (iN (Le g)>0)||(!Ze 0 (Le g)||(Zb c.1 (R.get Ka g 0)).1==38))) (.br (Zc s||(!decide (iN (Le g)>0)||Ze 0 (Le g))) (.br (Zc s) (fin3 g x1) (fin3 g x3)) Ln) Ln
theorem ZBU (a:HL Zy):EV3 38 a=Znj a.1 a.2.1 a.2.2:=by kernel_rfl
def Znf (c:TC) (s:Int) (g:List Int):RT (Option (TY×Bool)):=
 let x1:List TY:=[(12,pcOf c,0,6)]++[(5,u16.wrap ((spOf c)-1),u8.wrap (shrI u16 (pcOf c) 8),3)]++[(5,u16.wrap ((spOf c)-2),u8.wrap (pcOf c),3)]
 let x3:List TY:=[(bif s==5 then 8 else 1,pcOf c,0,4)]
 let x4:List TY:=[(11,pcOf c,0,3)]
 let x5:List TY:=x3++x4++x4
 .br (Zc s||(!decide (iN (Le g)>0)||(!Ze 0 (Le g)||(Zb c.1 (R.get Ka g 0)).1==42))) (.br (Zc s||(!decide (iN (Le g)>0)||Ze 0 (Le g))) (.br (Zc s) (fin3 g x1) (.br (decide (iN (Le g)>0)) (fin3 g x5) (fin3 g x3))) Ln) Ln
theorem ZBQ (a:HL Zy):EV3 42 a=Znf a.1 a.2.1 a.2.2:=by kernel_rfl
def Znb (c:TC) (s:Int) (g:List Int):RT (Option (TY×Bool)):=
 let x1:List TY:=[(12,pcOf c,0,6)]++[(5,u16.wrap ((spOf c)-1),u8.wrap (shrI u16 (pcOf c) 8),3)]++[(5,u16.wrap ((spOf c)-2),u8.wrap (pcOf c),3)]
 let x3:List TY:=[(bif s==5 then 8 else 1,pcOf c,0,4)]
 let x4:List TY:=x3++[(3,Zab c.2.1 1,c.2.1.2.2.2.2.2.2.1,3)]++[(3,u16.wrap (Zab c.2.1 1+1),c.2.1.2.2.2.2.2.1,3)]
 .br (Zc s||(!decide (iN (Le g)>0)||(!Ze 0 (Le g)||(Zb c.1 (R.get Ka g 0)).1==46))) (.br (Zc s||(!decide (iN (Le g)>0)||Ze 0 (Le g))) (.br (Zc s) (fin3 g x1) (.br (decide (iN (Le g)>0)) (fin3 g x4) (fin3 g x3))) Ln) Ln
theorem ZBM (a:HL Zy):EV3 46 a=Znb a.1 a.2.1 a.2.2:=by kernel_rfl
