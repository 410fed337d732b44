import Derived.Test.YtpnjbfjomebppaaGreatNext0
open Go.IntKind (u8 u16 i64)
set_option linter.unusedSimpArgs false
open Go Go.S3 Go.Proofs
set_option linter.unusedVariables false
set_option maxRecDepth 100000
namespace Go.Proofs.YtpnjbfjomebppaaGreat
noncomputable section
def Zva (c:TC) (s:Int) (g:List Int):RT (Option (TY×Bool)):=
 let x1:QT1:=(c,s==5,g,(0,0,0,0,0,0,0,0),[])
 let x2:=qAtC x1 0
 let x3:=Zb c.1 (qAt x1 0)
 let x4:= !x2||x3.1==4
 let x5:QT7:=((pcOf c),0,4)
 let x6:List TY:=[]++[(1,x5)]
 let x7:List TY:=[(9,pcOf c,0,3)]
 let x8:List TY:=bif s==5 then x6++x7 else x6++[(2,u16.wrap ((pcOf c)+u16.wrap 1),0,3)]
 let x9:List TY:=bif s==5 then x8++x7 else x8++[(2,u16.wrap ((pcOf c)+u16.wrap (i64.wrap (1+1))),0,3)]
 let x10:List TY:=[]++[(12,pcOf c,0,6)]++[(5,u16.wrap ((spOf c)-1),u8.wrap (shrI u16 (pcOf c) 8),3)]++[(5,u16.wrap ((spOf c)-2),u8.wrap (pcOf c),3)]
 let x12:List TY:=[]++[(bif s==5 then 8 else 1,x5)]
 .br (!x4||x2) (.br (x4) (.br (Zf s||(iN (Le g)==0||ZcA (c,s==5,g,(4,x3.2),x9) 1)) (.br (Zf s) (fin3 g x10) (.br (iN (Le g)==0) (fin3 g x12) (fin3 g x9))) Ln) Ln) Ln
theorem ZKx (a:HL Zy):EV1 4 a=Zva a.1 a.2.1 a.2.2:=by kernel_rfl
def Zu6 (c:TC) (s:Int) (g:List Int):RT (Option (TY×Bool)):=
 let x1:QT1:=(c,s==5,g,(0,0,0,0,0,0,0,0),[])
 let x2:=qAtC x1 0
 let x3:=Zb c.1 (qAt x1 0)
 let x4:= !x2||x3.1==8
 let x5:QT7:=((pcOf c),0,4)
 let x6:List TY:=[]++[(1,x5)]
 let x7:List TY:=[(9,pcOf c,0,3)]
 let x8:List TY:=bif s==5 then x6++x7 else x6++[(2,u16.wrap ((pcOf c)+u16.wrap 1),0,3)]
 let x9:List TY:=bif s==5 then x8++x7 else x8++[(2,u16.wrap ((pcOf c)+u16.wrap (i64.wrap (1+1))),0,3)]
 let x10:QT1:=(c,s==5,g,(8,x3.2),x9)
 let x11:List TY:=[]++[(12,pcOf c,0,6)]++[(5,u16.wrap ((spOf c)-1),u8.wrap (shrI u16 (pcOf c) 8),3)]++[(5,u16.wrap ((spOf c)-2),u8.wrap (pcOf c),3)]
 let x13:List TY:=[]++[(bif s==5 then 8 else 1,x5)]
 let x15:=Zgq x10 1
 let x16:List TY:=x9++[(3,x15,c.2.1.2.2.2.2.2.2.1,3)]++[(3,u16.wrap (x15+1),c.2.1.2.2.2.2.2.1,3)]
 .br (!x4||x2) (.br (x4) (.br (Zf s||(iN (Le g)==0||ZcA x10 1)) (.br (Zf s) (fin3 g x11) (.br (iN (Le g)==0) (fin3 g x13) (fin3 g x16))) Ln) Ln) Ln
theorem ZKt (a:HL Zy):EV1 8 a=Zu6 a.1 a.2.1 a.2.2:=by kernel_rfl
def ZoP (c:TC) (s:Int) (g:List Int):RT (Option (TY×Bool)):=
 let x1:QT1:=(c,s==5,g,(0,0,0,0,0,0,0,0),[])
 let x2:=qAtC x1 0
 let x3:=Zb c.1 (qAt x1 0)
 let x4:= !x2||x3.1==12
 let x5:List TY:=[]++[(12,pcOf c,0,6)]++[(5,u16.wrap ((spOf c)-1),u8.wrap (shrI u16 (pcOf c) 8),3)]++[(5,u16.wrap ((spOf c)-2),u8.wrap (pcOf c),3)]
 let x7:QT7:=((pcOf c),0,4)
 let x8:List TY:=[]++[(bif s==5 then 8 else 1,x7)]
 let x10:=x3.2
 let x11:List TY:=[]++[(1,x7)]
 let x12:List TY:=bif x10.2.2.1==6 then x11++[(2,Zd0 (c,s==5,g,(12,x10),x11) 2,0,3)] else x11
 .br (!x4||x2) (.br (x4) (.br (Zf s) (fin3 g x5) (.br (iN (Le g)==0) (fin3 g x8) (fin3 g x12))) Ln) Ln
theorem ZDL (a:HL Zy):EV1 12 a=ZoP a.1 a.2.1 a.2.2:=by kernel_rfl
def ZoL (c:TC) (s:Int) (g:List Int):RT (Option (TY×Bool)):=
 let x1:QT1:=(c,s==5,g,(0,0,0,0,0,0,0,0),[])
 let x2:=qAtC x1 0
 let x3:= !x2||(Zb c.1 (qAt x1 0)).1==16
 let x4:List TY:=[]++[(12,pcOf c,0,6)]++[(5,u16.wrap ((spOf c)-1),u8.wrap (shrI u16 (pcOf c) 8),3)]++[(5,u16.wrap ((spOf c)-2),u8.wrap (pcOf c),3)]
 let x6:QT7:=((pcOf c),0,4)
 let x7:List TY:=[]++[(bif s==5 then 8 else 1,x6)]
 let x9:List TY:=[]++[(1,x6)]
 .br (!x3||x2) (.br (x3) (.br (Zf s) (fin3 g x4) (.br (iN (Le g)==0) (fin3 g x7) (fin3 g x9))) Ln) Ln
theorem ZDH (a:HL Zy):EV1 16 a=ZoL a.1 a.2.1 a.2.2:=by kernel_rfl
def ZoH (c:TC) (s:Int) (g:List Int):RT (Option (TY×Bool)):=
 let x1:QT1:=(c,s==5,g,(0,0,0,0,0,0,0,0),[])
 let x2:=qAtC x1 0
 let x3:= !x2||(Zb c.1 (qAt x1 0)).1==20
 let x4:List TY:=[]++[(12,pcOf c,0,6)]++[(5,u16.wrap ((spOf c)-1),u8.wrap (shrI u16 (pcOf c) 8),3)]++[(5,u16.wrap ((spOf c)-2),u8.wrap (pcOf c),3)]
 let x6:QT7:=((pcOf c),0,4)
 let x7:List TY:=[]++[(bif s==5 then 8 else 1,x6)]
 let x9:List TY:=[]++[(1,x6)]
 .br (!x3||x2) (.br (x3) (.br (Zf s) (fin3 g x4) (.br (iN (Le g)==0) (fin3 g x7) (fin3 g x9))) Ln) Ln
theorem ZDD (a:HL Zy):EV1 20 a=ZoH a.1 a.2.1 a.2.2:=by kernel_rfl
def ZoD (c:TC) (s:Int) (g:List Int):RT (Option (TY×Bool)):=
 let x1:QT1:=(c,s==5,g,(0,0,0,0,0,0,0,0),[])
 let x2:=qAtC x1 0
 let x3:=Zb c.1 (qAt x1 0)
 let x4:= !x2||x3.1==24
 let x5:List TY:=[]++[(12,pcOf c,0,6)]++[(5,u16.wrap ((spOf c)-1),u8.wrap (shrI u16 (pcOf c) 8),3)]++[(5,u16.wrap ((spOf c)-2),u8.wrap (pcOf c),3)]
 let x7:QT7:=((pcOf c),0,4)
 let x8:List TY:=[]++[(bif s==5 then 8 else 1,x7)]
 let x10:List TY:=[]++[(1,x7)]
 let x11:List TY:=[(9,pcOf c,0,3)]
 let x12:List TY:=bif s==5 then x10++x11 else x10++[(2,u16.wrap ((pcOf c)+u16.wrap 1),0,3)]
 let x13:List TY:=bif !ZhA (c,s==5,g,(24,x3.2),x10)&&c.1==2 then x12 else bif s==5 then x12++x11 else x12++[(2,u16.wrap ((pcOf c)+u16.wrap (i64.wrap (1+1))),0,3)]
 .br (!x4||x2) (.br (x4) (.br (Zf s) (fin3 g x5) (.br (iN (Le g)==0) (fin3 g x8) (fin3 g x13))) Ln) Ln
theorem ZDz (a:HL Zy):EV1 24 a=ZoD a.1 a.2.1 a.2.2:=by kernel_rfl
def Zoz (c:TC) (s:Int) (g:List Int):RT (Option (TY×Bool)):=
 let x1:QT1:=(c,s==5,g,(0,0,0,0,0,0,0,0),[])
 let x2:=qAtC x1 0
 let x3:= !x2||(Zb c.1 (qAt x1 0)).1==28
 let x4:List TY:=[]++[(12,pcOf c,0,6)]++[(5,u16.wrap ((spOf c)-1),u8.wrap (shrI u16 (pcOf c) 8),3)]++[(5,u16.wrap ((spOf c)-2),u8.wrap (pcOf c),3)]
 let x6:QT7:=((pcOf c),0,4)
 let x7:List TY:=[]++[(bif s==5 then 8 else 1,x6)]
 let x9:List TY:=[]++[(1,x6)]
 .br (!x3||x2) (.br (x3) (.br (Zf s) (fin3 g x4) (.br (iN (Le g)==0) (fin3 g x7) (fin3 g x9))) Ln) Ln
theorem ZDv (a:HL Zy):EV1 28 a=Zoz a.1 a.2.1 a.2.2:=by kernel_rfl
def Zov (c:TC) (s:Int) (g:List Int):RT (Option (TY×Bool)):=
 let x1:QT1:=(c,s==5,g,(0,0,0,0,0,0,0,0),[])
 let x2:=qAtC x1 0
 let x3:= !x2||(Zb c.1 (qAt x1 0)).1==32
 let x4:List TY:=[]++[(12,pcOf c,0,6)]++[(5,u16.wrap ((spOf c)-1),u8.wrap (shrI u16 (pcOf c) 8),3)]++[(5,u16.wrap ((spOf c)-2),u8.wrap (pcOf c),3)]
 let x6:QT7:=((pcOf c),0,4)
 let x7:List TY:=[]++[(bif s==5 then 8 else 1,x6)]
 let x9:=u16.wrap ((spOf c)+1)
 let x10:List TY:=[]++[(1,x6)]++[(4,spOf c,0,3)]++[(4,x9,0,3)]++[(5,x9,c.2.1.2.2.2.2.2.1,3)]++[(5,spOf c,c.2.1.2.2.2.2.2.2.1,3)]
 let x11:=i64.wrap (iN (Le x10)-1)
 let x12:QT11:=R.get (RY) x10 x11
 let x13:=x12.2
 let x14:List TY:=bif c.1 !=2 then setI x10 x11 (x12.1,x13.1,x13.2.1,5) else x10
 .br (!x3||x2) (.br (x3) (.br (Zf s) (fin3 g x4) (.br (iN (Le g)==0) (fin3 g x7) (fin3 g x14))) Ln) Ln
theorem ZDr (a:HL Zy):EV1 32 a=Zov a.1 a.2.1 a.2.2:=by kernel_rfl
def Zor (c:TC) (s:Int) (g:List Int):RT (Option (TY×Bool)):=
 let x1:QT1:=(c,s==5,g,(0,0,0,0,0,0,0,0),[])
 let x2:=qAtC x1 0
 let x3:= !x2||(Zb c.1 (qAt x1 0)).1==36
 let x4:List TY:=[]++[(12,pcOf c,0,6)]++[(5,u16.wrap ((spOf c)-1),u8.wrap (shrI u16 (pcOf c) 8),3)]++[(5,u16.wrap ((spOf c)-2),u8.wrap (pcOf c),3)]
 let x6:QT7:=((pcOf c),0,4)
 let x7:List TY:=[]++[(bif s==5 then 8 else 1,x6)]
 let x9:List TY:=[]++[(1,x6)]
 .br (!x3||x2) (.br (x3) (.br (Zf s) (fin3 g x4) (.br (iN (Le g)==0) (fin3 g x7) (fin3 g x9))) Ln) Ln
theorem ZDn (a:HL Zy):EV1 36 a=Zor a.1 a.2.1 a.2.2:=by kernel_rfl
def Zon (c:TC) (s:Int) (g:List Int):RT (Option (TY×Bool)):=
 let x1:QT1:=(c,s==5,g,(0,0,0,0,0,0,0,0),[])
 let x2:=qAtC x1 0
 let x3:= !x2||(Zb c.1 (qAt x1 0)).1==40
 let x4:List TY:=[]++[(12,pcOf c,0,6)]++[(5,u16.wrap ((spOf c)-1),u8.wrap (shrI u16 (pcOf c) 8),3)]++[(5,u16.wrap ((spOf c)-2),u8.wrap (pcOf c),3)]
 let x6:QT7:=((pcOf c),0,4)
 let x7:List TY:=[]++[(bif s==5 then 8 else 1,x6)]
 let x9:List TY:=[(11,pcOf c,0,3)]
 let x10:List TY:=[]++[(1,x6)]++x9++x9
 .br (!x3||x2) (.br (x3) (.br (Zf s) (fin3 g x4) (.br (iN (Le g)==0) (fin3 g x7) (fin3 g x10))) Ln) Ln
theorem ZDj (a:HL Zy):EV1 40 a=Zon a.1 a.2.1 a.2.2:=by kernel_rfl
def Zoj (c:TC) (s:Int) (g:List Int):RT (Option (TY×Bool)):=
 let x1:QT1:=(c,s==5,g,(0,0,0,0,0,0,0,0),[])
 let x2:=qAtC x1 0
 let x3:= !x2||(Zb c.1 (qAt x1 0)).1==44
 let x4:List TY:=[]++[(12,pcOf c,0,6)]++[(5,u16.wrap ((spOf c)-1),u8.wrap (shrI u16 (pcOf c) 8),3)]++[(5,u16.wrap ((spOf c)-2),u8.wrap (pcOf c),3)]
 let x6:QT7:=((pcOf c),0,4)
 let x7:List TY:=[]++[(bif s==5 then 8 else 1,x6)]
 let x9:List TY:=[]++[(1,x6)]
 let x10:QT7:=((pcOf c),0,3)
 let x11:List TY:=(bif s==5 then x9++[(9,x10)] else x9++[(2,u16.wrap ((pcOf c)+u16.wrap 1),0,3)])++[(11,x10)]
 .br (!x3||x2) (.br (x3) (.br (Zf s) (fin3 g x4) (.br (iN (Le g)==0) (fin3 g x7) (fin3 g x11))) Ln) Ln
theorem ZDf (a:HL Zy):EV1 44 a=Zoj a.1 a.2.1 a.2.2:=by kernel_rfl
def ZtQ (c:TC) (s:Int) (g:List Int):RT (Option (TY×Bool)):=
 let x1:List TY:=[(12,pcOf c,0,6)]++[(5,u16.wrap ((spOf c)-1),u8.wrap (shrI u16 (pcOf c) 8),3)]++[(5,u16.wrap ((spOf c)-2),u8.wrap (pcOf c),3)]
 let x3:List TY:=[(bif s==5 then 8 else 1,pcOf c,0,4)]
 .br (Zc s||(!decide (iN (Le g)>0)||(!Ze 0 (Le g)||(Zb c.1 (R.get Ka g 0)).1==1))) (.br (Zc s||(!decide (iN (Le g)>0)||Ze 0 (Le g))) (.br (Zc s) (fin3 g x1) (fin3 g x3)) Ln) Ln
theorem ZJu (a:HL Zy):EV3 1 a=ZtQ a.1 a.2.1 a.2.2:=by kernel_rfl
def ZtM (c:TC) (s:Int) (g:List Int):RT (Option (TY×Bool)):=
 let x1:List TY:=[(bif s==5 then 8 else 1,pcOf c,0,4)]
 let x2:List TY:=[(9,pcOf c,0,3)]
 let x3:List TY:=x1++x2
 let x4:List TY:=[(2,u16.wrap ((pcOf c)+u16.wrap (i64.wrap (1+1))),0,3)]
 let x5:List TY:=bif s==5 then x3++x2 else x3++x4
 let x6:QT4:=(c,s==5,g,x5)
 let x7:= !s==5||Zb3 x6 1
 let x8:List TY:=x1++[(2,u16.wrap ((pcOf c)+u16.wrap 1),0,3)]
 let x9:List TY:=bif s==5 then x8++x2 else x8++x4
 let x10:QT4:=(c,s==5,g,x9)
 let x11:List TY:=[(12,pcOf c,0,6)]++[(5,u16.wrap ((spOf c)-1),u8.wrap (shrI u16 (pcOf c) 8),3)]++[(5,u16.wrap ((spOf c)-2),u8.wrap (pcOf c),3)]
 let x13:List TY:=x5++[(2,Zew x6 1,0,3)]
 let x15:List TY:=x9++[(2,Zew x10 1,0,3)]
 .br (Zc s||(!decide (iN (Le g)>0)||(!Ze 0 (Le g)||(!(Zb c.1 (R.get Ka g 0)).1==5||(!x7||(s==5||Zb3 x10 1)))))) (.br (Zc s||(!decide (iN (Le g)>0)||(!Ze 0 (Le g)||(!(Zb c.1 (R.get Ka g 0)).1==5||x7)))) (.br (Zc s||(!decide (iN (Le g)>0)||(!Ze 0 (Le g)||(Zb c.1 (R.get Ka g 0)).1==5))) (.br (Zc s||(!decide (iN (Le g)>0)||Ze 0 (Le g))) (.br (Zc s) (fin3 g x11) (.br (decide (iN (Le g)>0)) (.br (s==5) (fin3 g x13) (fin3 g x15)) (fin3 g x1))) Ln) Ln) Ln) Ln
theorem ZJq (a:HL Zy):EV3 5 a=ZtM a.1 a.2.1 a.2.2:=by kernel_rfl
def ZtI (c:TC) (s:Int) (g:List Int):RT (Option (TY×Bool)):=
 let x1:List TY:=[(12,pcOf c,0,6)]++[(5,u16.wrap ((spOf c)-1),u8.wrap (shrI u16 (pcOf c) 8),3)]++[(5,u16.wrap ((spOf c)-2),u8.wrap (pcOf c),3)]
 let x3:List TY:=[(bif s==5 then 8 else 1,pcOf c,0,4)]
 let x4:List TY:=x3++[(2,Zab c.2.1 (Zb c.1 (R.get Ka g 0)).2.2.2.2.1,0,3)]
 .br (Zc s||(!decide (iN (Le g)>0)||(!Ze 0 (Le g)||(Zb c.1 (R.get Ka g 0)).1==9))) (.br (Zc s||(!decide (iN (Le g)>0)||Ze 0 (Le g))) (.br (Zc s) (fin3 g x1) (.br (decide (iN (Le g)>0)) (fin3 g x4) (fin3 g x3))) Ln) Ln
theorem ZJm (a:HL Zy):EV3 9 a=ZtI a.1 a.2.1 a.2.2:=by kernel_rfl
def ZnI (c:TC) (s:Int) (g:List Int):RT (Option (TY×Bool)):=
 let x1:List TY:=[(12,pcOf c,0,6)]++[(5,u16.wrap ((spOf c)-1),u8.wrap (shrI u16 (pcOf c) 8),3)]++[(5,u16.wrap ((spOf c)-2),u8.wrap (pcOf c),3)]
 let x3:List TY:=[(bif s==5 then 8 else 1,pcOf c,0,4)]
 let x4:List TY:=x3++[(9,pcOf c,0,3)]
 let x6:List TY:=x3++[(2,u16.wrap ((pcOf c)+u16.wrap 1),0,3)]
 .br (Zc s||(!decide (iN (Le g)>0)||(!Ze 0 (Le g)||(Zb c.1 (R.get Ka g 0)).1==13))) (.br (Zc s||(!decide (iN (Le g)>0)||Ze 0 (Le g))) (.br (Zc s) (fin3 g x1) (.br (decide (iN (Le g)>0)) (.br (s==5) (fin3 g x4) (fin3 g x6)) (fin3 g x3))) Ln) Ln
theorem ZCj (a:HL Zy):EV3 13 a=ZnI a.1 a.2.1 a.2.2:=by kernel_rfl
def ZnE (c:TC) (s:Int) (g:List Int):RT (Option (TY×Bool)):=
 let x1:List TY:=[(12,pcOf c,0,6)]++[(5,u16.wrap ((spOf c)-1),u8.wrap (shrI u16 (pcOf c) 8),3)]++[(5,u16.wrap ((spOf c)-2),u8.wrap (pcOf c),3)]
 let x3:List TY:=[(bif s==5 then 8 else 1,pcOf c,0,4)]
 .br (Zc s||(!decide (iN (Le g)>0)||(!Ze 0 (Le g)||(Zb c.1 (R.get Ka g 0)).1==17))) (.br (Zc s||(!decide (iN (Le g)>0)||Ze 0 (Le g))) (.br (Zc s) (fin3 g x1) (fin3 g x3)) Ln) Ln
theorem ZCf (a:HL Zy):EV3 17 a=ZnE a.1 a.2.1 a.2.2:=by kernel_rfl
def ZnA (c:TC) (s:Int) (g:List Int):RT (Option (TY×Bool)):=
 let x1:List TY:=[(12,pcOf c,0,6)]++[(5,u16.wrap ((spOf c)-1),u8.wrap (shrI u16 (pcOf c) 8),3)]++[(5,u16.wrap ((spOf c)-2),u8.wrap (pcOf c),3)]
 let x3:List TY:=[(bif s==5 then 8 else 1,pcOf c,0,4)]
 .br (Zc s||(!decide (iN (Le g)>0)||(!Ze 0 (Le g)||(Zb c.1 (R.get Ka g 0)).1==21))) (.br (Zc s||(!decide (iN (Le g)>0)||Ze 0 (Le g))) (.br (Zc s) (fin3 g x1) (fin3 g x3)) Ln) Ln
theorem ZCb (a:HL Zy):EV3 21 a=ZnA a.1 a.2.1 a.2.2:=by kernel_rfl
def Znw (c:TC) (s:Int) (g:List Int):RT (Option (TY×Bool)):=
 let x1:=u16.wrap ((spOf c)-1)
 let x2:=u16.wrap ((spOf c)-2)
 let x3:List TY:=[(12,pcOf c,0,6)]++[(5,x1,u8.wrap (shrI u16 (pcOf c) 8),3)]++[(5,x2,u8.wrap (pcOf c),3)]
 let x5:List TY:=[(bif s==5 then 8 else 1,pcOf c,0,4)]
 let x6:List TY:=[(9,pcOf c,0,3)]
 let x7:List TY:=x5++x6
 let x8:QT4:=(c,s==5,g,x7)
 let x9:=Zw x8 (Zb c.1 (R.get Ka g 0)).2.1
 let x10:List TY:=bif Zeq x8 (25,(Zb c.1 (R.get Ka g 0)).2) then x7++[(5,x1,u8.wrap (shrI u16 x9 8),3)]++[(5,x2,u8.wrap x9,3)] else x7
 let x12:List TY:=x5++[(2,u16.wrap ((pcOf c)+u16.wrap 1),0,3)]
 let x13:QT4:=(c,s==5,g,x12)
 let x14:=Zw x13 (Zb c.1 (R.get Ka g 0)).2.1
 let x15:List TY:=bif Zeq x13 (25,(Zb c.1 (R.get Ka g 0)).2) then x12++[(5,x1,u8.wrap (shrI u16 x14 8),3)]++[(5,x2,u8.wrap x14,3)] else x12
 let x17:List TY:=[(2,u16.wrap ((pcOf c)+u16.wrap (i64.wrap (1+1))),0,3)]
 let x18:List TY:=bif s==5 then x7++x6 else x7++x17
 let x19:QT4:=(c,s==5,g,x18)
 let x20:=Zw x19 (Zb c.1 (R.get Ka g 0)).2.1
 let x21:List TY:=bif Zeq x19 (25,(Zb c.1 (R.get Ka g 0)).2) then x18++[(5,x1,u8.wrap (shrI u16 x20 8),3)]++[(5,x2,u8.wrap x20,3)] else x18
 let x23:List TY:=bif s==5 then x12++x6 else x12++x17
 let x24:QT4:=(c,s==5,g,x23)
 let x25:=Zw x24 (Zb c.1 (R.get Ka g 0)).2.1
 let x26:List TY:=bif Zeq x24 (25,(Zb c.1 (R.get Ka g 0)).2) then x23++[(5,x1,u8.wrap (shrI u16 x25 8),3)]++[(5,x2,u8.wrap x25,3)] else x23
 .br (Zc s||(!decide (iN (Le g)>0)||(!Ze 0 (Le g)||(Zb c.1 (R.get Ka g 0)).1==25))) (.br (Zc s||(!decide (iN (Le g)>0)||Ze 0 (Le g))) (.br (Zc s) (fin3 g x3) (.br (decide (iN (Le g)>0)) (.br (rOn c.1&& !Zeq (c,s==5,g,x5) (25,(Zb c.1 (R.get Ka g 0)).2)) (.br (s==5) (fin3 g x10) (fin3 g x15)) (.br (s==5) (fin3 g x21) (fin3 g x26))) (fin3 g x5))) Ln) Ln
theorem ZB7 (a:HL Zy):EV3 25 a=Znw a.1 a.2.1 a.2.2:=by kernel_rfl
def Zns (c:TC) (s:Int) (g:List Int):RT (Option (TY×Bool)):=
 let x1:List TY:=[(12,pcOf c,0,6)]++[(5,u16.wrap ((spOf c)-1),u8.wrap (shrI u16 (pcOf c) 8),3)]++[(5,u16.wrap ((spOf c)-2),u8.wrap (pcOf c),3)]
 let x3:List TY:=[(bif s==5 then 8 else 1,pcOf c,0,4)]
 .br (Zc s||(!decide (iN (Le g)>0)||(!Ze 0 (Le g)||(Zb c.1 (R.get Ka g 0)).1==29))) (.br (Zc s||(!decide (iN (Le g)>0)||Ze 0 (Le g))) (.br (Zc s) (fin3 g x1) (fin3 g x3)) Ln) Ln
theorem ZB3 (a:HL Zy):EV3 29 a=Zns a.1 a.2.1 a.2.2:=by kernel_rfl
def Zno (c:TC) (s:Int) (g:List Int):RT (Option (TY×Bool)):=
 let x1:List TY:=[(bif s==5 then 8 else 1,pcOf c,0,4)]
 let x2:List TY:=x1++[(9,pcOf c,0,3)]
 let x3:QT4:=(c,s==5,g,x2)
 let x4:=mAtC x3 1
 let x5:= !x4||x4
 let x6:= !s==5||(!x5||x4)
 let x7:= !x6
 let x8:= !s==5||x5
 let x9:= !x8
 let x10:List TY:=x1++[(2,u16.wrap ((pcOf c)+u16.wrap 1),0,3)]
 let x11:QT4:=(c,s==5,g,x10)
 let x12:=mAtC x11 1
 let x13:= !x12||x12
 let x14:=s==5||(!x13||x12)
 let x15:List TY:=[(12,pcOf c,0,6)]++[(5,u16.wrap ((spOf c)-1),u8.wrap (shrI u16 (pcOf c) 8),3)]++[(5,u16.wrap ((spOf c)-2),u8.wrap (pcOf c),3)]
 let x17:=mAt x3 1
 let x18:List TY:=x2++[(6,Zcx x17 x17,0,3)]
 let x20:=mAt x11 1
 let x21:List TY:=x10++[(6,Zcx x20 x20,0,3)]
 .br (Zc s||(!decide (iN (Le g)>0)||(!Ze 0 (Le g)||(!(Zb c.1 (R.get Ka g 0)).1==33||(x7||(x9||(!x14||(s==5||x13)))))))) (.br (Zc s||(!decide (iN (Le g)>0)||(!Ze 0 (Le g)||(!(Zb c.1 (R.get Ka g 0)).1==33||(x7||(x9||x14)))))) (.br (Zc s||(!decide (iN (Le g)>0)||(!Ze 0 (Le g)||(!(Zb c.1 (R.get Ka g 0)).1==33||(x7||x8))))) (.br (Zc s||(!decide (iN (Le g)>0)||(!Ze 0 (Le g)||(!(Zb c.1 (R.get Ka g 0)).1==33||x6)))) (.br (Zc s||(!decide (iN (Le g)>0)||(!Ze 0 (Le g)||(Zb c.1 (R.get Ka g 0)).1==33))) (.br (Zc s||(!decide (iN (Le g)>0)||Ze 0 (Le g))) (.br (Zc s) (fin3 g x15) (.br (decide (iN (Le g)>0)) (.br (s==5) (fin3 g x18) (fin3 g x21)) (fin3 g x1))) Ln) Ln) Ln) Ln) Ln) Ln
theorem ZBZ (a:HL Zy):EV3 33 a=Zno a.1 a.2.1 a.2.2:=by kernel_rfl
def Znk (c:TC) (s:Int) (g:List Int):RT (Option (TY×Bool)):=
 let x1:List TY:=[(12,pcOf c,0,6)]++[(5,u16.wrap ((spOf c)-1),u8.wrap (shrI u16 (pcOf c) 8),3)]++[(5,u16.wrap ((spOf c)-2),u8.wrap (pcOf c),3)]
 let x3:List TY:=[(bif s==5 then 8 else 1,pcOf c,0,4)]
 let x4:List TY:=x3++[(10,pcOf c,0,3)]
 let x6:Nat:=Le x3
 let x7:=decide (iN (Le g)>=iN x6)
 let x8:=Ze (iN (Le g)) x6
 let x9:TY×Bool:=(R.get (RY) x3 (iN (Le g)),true)
 .br (Zc s||(!decide (iN (Le g)>0)||(!Ze 0 (Le g)||(Zb c.1 (R.get Ka g 0)).1==37))) (.br (Zc s||(!decide (iN (Le g)>0)||Ze 0 (Le g))) (.br (Zc s) (fin3 g x1) (.br (decide (iN (Le g)>0)) (.br (!rOn c.1) (fin3 g x4) (.br (x7) (Ls (((0,0,0,0),false))) (.br (x8) (Ls (x9)) Ln))) (.br (x7) (Ls (((0,0,0,0),false))) (.br (x8) (Ls (x9)) Ln)))) Ln) Ln
theorem ZBV (a:HL Zy):EV3 37 a=Znk a.1 a.2.1 a.2.2:=by kernel_rfl
def Zng (c:TC) (s:Int) (g:List Int):RT (Option (TY×Bool)):=
 let x1:List TY:=[(12,pcOf c,0,6)]++[(5,u16.wrap ((spOf c)-1),u8.wrap (shrI u16 (pcOf c) 8),3)]++[(5,u16.wrap ((spOf c)-2),u8.wrap (pcOf c),3)]
 let x3:List TY:=[(bif s==5 then 8 else 1,pcOf c,0,4)]
 let x4:List TY:=x3++[(11,pcOf c,0,3)]
 .br (Zc s||(!decide (iN (Le g)>0)||(!Ze 0 (Le g)||(Zb c.1 (R.get Ka g 0)).1==41))) (.br (Zc s||(!decide (iN (Le g)>0)||Ze 0 (Le g))) (.br (Zc s) (fin3 g x1) (.br (decide (iN (Le g)>0)) (fin3 g x4) (fin3 g x3))) Ln) Ln
theorem ZBR (a:HL Zy):EV3 41 a=Zng a.1 a.2.1 a.2.2:=by kernel_rfl
def Znc (c:TC) (s:Int) (g:List Int):RT (Option (TY×Bool)):=
 let x1:=u16.wrap ((spOf c)-1)
 let x2:=u16.wrap ((spOf c)-2)
 let x3:List TY:=[(12,pcOf c,0,6)]++[(5,x1,u8.wrap (shrI u16 (pcOf c) 8),3)]++[(5,x2,u8.wrap (pcOf c),3)]
 let x5:List TY:=[(bif s==5 then 8 else 1,pcOf c,0,4)]
 let x6:QT4:=(c,s==5,g,x5)
 let x7:=Zw x6 (Zb c.1 (R.get Ka g 0)).2.1
 let x8:List TY:=x5++[(5,x1,u8.wrap (shrI u16 x7 8),3)]++[(5,x2,u8.wrap x7,3)]
 let x10:Nat:=Le x5
 let x11:=decide (iN (Le g)>=iN x10)
 let x12:=Ze (iN (Le g)) x10
 let x13:TY×Bool:=(R.get (RY) x5 (iN (Le g)),true)
 .br (Zc s||(!decide (iN (Le g)>0)||(!Ze 0 (Le g)||(Zb c.1 (R.get Ka g 0)).1==45))) (.br (Zc s||(!decide (iN (Le g)>0)||Ze 0 (Le g))) (.br (Zc s) (fin3 g x3) (.br (decide (iN (Le g)>0)) (.br (Zeq x6 (45,(Zb c.1 (R.get Ka g 0)).2)) (fin3 g x8) (.br (x11) (Ls (((0,0,0,0),false))) (.br (x12) (Ls (x13)) Ln))) (.br (x11) (Ls (((0,0,0,0),false))) (.br (x12) (Ls (x13)) Ln)))) Ln) Ln
theorem ZBN (a:HL Zy):EV3 45 a=Znc a.1 a.2.1 a.2.2:=by kernel_rfl
