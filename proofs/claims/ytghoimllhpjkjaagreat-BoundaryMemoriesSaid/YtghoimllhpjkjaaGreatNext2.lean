import Derived.Test.YtghoimllhpjkjaaGreatS3D
import Derived.Test.YtghoimllhpjkjaaGreatProg
import Derived.Test.YtghoimllhpjkjaaGreatNext0
open Go.Proofs.Tryz (prog)
open Go.IntKind (u8 u16 i64)
set_option linter.unusedSimpArgs false
open Go Go.S3 Go.Proofs
set_option linter.unusedVariables false
set_option maxRecDepth 100000
namespace Go.Proofs.YtghoimllhpjkjaaGreat
noncomputable section
def Zul (c:TC) (s:Int) (g:List Int):RT (Option (TY×Bool)):=
 let x1:QT1:=(c,s==5,g,(0,0,0,0,0,0,0,0),[])
 let x2:=qAtC x1 0
 let x3:=Zb c.1 (qAt x1 0)
 let x4:= !x2||x3.1==2
 let x5:List TY:=[]++[(12,pcOf c,0,6)]++[(5,u16.wrap ((spOf c)-1),u8.wrap (shrI u16 (pcOf c) 8),3)]++[(5,u16.wrap ((spOf c)-2),u8.wrap (pcOf c),3)]
 let x7:QT7:=((pcOf c),0,4)
 let x8:List TY:=[]++[(bif s==5 then 8 else 1,x7)]
 let x10:=x3.2
 let x11:=x10.2
 let x12:=x11.2.1
 let x13:List TY:=[]++[(1,x7)]
 let x14:QT1:=(c,s==5,g,(2,x10),x13)
 let x15:=Zef x14 2
 let x16:List TY:=bif x12==6 then x13++[(2,x15,0,3)] else bif x11.1==6 then x13++[(3,x15,qReg x14 x12,3)] else x13
 .br (!x4||x2) (.br (x4) (.br (Ze s) (fin3 g x5) (.br (iN (List.length g)==0) (fin3 g x8) (fin3 g x16))) (.leaf none)) (.leaf none)
theorem ZJl (a:HL Zl):Zh (envX prog (Z8 2) [] 1125900980585471 8) Tryz.f113 Zl ZH a=Zul a.1 a.2.1 a.2.2:=by kernel_rfl
def Zuh (c:TC) (s:Int) (g:List Int):RT (Option (TY×Bool)):=
 let x1:QT1:=(c,s==5,g,(0,0,0,0,0,0,0,0),[])
 let x2:=qAtC x1 0
 let x3:=Zb c.1 (qAt x1 0)
 let x4:= !x2||x3.1==6
 let x5:QT7:=((pcOf c),0,4)
 let x6:List TY:=[]++[(1,x5)]
 let x7:List TY:=[(9,pcOf c,0,3)]
 let x8:List TY:=bif s==5 then x6++x7 else x6++[(2,u16.wrap ((pcOf c)+u16.wrap 1),0,3)]
 let x9:List TY:=bif s==5 then x8++x7 else x8++[(2,u16.wrap ((pcOf c)+u16.wrap (i64.wrap (1+1))),0,3)]
 let x10:QT1:=(c,s==5,g,(6,x3.2),x9)
 let x11:List TY:=[]++[(12,pcOf c,0,6)]++[(5,u16.wrap ((spOf c)-1),u8.wrap (shrI u16 (pcOf c) 8),3)]++[(5,u16.wrap ((spOf c)-2),u8.wrap (pcOf c),3)]
 let x13:List TY:=[]++[(bif s==5 then 8 else 1,x5)]
 let x15:List TY:=x9++[(3,Zgm x10 1,c.2.1.1,3)]
 .br (!x4||x2) (.br (x4) (.br (Ze s||(iN (List.length g)==0||ZcV x10 1)) (.br (Ze s) (fin3 g x11) (.br (iN (List.length g)==0) (fin3 g x13) (fin3 g x15))) (.leaf none)) (.leaf none)) (.leaf none)
theorem ZJh (a:HL Zl):Zh (envX prog (Z8 6) [] 1125900980585471 8) Tryz.f113 Zl ZH a=Zuh a.1 a.2.1 a.2.2:=by kernel_rfl
def Zol (c:TC) (s:Int) (g:List Int):RT (Option (TY×Bool)):=
 let x1:QT1:=(c,s==5,g,(0,0,0,0,0,0,0,0),[])
 let x2:=qAtC x1 0
 let x3:=Zb c.1 (qAt x1 0)
 let x4:= !x2||x3.1==10
 let x5:List TY:=[]++[(12,pcOf c,0,6)]++[(5,u16.wrap ((spOf c)-1),u8.wrap (shrI u16 (pcOf c) 8),3)]++[(5,u16.wrap ((spOf c)-2),u8.wrap (pcOf c),3)]
 let x7:QT7:=((pcOf c),0,4)
 let x8:List TY:=[]++[(bif s==5 then 8 else 1,x7)]
 let x10:List TY:=[]++[(1,x7)]
 let x11:=x3.2
 let x12:List TY:=x10++[(3,Zef (c,s==5,g,(10,x11),x10) x11.2.2.2.1,c.2.1.1,3)]
 .br (!x4||x2) (.br (x4) (.br (Ze s) (fin3 g x5) (.br (iN (List.length g)==0) (fin3 g x8) (fin3 g x12))) (.leaf none)) (.leaf none)
theorem ZCz (a:HL Zl):Zh (envX prog (Z8 10) [] 1125900980585471 8) Tryz.f113 Zl ZH a=Zol a.1 a.2.1 a.2.2:=by kernel_rfl
def Zoh (c:TC) (s:Int) (g:List Int):RT (Option (TY×Bool)):=
 let x1:QT1:=(c,s==5,g,(0,0,0,0,0,0,0,0),[])
 let x2:=qAtC x1 0
 let x3:=Zb c.1 (qAt x1 0)
 let x4:= !x2||x3.1==14
 let x5:=x3.2
 let x6:=x5.2.1==6
 let x7:QT6:=(14,x5)
 let x8:QT7:=((pcOf c),0,4)
 let x9:List TY:=[]++[(1,x8)]
 let x10:=Zef (c,s==5,g,x7,x9) 2
 let x11:List TY:=x9++[(2,x10,0,3)]
 let x12:QT1:=(c,s==5,g,x7,x11)
 let x13:List TY:=[]++[(12,pcOf c,0,6)]++[(5,u16.wrap ((spOf c)-1),u8.wrap (shrI u16 (pcOf c) 8),3)]++[(5,u16.wrap ((spOf c)-2),u8.wrap (pcOf c),3)]
 let x15:List TY:=[]++[(bif s==5 then 8 else 1,x8)]
 let x17:List TY:=bif x6 then x11++[(3,x10,ZiC x12,3)] else x9
 .br (!x4||x2) (.br (x4) (.br (Ze s||(iN (List.length g)==0||(!x6||Zgn x12))) (.br (Ze s) (fin3 g x13) (.br (iN (List.length g)==0) (fin3 g x15) (fin3 g x17))) (.leaf none)) (.leaf none)) (.leaf none)
theorem ZCv (a:HL Zl):Zh (envX prog (Z8 14) [] 1125900980585471 8) Tryz.f113 Zl ZH a=Zoh a.1 a.2.1 a.2.2:=by kernel_rfl
def Zod (c:TC) (s:Int) (g:List Int):RT (Option (TY×Bool)):=
 let x1:QT1:=(c,s==5,g,(0,0,0,0,0,0,0,0),[])
 let x2:=qAtC x1 0
 let x3:= !x2||(Zb c.1 (qAt x1 0)).1==18
 let x4:List TY:=[]++[(12,pcOf c,0,6)]++[(5,u16.wrap ((spOf c)-1),u8.wrap (shrI u16 (pcOf c) 8),3)]++[(5,u16.wrap ((spOf c)-2),u8.wrap (pcOf c),3)]
 let x6:QT7:=((pcOf c),0,4)
 let x7:List TY:=[]++[(bif s==5 then 8 else 1,x6)]
 let x9:List TY:=[(11,pcOf c,0,3)]
 let x10:List TY:=[]++[(1,x6)]++x9++x9
 .br (!x3||x2) (.br (x3) (.br (Ze s) (fin3 g x4) (.br (iN (List.length g)==0) (fin3 g x7) (fin3 g x10))) (.leaf none)) (.leaf none)
theorem ZCr (a:HL Zl):Zh (envX prog (Z8 18) [] 1125900980585471 8) Tryz.f113 Zl ZH a=Zod a.1 a.2.1 a.2.2:=by kernel_rfl
def Zn9 (c:TC) (s:Int) (g:List Int):RT (Option (TY×Bool)):=
 let x1:QT1:=(c,s==5,g,(0,0,0,0,0,0,0,0),[])
 let x2:=qAtC x1 0
 let x3:= !x2||(Zb c.1 (qAt x1 0)).1==22
 let x4:List TY:=[]++[(12,pcOf c,0,6)]++[(5,u16.wrap ((spOf c)-1),u8.wrap (shrI u16 (pcOf c) 8),3)]++[(5,u16.wrap ((spOf c)-2),u8.wrap (pcOf c),3)]
 let x6:QT7:=((pcOf c),0,4)
 let x7:List TY:=[]++[(bif s==5 then 8 else 1,x6)]
 let x9:List TY:=[]++[(1,x6)]
 .br (!x3||x2) (.br (x3) (.br (Ze s) (fin3 g x4) (.br (iN (List.length g)==0) (fin3 g x7) (fin3 g x9))) (.leaf none)) (.leaf none)
theorem ZCn (a:HL Zl):Zh (envX prog (Z8 22) [] 1125900980585471 8) Tryz.f113 Zl ZH a=Zn9 a.1 a.2.1 a.2.2:=by kernel_rfl
def Zn5 (c:TC) (s:Int) (g:List Int):RT (Option (TY×Bool)):=
 let x1:QT1:=(c,s==5,g,(0,0,0,0,0,0,0,0),[])
 let x2:=qAtC x1 0
 let x3:=Zb c.1 (qAt x1 0)
 let x4:= !x2||x3.1==26
 let x5:List TY:=[]++[(12,pcOf c,0,6)]++[(5,u16.wrap ((spOf c)-1),u8.wrap (shrI u16 (pcOf c) 8),3)]++[(5,u16.wrap ((spOf c)-2),u8.wrap (pcOf c),3)]
 let x7:QT7:=((pcOf c),0,4)
 let x8:List TY:=[]++[(bif s==5 then 8 else 1,x7)]
 let x10:List TY:=[]++[(1,x7)]
 let x11:List TY:=bif Zhq (c,s==5,g,(26,x3.2),x10) then x10++[(4,spOf c,0,3)]++[(4,u16.wrap ((spOf c)+1),0,3)] else x10
 .br (!x4||x2) (.br (x4) (.br (Ze s) (fin3 g x5) (.br (iN (List.length g)==0) (fin3 g x8) (fin3 g x11))) (.leaf none)) (.leaf none)
theorem ZCj (a:HL Zl):Zh (envX prog (Z8 26) [] 1125900980585471 8) Tryz.f113 Zl ZH a=Zn5 a.1 a.2.1 a.2.2:=by kernel_rfl
def Zn1 (c:TC) (s:Int) (g:List Int):RT (Option (TY×Bool)):=
 let x1:QT1:=(c,s==5,g,(0,0,0,0,0,0,0,0),[])
 let x2:=qAtC x1 0
 let x3:=Zb c.1 (qAt x1 0)
 let x4:= !x2||x3.1==30
 let x5:=u16.wrap ((spOf c)-1)
 let x6:=u16.wrap ((spOf c)-2)
 let x7:List TY:=[]++[(12,pcOf c,0,6)]++[(5,x5,u8.wrap (shrI u16 (pcOf c) 8),3)]++[(5,x6,u8.wrap (pcOf c),3)]
 let x9:QT7:=((pcOf c),0,4)
 let x10:List TY:=[]++[(bif s==5 then 8 else 1,x9)]
 let x12:List TY:=[]++[(1,x9)]
 let x13:=x3.2
 let x14:=x13.2.2.2.1
 let x15:Int:=bif x14==3 then rPSW c.1 c.2.1 else Zef (c,s==5,g,(30,x13),x12) x14
 let x16:List TY:=x12++[(5,x5,u8.wrap (shrI u16 x15 8),3)]++[(5,x6,u8.wrap x15,3)]
 .br (!x4||x2) (.br (x4) (.br (Ze s) (fin3 g x7) (.br (iN (List.length g)==0) (fin3 g x10) (fin3 g x16))) (.leaf none)) (.leaf none)
theorem ZCf (a:HL Zl):Zh (envX prog (Z8 30) [] 1125900980585471 8) Tryz.f113 Zl ZH a=Zn1 a.1 a.2.1 a.2.2:=by kernel_rfl
def ZnX (c:TC) (s:Int) (g:List Int):RT (Option (TY×Bool)):=
 let x1:QT1:=(c,s==5,g,(0,0,0,0,0,0,0,0),[])
 let x2:=qAtC x1 0
 let x3:=Zb c.1 (qAt x1 0)
 let x4:= !x2||x3.1==34
 let x5:QT7:=((pcOf c),0,4)
 let x6:List TY:=[]++[(1,x5)]
 let x7:List TY:=bif s==5 then x6++[(9,pcOf c,0,3)] else x6++[(2,u16.wrap ((pcOf c)+u16.wrap 1),0,3)]
 let x8:QT1:=(c,s==5,g,(34,x3.2),x7)
 let x9:=qAtC x8 1
 let x10:= !x9||x9
 let x11:= !x10||x9
 let x12:=Ze s||(iN (List.length g)==0||(!x11||x10))
 let x13:List TY:=[]++[(12,pcOf c,0,6)]++[(5,u16.wrap ((spOf c)-1),u8.wrap (shrI u16 (pcOf c) 8),3)]++[(5,u16.wrap ((spOf c)-2),u8.wrap (pcOf c),3)]
 let x15:List TY:=[]++[(bif s==5 then 8 else 1,x5)]
 let x17:=qAt x8 1
 let x18:List TY:=x7++[(7,ZcS x17 x17,c.2.1.1,3)]
 .br (!x4||x2) (.br (x4) (.br (!x12||(Ze s||(iN (List.length g)==0||x11))) (.br (x12) (.br (Ze s) (fin3 g x13) (.br (iN (List.length g)==0) (fin3 g x15) (fin3 g x18))) (.leaf none)) (.leaf none)) (.leaf none)) (.leaf none)
theorem ZCb (a:HL Zl):Zh (envX prog (Z8 34) [] 1125900980585471 8) Tryz.f113 Zl ZH a=ZnX a.1 a.2.1 a.2.2:=by kernel_rfl
def ZnT (c:TC) (s:Int) (g:List Int):RT (Option (TY×Bool)):=
 let x1:QT1:=(c,s==5,g,(0,0,0,0,0,0,0,0),[])
 let x2:=qAtC x1 0
 let x3:= !x2||(Zb c.1 (qAt x1 0)).1==38
 let x4:List TY:=[]++[(12,pcOf c,0,6)]++[(5,u16.wrap ((spOf c)-1),u8.wrap (shrI u16 (pcOf c) 8),3)]++[(5,u16.wrap ((spOf c)-2),u8.wrap (pcOf c),3)]
 let x6:QT7:=((pcOf c),0,4)
 let x7:List TY:=[]++[(bif s==5 then 8 else 1,x6)]
 let x9:List TY:=[]++[(1,x6)]
 .br (!x3||x2) (.br (x3) (.br (Ze s) (fin3 g x4) (.br (iN (List.length g)==0) (fin3 g x7) (fin3 g x9))) (.leaf none)) (.leaf none)
theorem ZB7 (a:HL Zl):Zh (envX prog (Z8 38) [] 1125900980585471 8) Tryz.f113 Zl ZH a=ZnT a.1 a.2.1 a.2.2:=by kernel_rfl
def ZnP (c:TC) (s:Int) (g:List Int):RT (Option (TY×Bool)):=
 let x1:QT1:=(c,s==5,g,(0,0,0,0,0,0,0,0),[])
 let x2:=qAtC x1 0
 let x3:= !x2||(Zb c.1 (qAt x1 0)).1==42
 let x4:List TY:=[]++[(12,pcOf c,0,6)]++[(5,u16.wrap ((spOf c)-1),u8.wrap (shrI u16 (pcOf c) 8),3)]++[(5,u16.wrap ((spOf c)-2),u8.wrap (pcOf c),3)]
 let x6:QT7:=((pcOf c),0,4)
 let x7:List TY:=[]++[(bif s==5 then 8 else 1,x6)]
 let x9:List TY:=[(11,pcOf c,0,3)]
 let x10:List TY:=[]++[(1,x6)]++x9++x9
 .br (!x3||x2) (.br (x3) (.br (Ze s) (fin3 g x4) (.br (iN (List.length g)==0) (fin3 g x7) (fin3 g x10))) (.leaf none)) (.leaf none)
theorem ZB3 (a:HL Zl):Zh (envX prog (Z8 42) [] 1125900980585471 8) Tryz.f113 Zl ZH a=ZnP a.1 a.2.1 a.2.2:=by kernel_rfl
def ZnL (c:TC) (s:Int) (g:List Int):RT (Option (TY×Bool)):=
 let x1:QT1:=(c,s==5,g,(0,0,0,0,0,0,0,0),[])
 let x2:=qAtC x1 0
 let x3:=Zb c.1 (qAt x1 0)
 let x4:= !x2||x3.1==46
 let x5:List TY:=[]++[(12,pcOf c,0,6)]++[(5,u16.wrap ((spOf c)-1),u8.wrap (shrI u16 (pcOf c) 8),3)]++[(5,u16.wrap ((spOf c)-2),u8.wrap (pcOf c),3)]
 let x7:QT7:=((pcOf c),0,4)
 let x8:List TY:=[]++[(bif s==5 then 8 else 1,x7)]
 let x10:List TY:=[]++[(1,x7)]
 let x11:=Zef (c,s==5,g,(46,x3.2),x10) 1
 let x12:List TY:=x10++[(3,x11,c.2.1.2.2.2.2.2.2.1,3)]++[(3,u16.wrap (x11+1),c.2.1.2.2.2.2.2.1,3)]
 .br (!x4||x2) (.br (x4) (.br (Ze s) (fin3 g x5) (.br (iN (List.length g)==0) (fin3 g x8) (fin3 g x12))) (.leaf none)) (.leaf none)
theorem ZBZ (a:HL Zl):Zh (envX prog (Z8 46) [] 1125900980585471 8) Tryz.f113 Zl ZH a=ZnL a.1 a.2.1 a.2.2:=by kernel_rfl
def ZsX (c:TC) (s:Int) (g:List Int):RT (Option (TY×Bool)):=
 let x1:= !(Zb c.1 (R.get (R.int u8) g 0)).2.2.1==6
 let x2:List TY:=[(bif s==5 then 8 else 1,pcOf c,0,4)]
 let x3:List TY:=x2++[(9,pcOf c,0,3)]
 let x4:QT3:=(c,s==5,g,x3)
 let x5:= !s==5||(x1||mAtC x4 1)
 let x6:List TY:=x2++[(2,u16.wrap ((pcOf c)+u16.wrap 1),0,3)]
 let x7:QT3:=(c,s==5,g,x6)
 let x8:List TY:=[(12,pcOf c,0,6)]++[(5,u16.wrap ((spOf c)-1),u8.wrap (shrI u16 (pcOf c) 8),3)]++[(5,u16.wrap ((spOf c)-2),u8.wrap (pcOf c),3)]
 let x10:List TY:=bif (Zb c.1 (R.get (R.int u8) g 0)).2.2.1==6 then x3++[(3,Zan c.2.1 2,mAt x4 1,3)] else x3
 let x12:List TY:=bif (Zb c.1 (R.get (R.int u8) g 0)).2.2.1==6 then x6++[(3,Zan c.2.1 2,mAt x7 1,3)] else x6
 .br (Zc s||(!decide (iN (List.length g)>0)||(!Zf 0 (List.length g)||(!(Zb c.1 (R.get (R.int u8) g 0)).1==3||(!x5||(s==5||(x1||mAtC x7 1))))))) (.br (Zc s||(!decide (iN (List.length g)>0)||(!Zf 0 (List.length g)||(!(Zb c.1 (R.get (R.int u8) g 0)).1==3||x5)))) (.br (Zc s||(!decide (iN (List.length g)>0)||(!Zf 0 (List.length g)||(Zb c.1 (R.get (R.int u8) g 0)).1==3))) (.br (Zc s||(!decide (iN (List.length g)>0)||Zf 0 (List.length g))) (.br (Zc s) (fin3 g x8) (.br (decide (iN (List.length g)>0)) (.br (s==5) (fin3 g x10) (fin3 g x12)) (fin3 g x2))) (.leaf none)) (.leaf none)) (.leaf none)) (.leaf none)
theorem ZIc (a:HL Zk):Zh (envX prog (Z6 3) [] 2047 8) Tryz.f42 Zk ZG a=ZsX a.1 a.2.1 a.2.2:=by kernel_rfl
def ZsT (c:TC) (s:Int) (g:List Int):RT (Option (TY×Bool)):=
 let x1:List TY:=[(bif s==5 then 8 else 1,pcOf c,0,4)]
 let x2:List TY:=[(9,pcOf c,0,3)]
 let x3:List TY:=x1++x2
 let x4:List TY:=[(2,u16.wrap ((pcOf c)+u16.wrap (i64.wrap (1+1))),0,3)]
 let x5:List TY:=bif s==5 then x3++x2 else x3++x4
 let x6:QT3:=(c,s==5,g,x5)
 let x7:=Zcm x6 1
 let x8:List TY:=x5++[(2,ZeN x6 1,0,3)]
 let x9:QT3:=(c,s==5,g,x8)
 let x10:= !s==5||(!x7||Zcm x9 1)
 let x11:= !x10
 let x12:= !s==5||x7
 let x13:= !x12
 let x14:List TY:=x1++[(2,u16.wrap ((pcOf c)+u16.wrap 1),0,3)]
 let x15:List TY:=bif s==5 then x14++x2 else x14++x4
 let x16:QT3:=(c,s==5,g,x15)
 let x17:=Zcm x16 1
 let x18:List TY:=x15++[(2,ZeN x16 1,0,3)]
 let x19:QT3:=(c,s==5,g,x18)
 let x20:=s==5||(!x17||Zcm x19 1)
 let x21:List TY:=[(12,pcOf c,0,6)]++[(5,u16.wrap ((spOf c)-1),u8.wrap (shrI u16 (pcOf c) 8),3)]++[(5,u16.wrap ((spOf c)-2),u8.wrap (pcOf c),3)]
 let x23:List TY:=x8++[(2,u16.wrap (ZeN x9 1+1),0,3)]
 let x25:List TY:=x18++[(2,u16.wrap (ZeN x19 1+1),0,3)]
 .br (Zc s||(!decide (iN (List.length g)>0)||(!Zf 0 (List.length g)||(!(Zb c.1 (R.get (R.int u8) g 0)).1==7||(x11||(x13||(!x20||(s==5||x17)))))))) (.br (Zc s||(!decide (iN (List.length g)>0)||(!Zf 0 (List.length g)||(!(Zb c.1 (R.get (R.int u8) g 0)).1==7||(x11||(x13||x20)))))) (.br (Zc s||(!decide (iN (List.length g)>0)||(!Zf 0 (List.length g)||(!(Zb c.1 (R.get (R.int u8) g 0)).1==7||(x11||x12))))) (.br (Zc s||(!decide (iN (List.length g)>0)||(!Zf 0 (List.length g)||(!(Zb c.1 (R.get (R.int u8) g 0)).1==7||x10)))) (.br (Zc s||(!decide (iN (List.length g)>0)||(!Zf 0 (List.length g)||(Zb c.1 (R.get (R.int u8) g 0)).1==7))) (.br (Zc s||(!decide (iN (List.length g)>0)||Zf 0 (List.length g))) (.br (Zc s) (fin3 g x21) (.br (decide (iN (List.length g)>0)) (.br (s==5) (fin3 g x23) (fin3 g x25)) (fin3 g x1))) (.leaf none)) (.leaf none)) (.leaf none)) (.leaf none)) (.leaf none)) (.leaf none)
theorem ZH8 (a:HL Zk):Zh (envX prog (Z6 7) [] 2047 8) Tryz.f42 Zk ZG a=ZsT a.1 a.2.1 a.2.2:=by kernel_rfl
def Znc (c:TC) (s:Int) (g:List Int):RT (Option (TY×Bool)):=
 let x1:List TY:=[(12,pcOf c,0,6)]++[(5,u16.wrap ((spOf c)-1),u8.wrap (shrI u16 (pcOf c) 8),3)]++[(5,u16.wrap ((spOf c)-2),u8.wrap (pcOf c),3)]
 let x3:List TY:=[(bif s==5 then 8 else 1,pcOf c,0,4)]
 .br (Zc s||(!decide (iN (List.length g)>0)||(!Zf 0 (List.length g)||(Zb c.1 (R.get (R.int u8) g 0)).1==11))) (.br (Zc s||(!decide (iN (List.length g)>0)||Zf 0 (List.length g))) (.br (Zc s) (fin3 g x1) (fin3 g x3)) (.leaf none)) (.leaf none)
theorem ZA8 (a:HL Zk):Zh (envX prog (Z6 11) [] 2047 8) Tryz.f42 Zk ZG a=Znc a.1 a.2.1 a.2.2:=by kernel_rfl
def Zm8 (c:TC) (s:Int) (g:List Int):RT (Option (TY×Bool)):=
 let x1:List TY:=[(bif s==5 then 8 else 1,pcOf c,0,4)]
 let x2:QT3:=(c,s==5,g,x1)
 let x3:List TY:=[(12,pcOf c,0,6)]++[(5,u16.wrap ((spOf c)-1),u8.wrap (shrI u16 (pcOf c) 8),3)]++[(5,u16.wrap ((spOf c)-2),u8.wrap (pcOf c),3)]
 let x5:List TY:=x1++[(2,Zan c.2.1 2,0,3)]++[(3,Zan c.2.1 2,(ZgV c (15,(Zb c.1 (R.get (R.int u8) g 0)).2) (mAt x2 1)).1,3)]
 let x7:Nat:=List.length x1
 let x8:=decide (iN (List.length g)>=iN x7)
 let x9:=Zf (iN (List.length g)) x7
 let x10:TY×Bool:=(R.get (RY) x1 (iN (List.length g)),true)
 .br (Zc s||(!decide (iN (List.length g)>0)||(!Zf 0 (List.length g)||(!(Zb c.1 (R.get (R.int u8) g 0)).1==15||(!(Zb c.1 (R.get (R.int u8) g 0)).2.2.1==6||mAtC x2 1))))) (.br (Zc s||(!decide (iN (List.length g)>0)||(!Zf 0 (List.length g)||(Zb c.1 (R.get (R.int u8) g 0)).1==15))) (.br (Zc s||(!decide (iN (List.length g)>0)||Zf 0 (List.length g))) (.br (Zc s) (fin3 g x3) (.br (decide (iN (List.length g)>0)) (.br ((Zb c.1 (R.get (R.int u8) g 0)).2.2.1==6) (fin3 g x5) (.br (x8) (.leaf (some (((0,0,0,0),false)))) (.br (x9) (.leaf (some (x10))) (.leaf none)))) (.br (x8) (.leaf (some (((0,0,0,0),false)))) (.br (x9) (.leaf (some (x10))) (.leaf none))))) (.leaf none)) (.leaf none)) (.leaf none)
theorem ZA4 (a:HL Zk):Zh (envX prog (Z6 15) [] 2047 8) Tryz.f42 Zk ZG a=Zm8 a.1 a.2.1 a.2.2:=by kernel_rfl
def Zm4 (c:TC) (s:Int) (g:List Int):RT (Option (TY×Bool)):=
 let x1:List TY:=[(12,pcOf c,0,6)]++[(5,u16.wrap ((spOf c)-1),u8.wrap (shrI u16 (pcOf c) 8),3)]++[(5,u16.wrap ((spOf c)-2),u8.wrap (pcOf c),3)]
 let x3:List TY:=[(bif s==5 then 8 else 1,pcOf c,0,4)]
 .br (Zc s||(!decide (iN (List.length g)>0)||(!Zf 0 (List.length g)||(Zb c.1 (R.get (R.int u8) g 0)).1==19))) (.br (Zc s||(!decide (iN (List.length g)>0)||Zf 0 (List.length g))) (.br (Zc s) (fin3 g x1) (fin3 g x3)) (.leaf none)) (.leaf none)
theorem ZA0 (a:HL Zk):Zh (envX prog (Z6 19) [] 2047 8) Tryz.f42 Zk ZG a=Zm4 a.1 a.2.1 a.2.2:=by kernel_rfl
def Zm0 (c:TC) (s:Int) (g:List Int):RT (Option (TY×Bool)):=
 let x1:List TY:=[(12,pcOf c,0,6)]++[(5,u16.wrap ((spOf c)-1),u8.wrap (shrI u16 (pcOf c) 8),3)]++[(5,u16.wrap ((spOf c)-2),u8.wrap (pcOf c),3)]
 let x3:List TY:=[(bif s==5 then 8 else 1,pcOf c,0,4)]
 .br (Zc s||(!decide (iN (List.length g)>0)||(!Zf 0 (List.length g)||(Zb c.1 (R.get (R.int u8) g 0)).1==23))) (.br (Zc s||(!decide (iN (List.length g)>0)||Zf 0 (List.length g))) (.br (Zc s) (fin3 g x1) (fin3 g x3)) (.leaf none)) (.leaf none)
theorem ZAW (a:HL Zk):Zh (envX prog (Z6 23) [] 2047 8) Tryz.f42 Zk ZG a=Zm0 a.1 a.2.1 a.2.2:=by kernel_rfl
def ZmW (c:TC) (s:Int) (g:List Int):RT (Option (TY×Bool)):=
 let x1:=u16.wrap ((spOf c)-1)
 let x2:=u16.wrap ((spOf c)-2)
 let x3:List TY:=[(12,pcOf c,0,6)]++[(5,x1,u8.wrap (shrI u16 (pcOf c) 8),3)]++[(5,x2,u8.wrap (pcOf c),3)]
 let x5:List TY:=[(bif s==5 then 8 else 1,pcOf c,0,4)]
 let x6:=ZC (c,s==5,g,x5) (Zb c.1 (R.get (R.int u8) g 0)).2.1
 let x7:List TY:=x5++[(5,x1,u8.wrap (shrI u16 x6 8),3)]++[(5,x2,u8.wrap x6,3)]
 .br (Zc s||(!decide (iN (List.length g)>0)||(!Zf 0 (List.length g)||(Zb c.1 (R.get (R.int u8) g 0)).1==27))) (.br (Zc s||(!decide (iN (List.length g)>0)||Zf 0 (List.length g))) (.br (Zc s) (fin3 g x3) (.br (decide (iN (List.length g)>0)) (fin3 g x7) (fin3 g x5))) (.leaf none)) (.leaf none)
theorem ZAS (a:HL Zk):Zh (envX prog (Z6 27) [] 2047 8) Tryz.f42 Zk ZG a=ZmW a.1 a.2.1 a.2.2:=by kernel_rfl
def ZmS (c:TC) (s:Int) (g:List Int):RT (Option (TY×Bool)):=
 let x1:List TY:=[(12,pcOf c,0,6)]++[(5,u16.wrap ((spOf c)-1),u8.wrap (shrI u16 (pcOf c) 8),3)]++[(5,u16.wrap ((spOf c)-2),u8.wrap (pcOf c),3)]
 let x3:List TY:=[(bif s==5 then 8 else 1,pcOf c,0,4)]
 let x4:List TY:=x3++[(4,spOf c,0,3)]++[(4,u16.wrap ((spOf c)+1),0,3)]
 .br (Zc s||(!decide (iN (List.length g)>0)||(!Zf 0 (List.length g)||(Zb c.1 (R.get (R.int u8) g 0)).1==31))) (.br (Zc s||(!decide (iN (List.length g)>0)||Zf 0 (List.length g))) (.br (Zc s) (fin3 g x1) (.br (decide (iN (List.length g)>0)) (fin3 g x4) (fin3 g x3))) (.leaf none)) (.leaf none)
theorem ZAO (a:HL Zk):Zh (envX prog (Z6 31) [] 2047 8) Tryz.f42 Zk ZG a=ZmS a.1 a.2.1 a.2.2:=by kernel_rfl
def ZmO (c:TC) (s:Int) (g:List Int):RT (Option (TY×Bool)):=
 let x1:List TY:=[(12,pcOf c,0,6)]++[(5,u16.wrap ((spOf c)-1),u8.wrap (shrI u16 (pcOf c) 8),3)]++[(5,u16.wrap ((spOf c)-2),u8.wrap (pcOf c),3)]
 let x3:List TY:=[(bif s==5 then 8 else 1,pcOf c,0,4)]
 .br (Zc s||(!decide (iN (List.length g)>0)||(!Zf 0 (List.length g)||(Zb c.1 (R.get (R.int u8) g 0)).1==35))) (.br (Zc s||(!decide (iN (List.length g)>0)||Zf 0 (List.length g))) (.br (Zc s) (fin3 g x1) (fin3 g x3)) (.leaf none)) (.leaf none)
theorem ZAK (a:HL Zk):Zh (envX prog (Z6 35) [] 2047 8) Tryz.f42 Zk ZG a=ZmO a.1 a.2.1 a.2.2:=by kernel_rfl
def ZmK (c:TC) (s:Int) (g:List Int):RT (Option (TY×Bool)):=
 let x1:List TY:=[(12,pcOf c,0,6)]++[(5,u16.wrap ((spOf c)-1),u8.wrap (shrI u16 (pcOf c) 8),3)]++[(5,u16.wrap ((spOf c)-2),u8.wrap (pcOf c),3)]
 let x3:List TY:=[(bif s==5 then 8 else 1,pcOf c,0,4)]
 .br (Zc s||(!decide (iN (List.length g)>0)||(!Zf 0 (List.length g)||(Zb c.1 (R.get (R.int u8) g 0)).1==39))) (.br (Zc s||(!decide (iN (List.length g)>0)||Zf 0 (List.length g))) (.br (Zc s) (fin3 g x1) (fin3 g x3)) (.leaf none)) (.leaf none)
theorem ZAG (a:HL Zk):Zh (envX prog (Z6 39) [] 2047 8) Tryz.f42 Zk ZG a=ZmK a.1 a.2.1 a.2.2:=by kernel_rfl
def ZmG (c:TC) (s:Int) (g:List Int):RT (Option (TY×Bool)):=
 let x1:List TY:=[(12,pcOf c,0,6)]++[(5,u16.wrap ((spOf c)-1),u8.wrap (shrI u16 (pcOf c) 8),3)]++[(5,u16.wrap ((spOf c)-2),u8.wrap (pcOf c),3)]
 let x3:List TY:=[(bif s==5 then 8 else 1,pcOf c,0,4)]
 let x4:QT7:=((pcOf c),0,3)
 let x5:List TY:=[(11,x4)]
 let x6:List TY:=x3++[(9,x4)]++x5
 let x8:List TY:=x3++[(2,u16.wrap ((pcOf c)+u16.wrap 1),0,3)]++x5
 .br (Zc s||(!decide (iN (List.length g)>0)||(!Zf 0 (List.length g)||(Zb c.1 (R.get (R.int u8) g 0)).1==43))) (.br (Zc s||(!decide (iN (List.length g)>0)||Zf 0 (List.length g))) (.br (Zc s) (fin3 g x1) (.br (decide (iN (List.length g)>0)) (.br (s==5) (fin3 g x6) (fin3 g x8)) (fin3 g x3))) (.leaf none)) (.leaf none)
theorem ZAC (a:HL Zk):Zh (envX prog (Z6 43) [] 2047 8) Tryz.f42 Zk ZG a=ZmG a.1 a.2.1 a.2.2:=by kernel_rfl
def ZmC (c:TC) (s:Int) (g:List Int):RT (Option (TY×Bool)):=
 let x1:List TY:=[(12,pcOf c,0,6)]++[(5,u16.wrap ((spOf c)-1),u8.wrap (shrI u16 (pcOf c) 8),3)]++[(5,u16.wrap ((spOf c)-2),u8.wrap (pcOf c),3)]
 let x3:List TY:=[(bif s==5 then 8 else 1,pcOf c,0,4)]
 let x4:List TY:=x3++[(2,Zan c.2.1 1,0,3)]++[(2,u16.wrap (Zan c.2.1 1+1),0,3)]
 .br (Zc s||(!decide (iN (List.length g)>0)||(!Zf 0 (List.length g)||(Zb c.1 (R.get (R.int u8) g 0)).1==47))) (.br (Zc s||(!decide (iN (List.length g)>0)||Zf 0 (List.length g))) (.br (Zc s) (fin3 g x1) (.br (decide (iN (List.length g)>0)) (fin3 g x4) (fin3 g x3))) (.leaf none)) (.leaf none)
theorem ZAy (a:HL Zk):Zh (envX prog (Z6 47) [] 2047 8) Tryz.f42 Zk ZG a=ZmC a.1 a.2.1 a.2.2:=by kernel_rfl
end
end Go.Proofs.YtghoimllhpjkjaaGreat
