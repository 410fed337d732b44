import Derived.Test.YtghoimllhpjkjaaGreatS3D
import Derived.Test.YtghoimllhpjkjaaGreatProg
import Derived.Test.YtghoimllhpjkjaaGreatNext0
open Go.Proofs.Tryz (prog)
open Go.IntKind (u8 u16 i64)
set_option linter.unusedSimpArgs false
open Go Go.S3 Go.Proofs
set_option linter.unusedVariables false
set_option maxRecDepth 100000
namespace Go.Proofs.YtghoimllhpjkjaaGreat
noncomputable section
def Zum (c:TC) (s:Int) (g:List Int):RT (Option (TY×Bool)):=
 let x1:QT1:=(c,s==5,g,(0,0,0,0,0,0,0,0),[])
 let x2:=qAtC x1 0
 let x3:= !x2||(Zb c.1 (qAt x1 0)).1==1
 let x4:List TY:=[]++[(12,pcOf c,0,6)]++[(5,u16.wrap ((spOf c)-1),u8.wrap (shrI u16 (pcOf c) 8),3)]++[(5,u16.wrap ((spOf c)-2),u8.wrap (pcOf c),3)]
 let x6:QT7:=((pcOf c),0,4)
 let x7:List TY:=[]++[(bif s==5 then 8 else 1,x6)]
 let x9:List TY:=[]++[(1,x6)]
 .br (!x3||x2) (.br (x3) (.br (Ze s) (fin3 g x4) (.br (iN (List.length g)==0) (fin3 g x7) (fin3 g x9))) (.leaf none)) (.leaf none)
theorem ZJm (a:HL Zl):Zh (envX prog (Z8 1) [] 1125900980585471 8) Tryz.f113 Zl ZH a=Zum a.1 a.2.1 a.2.2:=by kernel_rfl
def Zui (c:TC) (s:Int) (g:List Int):RT (Option (TY×Bool)):=
 let x1:QT1:=(c,s==5,g,(0,0,0,0,0,0,0,0),[])
 let x2:=qAtC x1 0
 let x3:=Zb c.1 (qAt x1 0)
 let x4:= !x2||x3.1==5
 let x5:QT7:=((pcOf c),0,4)
 let x6:List TY:=[]++[(1,x5)]
 let x7:List TY:=[(9,pcOf c,0,3)]
 let x8:List TY:=bif s==5 then x6++x7 else x6++[(2,u16.wrap ((pcOf c)+u16.wrap 1),0,3)]
 let x9:List TY:=bif s==5 then x8++x7 else x8++[(2,u16.wrap ((pcOf c)+u16.wrap (i64.wrap (1+1))),0,3)]
 let x10:QT1:=(c,s==5,g,(5,x3.2),x9)
 let x11:List TY:=[]++[(12,pcOf c,0,6)]++[(5,u16.wrap ((spOf c)-1),u8.wrap (shrI u16 (pcOf c) 8),3)]++[(5,u16.wrap ((spOf c)-2),u8.wrap (pcOf c),3)]
 let x13:List TY:=[]++[(bif s==5 then 8 else 1,x5)]
 let x15:List TY:=x9++[(2,Zgm x10 1,0,3)]
 .br (!x4||x2) (.br (x4) (.br (Ze s||(iN (List.length g)==0||ZcV x10 1)) (.br (Ze s) (fin3 g x11) (.br (iN (List.length g)==0) (fin3 g x13) (fin3 g x15))) (.leaf none)) (.leaf none)) (.leaf none)
theorem ZJi (a:HL Zl):Zh (envX prog (Z8 5) [] 1125900980585471 8) Tryz.f113 Zl ZH a=Zui a.1 a.2.1 a.2.2:=by kernel_rfl
def Zue (c:TC) (s:Int) (g:List Int):RT (Option (TY×Bool)):=
 let x1:QT1:=(c,s==5,g,(0,0,0,0,0,0,0,0),[])
 let x2:=qAtC x1 0
 let x3:=Zb c.1 (qAt x1 0)
 let x4:= !x2||x3.1==9
 let x5:List TY:=[]++[(12,pcOf c,0,6)]++[(5,u16.wrap ((spOf c)-1),u8.wrap (shrI u16 (pcOf c) 8),3)]++[(5,u16.wrap ((spOf c)-2),u8.wrap (pcOf c),3)]
 let x7:QT7:=((pcOf c),0,4)
 let x8:List TY:=[]++[(bif s==5 then 8 else 1,x7)]
 let x10:List TY:=[]++[(1,x7)]
 let x11:=x3.2
 let x12:List TY:=x10++[(2,Zef (c,s==5,g,(9,x11),x10) x11.2.2.2.1,0,3)]
 .br (!x4||x2) (.br (x4) (.br (Ze s) (fin3 g x5) (.br (iN (List.length g)==0) (fin3 g x8) (fin3 g x12))) (.leaf none)) (.leaf none)
theorem ZJe (a:HL Zl):Zh (envX prog (Z8 9) [] 1125900980585471 8) Tryz.f113 Zl ZH a=Zue a.1 a.2.1 a.2.2:=by kernel_rfl
def Zoi (c:TC) (s:Int) (g:List Int):RT (Option (TY×Bool)):=
 let x1:QT1:=(c,s==5,g,(0,0,0,0,0,0,0,0),[])
 let x2:=qAtC x1 0
 let x3:= !x2||(Zb c.1 (qAt x1 0)).1==13
 let x4:List TY:=[]++[(12,pcOf c,0,6)]++[(5,u16.wrap ((spOf c)-1),u8.wrap (shrI u16 (pcOf c) 8),3)]++[(5,u16.wrap ((spOf c)-2),u8.wrap (pcOf c),3)]
 let x6:QT7:=((pcOf c),0,4)
 let x7:List TY:=[]++[(bif s==5 then 8 else 1,x6)]
 let x9:List TY:=[]++[(1,x6)]
 let x10:List TY:=bif s==5 then x9++[(9,pcOf c,0,3)] else x9++[(2,u16.wrap ((pcOf c)+u16.wrap 1),0,3)]
 .br (!x3||x2) (.br (x3) (.br (Ze s) (fin3 g x4) (.br (iN (List.length g)==0) (fin3 g x7) (fin3 g x10))) (.leaf none)) (.leaf none)
theorem ZCw (a:HL Zl):Zh (envX prog (Z8 13) [] 1125900980585471 8) Tryz.f113 Zl ZH a=Zoi a.1 a.2.1 a.2.2:=by kernel_rfl
def Zoe (c:TC) (s:Int) (g:List Int):RT (Option (TY×Bool)):=
 let x1:QT1:=(c,s==5,g,(0,0,0,0,0,0,0,0),[])
 let x2:=qAtC x1 0
 let x3:= !x2||(Zb c.1 (qAt x1 0)).1==17
 let x4:List TY:=[]++[(12,pcOf c,0,6)]++[(5,u16.wrap ((spOf c)-1),u8.wrap (shrI u16 (pcOf c) 8),3)]++[(5,u16.wrap ((spOf c)-2),u8.wrap (pcOf c),3)]
 let x6:QT7:=((pcOf c),0,4)
 let x7:List TY:=[]++[(bif s==5 then 8 else 1,x6)]
 let x9:List TY:=[]++[(1,x6)]
 .br (!x3||x2) (.br (x3) (.br (Ze s) (fin3 g x4) (.br (iN (List.length g)==0) (fin3 g x7) (fin3 g x9))) (.leaf none)) (.leaf none)
theorem ZCs (a:HL Zl):Zh (envX prog (Z8 17) [] 1125900980585471 8) Tryz.f113 Zl ZH a=Zoe a.1 a.2.1 a.2.2:=by kernel_rfl
def Zoa (c:TC) (s:Int) (g:List Int):RT (Option (TY×Bool)):=
 let x1:QT1:=(c,s==5,g,(0,0,0,0,0,0,0,0),[])
 let x2:=qAtC x1 0
 let x3:= !x2||(Zb c.1 (qAt x1 0)).1==21
 let x4:List TY:=[]++[(12,pcOf c,0,6)]++[(5,u16.wrap ((spOf c)-1),u8.wrap (shrI u16 (pcOf c) 8),3)]++[(5,u16.wrap ((spOf c)-2),u8.wrap (pcOf c),3)]
 let x6:QT7:=((pcOf c),0,4)
 let x7:List TY:=[]++[(bif s==5 then 8 else 1,x6)]
 let x9:List TY:=[]++[(1,x6)]
 .br (!x3||x2) (.br (x3) (.br (Ze s) (fin3 g x4) (.br (iN (List.length g)==0) (fin3 g x7) (fin3 g x9))) (.leaf none)) (.leaf none)
theorem ZCo (a:HL Zl):Zh (envX prog (Z8 21) [] 1125900980585471 8) Tryz.f113 Zl ZH a=Zoa a.1 a.2.1 a.2.2:=by kernel_rfl
def Zn6 (c:TC) (s:Int) (g:List Int):RT (Option (TY×Bool)):=
 let x1:QT1:=(c,s==5,g,(0,0,0,0,0,0,0,0),[])
 let x2:=qAtC x1 0
 let x3:=Zb c.1 (qAt x1 0)
 let x4:= !x2||x3.1==25
 let x5:=u16.wrap ((spOf c)-1)
 let x6:=u16.wrap ((spOf c)-2)
 let x7:List TY:=[]++[(12,pcOf c,0,6)]++[(5,x5,u8.wrap (shrI u16 (pcOf c) 8),3)]++[(5,x6,u8.wrap (pcOf c),3)]
 let x9:QT7:=((pcOf c),0,4)
 let x10:List TY:=[]++[(bif s==5 then 8 else 1,x9)]
 let x12:QT6:=(25,x3.2)
 let x13:List TY:=[]++[(1,x9)]
 let x14:=Zhq (c,s==5,g,x12,x13)
 let x15:List TY:=[(9,pcOf c,0,3)]
 let x16:List TY:=bif s==5 then x13++x15 else x13++[(2,u16.wrap ((pcOf c)+u16.wrap 1),0,3)]
 let x17:List TY:=bif !x14&&c.1==2 then x16 else bif s==5 then x16++x15 else x16++[(2,u16.wrap ((pcOf c)+u16.wrap (i64.wrap (1+1))),0,3)]
 let x18:=ZE (c,s==5,g,x12,x17)
 let x19:List TY:=bif x14 then x17++[(5,x5,u8.wrap (shrI u16 x18 8),3)]++[(5,x6,u8.wrap x18,3)] else x17
 .br (!x4||x2) (.br (x4) (.br (Ze s) (fin3 g x7) (.br (iN (List.length g)==0) (fin3 g x10) (fin3 g x19))) (.leaf none)) (.leaf none)
theorem ZCk (a:HL Zl):Zh (envX prog (Z8 25) [] 1125900980585471 8) Tryz.f113 Zl ZH a=Zn6 a.1 a.2.1 a.2.2:=by kernel_rfl
def Zn2 (c:TC) (s:Int) (g:List Int):RT (Option (TY×Bool)):=
 let x1:QT1:=(c,s==5,g,(0,0,0,0,0,0,0,0),[])
 let x2:=qAtC x1 0
 let x3:= !x2||(Zb c.1 (qAt x1 0)).1==29
 let x4:List TY:=[]++[(12,pcOf c,0,6)]++[(5,u16.wrap ((spOf c)-1),u8.wrap (shrI u16 (pcOf c) 8),3)]++[(5,u16.wrap ((spOf c)-2),u8.wrap (pcOf c),3)]
 let x6:QT7:=((pcOf c),0,4)
 let x7:List TY:=[]++[(bif s==5 then 8 else 1,x6)]
 let x9:List TY:=[]++[(1,x6)]
 .br (!x3||x2) (.br (x3) (.br (Ze s) (fin3 g x4) (.br (iN (List.length g)==0) (fin3 g x7) (fin3 g x9))) (.leaf none)) (.leaf none)
theorem ZCg (a:HL Zl):Zh (envX prog (Z8 29) [] 1125900980585471 8) Tryz.f113 Zl ZH a=Zn2 a.1 a.2.1 a.2.2:=by kernel_rfl
def ZnY (c:TC) (s:Int) (g:List Int):RT (Option (TY×Bool)):=
 let x1:QT1:=(c,s==5,g,(0,0,0,0,0,0,0,0),[])
 let x2:=qAtC x1 0
 let x3:=Zb c.1 (qAt x1 0)
 let x4:= !x2||x3.1==33
 let x5:QT7:=((pcOf c),0,4)
 let x6:List TY:=[]++[(1,x5)]
 let x7:List TY:=bif s==5 then x6++[(9,pcOf c,0,3)] else x6++[(2,u16.wrap ((pcOf c)+u16.wrap 1),0,3)]
 let x8:QT1:=(c,s==5,g,(33,x3.2),x7)
 let x9:=qAtC x8 1
 let x10:= !x9||x9
 let x11:= !x10||x9
 let x12:=Ze s||(iN (List.length g)==0||(!x11||x10))
 let x13:List TY:=[]++[(12,pcOf c,0,6)]++[(5,u16.wrap ((spOf c)-1),u8.wrap (shrI u16 (pcOf c) 8),3)]++[(5,u16.wrap ((spOf c)-2),u8.wrap (pcOf c),3)]
 let x15:List TY:=[]++[(bif s==5 then 8 else 1,x5)]
 let x17:=qAt x8 1
 let x18:List TY:=x7++[(6,ZcS x17 x17,0,3)]
 .br (!x4||x2) (.br (x4) (.br (!x12||(Ze s||(iN (List.length g)==0||x11))) (.br (x12) (.br (Ze s) (fin3 g x13) (.br (iN (List.length g)==0) (fin3 g x15) (fin3 g x18))) (.leaf none)) (.leaf none)) (.leaf none)) (.leaf none)
theorem ZCc (a:HL Zl):Zh (envX prog (Z8 33) [] 1125900980585471 8) Tryz.f113 Zl ZH a=ZnY a.1 a.2.1 a.2.2:=by kernel_rfl
def ZnU (c:TC) (s:Int) (g:List Int):RT (Option (TY×Bool)):=
 let x1:QT1:=(c,s==5,g,(0,0,0,0,0,0,0,0),[])
 let x2:=qAtC x1 0
 let x3:= !x2||(Zb c.1 (qAt x1 0)).1==37
 let x4:List TY:=[]++[(12,pcOf c,0,6)]++[(5,u16.wrap ((spOf c)-1),u8.wrap (shrI u16 (pcOf c) 8),3)]++[(5,u16.wrap ((spOf c)-2),u8.wrap (pcOf c),3)]
 let x6:QT7:=((pcOf c),0,4)
 let x7:List TY:=[]++[(bif s==5 then 8 else 1,x6)]
 let x9:List TY:=[]++[(1,x6)]
 let x10:List TY:=bif c.1 !=2 then x9++[(10,pcOf c,0,3)] else x9
 .br (!x3||x2) (.br (x3) (.br (Ze s) (fin3 g x4) (.br (iN (List.length g)==0) (fin3 g x7) (fin3 g x10))) (.leaf none)) (.leaf none)
theorem ZB8 (a:HL Zl):Zh (envX prog (Z8 37) [] 1125900980585471 8) Tryz.f113 Zl ZH a=ZnU a.1 a.2.1 a.2.2:=by kernel_rfl
def ZnQ (c:TC) (s:Int) (g:List Int):RT (Option (TY×Bool)):=
 let x1:QT1:=(c,s==5,g,(0,0,0,0,0,0,0,0),[])
 let x2:=qAtC x1 0
 let x3:= !x2||(Zb c.1 (qAt x1 0)).1==41
 let x4:List TY:=[]++[(12,pcOf c,0,6)]++[(5,u16.wrap ((spOf c)-1),u8.wrap (shrI u16 (pcOf c) 8),3)]++[(5,u16.wrap ((spOf c)-2),u8.wrap (pcOf c),3)]
 let x6:QT7:=((pcOf c),0,4)
 let x7:List TY:=[]++[(bif s==5 then 8 else 1,x6)]
 let x9:List TY:=[]++[(1,x6)]++[(11,pcOf c,0,3)]
 .br (!x3||x2) (.br (x3) (.br (Ze s) (fin3 g x4) (.br (iN (List.length g)==0) (fin3 g x7) (fin3 g x9))) (.leaf none)) (.leaf none)
theorem ZB4 (a:HL Zl):Zh (envX prog (Z8 41) [] 1125900980585471 8) Tryz.f113 Zl ZH a=ZnQ a.1 a.2.1 a.2.2:=by kernel_rfl
def ZnM (c:TC) (s:Int) (g:List Int):RT (Option (TY×Bool)):=
 let x1:QT1:=(c,s==5,g,(0,0,0,0,0,0,0,0),[])
 let x2:=qAtC x1 0
 let x3:=Zb c.1 (qAt x1 0)
 let x4:= !x2||x3.1==45
 let x5:=u16.wrap ((spOf c)-1)
 let x6:=u16.wrap ((spOf c)-2)
 let x7:List TY:=[]++[(12,pcOf c,0,6)]++[(5,x5,u8.wrap (shrI u16 (pcOf c) 8),3)]++[(5,x6,u8.wrap (pcOf c),3)]
 let x9:QT7:=((pcOf c),0,4)
 let x10:List TY:=[]++[(bif s==5 then 8 else 1,x9)]
 let x12:List TY:=[]++[(1,x9)]
 let x13:QT1:=(c,s==5,g,(45,x3.2),x12)
 let x14:=ZE x13
 let x15:List TY:=bif Zhq x13 then x12++[(5,x5,u8.wrap (shrI u16 x14 8),3)]++[(5,x6,u8.wrap x14,3)] else x12
 .br (!x4||x2) (.br (x4) (.br (Ze s) (fin3 g x7) (.br (iN (List.length g)==0) (fin3 g x10) (fin3 g x15))) (.leaf none)) (.leaf none)
theorem ZB0 (a:HL Zl):Zh (envX prog (Z8 45) [] 1125900980585471 8) Tryz.f113 Zl ZH a=ZnM a.1 a.2.1 a.2.2:=by kernel_rfl
def ZsY (c:TC) (s:Int) (g:List Int):RT (Option (TY×Bool)):=
 let x1:List TY:=[(12,pcOf c,0,6)]++[(5,u16.wrap ((spOf c)-1),u8.wrap (shrI u16 (pcOf c) 8),3)]++[(5,u16.wrap ((spOf c)-2),u8.wrap (pcOf c),3)]
 let x3:List TY:=[(bif s==5 then 8 else 1,pcOf c,0,4)]
 let x4:List TY:=x3++[(2,Zan c.2.1 2,0,3)]
 let x6:List TY:=x3++[(3,Zan c.2.1 2,rGet c.2.1 (Zb c.1 (R.get (R.int u8) g 0)).2.2.2.1,3)]
 let x8:Nat:=List.length x3
 let x9:=decide (iN (List.length g)>=iN x8)
 let x10:=Zf (iN (List.length g)) x8
 let x11:TY×Bool:=(R.get (RY) x3 (iN (List.length g)),true)
 .br (Zc s||(!decide (iN (List.length g)>0)||(!Zf 0 (List.length g)||(Zb c.1 (R.get (R.int u8) g 0)).1==2))) (.br (Zc s||(!decide (iN (List.length g)>0)||Zf 0 (List.length g))) (.br (Zc s) (fin3 g x1) (.br (decide (iN (List.length g)>0)) (.br ((Zb c.1 (R.get (R.int u8) g 0)).2.2.2.1==6) (fin3 g x4) (.br ((Zb c.1 (R.get (R.int u8) g 0)).2.2.1==6) (fin3 g x6) (.br (x9) (.leaf (some (((0,0,0,0),false)))) (.br (x10) (.leaf (some (x11))) (.leaf none))))) (.br (x9) (.leaf (some (((0,0,0,0),false)))) (.br (x10) (.leaf (some (x11))) (.leaf none))))) (.leaf none)) (.leaf none)
theorem ZId (a:HL Zk):Zh (envX prog (Z6 2) [] 2047 8) Tryz.f42 Zk ZG a=ZsY a.1 a.2.1 a.2.2:=by kernel_rfl
def ZsU (c:TC) (s:Int) (g:List Int):RT (Option (TY×Bool)):=
 let x1:List TY:=[(bif s==5 then 8 else 1,pcOf c,0,4)]
 let x2:List TY:=[(9,pcOf c,0,3)]
 let x3:List TY:=x1++x2
 let x4:List TY:=[(2,u16.wrap ((pcOf c)+u16.wrap (i64.wrap (1+1))),0,3)]
 let x5:List TY:=bif s==5 then x3++x2 else x3++x4
 let x6:QT3:=(c,s==5,g,x5)
 let x7:= !s==5||Zcm x6 1
 let x8:List TY:=x1++[(2,u16.wrap ((pcOf c)+u16.wrap 1),0,3)]
 let x9:List TY:=bif s==5 then x8++x2 else x8++x4
 let x10:QT3:=(c,s==5,g,x9)
 let x11:List TY:=[(12,pcOf c,0,6)]++[(5,u16.wrap ((spOf c)-1),u8.wrap (shrI u16 (pcOf c) 8),3)]++[(5,u16.wrap ((spOf c)-2),u8.wrap (pcOf c),3)]
 let x13:List TY:=x5++[(3,ZeN x6 1,c.2.1.1,3)]
 let x15:List TY:=x9++[(3,ZeN x10 1,c.2.1.1,3)]
 .br (Zc s||(!decide (iN (List.length g)>0)||(!Zf 0 (List.length g)||(!(Zb c.1 (R.get (R.int u8) g 0)).1==6||(!x7||(s==5||Zcm x10 1)))))) (.br (Zc s||(!decide (iN (List.length g)>0)||(!Zf 0 (List.length g)||(!(Zb c.1 (R.get (R.int u8) g 0)).1==6||x7)))) (.br (Zc s||(!decide (iN (List.length g)>0)||(!Zf 0 (List.length g)||(Zb c.1 (R.get (R.int u8) g 0)).1==6))) (.br (Zc s||(!decide (iN (List.length g)>0)||Zf 0 (List.length g))) (.br (Zc s) (fin3 g x11) (.br (decide (iN (List.length g)>0)) (.br (s==5) (fin3 g x13) (fin3 g x15)) (fin3 g x1))) (.leaf none)) (.leaf none)) (.leaf none)) (.leaf none)
theorem ZH9 (a:HL Zk):Zh (envX prog (Z6 6) [] 2047 8) Tryz.f42 Zk ZG a=ZsU a.1 a.2.1 a.2.2:=by kernel_rfl
def Znd (c:TC) (s:Int) (g:List Int):RT (Option (TY×Bool)):=
 let x1:List TY:=[(12,pcOf c,0,6)]++[(5,u16.wrap ((spOf c)-1),u8.wrap (shrI u16 (pcOf c) 8),3)]++[(5,u16.wrap ((spOf c)-2),u8.wrap (pcOf c),3)]
 let x3:List TY:=[(bif s==5 then 8 else 1,pcOf c,0,4)]
 let x4:List TY:=x3++[(3,Zan c.2.1 (Zb c.1 (R.get (R.int u8) g 0)).2.2.2.2.1,c.2.1.1,3)]
 .br (Zc s||(!decide (iN (List.length g)>0)||(!Zf 0 (List.length g)||(Zb c.1 (R.get (R.int u8) g 0)).1==10))) (.br (Zc s||(!decide (iN (List.length g)>0)||Zf 0 (List.length g))) (.br (Zc s) (fin3 g x1) (.br (decide (iN (List.length g)>0)) (fin3 g x4) (fin3 g x3))) (.leaf none)) (.leaf none)
theorem ZA9 (a:HL Zk):Zh (envX prog (Z6 10) [] 2047 8) Tryz.f42 Zk ZG a=Znd a.1 a.2.1 a.2.2:=by kernel_rfl
def Zm9 (c:TC) (s:Int) (g:List Int):RT (Option (TY×Bool)):=
 let x1:List TY:=[(bif s==5 then 8 else 1,pcOf c,0,4)]
 let x2:QT3:=(c,s==5,g,x1)
 let x3:List TY:=[(12,pcOf c,0,6)]++[(5,u16.wrap ((spOf c)-1),u8.wrap (shrI u16 (pcOf c) 8),3)]++[(5,u16.wrap ((spOf c)-2),u8.wrap (pcOf c),3)]
 let x5:List TY:=x1++[(2,Zan c.2.1 2,0,3)]++[(3,Zan c.2.1 2,(ZgV c (14,(Zb c.1 (R.get (R.int u8) g 0)).2) (mAt x2 1)).1,3)]
 let x7:Nat:=List.length x1
 let x8:=decide (iN (List.length g)>=iN x7)
 let x9:=Zf (iN (List.length g)) x7
 let x10:TY×Bool:=(R.get (RY) x1 (iN (List.length g)),true)
 .br (Zc s||(!decide (iN (List.length g)>0)||(!Zf 0 (List.length g)||(!(Zb c.1 (R.get (R.int u8) g 0)).1==14||(!(Zb c.1 (R.get (R.int u8) g 0)).2.2.1==6||mAtC x2 1))))) (.br (Zc s||(!decide (iN (List.length g)>0)||(!Zf 0 (List.length g)||(Zb c.1 (R.get (R.int u8) g 0)).1==14))) (.br (Zc s||(!decide (iN (List.length g)>0)||Zf 0 (List.length g))) (.br (Zc s) (fin3 g x3) (.br (decide (iN (List.length g)>0)) (.br ((Zb c.1 (R.get (R.int u8) g 0)).2.2.1==6) (fin3 g x5) (.br (x8) (.leaf (some (((0,0,0,0),false)))) (.br (x9) (.leaf (some (x10))) (.leaf none)))) (.br (x8) (.leaf (some (((0,0,0,0),false)))) (.br (x9) (.leaf (some (x10))) (.leaf none))))) (.leaf none)) (.leaf none)) (.leaf none)
theorem ZA5 (a:HL Zk):Zh (envX prog (Z6 14) [] 2047 8) Tryz.f42 Zk ZG a=Zm9 a.1 a.2.1 a.2.2:=by kernel_rfl
def Zm5 (c:TC) (s:Int) (g:List Int):RT (Option (TY×Bool)):=
 let x1:List TY:=[(12,pcOf c,0,6)]++[(5,u16.wrap ((spOf c)-1),u8.wrap (shrI u16 (pcOf c) 8),3)]++[(5,u16.wrap ((spOf c)-2),u8.wrap (pcOf c),3)]
 let x3:List TY:=[(bif s==5 then 8 else 1,pcOf c,0,4)]
 let x4:List TY:=[(11,pcOf c,0,3)]
 let x5:List TY:=x3++x4++x4
 .br (Zc s||(!decide (iN (List.length g)>0)||(!Zf 0 (List.length g)||(Zb c.1 (R.get (R.int u8) g 0)).1==18))) (.br (Zc s||(!decide (iN (List.length g)>0)||Zf 0 (List.length g))) (.br (Zc s) (fin3 g x1) (.br (decide (iN (List.length g)>0)) (fin3 g x5) (fin3 g x3))) (.leaf none)) (.leaf none)
theorem ZA1 (a:HL Zk):Zh (envX prog (Z6 18) [] 2047 8) Tryz.f42 Zk ZG a=Zm5 a.1 a.2.1 a.2.2:=by kernel_rfl
def Zm1 (c:TC) (s:Int) (g:List Int):RT (Option (TY×Bool)):=
 let x1:List TY:=[(12,pcOf c,0,6)]++[(5,u16.wrap ((spOf c)-1),u8.wrap (shrI u16 (pcOf c) 8),3)]++[(5,u16.wrap ((spOf c)-2),u8.wrap (pcOf c),3)]
 let x3:List TY:=[(bif s==5 then 8 else 1,pcOf c,0,4)]
 .br (Zc s||(!decide (iN (List.length g)>0)||(!Zf 0 (List.length g)||(Zb c.1 (R.get (R.int u8) g 0)).1==22))) (.br (Zc s||(!decide (iN (List.length g)>0)||Zf 0 (List.length g))) (.br (Zc s) (fin3 g x1) (fin3 g x3)) (.leaf none)) (.leaf none)
theorem ZAX (a:HL Zk):Zh (envX prog (Z6 22) [] 2047 8) Tryz.f42 Zk ZG a=Zm1 a.1 a.2.1 a.2.2:=by kernel_rfl
def ZmX (c:TC) (s:Int) (g:List Int):RT (Option (TY×Bool)):=
 let x1:List TY:=[(12,pcOf c,0,6)]++[(5,u16.wrap ((spOf c)-1),u8.wrap (shrI u16 (pcOf c) 8),3)]++[(5,u16.wrap ((spOf c)-2),u8.wrap (pcOf c),3)]
 let x3:List TY:=[(bif s==5 then 8 else 1,pcOf c,0,4)]
 let x4:List TY:=x3++[(4,spOf c,0,3)]++[(4,u16.wrap ((spOf c)+1),0,3)]
 let x6:Nat:=List.length x3
 let x7:=decide (iN (List.length g)>=iN x6)
 let x8:=Zf (iN (List.length g)) x6
 let x9:TY×Bool:=(R.get (RY) x3 (iN (List.length g)),true)
 .br (Zc s||(!decide (iN (List.length g)>0)||(!Zf 0 (List.length g)||(Zb c.1 (R.get (R.int u8) g 0)).1==26))) (.br (Zc s||(!decide (iN (List.length g)>0)||Zf 0 (List.length g))) (.br (Zc s) (fin3 g x1) (.br (decide (iN (List.length g)>0)) (.br (ZeH (c,s==5,g,x3) (26,(Zb c.1 (R.get (R.int u8) g 0)).2)) (fin3 g x4) (.br (x7) (.leaf (some (((0,0,0,0),false)))) (.br (x8) (.leaf (some (x9))) (.leaf none)))) (.br (x7) (.leaf (some (((0,0,0,0),false)))) (.br (x8) (.leaf (some (x9))) (.leaf none))))) (.leaf none)) (.leaf none)
theorem ZAT (a:HL Zk):Zh (envX prog (Z6 26) [] 2047 8) Tryz.f42 Zk ZG a=ZmX a.1 a.2.1 a.2.2:=by kernel_rfl
def ZmT (c:TC) (s:Int) (g:List Int):RT (Option (TY×Bool)):=
 let x1:=u16.wrap ((spOf c)-1)
 let x2:=u16.wrap ((spOf c)-2)
 let x3:List TY:=[(12,pcOf c,0,6)]++[(5,x1,u8.wrap (shrI u16 (pcOf c) 8),3)]++[(5,x2,u8.wrap (pcOf c),3)]
 let x5:List TY:=[(bif s==5 then 8 else 1,pcOf c,0,4)]
 let x6:Int:=bif (Zb c.1 (R.get (R.int u8) g 0)).2.2.2.2.1==3 then rPSW c.1 c.2.1 else Zan c.2.1 (Zb c.1 (R.get (R.int u8) g 0)).2.2.2.2.1
 let x7:List TY:=x5++[(5,x1,u8.wrap (shrI u16 x6 8),3)]++[(5,x2,u8.wrap x6,3)]
 .br (Zc s||(!decide (iN (List.length g)>0)||(!Zf 0 (List.length g)||(Zb c.1 (R.get (R.int u8) g 0)).1==30))) (.br (Zc s||(!decide (iN (List.length g)>0)||Zf 0 (List.length g))) (.br (Zc s) (fin3 g x3) (.br (decide (iN (List.length g)>0)) (fin3 g x7) (fin3 g x5))) (.leaf none)) (.leaf none)
theorem ZAP (a:HL Zk):Zh (envX prog (Z6 30) [] 2047 8) Tryz.f42 Zk ZG a=ZmT a.1 a.2.1 a.2.2:=by kernel_rfl
def ZmP (c:TC) (s:Int) (g:List Int):RT (Option (TY×Bool)):=
 let x1:List TY:=[(bif s==5 then 8 else 1,pcOf c,0,4)]
 let x2:List TY:=x1++[(9,pcOf c,0,3)]
 let x3:QT3:=(c,s==5,g,x2)
 let x4:=mAtC x3 1
 let x5:= !x4||x4
 let x6:= !s==5||(!x5||x4)
 let x7:= !x6
 let x8:= !s==5||x5
 let x9:= !x8
 let x10:List TY:=x1++[(2,u16.wrap ((pcOf c)+u16.wrap 1),0,3)]
 let x11:QT3:=(c,s==5,g,x10)
 let x12:=mAtC x11 1
 let x13:= !x12||x12
 let x14:=s==5||(!x13||x12)
 let x15:List TY:=[(12,pcOf c,0,6)]++[(5,u16.wrap ((spOf c)-1),u8.wrap (shrI u16 (pcOf c) 8),3)]++[(5,u16.wrap ((spOf c)-2),u8.wrap (pcOf c),3)]
 let x17:=mAt x3 1
 let x18:List TY:=x2++[(7,ZcS x17 x17,c.2.1.1,3)]
 let x20:=mAt x11 1
 let x21:List TY:=x10++[(7,ZcS x20 x20,c.2.1.1,3)]
 .br (Zc s||(!decide (iN (List.length g)>0)||(!Zf 0 (List.length g)||(!(Zb c.1 (R.get (R.int u8) g 0)).1==34||(x7||(x9||(!x14||(s==5||x13)))))))) (.br (Zc s||(!decide (iN (List.length g)>0)||(!Zf 0 (List.length g)||(!(Zb c.1 (R.get (R.int u8) g 0)).1==34||(x7||(x9||x14)))))) (.br (Zc s||(!decide (iN (List.length g)>0)||(!Zf 0 (List.length g)||(!(Zb c.1 (R.get (R.int u8) g 0)).1==34||(x7||x8))))) (.br (Zc s||(!decide (iN (List.length g)>0)||(!Zf 0 (List.length g)||(!(Zb c.1 (R.get (R.int u8) g 0)).1==34||x6)))) (.br (Zc s||(!decide (iN (List.length g)>0)||(!Zf 0 (List.length g)||(Zb c.1 (R.get (R.int u8) g 0)).1==34))) (.br (Zc s||(!decide (iN (List.length g)>0)||Zf 0 (List.length g))) (.br (Zc s) (fin3 g x15) (.br (decide (iN (List.length g)>0)) (.br (s==5) (fin3 g x18) (fin3 g x21)) (fin3 g x1))) (.leaf none)) (.leaf none)) (.leaf none)) (.leaf none)) (.leaf none)) (.leaf none)
theorem ZAL (a:HL Zk):Zh (envX prog (Z6 34) [] 2047 8) Tryz.f42 Zk ZG a=ZmP a.1 a.2.1 a.2.2:=by kernel_rfl
def ZmL (c:TC) (s:Int) (g:List Int):RT (Option (TY×Bool)):=
 let x1:List TY:=[(12,pcOf c,0,6)]++[(5,u16.wrap ((spOf c)-1),u8.wrap (shrI u16 (pcOf c) 8),3)]++[(5,u16.wrap ((spOf c)-2),u8.wrap (pcOf c),3)]
 let x3:List TY:=[(bif s==5 then 8 else 1,pcOf c,0,4)]
 .br (Zc s||(!decide (iN (List.length g)>0)||(!Zf 0 (List.length g)||(Zb c.1 (R.get (R.int u8) g 0)).1==38))) (.br (Zc s||(!decide (iN (List.length g)>0)||Zf 0 (List.length g))) (.br (Zc s) (fin3 g x1) (fin3 g x3)) (.leaf none)) (.leaf none)
theorem ZAH (a:HL Zk):Zh (envX prog (Z6 38) [] 2047 8) Tryz.f42 Zk ZG a=ZmL a.1 a.2.1 a.2.2:=by kernel_rfl
def ZmH (c:TC) (s:Int) (g:List Int):RT (Option (TY×Bool)):=
 let x1:List TY:=[(12,pcOf c,0,6)]++[(5,u16.wrap ((spOf c)-1),u8.wrap (shrI u16 (pcOf c) 8),3)]++[(5,u16.wrap ((spOf c)-2),u8.wrap (pcOf c),3)]
 let x3:List TY:=[(bif s==5 then 8 else 1,pcOf c,0,4)]
 let x4:List TY:=[(11,pcOf c,0,3)]
 let x5:List TY:=x3++x4++x4
 .br (Zc s||(!decide (iN (List.length g)>0)||(!Zf 0 (List.length g)||(Zb c.1 (R.get (R.int u8) g 0)).1==42))) (.br (Zc s||(!decide (iN (List.length g)>0)||Zf 0 (List.length g))) (.br (Zc s) (fin3 g x1) (.br (decide (iN (List.length g)>0)) (fin3 g x5) (fin3 g x3))) (.leaf none)) (.leaf none)
theorem ZAD (a:HL Zk):Zh (envX prog (Z6 42) [] 2047 8) Tryz.f42 Zk ZG a=ZmH a.1 a.2.1 a.2.2:=by kernel_rfl
def ZmD (c:TC) (s:Int) (g:List Int):RT (Option (TY×Bool)):=
 let x1:List TY:=[(12,pcOf c,0,6)]++[(5,u16.wrap ((spOf c)-1),u8.wrap (shrI u16 (pcOf c) 8),3)]++[(5,u16.wrap ((spOf c)-2),u8.wrap (pcOf c),3)]
 let x3:List TY:=[(bif s==5 then 8 else 1,pcOf c,0,4)]
 let x4:List TY:=x3++[(3,Zan c.2.1 1,c.2.1.2.2.2.2.2.2.1,3)]++[(3,u16.wrap (Zan c.2.1 1+1),c.2.1.2.2.2.2.2.1,3)]
 .br (Zc s||(!decide (iN (List.length g)>0)||(!Zf 0 (List.length g)||(Zb c.1 (R.get (R.int u8) g 0)).1==46))) (.br (Zc s||(!decide (iN (List.length g)>0)||Zf 0 (List.length g))) (.br (Zc s) (fin3 g x1) (.br (decide (iN (List.length g)>0)) (fin3 g x4) (fin3 g x3))) (.leaf none)) (.leaf none)
theorem ZAz (a:HL Zk):Zh (envX prog (Z6 46) [] 2047 8) Tryz.f42 Zk ZG a=ZmD a.1 a.2.1 a.2.2:=by kernel_rfl
end
end Go.Proofs.YtghoimllhpjkjaaGreat
