import Derived.Test.YtghoimllhpjkjaaGreatS3D
import Derived.Test.YtghoimllhpjkjaaGreatProg
import Derived.Test.YtghoimllhpjkjaaGreatNext0
open Go.Proofs.Tryz (prog)
open Go.IntKind (u8 u16 i64)
set_option linter.unusedSimpArgs false
open Go Go.S3 Go.Proofs
set_option linter.unusedVariables false
set_option maxRecDepth 100000
namespace Go.Proofs.YtghoimllhpjkjaaGreat
noncomputable section
def ZuM (c:TC) (s:Int) (g:List Int):RT (Option (TY×Bool)):=
 let x1:QT1:=(c,s==5,g,(0,0,0,0,0,0,0,0),[])
 let x2:=qAtC x1 0
 let x3:= !x2||(Zb c.1 (qAt x1 0)).1==1
 let x4:List TY:=[]++[(12,pcOf c,0,6)]++[(5,u16.wrap ((spOf c)-1),u8.wrap (shrI u16 (pcOf c) 8),3)]++[(5,u16.wrap ((spOf c)-2),u8.wrap (pcOf c),3)]
 let x6:QT7:=((pcOf c),0,4)
 let x7:List TY:=[]++[(bif s==5 then 8 else 1,x6)]
 let x9:List TY:=[]++[(1,x6)]
 .br (!x3||x2) (.br (x3) (.br (Ze s) (fin3 g x4) (.br (iN (List.length g)==0) (fin3 g x7) (fin3 g x9))) (.leaf none)) (.leaf none)
theorem ZJJ (a:HL Zk):Zh (envX prog (Z3 1) [] 1125900980585471 8) Tryz.f113 Zk ZG a=ZuM a.1 a.2.1 a.2.2:=by kernel_rfl
def ZuI (c:TC) (s:Int) (g:List Int):RT (Option (TY×Bool)):=
 let x1:QT1:=(c,s==5,g,(0,0,0,0,0,0,0,0),[])
 let x2:=qAtC x1 0
 let x3:=Zb c.1 (qAt x1 0)
 let x4:= !x2||x3.1==5
 let x5:QT7:=((pcOf c),0,4)
 let x6:List TY:=[]++[(1,x5)]
 let x7:List TY:=[(9,pcOf c,0,3)]
 let x8:List TY:=bif s==5 then x6++x7 else x6++[(2,u16.wrap ((pcOf c)+u16.wrap 1),0,3)]
 let x9:List TY:=bif s==5 then x8++x7 else x8++[(2,u16.wrap ((pcOf c)+u16.wrap (i64.wrap (1+1))),0,3)]
 let x10:QT1:=(c,s==5,g,(5,x3.2),x9)
 let x11:List TY:=[]++[(12,pcOf c,0,6)]++[(5,u16.wrap ((spOf c)-1),u8.wrap (shrI u16 (pcOf c) 8),3)]++[(5,u16.wrap ((spOf c)-2),u8.wrap (pcOf c),3)]
 let x13:List TY:=[]++[(bif s==5 then 8 else 1,x5)]
 let x15:List TY:=x9++[(2,Zgq x10 1,0,3)]
 .br (!x4||x2) (.br (x4) (.br (Ze s||(iN (List.length g)==0||ZcR x10 1)) (.br (Ze s) (fin3 g x11) (.br (iN (List.length g)==0) (fin3 g x13) (fin3 g x15))) (.leaf none)) (.leaf none)) (.leaf none)
theorem ZJF (a:HL Zk):Zh (envX prog (Z3 5) [] 1125900980585471 8) Tryz.f113 Zk ZG a=ZuI a.1 a.2.1 a.2.2:=by kernel_rfl
def ZuE (c:TC) (s:Int) (g:List Int):RT (Option (TY×Bool)):=
 let x1:QT1:=(c,s==5,g,(0,0,0,0,0,0,0,0),[])
 let x2:=qAtC x1 0
 let x3:=Zb c.1 (qAt x1 0)
 let x4:= !x2||x3.1==9
 let x5:List TY:=[]++[(12,pcOf c,0,6)]++[(5,u16.wrap ((spOf c)-1),u8.wrap (shrI u16 (pcOf c) 8),3)]++[(5,u16.wrap ((spOf c)-2),u8.wrap (pcOf c),3)]
 let x7:QT7:=((pcOf c),0,4)
 let x8:List TY:=[]++[(bif s==5 then 8 else 1,x7)]
 let x10:List TY:=[]++[(1,x7)]
 let x11:=x3.2
 let x12:List TY:=x10++[(2,Zea (c,s==5,g,(9,x11),x10) x11.2.2.2.1,0,3)]
 .br (!x4||x2) (.br (x4) (.br (Ze s) (fin3 g x5) (.br (iN (List.length g)==0) (fin3 g x8) (fin3 g x12))) (.leaf none)) (.leaf none)
theorem ZJB (a:HL Zk):Zh (envX prog (Z3 9) [] 1125900980585471 8) Tryz.f113 Zk ZG a=ZuE a.1 a.2.1 a.2.2:=by kernel_rfl
def ZoA (c:TC) (s:Int) (g:List Int):RT (Option (TY×Bool)):=
 let x1:QT1:=(c,s==5,g,(0,0,0,0,0,0,0,0),[])
 let x2:=qAtC x1 0
 let x3:= !x2||(Zb c.1 (qAt x1 0)).1==13
 let x4:List TY:=[]++[(12,pcOf c,0,6)]++[(5,u16.wrap ((spOf c)-1),u8.wrap (shrI u16 (pcOf c) 8),3)]++[(5,u16.wrap ((spOf c)-2),u8.wrap (pcOf c),3)]
 let x6:QT7:=((pcOf c),0,4)
 let x7:List TY:=[]++[(bif s==5 then 8 else 1,x6)]
 let x9:List TY:=[]++[(1,x6)]
 let x10:List TY:=bif s==5 then x9++[(9,pcOf c,0,3)] else x9++[(2,u16.wrap ((pcOf c)+u16.wrap 1),0,3)]
 .br (!x3||x2) (.br (x3) (.br (Ze s) (fin3 g x4) (.br (iN (List.length g)==0) (fin3 g x7) (fin3 g x10))) (.leaf none)) (.leaf none)
theorem ZCT (a:HL Zk):Zh (envX prog (Z3 13) [] 1125900980585471 8) Tryz.f113 Zk ZG a=ZoA a.1 a.2.1 a.2.2:=by kernel_rfl
def Zow (c:TC) (s:Int) (g:List Int):RT (Option (TY×Bool)):=
 let x1:QT1:=(c,s==5,g,(0,0,0,0,0,0,0,0),[])
 let x2:=qAtC x1 0
 let x3:= !x2||(Zb c.1 (qAt x1 0)).1==17
 let x4:List TY:=[]++[(12,pcOf c,0,6)]++[(5,u16.wrap ((spOf c)-1),u8.wrap (shrI u16 (pcOf c) 8),3)]++[(5,u16.wrap ((spOf c)-2),u8.wrap (pcOf c),3)]
 let x6:QT7:=((pcOf c),0,4)
 let x7:List TY:=[]++[(bif s==5 then 8 else 1,x6)]
 let x9:List TY:=[]++[(1,x6)]
 .br (!x3||x2) (.br (x3) (.br (Ze s) (fin3 g x4) (.br (iN (List.length g)==0) (fin3 g x7) (fin3 g x9))) (.leaf none)) (.leaf none)
theorem ZCP (a:HL Zk):Zh (envX prog (Z3 17) [] 1125900980585471 8) Tryz.f113 Zk ZG a=Zow a.1 a.2.1 a.2.2:=by kernel_rfl
def Zos (c:TC) (s:Int) (g:List Int):RT (Option (TY×Bool)):=
 let x1:QT1:=(c,s==5,g,(0,0,0,0,0,0,0,0),[])
 let x2:=qAtC x1 0
 let x3:= !x2||(Zb c.1 (qAt x1 0)).1==21
 let x4:List TY:=[]++[(12,pcOf c,0,6)]++[(5,u16.wrap ((spOf c)-1),u8.wrap (shrI u16 (pcOf c) 8),3)]++[(5,u16.wrap ((spOf c)-2),u8.wrap (pcOf c),3)]
 let x6:QT7:=((pcOf c),0,4)
 let x7:List TY:=[]++[(bif s==5 then 8 else 1,x6)]
 let x9:List TY:=[]++[(1,x6)]
 .br (!x3||x2) (.br (x3) (.br (Ze s) (fin3 g x4) (.br (iN (List.length g)==0) (fin3 g x7) (fin3 g x9))) (.leaf none)) (.leaf none)
theorem ZCL (a:HL Zk):Zh (envX prog (Z3 21) [] 1125900980585471 8) Tryz.f113 Zk ZG a=Zos a.1 a.2.1 a.2.2:=by kernel_rfl
def Zoo (c:TC) (s:Int) (g:List Int):RT (Option (TY×Bool)):=
 let x1:QT1:=(c,s==5,g,(0,0,0,0,0,0,0,0),[])
 let x2:=qAtC x1 0
 let x3:=Zb c.1 (qAt x1 0)
 let x4:= !x2||x3.1==25
 let x5:=u16.wrap ((spOf c)-1)
 let x6:=u16.wrap ((spOf c)-2)
 let x7:List TY:=[]++[(12,pcOf c,0,6)]++[(5,x5,u8.wrap (shrI u16 (pcOf c) 8),3)]++[(5,x6,u8.wrap (pcOf c),3)]
 let x9:QT7:=((pcOf c),0,4)
 let x10:List TY:=[]++[(bif s==5 then 8 else 1,x9)]
 let x12:QT6:=(25,x3.2)
 let x13:List TY:=[]++[(1,x9)]
 let x14:=Zhy (c,s==5,g,x12,x13)
 let x15:List TY:=[(9,pcOf c,0,3)]
 let x16:List TY:=bif s==5 then x13++x15 else x13++[(2,u16.wrap ((pcOf c)+u16.wrap 1),0,3)]
 let x17:List TY:=bif !x14&&c.1==2 then x16 else bif s==5 then x16++x15 else x16++[(2,u16.wrap ((pcOf c)+u16.wrap (i64.wrap (1+1))),0,3)]
 let x18:=ZE (c,s==5,g,x12,x17)
 let x19:List TY:=bif x14 then x17++[(5,x5,u8.wrap (shrI u16 x18 8),3)]++[(5,x6,u8.wrap x18,3)] else x17
 .br (!x4||x2) (.br (x4) (.br (Ze s) (fin3 g x7) (.br (iN (List.length g)==0) (fin3 g x10) (fin3 g x19))) (.leaf none)) (.leaf none)
theorem ZCH (a:HL Zk):Zh (envX prog (Z3 25) [] 1125900980585471 8) Tryz.f113 Zk ZG a=Zoo a.1 a.2.1 a.2.2:=by kernel_rfl
def Zok (c:TC) (s:Int) (g:List Int):RT (Option (TY×Bool)):=
 let x1:QT1:=(c,s==5,g,(0,0,0,0,0,0,0,0),[])
 let x2:=qAtC x1 0
 let x3:= !x2||(Zb c.1 (qAt x1 0)).1==29
 let x4:List TY:=[]++[(12,pcOf c,0,6)]++[(5,u16.wrap ((spOf c)-1),u8.wrap (shrI u16 (pcOf c) 8),3)]++[(5,u16.wrap ((spOf c)-2),u8.wrap (pcOf c),3)]
 let x6:QT7:=((pcOf c),0,4)
 let x7:List TY:=[]++[(bif s==5 then 8 else 1,x6)]
 let x9:List TY:=[]++[(1,x6)]
 .br (!x3||x2) (.br (x3) (.br (Ze s) (fin3 g x4) (.br (iN (List.length g)==0) (fin3 g x7) (fin3 g x9))) (.leaf none)) (.leaf none)
theorem ZCD (a:HL Zk):Zh (envX prog (Z3 29) [] 1125900980585471 8) Tryz.f113 Zk ZG a=Zok a.1 a.2.1 a.2.2:=by kernel_rfl
def Zog (c:TC) (s:Int) (g:List Int):RT (Option (TY×Bool)):=
 let x1:QT1:=(c,s==5,g,(0,0,0,0,0,0,0,0),[])
 let x2:=qAtC x1 0
 let x3:=Zb c.1 (qAt x1 0)
 let x4:= !x2||x3.1==33
 let x5:QT7:=((pcOf c),0,4)
 let x6:List TY:=[]++[(1,x5)]
 let x7:List TY:=bif s==5 then x6++[(9,pcOf c,0,3)] else x6++[(2,u16.wrap ((pcOf c)+u16.wrap 1),0,3)]
 let x8:QT1:=(c,s==5,g,(33,x3.2),x7)
 let x9:=qAtC x8 1
 let x10:= !x9||x9
 let x11:= !x10||x9
 let x12:=Ze s||(iN (List.length g)==0||(!x11||x10))
 let x13:List TY:=[]++[(12,pcOf c,0,6)]++[(5,u16.wrap ((spOf c)-1),u8.wrap (shrI u16 (pcOf c) 8),3)]++[(5,u16.wrap ((spOf c)-2),u8.wrap (pcOf c),3)]
 let x15:List TY:=[]++[(bif s==5 then 8 else 1,x5)]
 let x17:=qAt x8 1
 let x18:List TY:=x7++[(6,ZcN x17 x17,0,3)]
 .br (!x4||x2) (.br (x4) (.br (!x12||(Ze s||(iN (List.length g)==0||x11))) (.br (x12) (.br (Ze s) (fin3 g x13) (.br (iN (List.length g)==0) (fin3 g x15) (fin3 g x18))) (.leaf none)) (.leaf none)) (.leaf none)) (.leaf none)
theorem ZCz (a:HL Zk):Zh (envX prog (Z3 33) [] 1125900980585471 8) Tryz.f113 Zk ZG a=Zog a.1 a.2.1 a.2.2:=by kernel_rfl
def Zoc (c:TC) (s:Int) (g:List Int):RT (Option (TY×Bool)):=
 let x1:QT1:=(c,s==5,g,(0,0,0,0,0,0,0,0),[])
 let x2:=qAtC x1 0
 let x3:= !x2||(Zb c.1 (qAt x1 0)).1==37
 let x4:List TY:=[]++[(12,pcOf c,0,6)]++[(5,u16.wrap ((spOf c)-1),u8.wrap (shrI u16 (pcOf c) 8),3)]++[(5,u16.wrap ((spOf c)-2),u8.wrap (pcOf c),3)]
 let x6:QT7:=((pcOf c),0,4)
 let x7:List TY:=[]++[(bif s==5 then 8 else 1,x6)]
 let x9:List TY:=[]++[(1,x6)]
 let x10:List TY:=bif c.1 !=2 then x9++[(10,pcOf c,0,3)] else x9
 .br (!x3||x2) (.br (x3) (.br (Ze s) (fin3 g x4) (.br (iN (List.length g)==0) (fin3 g x7) (fin3 g x10))) (.leaf none)) (.leaf none)
theorem ZCv (a:HL Zk):Zh (envX prog (Z3 37) [] 1125900980585471 8) Tryz.f113 Zk ZG a=Zoc a.1 a.2.1 a.2.2:=by kernel_rfl
def Zn8 (c:TC) (s:Int) (g:List Int):RT (Option (TY×Bool)):=
 let x1:QT1:=(c,s==5,g,(0,0,0,0,0,0,0,0),[])
 let x2:=qAtC x1 0
 let x3:= !x2||(Zb c.1 (qAt x1 0)).1==41
 let x4:List TY:=[]++[(12,pcOf c,0,6)]++[(5,u16.wrap ((spOf c)-1),u8.wrap (shrI u16 (pcOf c) 8),3)]++[(5,u16.wrap ((spOf c)-2),u8.wrap (pcOf c),3)]
 let x6:QT7:=((pcOf c),0,4)
 let x7:List TY:=[]++[(bif s==5 then 8 else 1,x6)]
 let x9:List TY:=[]++[(1,x6)]++[(11,pcOf c,0,3)]
 .br (!x3||x2) (.br (x3) (.br (Ze s) (fin3 g x4) (.br (iN (List.length g)==0) (fin3 g x7) (fin3 g x9))) (.leaf none)) (.leaf none)
theorem ZCr (a:HL Zk):Zh (envX prog (Z3 41) [] 1125900980585471 8) Tryz.f113 Zk ZG a=Zn8 a.1 a.2.1 a.2.2:=by kernel_rfl
def Zn4 (c:TC) (s:Int) (g:List Int):RT (Option (TY×Bool)):=
 let x1:QT1:=(c,s==5,g,(0,0,0,0,0,0,0,0),[])
 let x2:=qAtC x1 0
 let x3:=Zb c.1 (qAt x1 0)
 let x4:= !x2||x3.1==45
 let x5:=u16.wrap ((spOf c)-1)
 let x6:=u16.wrap ((spOf c)-2)
 let x7:List TY:=[]++[(12,pcOf c,0,6)]++[(5,x5,u8.wrap (shrI u16 (pcOf c) 8),3)]++[(5,x6,u8.wrap (pcOf c),3)]
 let x9:QT7:=((pcOf c),0,4)
 let x10:List TY:=[]++[(bif s==5 then 8 else 1,x9)]
 let x12:List TY:=[]++[(1,x9)]
 let x13:QT1:=(c,s==5,g,(45,x3.2),x12)
 let x14:=ZE x13
 let x15:List TY:=bif Zhy x13 then x12++[(5,x5,u8.wrap (shrI u16 x14 8),3)]++[(5,x6,u8.wrap x14,3)] else x12
 .br (!x4||x2) (.br (x4) (.br (Ze s) (fin3 g x7) (.br (iN (List.length g)==0) (fin3 g x10) (fin3 g x15))) (.leaf none)) (.leaf none)
theorem ZCn (a:HL Zk):Zh (envX prog (Z3 45) [] 1125900980585471 8) Tryz.f113 Zk ZG a=Zn4 a.1 a.2.1 a.2.2:=by kernel_rfl
def Zto (c:TC) (s:Int) (g:List Int):RT (Option (TY×Bool)):=
 let x1:List TY:=[(12,pcOf c,0,6)]++[(5,u16.wrap ((spOf c)-1),u8.wrap (shrI u16 (pcOf c) 8),3)]++[(5,u16.wrap ((spOf c)-2),u8.wrap (pcOf c),3)]
 let x3:List TY:=[(bif s==5 then 8 else 1,pcOf c,0,4)]
 let x4:List TY:=x3++[(2,Zal c.2.1 2,0,3)]
 let x6:List TY:=x3++[(3,Zal c.2.1 2,rGet c.2.1 (Zb c.1 (R.get (R.int u8) g 0)).2.2.2.1,3)]
 let x8:Nat:=List.length x3
 let x9:=decide (iN (List.length g)>=iN x8)
 let x10:=Zf (iN (List.length g)) x8
 let x11:TY×Bool:=(R.get (RY) x3 (iN (List.length g)),true)
 .br (Zc s||(!decide (iN (List.length g)>0)||(!Zf 0 (List.length g)||(Zb c.1 (R.get (R.int u8) g 0)).1==2))) (.br (Zc s||(!decide (iN (List.length g)>0)||Zf 0 (List.length g))) (.br (Zc s) (fin3 g x1) (.br (decide (iN (List.length g)>0)) (.br ((Zb c.1 (R.get (R.int u8) g 0)).2.2.2.1==6) (fin3 g x4) (.br ((Zb c.1 (R.get (R.int u8) g 0)).2.2.1==6) (fin3 g x6) (.br (x9) (.leaf (some (((0,0,0,0),false)))) (.br (x10) (.leaf (some (x11))) (.leaf none))))) (.br (x9) (.leaf (some (((0,0,0,0),false)))) (.br (x10) (.leaf (some (x11))) (.leaf none))))) (.leaf none)) (.leaf none)
theorem ZIA (a:HL Zj):Zh (envX prog (Z1 2) [] 2047 8) Tryz.f42 Zj ZF a=Zto a.1 a.2.1 a.2.2:=by kernel_rfl
def Ztk (c:TC) (s:Int) (g:List Int):RT (Option (TY×Bool)):=
 let x1:List TY:=[(bif s==5 then 8 else 1,pcOf c,0,4)]
 let x2:List TY:=[(9,pcOf c,0,3)]
 let x3:List TY:=x1++x2
 let x4:List TY:=[(2,u16.wrap ((pcOf c)+u16.wrap (i64.wrap (1+1))),0,3)]
 let x5:List TY:=bif s==5 then x3++x2 else x3++x4
 let x6:QT3:=(c,s==5,g,x5)
 let x7:= !s==5||Zcd x6 1
 let x8:List TY:=x1++[(2,u16.wrap ((pcOf c)+u16.wrap 1),0,3)]
 let x9:List TY:=bif s==5 then x8++x2 else x8++x4
 let x10:QT3:=(c,s==5,g,x9)
 let x11:List TY:=[(12,pcOf c,0,6)]++[(5,u16.wrap ((spOf c)-1),u8.wrap (shrI u16 (pcOf c) 8),3)]++[(5,u16.wrap ((spOf c)-2),u8.wrap (pcOf c),3)]
 let x13:List TY:=x5++[(3,ZeI x6 1,c.2.1.1,3)]
 let x15:List TY:=x9++[(3,ZeI x10 1,c.2.1.1,3)]
 .br (Zc s||(!decide (iN (List.length g)>0)||(!Zf 0 (List.length g)||(!(Zb c.1 (R.get (R.int u8) g 0)).1==6||(!x7||(s==5||Zcd x10 1)))))) (.br (Zc s||(!decide (iN (List.length g)>0)||(!Zf 0 (List.length g)||(!(Zb c.1 (R.get (R.int u8) g 0)).1==6||x7)))) (.br (Zc s||(!decide (iN (List.length g)>0)||(!Zf 0 (List.length g)||(Zb c.1 (R.get (R.int u8) g 0)).1==6))) (.br (Zc s||(!decide (iN (List.length g)>0)||Zf 0 (List.length g))) (.br (Zc s) (fin3 g x11) (.br (decide (iN (List.length g)>0)) (.br (s==5) (fin3 g x13) (fin3 g x15)) (fin3 g x1))) (.leaf none)) (.leaf none)) (.leaf none)) (.leaf none)
theorem ZIw (a:HL Zj):Zh (envX prog (Z1 6) [] 2047 8) Tryz.f42 Zj ZF a=Ztk a.1 a.2.1 a.2.2:=by kernel_rfl
def Znv (c:TC) (s:Int) (g:List Int):RT (Option (TY×Bool)):=
 let x1:List TY:=[(12,pcOf c,0,6)]++[(5,u16.wrap ((spOf c)-1),u8.wrap (shrI u16 (pcOf c) 8),3)]++[(5,u16.wrap ((spOf c)-2),u8.wrap (pcOf c),3)]
 let x3:List TY:=[(bif s==5 then 8 else 1,pcOf c,0,4)]
 let x4:List TY:=x3++[(3,Zal c.2.1 (Zb c.1 (R.get (R.int u8) g 0)).2.2.2.2.1,c.2.1.1,3)]
 .br (Zc s||(!decide (iN (List.length g)>0)||(!Zf 0 (List.length g)||(Zb c.1 (R.get (R.int u8) g 0)).1==10))) (.br (Zc s||(!decide (iN (List.length g)>0)||Zf 0 (List.length g))) (.br (Zc s) (fin3 g x1) (.br (decide (iN (List.length g)>0)) (fin3 g x4) (fin3 g x3))) (.leaf none)) (.leaf none)
theorem ZBw (a:HL Zj):Zh (envX prog (Z1 10) [] 2047 8) Tryz.f42 Zj ZF a=Znv a.1 a.2.1 a.2.2:=by kernel_rfl
def Znr (c:TC) (s:Int) (g:List Int):RT (Option (TY×Bool)):=
 let x1:List TY:=[(bif s==5 then 8 else 1,pcOf c,0,4)]
 let x2:QT3:=(c,s==5,g,x1)
 let x3:List TY:=[(12,pcOf c,0,6)]++[(5,u16.wrap ((spOf c)-1),u8.wrap (shrI u16 (pcOf c) 8),3)]++[(5,u16.wrap ((spOf c)-2),u8.wrap (pcOf c),3)]
 let x5:List TY:=x1++[(2,Zal c.2.1 2,0,3)]++[(3,Zal c.2.1 2,(Zg0 c (14,(Zb c.1 (R.get (R.int u8) g 0)).2) (mAt x2 1)).1,3)]
 let x7:Nat:=List.length x1
 let x8:=decide (iN (List.length g)>=iN x7)
 let x9:=Zf (iN (List.length g)) x7
 let x10:TY×Bool:=(R.get (RY) x1 (iN (List.length g)),true)
 .br (Zc s||(!decide (iN (List.length g)>0)||(!Zf 0 (List.length g)||(!(Zb c.1 (R.get (R.int u8) g 0)).1==14||(!(Zb c.1 (R.get (R.int u8) g 0)).2.2.1==6||mAtC x2 1))))) (.br (Zc s||(!decide (iN (List.length g)>0)||(!Zf 0 (List.length g)||(Zb c.1 (R.get (R.int u8) g 0)).1==14))) (.br (Zc s||(!decide (iN (List.length g)>0)||Zf 0 (List.length g))) (.br (Zc s) (fin3 g x3) (.br (decide (iN (List.length g)>0)) (.br ((Zb c.1 (R.get (R.int u8) g 0)).2.2.1==6) (fin3 g x5) (.br (x8) (.leaf (some (((0,0,0,0),false)))) (.br (x9) (.leaf (some (x10))) (.leaf none)))) (.br (x8) (.leaf (some (((0,0,0,0),false)))) (.br (x9) (.leaf (some (x10))) (.leaf none))))) (.leaf none)) (.leaf none)) (.leaf none)
theorem ZBs (a:HL Zj):Zh (envX prog (Z1 14) [] 2047 8) Tryz.f42 Zj ZF a=Znr a.1 a.2.1 a.2.2:=by kernel_rfl
def Znn (c:TC) (s:Int) (g:List Int):RT (Option (TY×Bool)):=
 let x1:List TY:=[(12,pcOf c,0,6)]++[(5,u16.wrap ((spOf c)-1),u8.wrap (shrI u16 (pcOf c) 8),3)]++[(5,u16.wrap ((spOf c)-2),u8.wrap (pcOf c),3)]
 let x3:List TY:=[(bif s==5 then 8 else 1,pcOf c,0,4)]
 let x4:List TY:=[(11,pcOf c,0,3)]
 let x5:List TY:=x3++x4++x4
 .br (Zc s||(!decide (iN (List.length g)>0)||(!Zf 0 (List.length g)||(Zb c.1 (R.get (R.int u8) g 0)).1==18))) (.br (Zc s||(!decide (iN (List.length g)>0)||Zf 0 (List.length g))) (.br (Zc s) (fin3 g x1) (.br (decide (iN (List.length g)>0)) (fin3 g x5) (fin3 g x3))) (.leaf none)) (.leaf none)
theorem ZBo (a:HL Zj):Zh (envX prog (Z1 18) [] 2047 8) Tryz.f42 Zj ZF a=Znn a.1 a.2.1 a.2.2:=by kernel_rfl
def Znj (c:TC) (s:Int) (g:List Int):RT (Option (TY×Bool)):=
 let x1:List TY:=[(12,pcOf c,0,6)]++[(5,u16.wrap ((spOf c)-1),u8.wrap (shrI u16 (pcOf c) 8),3)]++[(5,u16.wrap ((spOf c)-2),u8.wrap (pcOf c),3)]
 let x3:List TY:=[(bif s==5 then 8 else 1,pcOf c,0,4)]
 .br (Zc s||(!decide (iN (List.length g)>0)||(!Zf 0 (List.length g)||(Zb c.1 (R.get (R.int u8) g 0)).1==22))) (.br (Zc s||(!decide (iN (List.length g)>0)||Zf 0 (List.length g))) (.br (Zc s) (fin3 g x1) (fin3 g x3)) (.leaf none)) (.leaf none)
theorem ZBk (a:HL Zj):Zh (envX prog (Z1 22) [] 2047 8) Tryz.f42 Zj ZF a=Znj a.1 a.2.1 a.2.2:=by kernel_rfl
def Znf (c:TC) (s:Int) (g:List Int):RT (Option (TY×Bool)):=
 let x1:List TY:=[(12,pcOf c,0,6)]++[(5,u16.wrap ((spOf c)-1),u8.wrap (shrI u16 (pcOf c) 8),3)]++[(5,u16.wrap ((spOf c)-2),u8.wrap (pcOf c),3)]
 let x3:List TY:=[(bif s==5 then 8 else 1,pcOf c,0,4)]
 let x4:List TY:=x3++[(4,spOf c,0,3)]++[(4,u16.wrap ((spOf c)+1),0,3)]
 let x6:Nat:=List.length x3
 let x7:=decide (iN (List.length g)>=iN x6)
 let x8:=Zf (iN (List.length g)) x6
 let x9:TY×Bool:=(R.get (RY) x3 (iN (List.length g)),true)
 .br (Zc s||(!decide (iN (List.length g)>0)||(!Zf 0 (List.length g)||(Zb c.1 (R.get (R.int u8) g 0)).1==26))) (.br (Zc s||(!decide (iN (List.length g)>0)||Zf 0 (List.length g))) (.br (Zc s) (fin3 g x1) (.br (decide (iN (List.length g)>0)) (.br (ZeC (c,s==5,g,x3) (26,(Zb c.1 (R.get (R.int u8) g 0)).2)) (fin3 g x4) (.br (x7) (.leaf (some (((0,0,0,0),false)))) (.br (x8) (.leaf (some (x9))) (.leaf none)))) (.br (x7) (.leaf (some (((0,0,0,0),false)))) (.br (x8) (.leaf (some (x9))) (.leaf none))))) (.leaf none)) (.leaf none)
theorem ZBg (a:HL Zj):Zh (envX prog (Z1 26) [] 2047 8) Tryz.f42 Zj ZF a=Znf a.1 a.2.1 a.2.2:=by kernel_rfl
def Znb (c:TC) (s:Int) (g:List Int):RT (Option (TY×Bool)):=
 let x1:=u16.wrap ((spOf c)-1)
 let x2:=u16.wrap ((spOf c)-2)
 let x3:List TY:=[(12,pcOf c,0,6)]++[(5,x1,u8.wrap (shrI u16 (pcOf c) 8),3)]++[(5,x2,u8.wrap (pcOf c),3)]
 let x5:List TY:=[(bif s==5 then 8 else 1,pcOf c,0,4)]
 let x6:Int:=bif (Zb c.1 (R.get (R.int u8) g 0)).2.2.2.2.1==3 then rPSW c.1 c.2.1 else Zal c.2.1 (Zb c.1 (R.get (R.int u8) g 0)).2.2.2.2.1
 let x7:List TY:=x5++[(5,x1,u8.wrap (shrI u16 x6 8),3)]++[(5,x2,u8.wrap x6,3)]
 .br (Zc s||(!decide (iN (List.length g)>0)||(!Zf 0 (List.length g)||(Zb c.1 (R.get (R.int u8) g 0)).1==30))) (.br (Zc s||(!decide (iN (List.length g)>0)||Zf 0 (List.length g))) (.br (Zc s) (fin3 g x3) (.br (decide (iN (List.length g)>0)) (fin3 g x7) (fin3 g x5))) (.leaf none)) (.leaf none)
theorem ZBc (a:HL Zj):Zh (envX prog (Z1 30) [] 2047 8) Tryz.f42 Zj ZF a=Znb a.1 a.2.1 a.2.2:=by kernel_rfl
def Zm7 (c:TC) (s:Int) (g:List Int):RT (Option (TY×Bool)):=
 let x1:List TY:=[(bif s==5 then 8 else 1,pcOf c,0,4)]
 let x2:List TY:=x1++[(9,pcOf c,0,3)]
 let x3:QT3:=(c,s==5,g,x2)
 let x4:=mAtC x3 1
 let x5:= !x4||x4
 let x6:= !s==5||(!x5||x4)
 let x7:= !x6
 let x8:= !s==5||x5
 let x9:= !x8
 let x10:List TY:=x1++[(2,u16.wrap ((pcOf c)+u16.wrap 1),0,3)]
 let x11:QT3:=(c,s==5,g,x10)
 let x12:=mAtC x11 1
 let x13:= !x12||x12
 let x14:=s==5||(!x13||x12)
 let x15:List TY:=[(12,pcOf c,0,6)]++[(5,u16.wrap ((spOf c)-1),u8.wrap (shrI u16 (pcOf c) 8),3)]++[(5,u16.wrap ((spOf c)-2),u8.wrap (pcOf c),3)]
 let x17:=mAt x3 1
 let x18:List TY:=x2++[(7,ZcN x17 x17,c.2.1.1,3)]
 let x20:=mAt x11 1
 let x21:List TY:=x10++[(7,ZcN x20 x20,c.2.1.1,3)]
 .br (Zc s||(!decide (iN (List.length g)>0)||(!Zf 0 (List.length g)||(!(Zb c.1 (R.get (R.int u8) g 0)).1==34||(x7||(x9||(!x14||(s==5||x13)))))))) (.br (Zc s||(!decide (iN (List.length g)>0)||(!Zf 0 (List.length g)||(!(Zb c.1 (R.get (R.int u8) g 0)).1==34||(x7||(x9||x14)))))) (.br (Zc s||(!decide (iN (List.length g)>0)||(!Zf 0 (List.length g)||(!(Zb c.1 (R.get (R.int u8) g 0)).1==34||(x7||x8))))) (.br (Zc s||(!decide (iN (List.length g)>0)||(!Zf 0 (List.length g)||(!(Zb c.1 (R.get (R.int u8) g 0)).1==34||x6)))) (.br (Zc s||(!decide (iN (List.length g)>0)||(!Zf 0 (List.length g)||(Zb c.1 (R.get (R.int u8) g 0)).1==34))) (.br (Zc s||(!decide (iN (List.length g)>0)||Zf 0 (List.length g))) (.br (Zc s) (fin3 g x15) (.br (decide (iN (List.length g)>0)) (.br (s==5) (fin3 g x18) (fin3 g x21)) (fin3 g x1))) (.leaf none)) (.leaf none)) (.leaf none)) (.leaf none)) (.leaf none)) (.leaf none)
theorem ZA8 (a:HL Zj):Zh (envX prog (Z1 34) [] 2047 8) Tryz.f42 Zj ZF a=Zm7 a.1 a.2.1 a.2.2:=by kernel_rfl
def Zm3 (c:TC) (s:Int) (g:List Int):RT (Option (TY×Bool)):=
 let x1:List TY:=[(12,pcOf c,0,6)]++[(5,u16.wrap ((spOf c)-1),u8.wrap (shrI u16 (pcOf c) 8),3)]++[(5,u16.wrap ((spOf c)-2),u8.wrap (pcOf c),3)]
 let x3:List TY:=[(bif s==5 then 8 else 1,pcOf c,0,4)]
 .br (Zc s||(!decide (iN (List.length g)>0)||(!Zf 0 (List.length g)||(Zb c.1 (R.get (R.int u8) g 0)).1==38))) (.br (Zc s||(!decide (iN (List.length g)>0)||Zf 0 (List.length g))) (.br (Zc s) (fin3 g x1) (fin3 g x3)) (.leaf none)) (.leaf none)
theorem ZA4 (a:HL Zj):Zh (envX prog (Z1 38) [] 2047 8) Tryz.f42 Zj ZF a=Zm3 a.1 a.2.1 a.2.2:=by kernel_rfl
def ZmZ (c:TC) (s:Int) (g:List Int):RT (Option (TY×Bool)):=
 let x1:List TY:=[(12,pcOf c,0,6)]++[(5,u16.wrap ((spOf c)-1),u8.wrap (shrI u16 (pcOf c) 8),3)]++[(5,u16.wrap ((spOf c)-2),u8.wrap (pcOf c),3)]
 let x3:List TY:=[(bif s==5 then 8 else 1,pcOf c,0,4)]
 let x4:List TY:=[(11,pcOf c,0,3)]
 let x5:List TY:=x3++x4++x4
 .br (Zc s||(!decide (iN (List.length g)>0)||(!Zf 0 (List.length g)||(Zb c.1 (R.get (R.int u8) g 0)).1==42))) (.br (Zc s||(!decide (iN (List.length g)>0)||Zf 0 (List.length g))) (.br (Zc s) (fin3 g x1) (.br (decide (iN (List.length g)>0)) (fin3 g x5) (fin3 g x3))) (.leaf none)) (.leaf none)
theorem ZA0 (a:HL Zj):Zh (envX prog (Z1 42) [] 2047 8) Tryz.f42 Zj ZF a=ZmZ a.1 a.2.1 a.2.2:=by kernel_rfl
def ZmV (c:TC) (s:Int) (g:List Int):RT (Option (TY×Bool)):=
 let x1:List TY:=[(12,pcOf c,0,6)]++[(5,u16.wrap ((spOf c)-1),u8.wrap (shrI u16 (pcOf c) 8),3)]++[(5,u16.wrap ((spOf c)-2),u8.wrap (pcOf c),3)]
 let x3:List TY:=[(bif s==5 then 8 else 1,pcOf c,0,4)]
 let x4:List TY:=x3++[(3,Zal c.2.1 1,c.2.1.2.2.2.2.2.2.1,3)]++[(3,u16.wrap (Zal c.2.1 1+1),c.2.1.2.2.2.2.2.1,3)]
 .br (Zc s||(!decide (iN (List.length g)>0)||(!Zf 0 (List.length g)||(Zb c.1 (R.get (R.int u8) g 0)).1==46))) (.br (Zc s||(!decide (iN (List.length g)>0)||Zf 0 (List.length g))) (.br (Zc s) (fin3 g x1) (.br (decide (iN (List.length g)>0)) (fin3 g x4) (fin3 g x3))) (.leaf none)) (.leaf none)
theorem ZAW (a:HL Zj):Zh (envX prog (Z1 46) [] 2047 8) Tryz.f42 Zj ZF a=ZmV a.1 a.2.1 a.2.2:=by kernel_rfl
end
end Go.Proofs.YtghoimllhpjkjaaGreat
