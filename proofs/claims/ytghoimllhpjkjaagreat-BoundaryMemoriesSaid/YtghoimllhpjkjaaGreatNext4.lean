import Derived.Test.YtghoimllhpjkjaaGreatS3D
import Derived.Test.YtghoimllhpjkjaaGreatProg
import Derived.Test.YtghoimllhpjkjaaGreatNext0
open Go.Proofs.Tryz (prog)
open Go.IntKind (u8 u16 i64)
set_option linter.unusedSimpArgs false
open Go Go.S3 Go.Proofs
set_option linter.unusedVariables false
set_option maxRecDepth 100000
namespace Go.Proofs.YtghoimllhpjkjaaGreat
noncomputable section
def Zuj (c:TC) (s:Int) (g:List Int):RT (Option (TY×Bool)):=
 let x1:QT1:=(c,s==5,g,(0,0,0,0,0,0,0,0),[])
 let x2:=qAtC x1 0
 let x3:=Zb c.1 (qAt x1 0)
 let x4:= !x2||x3.1==4
 let x5:QT7:=((pcOf c),0,4)
 let x6:List TY:=[]++[(1,x5)]
 let x7:List TY:=[(9,pcOf c,0,3)]
 let x8:List TY:=bif s==5 then x6++x7 else x6++[(2,u16.wrap ((pcOf c)+u16.wrap 1),0,3)]
 let x9:List TY:=bif s==5 then x8++x7 else x8++[(2,u16.wrap ((pcOf c)+u16.wrap (i64.wrap (1+1))),0,3)]
 let x10:List TY:=[]++[(12,pcOf c,0,6)]++[(5,u16.wrap ((spOf c)-1),u8.wrap (shrI u16 (pcOf c) 8),3)]++[(5,u16.wrap ((spOf c)-2),u8.wrap (pcOf c),3)]
 let x12:List TY:=[]++[(bif s==5 then 8 else 1,x5)]
 .br (!x4||x2) (.br (x4) (.br (Ze s||(iN (List.length g)==0||ZcV (c,s==5,g,(4,x3.2),x9) 1)) (.br (Ze s) (fin3 g x10) (.br (iN (List.length g)==0) (fin3 g x12) (fin3 g x9))) (.leaf none)) (.leaf none)) (.leaf none)
theorem ZJj (a:HL Zl):Zh (envX prog (Z8 4) [] 1125900980585471 8) Tryz.f113 Zl ZH a=Zuj a.1 a.2.1 a.2.2:=by kernel_rfl
def Zuf (c:TC) (s:Int) (g:List Int):RT (Option (TY×Bool)):=
 let x1:QT1:=(c,s==5,g,(0,0,0,0,0,0,0,0),[])
 let x2:=qAtC x1 0
 let x3:=Zb c.1 (qAt x1 0)
 let x4:= !x2||x3.1==8
 let x5:QT7:=((pcOf c),0,4)
 let x6:List TY:=[]++[(1,x5)]
 let x7:List TY:=[(9,pcOf c,0,3)]
 let x8:List TY:=bif s==5 then x6++x7 else x6++[(2,u16.wrap ((pcOf c)+u16.wrap 1),0,3)]
 let x9:List TY:=bif s==5 then x8++x7 else x8++[(2,u16.wrap ((pcOf c)+u16.wrap (i64.wrap (1+1))),0,3)]
 let x10:QT1:=(c,s==5,g,(8,x3.2),x9)
 let x11:List TY:=[]++[(12,pcOf c,0,6)]++[(5,u16.wrap ((spOf c)-1),u8.wrap (shrI u16 (pcOf c) 8),3)]++[(5,u16.wrap ((spOf c)-2),u8.wrap (pcOf c),3)]
 let x13:List TY:=[]++[(bif s==5 then 8 else 1,x5)]
 let x15:=Zgm x10 1
 let x16:List TY:=x9++[(3,x15,c.2.1.2.2.2.2.2.2.1,3)]++[(3,u16.wrap (x15+1),c.2.1.2.2.2.2.2.1,3)]
 .br (!x4||x2) (.br (x4) (.br (Ze s||(iN (List.length g)==0||ZcV x10 1)) (.br (Ze s) (fin3 g x11) (.br (iN (List.length g)==0) (fin3 g x13) (fin3 g x16))) (.leaf none)) (.leaf none)) (.leaf none)
theorem ZJf (a:HL Zl):Zh (envX prog (Z8 8) [] 1125900980585471 8) Tryz.f113 Zl ZH a=Zuf a.1 a.2.1 a.2.2:=by kernel_rfl
def Zoj (c:TC) (s:Int) (g:List Int):RT (Option (TY×Bool)):=
 let x1:QT1:=(c,s==5,g,(0,0,0,0,0,0,0,0),[])
 let x2:=qAtC x1 0
 let x3:=Zb c.1 (qAt x1 0)
 let x4:= !x2||x3.1==12
 let x5:List TY:=[]++[(12,pcOf c,0,6)]++[(5,u16.wrap ((spOf c)-1),u8.wrap (shrI u16 (pcOf c) 8),3)]++[(5,u16.wrap ((spOf c)-2),u8.wrap (pcOf c),3)]
 let x7:QT7:=((pcOf c),0,4)
 let x8:List TY:=[]++[(bif s==5 then 8 else 1,x7)]
 let x10:=x3.2
 let x11:List TY:=[]++[(1,x7)]
 let x12:List TY:=bif x10.2.2.1==6 then x11++[(2,Zef (c,s==5,g,(12,x10),x11) 2,0,3)] else x11
 .br (!x4||x2) (.br (x4) (.br (Ze s) (fin3 g x5) (.br (iN (List.length g)==0) (fin3 g x8) (fin3 g x12))) (.leaf none)) (.leaf none)
theorem ZCx (a:HL Zl):Zh (envX prog (Z8 12) [] 1125900980585471 8) Tryz.f113 Zl ZH a=Zoj a.1 a.2.1 a.2.2:=by kernel_rfl
def Zof (c:TC) (s:Int) (g:List Int):RT (Option (TY×Bool)):=
 let x1:QT1:=(c,s==5,g,(0,0,0,0,0,0,0,0),[])
 let x2:=qAtC x1 0
 let x3:= !x2||(Zb c.1 (qAt x1 0)).1==16
 let x4:List TY:=[]++[(12,pcOf c,0,6)]++[(5,u16.wrap ((spOf c)-1),u8.wrap (shrI u16 (pcOf c) 8),3)]++[(5,u16.wrap ((spOf c)-2),u8.wrap (pcOf c),3)]
 let x6:QT7:=((pcOf c),0,4)
 let x7:List TY:=[]++[(bif s==5 then 8 else 1,x6)]
 let x9:List TY:=[]++[(1,x6)]
 .br (!x3||x2) (.br (x3) (.br (Ze s) (fin3 g x4) (.br (iN (List.length g)==0) (fin3 g x7) (fin3 g x9))) (.leaf none)) (.leaf none)
theorem ZCt (a:HL Zl):Zh (envX prog (Z8 16) [] 1125900980585471 8) Tryz.f113 Zl ZH a=Zof a.1 a.2.1 a.2.2:=by kernel_rfl
def Zob (c:TC) (s:Int) (g:List Int):RT (Option (TY×Bool)):=
 let x1:QT1:=(c,s==5,g,(0,0,0,0,0,0,0,0),[])
 let x2:=qAtC x1 0
 let x3:= !x2||(Zb c.1 (qAt x1 0)).1==20
 let x4:List TY:=[]++[(12,pcOf c,0,6)]++[(5,u16.wrap ((spOf c)-1),u8.wrap (shrI u16 (pcOf c) 8),3)]++[(5,u16.wrap ((spOf c)-2),u8.wrap (pcOf c),3)]
 let x6:QT7:=((pcOf c),0,4)
 let x7:List TY:=[]++[(bif s==5 then 8 else 1,x6)]
 let x9:List TY:=[]++[(1,x6)]
 .br (!x3||x2) (.br (x3) (.br (Ze s) (fin3 g x4) (.br (iN (List.length g)==0) (fin3 g x7) (fin3 g x9))) (.leaf none)) (.leaf none)
theorem ZCp (a:HL Zl):Zh (envX prog (Z8 20) [] 1125900980585471 8) Tryz.f113 Zl ZH a=Zob a.1 a.2.1 a.2.2:=by kernel_rfl
def Zn7 (c:TC) (s:Int) (g:List Int):RT (Option (TY×Bool)):=
 let x1:QT1:=(c,s==5,g,(0,0,0,0,0,0,0,0),[])
 let x2:=qAtC x1 0
 let x3:=Zb c.1 (qAt x1 0)
 let x4:= !x2||x3.1==24
 let x5:List TY:=[]++[(12,pcOf c,0,6)]++[(5,u16.wrap ((spOf c)-1),u8.wrap (shrI u16 (pcOf c) 8),3)]++[(5,u16.wrap ((spOf c)-2),u8.wrap (pcOf c),3)]
 let x7:QT7:=((pcOf c),0,4)
 let x8:List TY:=[]++[(bif s==5 then 8 else 1,x7)]
 let x10:List TY:=[]++[(1,x7)]
 let x11:List TY:=[(9,pcOf c,0,3)]
 let x12:List TY:=bif s==5 then x10++x11 else x10++[(2,u16.wrap ((pcOf c)+u16.wrap 1),0,3)]
 let x13:List TY:=bif !Zhq (c,s==5,g,(24,x3.2),x10)&&c.1==2 then x12 else bif s==5 then x12++x11 else x12++[(2,u16.wrap ((pcOf c)+u16.wrap (i64.wrap (1+1))),0,3)]
 .br (!x4||x2) (.br (x4) (.br (Ze s) (fin3 g x5) (.br (iN (List.length g)==0) (fin3 g x8) (fin3 g x13))) (.leaf none)) (.leaf none)
theorem ZCl (a:HL Zl):Zh (envX prog (Z8 24) [] 1125900980585471 8) Tryz.f113 Zl ZH a=Zn7 a.1 a.2.1 a.2.2:=by kernel_rfl
def Zn3 (c:TC) (s:Int) (g:List Int):RT (Option (TY×Bool)):=
 let x1:QT1:=(c,s==5,g,(0,0,0,0,0,0,0,0),[])
 let x2:=qAtC x1 0
 let x3:= !x2||(Zb c.1 (qAt x1 0)).1==28
 let x4:List TY:=[]++[(12,pcOf c,0,6)]++[(5,u16.wrap ((spOf c)-1),u8.wrap (shrI u16 (pcOf c) 8),3)]++[(5,u16.wrap ((spOf c)-2),u8.wrap (pcOf c),3)]
 let x6:QT7:=((pcOf c),0,4)
 let x7:List TY:=[]++[(bif s==5 then 8 else 1,x6)]
 let x9:List TY:=[]++[(1,x6)]
 .br (!x3||x2) (.br (x3) (.br (Ze s) (fin3 g x4) (.br (iN (List.length g)==0) (fin3 g x7) (fin3 g x9))) (.leaf none)) (.leaf none)
theorem ZCh (a:HL Zl):Zh (envX prog (Z8 28) [] 1125900980585471 8) Tryz.f113 Zl ZH a=Zn3 a.1 a.2.1 a.2.2:=by kernel_rfl
def ZnZ (c:TC) (s:Int) (g:List Int):RT (Option (TY×Bool)):=
 let x1:QT1:=(c,s==5,g,(0,0,0,0,0,0,0,0),[])
 let x2:=qAtC x1 0
 let x3:= !x2||(Zb c.1 (qAt x1 0)).1==32
 let x4:List TY:=[]++[(12,pcOf c,0,6)]++[(5,u16.wrap ((spOf c)-1),u8.wrap (shrI u16 (pcOf c) 8),3)]++[(5,u16.wrap ((spOf c)-2),u8.wrap (pcOf c),3)]
 let x6:QT7:=((pcOf c),0,4)
 let x7:List TY:=[]++[(bif s==5 then 8 else 1,x6)]
 let x9:=u16.wrap ((spOf c)+1)
 let x10:List TY:=[]++[(1,x6)]++[(4,spOf c,0,3)]++[(4,x9,0,3)]++[(5,x9,c.2.1.2.2.2.2.2.1,3)]++[(5,spOf c,c.2.1.2.2.2.2.2.2.1,3)]
 let x11:=i64.wrap (iN (List.length x10)-1)
 let x12:QT12:=R.get (RY) x10 x11
 let x13:=x12.2
 let x14:List TY:=bif c.1 !=2 then setI x10 x11 (x12.1,x13.1,x13.2.1,5) else x10
 .br (!x3||x2) (.br (x3) (.br (Ze s) (fin3 g x4) (.br (iN (List.length g)==0) (fin3 g x7) (fin3 g x14))) (.leaf none)) (.leaf none)
theorem ZCd (a:HL Zl):Zh (envX prog (Z8 32) [] 1125900980585471 8) Tryz.f113 Zl ZH a=ZnZ a.1 a.2.1 a.2.2:=by kernel_rfl
def ZnV (c:TC) (s:Int) (g:List Int):RT (Option (TY×Bool)):=
 let x1:QT1:=(c,s==5,g,(0,0,0,0,0,0,0,0),[])
 let x2:=qAtC x1 0
 let x3:= !x2||(Zb c.1 (qAt x1 0)).1==36
 let x4:List TY:=[]++[(12,pcOf c,0,6)]++[(5,u16.wrap ((spOf c)-1),u8.wrap (shrI u16 (pcOf c) 8),3)]++[(5,u16.wrap ((spOf c)-2),u8.wrap (pcOf c),3)]
 let x6:QT7:=((pcOf c),0,4)
 let x7:List TY:=[]++[(bif s==5 then 8 else 1,x6)]
 let x9:List TY:=[]++[(1,x6)]
 .br (!x3||x2) (.br (x3) (.br (Ze s) (fin3 g x4) (.br (iN (List.length g)==0) (fin3 g x7) (fin3 g x9))) (.leaf none)) (.leaf none)
theorem ZB9 (a:HL Zl):Zh (envX prog (Z8 36) [] 1125900980585471 8) Tryz.f113 Zl ZH a=ZnV a.1 a.2.1 a.2.2:=by kernel_rfl
def ZnR (c:TC) (s:Int) (g:List Int):RT (Option (TY×Bool)):=
 let x1:QT1:=(c,s==5,g,(0,0,0,0,0,0,0,0),[])
 let x2:=qAtC x1 0
 let x3:= !x2||(Zb c.1 (qAt x1 0)).1==40
 let x4:List TY:=[]++[(12,pcOf c,0,6)]++[(5,u16.wrap ((spOf c)-1),u8.wrap (shrI u16 (pcOf c) 8),3)]++[(5,u16.wrap ((spOf c)-2),u8.wrap (pcOf c),3)]
 let x6:QT7:=((pcOf c),0,4)
 let x7:List TY:=[]++[(bif s==5 then 8 else 1,x6)]
 let x9:List TY:=[(11,pcOf c,0,3)]
 let x10:List TY:=[]++[(1,x6)]++x9++x9
 .br (!x3||x2) (.br (x3) (.br (Ze s) (fin3 g x4) (.br (iN (List.length g)==0) (fin3 g x7) (fin3 g x10))) (.leaf none)) (.leaf none)
theorem ZB5 (a:HL Zl):Zh (envX prog (Z8 40) [] 1125900980585471 8) Tryz.f113 Zl ZH a=ZnR a.1 a.2.1 a.2.2:=by kernel_rfl
def ZnN (c:TC) (s:Int) (g:List Int):RT (Option (TY×Bool)):=
 let x1:QT1:=(c,s==5,g,(0,0,0,0,0,0,0,0),[])
 let x2:=qAtC x1 0
 let x3:= !x2||(Zb c.1 (qAt x1 0)).1==44
 let x4:List TY:=[]++[(12,pcOf c,0,6)]++[(5,u16.wrap ((spOf c)-1),u8.wrap (shrI u16 (pcOf c) 8),3)]++[(5,u16.wrap ((spOf c)-2),u8.wrap (pcOf c),3)]
 let x6:QT7:=((pcOf c),0,4)
 let x7:List TY:=[]++[(bif s==5 then 8 else 1,x6)]
 let x9:List TY:=[]++[(1,x6)]
 let x10:QT7:=((pcOf c),0,3)
 let x11:List TY:=(bif s==5 then x9++[(9,x10)] else x9++[(2,u16.wrap ((pcOf c)+u16.wrap 1),0,3)])++[(11,x10)]
 .br (!x3||x2) (.br (x3) (.br (Ze s) (fin3 g x4) (.br (iN (List.length g)==0) (fin3 g x7) (fin3 g x11))) (.leaf none)) (.leaf none)
theorem ZB1 (a:HL Zl):Zh (envX prog (Z8 44) [] 1125900980585471 8) Tryz.f113 Zl ZH a=ZnN a.1 a.2.1 a.2.2:=by kernel_rfl
def ZsZ (c:TC) (s:Int) (g:List Int):RT (Option (TY×Bool)):=
 let x1:List TY:=[(12,pcOf c,0,6)]++[(5,u16.wrap ((spOf c)-1),u8.wrap (shrI u16 (pcOf c) 8),3)]++[(5,u16.wrap ((spOf c)-2),u8.wrap (pcOf c),3)]
 let x3:List TY:=[(bif s==5 then 8 else 1,pcOf c,0,4)]
 .br (Zc s||(!decide (iN (List.length g)>0)||(!Zf 0 (List.length g)||(Zb c.1 (R.get (R.int u8) g 0)).1==1))) (.br (Zc s||(!decide (iN (List.length g)>0)||Zf 0 (List.length g))) (.br (Zc s) (fin3 g x1) (fin3 g x3)) (.leaf none)) (.leaf none)
theorem ZIe (a:HL Zk):Zh (envX prog (Z6 1) [] 2047 8) Tryz.f42 Zk ZG a=ZsZ a.1 a.2.1 a.2.2:=by kernel_rfl
def ZsV (c:TC) (s:Int) (g:List Int):RT (Option (TY×Bool)):=
 let x1:List TY:=[(bif s==5 then 8 else 1,pcOf c,0,4)]
 let x2:List TY:=[(9,pcOf c,0,3)]
 let x3:List TY:=x1++x2
 let x4:List TY:=[(2,u16.wrap ((pcOf c)+u16.wrap (i64.wrap (1+1))),0,3)]
 let x5:List TY:=bif s==5 then x3++x2 else x3++x4
 let x6:QT3:=(c,s==5,g,x5)
 let x7:= !s==5||Zcm x6 1
 let x8:List TY:=x1++[(2,u16.wrap ((pcOf c)+u16.wrap 1),0,3)]
 let x9:List TY:=bif s==5 then x8++x2 else x8++x4
 let x10:QT3:=(c,s==5,g,x9)
 let x11:List TY:=[(12,pcOf c,0,6)]++[(5,u16.wrap ((spOf c)-1),u8.wrap (shrI u16 (pcOf c) 8),3)]++[(5,u16.wrap ((spOf c)-2),u8.wrap (pcOf c),3)]
 let x13:List TY:=x5++[(2,ZeN x6 1,0,3)]
 let x15:List TY:=x9++[(2,ZeN x10 1,0,3)]
 .br (Zc s||(!decide (iN (List.length g)>0)||(!Zf 0 (List.length g)||(!(Zb c.1 (R.get (R.int u8) g 0)).1==5||(!x7||(s==5||Zcm x10 1)))))) (.br (Zc s||(!decide (iN (List.length g)>0)||(!Zf 0 (List.length g)||(!(Zb c.1 (R.get (R.int u8) g 0)).1==5||x7)))) (.br (Zc s||(!decide (iN (List.length g)>0)||(!Zf 0 (List.length g)||(Zb c.1 (R.get (R.int u8) g 0)).1==5))) (.br (Zc s||(!decide (iN (List.length g)>0)||Zf 0 (List.length g))) (.br (Zc s) (fin3 g x11) (.br (decide (iN (List.length g)>0)) (.br (s==5) (fin3 g x13) (fin3 g x15)) (fin3 g x1))) (.leaf none)) (.leaf none)) (.leaf none)) (.leaf none)
theorem ZIa (a:HL Zk):Zh (envX prog (Z6 5) [] 2047 8) Tryz.f42 Zk ZG a=ZsV a.1 a.2.1 a.2.2:=by kernel_rfl
def ZsR (c:TC) (s:Int) (g:List Int):RT (Option (TY×Bool)):=
 let x1:List TY:=[(12,pcOf c,0,6)]++[(5,u16.wrap ((spOf c)-1),u8.wrap (shrI u16 (pcOf c) 8),3)]++[(5,u16.wrap ((spOf c)-2),u8.wrap (pcOf c),3)]
 let x3:List TY:=[(bif s==5 then 8 else 1,pcOf c,0,4)]
 let x4:List TY:=x3++[(2,Zan c.2.1 (Zb c.1 (R.get (R.int u8) g 0)).2.2.2.2.1,0,3)]
 .br (Zc s||(!decide (iN (List.length g)>0)||(!Zf 0 (List.length g)||(Zb c.1 (R.get (R.int u8) g 0)).1==9))) (.br (Zc s||(!decide (iN (List.length g)>0)||Zf 0 (List.length g))) (.br (Zc s) (fin3 g x1) (.br (decide (iN (List.length g)>0)) (fin3 g x4) (fin3 g x3))) (.leaf none)) (.leaf none)
theorem ZH6 (a:HL Zk):Zh (envX prog (Z6 9) [] 2047 8) Tryz.f42 Zk ZG a=ZsR a.1 a.2.1 a.2.2:=by kernel_rfl
def Zna (c:TC) (s:Int) (g:List Int):RT (Option (TY×Bool)):=
 let x1:List TY:=[(12,pcOf c,0,6)]++[(5,u16.wrap ((spOf c)-1),u8.wrap (shrI u16 (pcOf c) 8),3)]++[(5,u16.wrap ((spOf c)-2),u8.wrap (pcOf c),3)]
 let x3:List TY:=[(bif s==5 then 8 else 1,pcOf c,0,4)]
 let x4:List TY:=x3++[(9,pcOf c,0,3)]
 let x6:List TY:=x3++[(2,u16.wrap ((pcOf c)+u16.wrap 1),0,3)]
 .br (Zc s||(!decide (iN (List.length g)>0)||(!Zf 0 (List.length g)||(Zb c.1 (R.get (R.int u8) g 0)).1==13))) (.br (Zc s||(!decide (iN (List.length g)>0)||Zf 0 (List.length g))) (.br (Zc s) (fin3 g x1) (.br (decide (iN (List.length g)>0)) (.br (s==5) (fin3 g x4) (fin3 g x6)) (fin3 g x3))) (.leaf none)) (.leaf none)
theorem ZA6 (a:HL Zk):Zh (envX prog (Z6 13) [] 2047 8) Tryz.f42 Zk ZG a=Zna a.1 a.2.1 a.2.2:=by kernel_rfl
def Zm6 (c:TC) (s:Int) (g:List Int):RT (Option (TY×Bool)):=
 let x1:List TY:=[(12,pcOf c,0,6)]++[(5,u16.wrap ((spOf c)-1),u8.wrap (shrI u16 (pcOf c) 8),3)]++[(5,u16.wrap ((spOf c)-2),u8.wrap (pcOf c),3)]
 let x3:List TY:=[(bif s==5 then 8 else 1,pcOf c,0,4)]
 .br (Zc s||(!decide (iN (List.length g)>0)||(!Zf 0 (List.length g)||(Zb c.1 (R.get (R.int u8) g 0)).1==17))) (.br (Zc s||(!decide (iN (List.length g)>0)||Zf 0 (List.length g))) (.br (Zc s) (fin3 g x1) (fin3 g x3)) (.leaf none)) (.leaf none)
theorem ZA2 (a:HL Zk):Zh (envX prog (Z6 17) [] 2047 8) Tryz.f42 Zk ZG a=Zm6 a.1 a.2.1 a.2.2:=by kernel_rfl
def Zm2 (c:TC) (s:Int) (g:List Int):RT (Option (TY×Bool)):=
 let x1:List TY:=[(12,pcOf c,0,6)]++[(5,u16.wrap ((spOf c)-1),u8.wrap (shrI u16 (pcOf c) 8),3)]++[(5,u16.wrap ((spOf c)-2),u8.wrap (pcOf c),3)]
 let x3:List TY:=[(bif s==5 then 8 else 1,pcOf c,0,4)]
 .br (Zc s||(!decide (iN (List.length g)>0)||(!Zf 0 (List.length g)||(Zb c.1 (R.get (R.int u8) g 0)).1==21))) (.br (Zc s||(!decide (iN (List.length g)>0)||Zf 0 (List.length g))) (.br (Zc s) (fin3 g x1) (fin3 g x3)) (.leaf none)) (.leaf none)
theorem ZAY (a:HL Zk):Zh (envX prog (Z6 21) [] 2047 8) Tryz.f42 Zk ZG a=Zm2 a.1 a.2.1 a.2.2:=by kernel_rfl
def ZmY (c:TC) (s:Int) (g:List Int):RT (Option (TY×Bool)):=
 let x1:=u16.wrap ((spOf c)-1)
 let x2:=u16.wrap ((spOf c)-2)
 let x3:List TY:=[(12,pcOf c,0,6)]++[(5,x1,u8.wrap (shrI u16 (pcOf c) 8),3)]++[(5,x2,u8.wrap (pcOf c),3)]
 let x5:List TY:=[(bif s==5 then 8 else 1,pcOf c,0,4)]
 let x6:List TY:=[(9,pcOf c,0,3)]
 let x7:List TY:=x5++x6
 let x8:QT3:=(c,s==5,g,x7)
 let x9:=ZC x8 (Zb c.1 (R.get (R.int u8) g 0)).2.1
 let x10:List TY:=bif ZeH x8 (25,(Zb c.1 (R.get (R.int u8) g 0)).2) then x7++[(5,x1,u8.wrap (shrI u16 x9 8),3)]++[(5,x2,u8.wrap x9,3)] else x7
 let x12:List TY:=x5++[(2,u16.wrap ((pcOf c)+u16.wrap 1),0,3)]
 let x13:QT3:=(c,s==5,g,x12)
 let x14:=ZC x13 (Zb c.1 (R.get (R.int u8) g 0)).2.1
 let x15:List TY:=bif ZeH x13 (25,(Zb c.1 (R.get (R.int u8) g 0)).2) then x12++[(5,x1,u8.wrap (shrI u16 x14 8),3)]++[(5,x2,u8.wrap x14,3)] else x12
 let x17:List TY:=[(2,u16.wrap ((pcOf c)+u16.wrap (i64.wrap (1+1))),0,3)]
 let x18:List TY:=bif s==5 then x7++x6 else x7++x17
 let x19:QT3:=(c,s==5,g,x18)
 let x20:=ZC x19 (Zb c.1 (R.get (R.int u8) g 0)).2.1
 let x21:List TY:=bif ZeH x19 (25,(Zb c.1 (R.get (R.int u8) g 0)).2) then x18++[(5,x1,u8.wrap (shrI u16 x20 8),3)]++[(5,x2,u8.wrap x20,3)] else x18
 let x23:List TY:=bif s==5 then x12++x6 else x12++x17
 let x24:QT3:=(c,s==5,g,x23)
 let x25:=ZC x24 (Zb c.1 (R.get (R.int u8) g 0)).2.1
 let x26:List TY:=bif ZeH x24 (25,(Zb c.1 (R.get (R.int u8) g 0)).2) then x23++[(5,x1,u8.wrap (shrI u16 x25 8),3)]++[(5,x2,u8.wrap x25,3)] else x23
 .br (Zc s||(!decide (iN (List.length g)>0)||(!Zf 0 (List.length g)||(Zb c.1 (R.get (R.int u8) g 0)).1==25))) (.br (Zc s||(!decide (iN (List.length g)>0)||Zf 0 (List.length g))) (.br (Zc s) (fin3 g x3) (.br (decide (iN (List.length g)>0)) (.br (rOn c.1&& !ZeH (c,s==5,g,x5) (25,(Zb c.1 (R.get (R.int u8) g 0)).2)) (.br (s==5) (fin3 g x10) (fin3 g x15)) (.br (s==5) (fin3 g x21) (fin3 g x26))) (fin3 g x5))) (.leaf none)) (.leaf none)
theorem ZAU (a:HL Zk):Zh (envX prog (Z6 25) [] 2047 8) Tryz.f42 Zk ZG a=ZmY a.1 a.2.1 a.2.2:=by kernel_rfl
def ZmU (c:TC) (s:Int) (g:List Int):RT (Option (TY×Bool)):=
 let x1:List TY:=[(12,pcOf c,0,6)]++[(5,u16.wrap ((spOf c)-1),u8.wrap (shrI u16 (pcOf c) 8),3)]++[(5,u16.wrap ((spOf c)-2),u8.wrap (pcOf c),3)]
 let x3:List TY:=[(bif s==5 then 8 else 1,pcOf c,0,4)]
 .br (Zc s||(!decide (iN (List.length g)>0)||(!Zf 0 (List.length g)||(Zb c.1 (R.get (R.int u8) g 0)).1==29))) (.br (Zc s||(!decide (iN (List.length g)>0)||Zf 0 (List.length g))) (.br (Zc s) (fin3 g x1) (fin3 g x3)) (.leaf none)) (.leaf none)
theorem ZAQ (a:HL Zk):Zh (envX prog (Z6 29) [] 2047 8) Tryz.f42 Zk ZG a=ZmU a.1 a.2.1 a.2.2:=by kernel_rfl
def ZmQ (c:TC) (s:Int) (g:List Int):RT (Option (TY×Bool)):=
 let x1:List TY:=[(bif s==5 then 8 else 1,pcOf c,0,4)]
 let x2:List TY:=x1++[(9,pcOf c,0,3)]
 let x3:QT3:=(c,s==5,g,x2)
 let x4:=mAtC x3 1
 let x5:= !x4||x4
 let x6:= !s==5||(!x5||x4)
 let x7:= !x6
 let x8:= !s==5||x5
 let x9:= !x8
 let x10:List TY:=x1++[(2,u16.wrap ((pcOf c)+u16.wrap 1),0,3)]
 let x11:QT3:=(c,s==5,g,x10)
 let x12:=mAtC x11 1
 let x13:= !x12||x12
 let x14:=s==5||(!x13||x12)
 let x15:List TY:=[(12,pcOf c,0,6)]++[(5,u16.wrap ((spOf c)-1),u8.wrap (shrI u16 (pcOf c) 8),3)]++[(5,u16.wrap ((spOf c)-2),u8.wrap (pcOf c),3)]
 let x17:=mAt x3 1
 let x18:List TY:=x2++[(6,ZcS x17 x17,0,3)]
 let x20:=mAt x11 1
 let x21:List TY:=x10++[(6,ZcS x20 x20,0,3)]
 .br (Zc s||(!decide (iN (List.length g)>0)||(!Zf 0 (List.length g)||(!(Zb c.1 (R.get (R.int u8) g 0)).1==33||(x7||(x9||(!x14||(s==5||x13)))))))) (.br (Zc s||(!decide (iN (List.length g)>0)||(!Zf 0 (List.length g)||(!(Zb c.1 (R.get (R.int u8) g 0)).1==33||(x7||(x9||x14)))))) (.br (Zc s||(!decide (iN (List.length g)>0)||(!Zf 0 (List.length g)||(!(Zb c.1 (R.get (R.int u8) g 0)).1==33||(x7||x8))))) (.br (Zc s||(!decide (iN (List.length g)>0)||(!Zf 0 (List.length g)||(!(Zb c.1 (R.get (R.int u8) g 0)).1==33||x6)))) (.br (Zc s||(!decide (iN (List.length g)>0)||(!Zf 0 (List.length g)||(Zb c.1 (R.get (R.int u8) g 0)).1==33))) (.br (Zc s||(!decide (iN (List.length g)>0)||Zf 0 (List.length g))) (.br (Zc s) (fin3 g x15) (.br (decide (iN (List.length g)>0)) (.br (s==5) (fin3 g x18) (fin3 g x21)) (fin3 g x1))) (.leaf none)) (.leaf none)) (.leaf none)) (.leaf none)) (.leaf none)) (.leaf none)
theorem ZAM (a:HL Zk):Zh (envX prog (Z6 33) [] 2047 8) Tryz.f42 Zk ZG a=ZmQ a.1 a.2.1 a.2.2:=by kernel_rfl
def ZmM (c:TC) (s:Int) (g:List Int):RT (Option (TY×Bool)):=
 let x1:List TY:=[(12,pcOf c,0,6)]++[(5,u16.wrap ((spOf c)-1),u8.wrap (shrI u16 (pcOf c) 8),3)]++[(5,u16.wrap ((spOf c)-2),u8.wrap (pcOf c),3)]
 let x3:List TY:=[(bif s==5 then 8 else 1,pcOf c,0,4)]
 let x4:List TY:=x3++[(10,pcOf c,0,3)]
 let x6:Nat:=List.length x3
 let x7:=decide (iN (List.length g)>=iN x6)
 let x8:=Zf (iN (List.length g)) x6
 let x9:TY×Bool:=(R.get (RY) x3 (iN (List.length g)),true)
 .br (Zc s||(!decide (iN (List.length g)>0)||(!Zf 0 (List.length g)||(Zb c.1 (R.get (R.int u8) g 0)).1==37))) (.br (Zc s||(!decide (iN (List.length g)>0)||Zf 0 (List.length g))) (.br (Zc s) (fin3 g x1) (.br (decide (iN (List.length g)>0)) (.br (!rOn c.1) (fin3 g x4) (.br (x7) (.leaf (some (((0,0,0,0),false)))) (.br (x8) (.leaf (some (x9))) (.leaf none)))) (.br (x7) (.leaf (some (((0,0,0,0),false)))) (.br (x8) (.leaf (some (x9))) (.leaf none))))) (.leaf none)) (.leaf none)
theorem ZAI (a:HL Zk):Zh (envX prog (Z6 37) [] 2047 8) Tryz.f42 Zk ZG a=ZmM a.1 a.2.1 a.2.2:=by kernel_rfl
def ZmI (c:TC) (s:Int) (g:List Int):RT (Option (TY×Bool)):=
 let x1:List TY:=[(12,pcOf c,0,6)]++[(5,u16.wrap ((spOf c)-1),u8.wrap (shrI u16 (pcOf c) 8),3)]++[(5,u16.wrap ((spOf c)-2),u8.wrap (pcOf c),3)]
 let x3:List TY:=[(bif s==5 then 8 else 1,pcOf c,0,4)]
 let x4:List TY:=x3++[(11,pcOf c,0,3)]
 .br (Zc s||(!decide (iN (List.length g)>0)||(!Zf 0 (List.length g)||(Zb c.1 (R.get (R.int u8) g 0)).1==41))) (.br (Zc s||(!decide (iN (List.length g)>0)||Zf 0 (List.length g))) (.br (Zc s) (fin3 g x1) (.br (decide (iN (List.length g)>0)) (fin3 g x4) (fin3 g x3))) (.leaf none)) (.leaf none)
theorem ZAE (a:HL Zk):Zh (envX prog (Z6 41) [] 2047 8) Tryz.f42 Zk ZG a=ZmI a.1 a.2.1 a.2.2:=by kernel_rfl
def ZmE (c:TC) (s:Int) (g:List Int):RT (Option (TY×Bool)):=
 let x1:=u16.wrap ((spOf c)-1)
 let x2:=u16.wrap ((spOf c)-2)
 let x3:List TY:=[(12,pcOf c,0,6)]++[(5,x1,u8.wrap (shrI u16 (pcOf c) 8),3)]++[(5,x2,u8.wrap (pcOf c),3)]
 let x5:List TY:=[(bif s==5 then 8 else 1,pcOf c,0,4)]
 let x6:QT3:=(c,s==5,g,x5)
 let x7:=ZC x6 (Zb c.1 (R.get (R.int u8) g 0)).2.1
 let x8:List TY:=x5++[(5,x1,u8.wrap (shrI u16 x7 8),3)]++[(5,x2,u8.wrap x7,3)]
 let x10:Nat:=List.length x5
 let x11:=decide (iN (List.length g)>=iN x10)
 let x12:=Zf (iN (List.length g)) x10
 let x13:TY×Bool:=(R.get (RY) x5 (iN (List.length g)),true)
 .br (Zc s||(!decide (iN (List.length g)>0)||(!Zf 0 (List.length g)||(Zb c.1 (R.get (R.int u8) g 0)).1==45))) (.br (Zc s||(!decide (iN (List.length g)>0)||Zf 0 (List.length g))) (.br (Zc s) (fin3 g x3) (.br (decide (iN (List.length g)>0)) (.br (ZeH x6 (45,(Zb c.1 (R.get (R.int u8) g 0)).2)) (fin3 g x8) (.br (x11) (.leaf (some (((0,0,0,0),false)))) (.br (x12) (.leaf (some (x13))) (.leaf none)))) (.br (x11) (.leaf (some (((0,0,0,0),false)))) (.br (x12) (.leaf (some (x13))) (.leaf none))))) (.leaf none)) (.leaf none)
theorem ZAA (a:HL Zk):Zh (envX prog (Z6 45) [] 2047 8) Tryz.f42 Zk ZG a=ZmE a.1 a.2.1 a.2.2:=by kernel_rfl
end
end Go.Proofs.YtghoimllhpjkjaaGreat
