import Derived.Test.YtpnjbfjomebppaaGreatFin0
open Go.IntKind (u8 u16 i64)
set_option linter.unusedSimpArgs false
open Go Go.S3 Go.Proofs
set_option linter.unusedVariables false
set_option maxRecDepth 100000
namespace Go.Proofs.YtpnjbfjomebppaaGreat
noncomputable section
def ZGC (c:TC) (s:Int) (g:List Int) (ln:QT0):RT (Option TC):=
 let x1:QT1:=(c,s==5,g,(0,0,0,0,0,0,0,0),[])
 let x2:=qAtC x1 0
 let x3:=Zb c.1 (qAt x1 0)
 let x4:= !x2||x3.1==4
 let x5:=x3.2
 let x6:QT1:=(c,s==5,g,(4,x5),[])
 .br (Ze s) (Ls ((c.1,(rgx c.2.1 c.2.1.2.2.2.2.2.2.2.1 (u16.wrap ((spOf c)-2)) (Zh s)),c.2.2))) (.br (!x4||x2) (.br (x4) (.br (Zdq x6 1) (Ls ((c.1,Zm (rgx c.2.1 c.2.1.2.2.2.2.2.2.2.1 (spOf c) (ZC x6)) x5.2.2.2.1 (Zhm x6 1),c.2.2.1,false,false,c.2.2.2.2.2))) Ln) Ln) Ln)
theorem ZU8 (a:HL ZU):EV0 4 a=ZGC a.1 a.2.1 a.2.2.1 a.2.2.2:=by kernel_rfl
def ZGy (c:TC) (s:Int) (g:List Int) (ln:QT0):RT (Option TC):=
 let x1:QT1:=(c,s==5,g,(0,0,0,0,0,0,0,0),[])
 let x2:=qAtC x1 0
 let x3:=Zb c.1 (qAt x1 0)
 let x4:= !x2||x3.1==8
 .br (Ze s) (Ls ((c.1,(rgx c.2.1 c.2.1.2.2.2.2.2.2.2.1 (u16.wrap ((spOf c)-2)) (Zh s)),c.2.2))) (.br (!x4||x2) (.br (x4) (Ls ((c.1,(rgx c.2.1 c.2.1.2.2.2.2.2.2.2.1 (spOf c) (ZC (c,s==5,g,(8,x3.2),[]))),c.2.2.1,false,false,c.2.2.2.2.2))) Ln) Ln)
theorem ZU4 (a:HL ZU):EV0 8 a=ZGy a.1 a.2.1 a.2.2.1 a.2.2.2:=by kernel_rfl
def ZxW (c:TC) (s:Int) (g:List Int) (ln:QT0):RT (Option TC):=
 let x1:QT1:=(c,s==5,g,(0,0,0,0,0,0,0,0),[])
 let x2:=qAtC x1 0
 let x3:=Zb c.1 (qAt x1 0)
 let x4:= !x2||x3.1==12
 let x5:=x3.2
 let x6:QT1:=(c,s==5,g,(12,x5),[])
 let x7:=rDo c.1 x5.2.2.2.2.1 c.2.1.1 (ZjH x6) c.2.1.2.2.2.2.2.2.2.1
 .br (Ze s) (Ls ((c.1,(rgx c.2.1 c.2.1.2.2.2.2.2.2.2.1 (u16.wrap ((spOf c)-2)) (Zh s)),c.2.2))) (.br (!x4||x2) (.br (x4) (.br (Zhl x6) (Ls ((c.1,(x7.1,c.2.1.2.1,c.2.1.2.2.1,c.2.1.2.2.2.1,c.2.1.2.2.2.2.1,c.2.1.2.2.2.2.2.1,c.2.1.2.2.2.2.2.2.1,x7.2,spOf c,ZC x6),c.2.2.1,false,false,c.2.2.2.2.2))) Ln) Ln) Ln)
theorem ZOG (a:HL ZU):EV0 12 a=ZxW a.1 a.2.1 a.2.2.1 a.2.2.2:=by kernel_rfl
def ZxS (c:TC) (s:Int) (g:List Int) (ln:QT0):RT (Option TC):=
 let x1:QT1:=(c,s==5,g,(0,0,0,0,0,0,0,0),[])
 let x2:=qAtC x1 0
 let x3:=Zb c.1 (qAt x1 0)
 let x4:= !x2||x3.1==16
 let x5:=x3.2
 let x6:QT1:=(c,s==5,g,(16,x5),[])
 let x7:=x5.2.2.2.1
 let x8:=rInx c.1 (ZeL x6 x7) c.2.1.2.2.2.2.2.2.2.1
 .br (Ze s) (Ls ((c.1,(rgx c.2.1 c.2.1.2.2.2.2.2.2.2.1 (u16.wrap ((spOf c)-2)) (Zh s)),c.2.2))) (.br (!x4||x2) (.br (x4) (Ls ((c.1,Zm (rgx c.2.1 x8.2 (spOf c) (ZC x6)) x7 x8.1,c.2.2.1,false,false,c.2.2.2.2.2))) Ln) Ln)
theorem ZOC (a:HL ZU):EV0 16 a=ZxS a.1 a.2.1 a.2.2.1 a.2.2.2:=by kernel_rfl
def ZxO (c:TC) (s:Int) (g:List Int) (ln:QT0):RT (Option TC):=
 let x1:QT1:=(c,s==5,g,(0,0,0,0,0,0,0,0),[])
 let x2:=qAtC x1 0
 let x3:=Zb c.1 (qAt x1 0)
 let x4:= !x2||x3.1==20
 .br (Ze s) (Ls ((c.1,(rgx c.2.1 c.2.1.2.2.2.2.2.2.2.1 (u16.wrap ((spOf c)-2)) (Zh s)),c.2.2))) (.br (!x4||x2) (.br (x4) (Ls ((c.1,(notI u8 c.2.1.1,c.2.1.2.1,c.2.1.2.2.1,c.2.1.2.2.2.1,c.2.1.2.2.2.2.1,c.2.1.2.2.2.2.2.1,c.2.1.2.2.2.2.2.2.1,c.2.1.2.2.2.2.2.2.2.1,spOf c,ZC (c,s==5,g,(20,x3.2),[])),c.2.2.1,false,false,c.2.2.2.2.2))) Ln) Ln)
theorem ZOy (a:HL ZU):EV0 20 a=ZxO a.1 a.2.1 a.2.2.1 a.2.2.2:=by kernel_rfl
def ZxK (c:TC) (s:Int) (g:List Int) (ln:QT0):RT (Option TC):=
 let x1:QT1:=(c,s==5,g,(0,0,0,0,0,0,0,0),[])
 let x2:=qAtC x1 0
 let x3:=Zb c.1 (qAt x1 0)
 let x4:= !x2||x3.1==24
 let x5:QT1:=(c,s==5,g,(24,x3.2),[])
 let x6:=Ziy x5
 .br (Ze s) (Ls ((c.1,(rgx c.2.1 c.2.1.2.2.2.2.2.2.2.1 (u16.wrap ((spOf c)-2)) (Zh s)),c.2.2))) (.br (!x4||x2) (.br (x4) (.br (!x6||Zdq x5 1) (Ls ((c.1,(rgx c.2.1 c.2.1.2.2.2.2.2.2.2.1 (spOf c) (bif x6 then Zhm x5 1 else ZC x5)),c.2.2.1,false,false,c.2.2.2.2.2))) Ln) Ln) Ln)
theorem ZOu (a:HL ZU):EV0 24 a=ZxK a.1 a.2.1 a.2.2.1 a.2.2.2:=by kernel_rfl
def ZxG (c:TC) (s:Int) (g:List Int) (ln:QT0):RT (Option TC):=
 let x1:QT1:=(c,s==5,g,(0,0,0,0,0,0,0,0),[])
 let x2:=qAtC x1 0
 let x3:=Zb c.1 (qAt x1 0)
 let x4:= !x2||x3.1==28
 .br (Ze s) (Ls ((c.1,(rgx c.2.1 c.2.1.2.2.2.2.2.2.2.1 (u16.wrap ((spOf c)-2)) (Zh s)),c.2.2))) (.br (!x4||x2) (.br (x4) (Ls ((c.1,(rgx c.2.1 c.2.1.2.2.2.2.2.2.2.1 (spOf c) (ZeL (c,s==5,g,(28,x3.2),[]) 2)),c.2.2.1,false,false,c.2.2.2.2.2))) Ln) Ln)
theorem ZOq (a:HL ZU):EV0 28 a=ZxG a.1 a.2.1 a.2.2.1 a.2.2.2:=by kernel_rfl
def ZxC (c:TC) (s:Int) (g:List Int) (ln:QT0):RT (Option TC):=
 let x1:QT1:=(c,s==5,g,(0,0,0,0,0,0,0,0),[])
 let x2:=qAtC x1 0
 let x3:=Zb c.1 (qAt x1 0)
 let x4:= !x2||x3.1==32
 let x5:QT1:=(c,s==5,g,(32,x3.2),[])
 .br (Ze s) (Ls ((c.1,(rgx c.2.1 c.2.1.2.2.2.2.2.2.2.1 (u16.wrap ((spOf c)-2)) (Zh s)),c.2.2))) (.br (!x4||x2) (.br (x4) (.br (Zdq x5 1) (Ls ((c.1,Zm (rgx c.2.1 c.2.1.2.2.2.2.2.2.2.1 (spOf c) (ZC x5)) 2 (Zhm x5 1),c.2.2.1,false,false,c.2.2.2.2.2))) Ln) Ln) Ln)
theorem ZOm (a:HL ZU):EV0 32 a=ZxC a.1 a.2.1 a.2.2.1 a.2.2.2:=by kernel_rfl
def Zxy (c:TC) (s:Int) (g:List Int) (ln:QT0):RT (Option TC):=
 let x1:QT1:=(c,s==5,g,(0,0,0,0,0,0,0,0),[])
 let x2:=qAtC x1 0
 let x3:=Zb c.1 (qAt x1 0)
 let x4:= !x2||x3.1==36
 .br (Ze s) (Ls ((c.1,(rgx c.2.1 c.2.1.2.2.2.2.2.2.2.1 (u16.wrap ((spOf c)-2)) (Zh s)),c.2.2))) (.br (!x4||x2) (.br (x4) (Ls ((c.1,(rgx c.2.1 c.2.1.2.2.2.2.2.2.2.1 (spOf c) (ZC (c,s==5,g,(36,x3.2),[]))),false,false,false,c.2.2.2.2.2))) Ln) Ln)
theorem ZOi (a:HL ZU):EV0 36 a=Zxy a.1 a.2.1 a.2.2.1 a.2.2.2:=by kernel_rfl
def Zxu (c:TC) (s:Int) (g:List Int) (ln:QT0):RT (Option TC):=
 let x1:QT1:=(c,s==5,g,(0,0,0,0,0,0,0,0),[])
 let x2:=qAtC x1 0
 let x3:=Zb c.1 (qAt x1 0)
 let x4:= !x2||x3.1==40
 let x5:QT1:=(c,s==5,g,(40,x3.2),[])
 let x6:=ZAy (ZeL x5 2) (ZeL x5 0)
 .br (Ze s) (Ls ((c.1,(rgx c.2.1 c.2.1.2.2.2.2.2.2.2.1 (u16.wrap ((spOf c)-2)) (Zh s)),c.2.2))) (.br (!x4||x2) (.br (x4) (Ls ((c.1,Zm (rgx c.2.1 x6.2 (spOf c) (ZC x5)) 2 x6.1,c.2.2.1,false,false,c.2.2.2.2.2))) Ln) Ln)
theorem ZOe (a:HL ZU):EV0 40 a=Zxu a.1 a.2.1 a.2.2.1 a.2.2.2:=by kernel_rfl
def Zxq (c:TC) (s:Int) (g:List Int) (ln:QT0):RT (Option TC):=
 let x1:QT1:=(c,s==5,g,(0,0,0,0,0,0,0,0),[])
 let x2:=qAtC x1 0
 let x3:=Zb c.1 (qAt x1 0)
 let x4:= !x2||x3.1==44
 let x5:QT1:=(c,s==5,g,(44,x3.2),[])
 .br (Ze s) (Ls ((c.1,(rgx c.2.1 c.2.1.2.2.2.2.2.2.2.1 (u16.wrap ((spOf c)-2)) (Zh s)),c.2.2))) (.br (!x4||x2) (.br (x4) (.br (qAtC x5 1) (Ls ((c.1,Zm (rgx c.2.1 c.2.1.2.2.2.2.2.2.2.1 (spOf c) (ZC x5)) 1 (u16.wrap ((spOf c)+u16.wrap (qAt x5 1))),c.2.2.1,false,false,c.2.2.2.2.2))) Ln) Ln) Ln)
theorem ZOa (a:HL ZU):EV0 44 a=Zxq a.1 a.2.1 a.2.2.1 a.2.2.2:=by kernel_rfl
def ZEV (c:TC) (s:Int) (g:List Int) (ln:QT0):RT (Option TC):=
 let x1:=Zb c.1 (mAt (c,s==5,g,[]) 0)
 .br (Zc s) (Ls ((c.1,(rgx c.2.1 c.2.1.2.2.2.2.2.2.2.1 (u16.wrap ((spOf c)-2)) (Zh s)),c.2.2))) (.br (!mAtC (c,s==5,g,[]) 0||x1.1==1) (.br (mAtC (c,s==5,g,[]) 0) (Ls ((c.1,(rgx c.2.1 c.2.1.2.2.2.2.2.2.2.1 (spOf c) (Zy (c,s==5,g,[]) x1.2.1)),c.2.2.1,false,false,c.2.2.2.2.2))) Ln) Ln)
theorem ZSO (a:HL ZU):EV2 1 a=ZEV a.1 a.2.1 a.2.2.1 a.2.2.2:=by kernel_rfl
def ZER (c:TC) (s:Int) (g:List Int) (ln:QT0):RT (Option TC):=
 let x1:=Zb c.1 (mAt (c,s==5,g,[]) 0)
 .br (Zc s) (Ls ((c.1,(rgx c.2.1 c.2.1.2.2.2.2.2.2.2.1 (u16.wrap ((spOf c)-2)) (Zh s)),c.2.2))) (.br (!mAtC (c,s==5,g,[]) 0||x1.1==5) (.br (mAtC (c,s==5,g,[]) 0) (.br (mAtC (c,s==5,g,[]) 3) (Ls ((c.1,(mAt (c,s==5,g,[]) 3,c.2.1.2.1,c.2.1.2.2.1,c.2.1.2.2.2.1,c.2.1.2.2.2.2.1,c.2.1.2.2.2.2.2.1,c.2.1.2.2.2.2.2.2.1,c.2.1.2.2.2.2.2.2.2.1,spOf c,Zy (c,s==5,g,[]) x1.2.1),c.2.2.1,false,false,c.2.2.2.2.2))) Ln) Ln) Ln)
theorem ZSK (a:HL ZU):EV2 5 a=ZER a.1 a.2.1 a.2.2.1 a.2.2.2:=by kernel_rfl
def ZEN (c:TC) (s:Int) (g:List Int) (ln:QT0):RT (Option TC):=
 let x1:=Zb c.1 (mAt (c,s==5,g,[]) 0)
 .br (Zc s) (Ls ((c.1,(rgx c.2.1 c.2.1.2.2.2.2.2.2.2.1 (u16.wrap ((spOf c)-2)) (Zh s)),c.2.2))) (.br (!mAtC (c,s==5,g,[]) 0||x1.1==9) (.br (mAtC (c,s==5,g,[]) 0) (.br (mAtC (c,s==5,g,[]) 1) (Ls ((c.1,(mAt (c,s==5,g,[]) 1,c.2.1.2.1,c.2.1.2.2.1,c.2.1.2.2.2.1,c.2.1.2.2.2.2.1,c.2.1.2.2.2.2.2.1,c.2.1.2.2.2.2.2.2.1,c.2.1.2.2.2.2.2.2.2.1,spOf c,Zy (c,s==5,g,[]) x1.2.1),c.2.2.1,false,false,c.2.2.2.2.2))) Ln) Ln) Ln)
theorem ZSG (a:HL ZU):EV2 9 a=ZEN a.1 a.2.1 a.2.2.1 a.2.2.2:=by kernel_rfl
def Zv8 (c:TC) (s:Int) (g:List Int) (ln:QT0):RT (Option TC):=
 let x1:=Zb c.1 (mAt (c,s==5,g,[]) 0)
 let x2:=x1.2
 let x3:=rDo c.1 x2.2.2.2.2.1 c.2.1.1 (mAt (c,s==5,g,[]) 1) c.2.1.2.2.2.2.2.2.2.1
 .br (Zc s) (Ls ((c.1,(rgx c.2.1 c.2.1.2.2.2.2.2.2.2.1 (u16.wrap ((spOf c)-2)) (Zh s)),c.2.2))) (.br (!mAtC (c,s==5,g,[]) 0||x1.1==13) (.br (mAtC (c,s==5,g,[]) 0) (.br (mAtC (c,s==5,g,[]) 1) (Ls ((c.1,(x3.1,c.2.1.2.1,c.2.1.2.2.1,c.2.1.2.2.2.1,c.2.1.2.2.2.2.1,c.2.1.2.2.2.2.2.1,c.2.1.2.2.2.2.2.2.1,x3.2,spOf c,Zy (c,s==5,g,[]) x2.1),c.2.2.1,false,false,c.2.2.2.2.2))) Ln) Ln) Ln)
theorem ZNn (a:HL ZU):EV2 13 a=Zv8 a.1 a.2.1 a.2.2.1 a.2.2.2:=by kernel_rfl
def Zv4 (c:TC) (s:Int) (g:List Int) (ln:QT0):RT (Option TC):=
 let x1:=Zb c.1 (mAt (c,s==5,g,[]) 0)
 let x2:=x1.2
 let x3:=x2.2.2.2.1
 let x4:=rDcx c.1 (Zao c.2.1 x3) c.2.1.2.2.2.2.2.2.2.1
 let x5:=Zm c.2.1 x3 x4.1
 let x6:=x5.2
 let x7:=x6.2
 let x8:=x7.2
 let x9:=x8.2
 let x10:=x9.2
 let x11:=x10.2
 .br (Zc s) (Ls ((c.1,(rgx c.2.1 c.2.1.2.2.2.2.2.2.2.1 (u16.wrap ((spOf c)-2)) (Zh s)),c.2.2))) (.br (!mAtC (c,s==5,g,[]) 0||x1.1==17) (.br (mAtC (c,s==5,g,[]) 0) (Ls ((c.1,(x5.1,x6.1,x7.1,x8.1,x9.1,x10.1,x11.1,x4.2,x11.2.2.1,Zy (c,s==5,g,[]) x2.1),c.2.2.1,false,false,c.2.2.2.2.2))) Ln) Ln)
theorem ZNj (a:HL ZU):EV2 17 a=Zv4 a.1 a.2.1 a.2.2.1 a.2.2.2:=by kernel_rfl
def Zv0 (c:TC) (s:Int) (g:List Int) (ln:QT0):RT (Option TC):=
 let x1:=Zb c.1 (mAt (c,s==5,g,[]) 0)
 let x2:=c.2.1.2.2.2.2.2.2.2.1.2.2.2
 let x3:=x2.2
 .br (Zc s) (Ls ((c.1,(rgx c.2.1 c.2.1.2.2.2.2.2.2.2.1 (u16.wrap ((spOf c)-2)) (Zh s)),c.2.2))) (.br (!mAtC (c,s==5,g,[]) 0||x1.1==21) (.br (mAtC (c,s==5,g,[]) 0) (Ls ((c.1,(rgx c.2.1 ((c.2.1.2.2.2.2.2.2.2.1.1,c.2.1.2.2.2.2.2.2.2.1.2.1,c.2.1.2.2.2.2.2.2.2.1.2.2.1,x2.1,x3.1,x3.2.1,true)) (spOf c) (Zy (c,s==5,g,[]) x1.2.1)),c.2.2.1,false,false,c.2.2.2.2.2))) Ln) Ln)
theorem ZNf (a:HL ZU):EV2 21 a=Zv0 a.1 a.2.1 a.2.2.1 a.2.2.2:=by kernel_rfl
def ZvW (c:TC) (s:Int) (g:List Int) (ln:QT0):RT (Option TC):=
 let x1:=u16.wrap ((spOf c)-2)
 let x2:=Zb c.1 (mAt (c,s==5,g,[]) 0)
 let x3:=x2.2
 let x4:= !Zft (c,s==5,g,[]) (25,x3)
 let x5:=c.2.1.2.2.2.2.2.2.2.1.2.2.1
 let x6:=c.2.1.2.2.2.2.2.2.2.1.2.2.2
 let x7:=x6.1
 let x8:=x6.2
 let x9:=x8.1
 let x10:=x8.2
 let x11:=x10.1
 let x12:=x10.2
 .br (Zc s) (Ls ((c.1,(rgx c.2.1 c.2.1.2.2.2.2.2.2.2.1 x1 (Zh s)),c.2.2))) (.br (!mAtC (c,s==5,g,[]) 0||x2.1==25) (.br (mAtC (c,s==5,g,[]) 0) (.br (x4||ZcL (c,s==5,g,[]) 1) (Ls ((bif x4 then c.1 else c.1,(bif x4 then c.2.1.1 else c.2.1.1,bif x4 then c.2.1.2.1 else c.2.1.2.1,bif x4 then c.2.1.2.2.1 else c.2.1.2.2.1,bif x4 then c.2.1.2.2.2.1 else c.2.1.2.2.2.1,bif x4 then c.2.1.2.2.2.2.1 else c.2.1.2.2.2.2.1,bif x4 then c.2.1.2.2.2.2.2.1 else c.2.1.2.2.2.2.2.1,bif x4 then c.2.1.2.2.2.2.2.2.1 else c.2.1.2.2.2.2.2.2.1,(bif x4 then c.2.1.2.2.2.2.2.2.2.1.1 else c.2.1.2.2.2.2.2.2.2.1.1,bif x4 then c.2.1.2.2.2.2.2.2.2.1.2.1 else c.2.1.2.2.2.2.2.2.2.1.2.1,bif x4 then x5 else x5,bif x4 then x7 else x7,bif x4 then x9 else x9,bif x4 then x11 else x11,bif x4 then x12 else x12),bif x4 then (spOf c) else x1,bif x4 then Zy (c,s==5,g,[]) x3.1 else ZfC (c,s==5,g,[]) 1),bif x4 then c.2.2.1 else c.2.2.1,false,false,bif x4 then c.2.2.2.2.2.1 else c.2.2.2.2.2.1,bif x4 then c.2.2.2.2.2.2.1 else c.2.2.2.2.2.2.1,bif x4 then c.2.2.2.2.2.2.2.1 else c.2.2.2.2.2.2.2.1,bif x4 then c.2.2.2.2.2.2.2.2.1 else c.2.2.2.2.2.2.2.2.1,bif x4 then c.2.2.2.2.2.2.2.2.2.1 else c.2.2.2.2.2.2.2.2.2.1,bif x4 then c.2.2.2.2.2.2.2.2.2.2.1 else c.2.2.2.2.2.2.2.2.2.2.1,bif x4 then c.2.2.2.2.2.2.2.2.2.2.2.1 else c.2.2.2.2.2.2.2.2.2.2.2.1,bif x4 then c.2.2.2.2.2.2.2.2.2.2.2.2 else c.2.2.2.2.2.2.2.2.2.2.2.2))) Ln) Ln) Ln)
theorem ZNb (a:HL ZU):EV2 25 a=ZvW a.1 a.2.1 a.2.2.1 a.2.2.2:=by kernel_rfl
def ZvS (c:TC) (s:Int) (g:List Int) (ln:QT0):RT (Option TC):=
 let x1:=Zb c.1 (mAt (c,s==5,g,[]) 0)
 .br (Zc s) (Ls ((c.1,(rgx c.2.1 c.2.1.2.2.2.2.2.2.2.1 (u16.wrap ((spOf c)-2)) (Zh s)),c.2.2))) (.br (!mAtC (c,s==5,g,[]) 0||x1.1==29) (.br (mAtC (c,s==5,g,[]) 0) (Ls ((c.1,(rgx c.2.1 c.2.1.2.2.2.2.2.2.2.1 (Zao c.2.1 2) (Zy (c,s==5,g,[]) x1.2.1)),c.2.2.1,false,false,c.2.2.2.2.2))) Ln) Ln)
theorem ZM7 (a:HL ZU):EV2 29 a=ZvS a.1 a.2.1 a.2.2.1 a.2.2.2:=by kernel_rfl
def ZvO (c:TC) (s:Int) (g:List Int) (ln:QT0):RT (Option TC):=
 let x1:=Zb c.1 (mAt (c,s==5,g,[]) 0)
 .br (Zc s) (Ls ((c.1,(rgx c.2.1 c.2.1.2.2.2.2.2.2.2.1 (u16.wrap ((spOf c)-2)) (Zh s)),c.2.2))) (.br (!mAtC (c,s==5,g,[]) 0||x1.1==33) (.br (mAtC (c,s==5,g,[]) 0) (.br (mAtC (c,s==5,g,[]) 2) (Ls ((c.1,(mAt (c,s==5,g,[]) 2,c.2.1.2.1,c.2.1.2.2.1,c.2.1.2.2.2.1,c.2.1.2.2.2.2.1,c.2.1.2.2.2.2.2.1,c.2.1.2.2.2.2.2.2.1,c.2.1.2.2.2.2.2.2.2.1,spOf c,Zy (c,s==5,g,[]) x1.2.1),c.2.2.1,false,false,c.2.2.2.2.2))) Ln) Ln) Ln)
theorem ZM3 (a:HL ZU):EV2 33 a=ZvO a.1 a.2.1 a.2.2.1 a.2.2.2:=by kernel_rfl
def ZvK (c:TC) (s:Int) (g:List Int) (ln:QT0):RT (Option TC):=
 let x1:=Zb c.1 (mAt (c,s==5,g,[]) 0)
 .br (Zc s) (Ls ((c.1,(rgx c.2.1 c.2.1.2.2.2.2.2.2.2.1 (u16.wrap ((spOf c)-2)) (Zh s)),c.2.2))) (.br (!mAtC (c,s==5,g,[]) 0||x1.1==37) (.br (mAtC (c,s==5,g,[]) 0) (Ls ((c.1,(rgx c.2.1 c.2.1.2.2.2.2.2.2.2.1 (spOf c) (Zy (c,s==5,g,[]) x1.2.1)),c.2.2.1,false,true,c.2.2.2.2.2))) Ln) Ln)
theorem ZMZ (a:HL ZU):EV2 37 a=ZvK a.1 a.2.1 a.2.2.1 a.2.2.2:=by kernel_rfl
def ZvG (c:TC) (s:Int) (g:List Int) (ln:QT0):RT (Option TC):=
 let x1:=Zb c.1 (mAt (c,s==5,g,[]) 0)
 let x2:Int×Int×Int×Int×Int×TF×Int×Int:=(Zm c.2.1 2 (Zwi (Zao c.2.1 2)).1).2.2
 let x3:=x2.2
 let x4:=x3.2
 let x5:=x4.2
 let x6:=x5.2
 let x7:=x6.2
 let x8:=x7.1
 let x9:=x8.2
 let x10:=x9.2
 let x11:=x10.2
 let x12:=x11.2
 .br (Zc s) (Ls ((c.1,(rgx c.2.1 c.2.1.2.2.2.2.2.2.2.1 (u16.wrap ((spOf c)-2)) (Zh s)),c.2.2))) (.br (!mAtC (c,s==5,g,[]) 0||x1.1==41) (.br (mAtC (c,s==5,g,[]) 0) (Ls ((c.1,((Zm c.2.1 2 (Zwi (Zao c.2.1 2)).1).1,(Zm c.2.1 2 (Zwi (Zao c.2.1 2)).1).2.1,x2.1,x3.1,x4.1,x5.1,x6.1,(x8.1,x9.1,x10.1,x11.1,x12.1,x12.2.1,(Zwi (Zao c.2.1 2)).2),x7.2.1,Zy (c,s==5,g,[]) x1.2.1),c.2.2.1,false,false,c.2.2.2.2.2))) Ln) Ln)
theorem ZMV (a:HL ZU):EV2 41 a=ZvG a.1 a.2.1 a.2.2.1 a.2.2.2:=by kernel_rfl
def ZvC (c:TC) (s:Int) (g:List Int) (ln:QT0):RT (Option TC):=
 let x1:=u16.wrap ((spOf c)-2)
 let x2:=Zb c.1 (mAt (c,s==5,g,[]) 0)
 let x3:=x2.2
 let x4:= !Zft (c,s==5,g,[]) (45,x3)
 let x5:=c.2.1.2.2.2.2.2.2.2.1.2.2.1
 let x6:=c.2.1.2.2.2.2.2.2.2.1.2.2.2
 let x7:=x6.1
 let x8:=x6.2
 let x9:=x8.1
 let x10:=x8.2
 let x11:=x10.1
 let x12:=x10.2
 .br (Zc s) (Ls ((c.1,(rgx c.2.1 c.2.1.2.2.2.2.2.2.2.1 x1 (Zh s)),c.2.2))) (.br (!mAtC (c,s==5,g,[]) 0||x2.1==45) (.br (mAtC (c,s==5,g,[]) 0) (Ls ((bif x4 then c.1 else c.1,(bif x4 then c.2.1.1 else c.2.1.1,bif x4 then c.2.1.2.1 else c.2.1.2.1,bif x4 then c.2.1.2.2.1 else c.2.1.2.2.1,bif x4 then c.2.1.2.2.2.1 else c.2.1.2.2.2.1,bif x4 then c.2.1.2.2.2.2.1 else c.2.1.2.2.2.2.1,bif x4 then c.2.1.2.2.2.2.2.1 else c.2.1.2.2.2.2.2.1,bif x4 then c.2.1.2.2.2.2.2.2.1 else c.2.1.2.2.2.2.2.2.1,(bif x4 then c.2.1.2.2.2.2.2.2.2.1.1 else c.2.1.2.2.2.2.2.2.2.1.1,bif x4 then c.2.1.2.2.2.2.2.2.2.1.2.1 else c.2.1.2.2.2.2.2.2.2.1.2.1,bif x4 then x5 else x5,bif x4 then x7 else x7,bif x4 then x9 else x9,bif x4 then x11 else x11,bif x4 then x12 else x12),bif x4 then (spOf c) else x1,bif x4 then Zy (c,s==5,g,[]) x3.1 else 64),bif x4 then c.2.2.1 else c.2.2.1,false,false,bif x4 then c.2.2.2.2.2.1 else c.2.2.2.2.2.1,bif x4 then c.2.2.2.2.2.2.1 else c.2.2.2.2.2.2.1,bif x4 then c.2.2.2.2.2.2.2.1 else c.2.2.2.2.2.2.2.1,bif x4 then c.2.2.2.2.2.2.2.2.1 else c.2.2.2.2.2.2.2.2.1,bif x4 then c.2.2.2.2.2.2.2.2.2.1 else c.2.2.2.2.2.2.2.2.2.1,bif x4 then c.2.2.2.2.2.2.2.2.2.2.1 else c.2.2.2.2.2.2.2.2.2.2.1,bif x4 then c.2.2.2.2.2.2.2.2.2.2.2.1 else c.2.2.2.2.2.2.2.2.2.2.2.1,bif x4 then c.2.2.2.2.2.2.2.2.2.2.2.2 else c.2.2.2.2.2.2.2.2.2.2.2.2))) Ln) Ln)
theorem ZMR (a:HL ZU):EV2 45 a=ZvC a.1 a.2.1 a.2.2.1 a.2.2.2:=by kernel_rfl
