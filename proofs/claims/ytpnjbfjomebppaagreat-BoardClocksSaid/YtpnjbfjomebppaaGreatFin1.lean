import Derived.Test.YtpnjbfjomebppaaGreatFin0
open Go.IntKind (u8 u16 i64)
set_option linter.unusedSimpArgs false
open Go Go.S3 Go.Proofs
set_option linter.unusedVariables false
set_option maxRecDepth 100000
namespace Go.Proofs.YtpnjbfjomebppaaGreat
noncomputable section
def ZGF (c:TC) (s:Int) (g:List Int) (ln:QT0):RT (Option TC):=
 let x1:QT1:=(c,s==5,g,(0,0,0,0,0,0,0,0),[])
 let x2:=qAtC x1 0
 let x3:=Zb c.1 (qAt x1 0)
 let x4:= !x2||x3.1==1
 .br (Ze s) (Ls ((c.1,(rgx c.2.1 c.2.1.2.2.2.2.2.2.2.1 (u16.wrap ((spOf c)-2)) (Zh s)),c.2.2))) (.br (!x4||x2) (.br (x4) (Ls ((c.1,(rgx c.2.1 c.2.1.2.2.2.2.2.2.2.1 (spOf c) (ZC (c,s==5,g,(1,x3.2),[]))),c.2.2.1,false,false,c.2.2.2.2.2))) Ln) Ln)
theorem ZVb (a:HL ZU):EV0 1 a=ZGF a.1 a.2.1 a.2.2.1 a.2.2.2:=by kernel_rfl
def ZGB (c:TC) (s:Int) (g:List Int) (ln:QT0):RT (Option TC):=
 let x1:QT1:=(c,s==5,g,(0,0,0,0,0,0,0,0),[])
 let x2:=qAtC x1 0
 let x3:=Zb c.1 (qAt x1 0)
 let x4:= !x2||x3.1==5
 let x5:QT1:=(c,s==5,g,(5,x3.2),[])
 .br (Ze s) (Ls ((c.1,(rgx c.2.1 c.2.1.2.2.2.2.2.2.2.1 (u16.wrap ((spOf c)-2)) (Zh s)),c.2.2))) (.br (!x4||x2) (.br (x4) (.br (qAtC x5 3) (Ls ((c.1,(qAt x5 3,c.2.1.2.1,c.2.1.2.2.1,c.2.1.2.2.2.1,c.2.1.2.2.2.2.1,c.2.1.2.2.2.2.2.1,c.2.1.2.2.2.2.2.2.1,c.2.1.2.2.2.2.2.2.2.1,spOf c,ZC x5),c.2.2.1,false,false,c.2.2.2.2.2))) Ln) Ln) Ln)
theorem ZU7 (a:HL ZU):EV0 5 a=ZGB a.1 a.2.1 a.2.2.1 a.2.2.2:=by kernel_rfl
def ZGx (c:TC) (s:Int) (g:List Int) (ln:QT0):RT (Option TC):=
 let x1:QT1:=(c,s==5,g,(0,0,0,0,0,0,0,0),[])
 let x2:=qAtC x1 0
 let x3:=Zb c.1 (qAt x1 0)
 let x4:= !x2||x3.1==9
 let x5:QT1:=(c,s==5,g,(9,x3.2),[])
 .br (Ze s) (Ls ((c.1,(rgx c.2.1 c.2.1.2.2.2.2.2.2.2.1 (u16.wrap ((spOf c)-2)) (Zh s)),c.2.2))) (.br (!x4||x2) (.br (x4) (.br (qAtC x5 1) (Ls ((c.1,(qAt x5 1,c.2.1.2.1,c.2.1.2.2.1,c.2.1.2.2.2.1,c.2.1.2.2.2.2.1,c.2.1.2.2.2.2.2.1,c.2.1.2.2.2.2.2.2.1,c.2.1.2.2.2.2.2.2.2.1,spOf c,ZC x5),c.2.2.1,false,false,c.2.2.2.2.2))) Ln) Ln) Ln)
theorem ZU3 (a:HL ZU):EV0 9 a=ZGx a.1 a.2.1 a.2.2.1 a.2.2.2:=by kernel_rfl
def ZxV (c:TC) (s:Int) (g:List Int) (ln:QT0):RT (Option TC):=
 let x1:QT1:=(c,s==5,g,(0,0,0,0,0,0,0,0),[])
 let x2:=qAtC x1 0
 let x3:=Zb c.1 (qAt x1 0)
 let x4:= !x2||x3.1==13
 let x5:=x3.2
 let x6:QT1:=(c,s==5,g,(13,x5),[])
 let x7:=rDo c.1 x5.2.2.2.2.1 c.2.1.1 (ZjH x6) c.2.1.2.2.2.2.2.2.2.1
 .br (Ze s) (Ls ((c.1,(rgx c.2.1 c.2.1.2.2.2.2.2.2.2.1 (u16.wrap ((spOf c)-2)) (Zh s)),c.2.2))) (.br (!x4||x2) (.br (x4) (.br (Zhl x6) (Ls ((c.1,(x7.1,c.2.1.2.1,c.2.1.2.2.1,c.2.1.2.2.2.1,c.2.1.2.2.2.2.1,c.2.1.2.2.2.2.2.1,c.2.1.2.2.2.2.2.2.1,x7.2,spOf c,ZC x6),c.2.2.1,false,false,c.2.2.2.2.2))) Ln) Ln) Ln)
theorem ZOF (a:HL ZU):EV0 13 a=ZxV a.1 a.2.1 a.2.2.1 a.2.2.2:=by kernel_rfl
def ZxR (c:TC) (s:Int) (g:List Int) (ln:QT0):RT (Option TC):=
 let x1:QT1:=(c,s==5,g,(0,0,0,0,0,0,0,0),[])
 let x2:=qAtC x1 0
 let x3:=Zb c.1 (qAt x1 0)
 let x4:= !x2||x3.1==17
 let x5:=x3.2
 let x6:QT1:=(c,s==5,g,(17,x5),[])
 let x7:=x5.2.2.2.1
 let x8:=rDcx c.1 (ZeL x6 x7) c.2.1.2.2.2.2.2.2.2.1
 .br (Ze s) (Ls ((c.1,(rgx c.2.1 c.2.1.2.2.2.2.2.2.2.1 (u16.wrap ((spOf c)-2)) (Zh s)),c.2.2))) (.br (!x4||x2) (.br (x4) (Ls ((c.1,Zm (rgx c.2.1 x8.2 (spOf c) (ZC x6)) x7 x8.1,c.2.2.1,false,false,c.2.2.2.2.2))) Ln) Ln)
theorem ZOB (a:HL ZU):EV0 17 a=ZxR a.1 a.2.1 a.2.2.1 a.2.2.2:=by kernel_rfl
def ZxN (c:TC) (s:Int) (g:List Int) (ln:QT0):RT (Option TC):=
 let x1:QT1:=(c,s==5,g,(0,0,0,0,0,0,0,0),[])
 let x2:=qAtC x1 0
 let x3:=Zb c.1 (qAt x1 0)
 let x4:= !x2||x3.1==21
 let x5:=c.2.1.2.2.2.2.2.2.2.1.2.2.2
 let x6:=x5.2
 .br (Ze s) (Ls ((c.1,(rgx c.2.1 c.2.1.2.2.2.2.2.2.2.1 (u16.wrap ((spOf c)-2)) (Zh s)),c.2.2))) (.br (!x4||x2) (.br (x4) (Ls ((c.1,(rgx c.2.1 ((c.2.1.2.2.2.2.2.2.2.1.1,c.2.1.2.2.2.2.2.2.2.1.2.1,c.2.1.2.2.2.2.2.2.2.1.2.2.1,x5.1,x6.1,x6.2.1,true)) (spOf c) (ZC (c,s==5,g,(21,x3.2),[]))),c.2.2.1,false,false,c.2.2.2.2.2))) Ln) Ln)
theorem ZOx (a:HL ZU):EV0 21 a=ZxN a.1 a.2.1 a.2.2.1 a.2.2.2:=by kernel_rfl
def ZxJ (c:TC) (s:Int) (g:List Int) (ln:QT0):RT (Option TC):=
 let x1:=u16.wrap ((spOf c)-2)
 let x2:QT1:=(c,s==5,g,(0,0,0,0,0,0,0,0),[])
 let x3:=qAtC x2 0
 let x4:=Zb c.1 (qAt x2 0)
 let x5:= !x3||x4.1==25
 let x6:QT1:=(c,s==5,g,(25,x4.2),[])
 let x7:=Ziy x6
 .br (Ze s) (Ls ((c.1,(rgx c.2.1 c.2.1.2.2.2.2.2.2.2.1 x1 (Zh s)),c.2.2))) (.br (!x5||x3) (.br (x5) (.br (!x7||Zdq x6 1) (Ls ((c.1,(rgx c.2.1 c.2.1.2.2.2.2.2.2.2.1 (bif x7 then x1 else (spOf c)) (bif x7 then Zhm x6 1 else ZC x6)),c.2.2.1,false,false,c.2.2.2.2.2))) Ln) Ln) Ln)
theorem ZOt (a:HL ZU):EV0 25 a=ZxJ a.1 a.2.1 a.2.2.1 a.2.2.2:=by kernel_rfl
def ZxF (c:TC) (s:Int) (g:List Int) (ln:QT0):RT (Option TC):=
 let x1:QT1:=(c,s==5,g,(0,0,0,0,0,0,0,0),[])
 let x2:=qAtC x1 0
 let x3:=Zb c.1 (qAt x1 0)
 let x4:= !x2||x3.1==29
 let x5:QT1:=(c,s==5,g,(29,x3.2),[])
 .br (Ze s) (Ls ((c.1,(rgx c.2.1 c.2.1.2.2.2.2.2.2.2.1 (u16.wrap ((spOf c)-2)) (Zh s)),c.2.2))) (.br (!x4||x2) (.br (x4) (Ls ((c.1,(rgx c.2.1 c.2.1.2.2.2.2.2.2.2.1 (ZeL x5 2) (ZC x5)),c.2.2.1,false,false,c.2.2.2.2.2))) Ln) Ln)
theorem ZOp (a:HL ZU):EV0 29 a=ZxF a.1 a.2.1 a.2.2.1 a.2.2.2:=by kernel_rfl
def ZxB (c:TC) (s:Int) (g:List Int) (ln:QT0):RT (Option TC):=
 let x1:QT1:=(c,s==5,g,(0,0,0,0,0,0,0,0),[])
 let x2:=qAtC x1 0
 let x3:=Zb c.1 (qAt x1 0)
 let x4:= !x2||x3.1==33
 let x5:QT1:=(c,s==5,g,(33,x3.2),[])
 .br (Ze s) (Ls ((c.1,(rgx c.2.1 c.2.1.2.2.2.2.2.2.2.1 (u16.wrap ((spOf c)-2)) (Zh s)),c.2.2))) (.br (!x4||x2) (.br (x4) (.br (qAtC x5 2) (Ls ((c.1,(qAt x5 2,c.2.1.2.1,c.2.1.2.2.1,c.2.1.2.2.2.1,c.2.1.2.2.2.2.1,c.2.1.2.2.2.2.2.1,c.2.1.2.2.2.2.2.2.1,c.2.1.2.2.2.2.2.2.2.1,spOf c,ZC x5),c.2.2.1,false,false,c.2.2.2.2.2))) Ln) Ln) Ln)
theorem ZOl (a:HL ZU):EV0 33 a=ZxB a.1 a.2.1 a.2.2.1 a.2.2.2:=by kernel_rfl
def Zxx (c:TC) (s:Int) (g:List Int) (ln:QT0):RT (Option TC):=
 let x1:QT1:=(c,s==5,g,(0,0,0,0,0,0,0,0),[])
 let x2:=qAtC x1 0
 let x3:=Zb c.1 (qAt x1 0)
 let x4:= !x2||x3.1==37
 .br (Ze s) (Ls ((c.1,(rgx c.2.1 c.2.1.2.2.2.2.2.2.2.1 (u16.wrap ((spOf c)-2)) (Zh s)),c.2.2))) (.br (!x4||x2) (.br (x4) (Ls ((c.1,(rgx c.2.1 c.2.1.2.2.2.2.2.2.2.1 (spOf c) (ZC (c,s==5,g,(37,x3.2),[]))),c.2.2.1,false,true,c.2.2.2.2.2))) Ln) Ln)
theorem ZOh (a:HL ZU):EV0 37 a=Zxx a.1 a.2.1 a.2.2.1 a.2.2.2:=by kernel_rfl
def Zxt (c:TC) (s:Int) (g:List Int) (ln:QT0):RT (Option TC):=
 let x1:QT1:=(c,s==5,g,(0,0,0,0,0,0,0,0),[])
 let x2:=qAtC x1 0
 let x3:=Zb c.1 (qAt x1 0)
 let x4:= !x2||x3.1==41
 let x5:=c.2.1.2.2.2.2.2.2.2.1.2.2.2
 let x6:=x5.2
 let x7:QT1:=(c,s==5,g,(41,x3.2),[])
 let x8:=Zwi (ZeL x7 2)
 .br (Ze s) (Ls ((c.1,(rgx c.2.1 c.2.1.2.2.2.2.2.2.2.1 (u16.wrap ((spOf c)-2)) (Zh s)),c.2.2))) (.br (!x4||x2) (.br (x4) (Ls ((c.1,Zm (rgx c.2.1 ((c.2.1.2.2.2.2.2.2.2.1.1,c.2.1.2.2.2.2.2.2.2.1.2.1,c.2.1.2.2.2.2.2.2.2.1.2.2.1,x5.1,x6.1,x6.2.1,x8.2)) (spOf c) (ZC x7)) 2 x8.1,c.2.2.1,false,false,c.2.2.2.2.2))) Ln) Ln)
theorem ZOd (a:HL ZU):EV0 41 a=Zxt a.1 a.2.1 a.2.2.1 a.2.2.2:=by kernel_rfl
def Zxp (c:TC) (s:Int) (g:List Int) (ln:QT0):RT (Option TC):=
 let x1:=u16.wrap ((spOf c)-2)
 let x2:QT1:=(c,s==5,g,(0,0,0,0,0,0,0,0),[])
 let x3:=qAtC x2 0
 let x4:=Zb c.1 (qAt x2 0)
 let x5:= !x3||x4.1==45
 let x6:QT1:=(c,s==5,g,(45,x4.2),[])
 let x7:=Ziy x6
 .br (Ze s) (Ls ((c.1,(rgx c.2.1 c.2.1.2.2.2.2.2.2.2.1 x1 (Zh s)),c.2.2))) (.br (!x5||x3) (.br (x5) (Ls ((c.1,(rgx c.2.1 c.2.1.2.2.2.2.2.2.2.1 (bif x7 then x1 else (spOf c)) (bif x7 then 64 else ZC x6)),c.2.2.1,false,false,c.2.2.2.2.2))) Ln) Ln)
theorem ZN9 (a:HL ZU):EV0 45 a=Zxp a.1 a.2.1 a.2.2.1 a.2.2.2:=by kernel_rfl
def ZEU (c:TC) (s:Int) (g:List Int) (ln:QT0):RT (Option TC):=
 let x1:=Zb c.1 (mAt (c,s==5,g,[]) 0)
 let x2:=x1.2
 let x3:=x2.2
 let x4:=x3.2.1
 let x5:=x4==6
 let x6:=rSet c.2.1 x3.1 (bif x5 then mAt (c,s==5,g,[]) 1 else rGet c.2.1 x4)
 let x7:=x6.2
 let x8:=x7.2
 let x9:=x8.2
 let x10:=x9.2
 let x11:=x10.2
 let x12:=x11.2
 let x13:=x12.2
 .br (Zc s) (Ls ((c.1,(rgx c.2.1 c.2.1.2.2.2.2.2.2.2.1 (u16.wrap ((spOf c)-2)) (Zh s)),c.2.2))) (.br (!mAtC (c,s==5,g,[]) 0||x1.1==2) (.br (mAtC (c,s==5,g,[]) 0) (.br (!x5||mAtC (c,s==5,g,[]) 1) (Ls ((c.1,(x6.1,x7.1,x8.1,x9.1,x10.1,x11.1,x12.1,x13.1,x13.2.1,Zy (c,s==5,g,[]) x2.1),c.2.2.1,false,false,c.2.2.2.2.2))) Ln) Ln) Ln)
theorem ZSN (a:HL ZU):EV2 2 a=ZEU a.1 a.2.1 a.2.2.1 a.2.2.2:=by kernel_rfl
def ZEQ (c:TC) (s:Int) (g:List Int) (ln:QT0):RT (Option TC):=
 let x1:=Zb c.1 (mAt (c,s==5,g,[]) 0)
 .br (Zc s) (Ls ((c.1,(rgx c.2.1 c.2.1.2.2.2.2.2.2.2.1 (u16.wrap ((spOf c)-2)) (Zh s)),c.2.2))) (.br (!mAtC (c,s==5,g,[]) 0||x1.1==6) (.br (mAtC (c,s==5,g,[]) 0) (Ls ((c.1,(rgx c.2.1 c.2.1.2.2.2.2.2.2.2.1 (spOf c) (Zy (c,s==5,g,[]) x1.2.1)),c.2.2.1,false,false,c.2.2.2.2.2))) Ln) Ln)
theorem ZSJ (a:HL ZU):EV2 6 a=ZEQ a.1 a.2.1 a.2.2.1 a.2.2.2:=by kernel_rfl
def Zwb (c:TC) (s:Int) (g:List Int) (ln:QT0):RT (Option TC):=
 let x1:=Zb c.1 (mAt (c,s==5,g,[]) 0)
 .br (Zc s) (Ls ((c.1,(rgx c.2.1 c.2.1.2.2.2.2.2.2.2.1 (u16.wrap ((spOf c)-2)) (Zh s)),c.2.2))) (.br (!mAtC (c,s==5,g,[]) 0||x1.1==10) (.br (mAtC (c,s==5,g,[]) 0) (Ls ((c.1,(rgx c.2.1 c.2.1.2.2.2.2.2.2.2.1 (spOf c) (Zy (c,s==5,g,[]) x1.2.1)),c.2.2.1,false,false,c.2.2.2.2.2))) Ln) Ln)
theorem ZNq (a:HL ZU):EV2 10 a=Zwb a.1 a.2.1 a.2.2.1 a.2.2.2:=by kernel_rfl
def Zv7 (c:TC) (s:Int) (g:List Int) (ln:QT0):RT (Option TC):=
 let x1:=Zb c.1 (mAt (c,s==5,g,[]) 0)
 let x2:=x1.2
 let x3:=x2.2.1
 let x4:=x3==6
 let x5:=Zh2 c (14,x2) (bif x4 then mAt (c,s==5,g,[]) 1 else rGet c.2.1 x3)
 let x6:=rSet c.2.1 x3 x5.1
 let x7:=x6.2
 let x8:=x7.2
 let x9:=x8.2
 let x10:=x9.2
 let x11:=x10.2
 let x12:=x11.2
 .br (Zc s) (Ls ((c.1,(rgx c.2.1 c.2.1.2.2.2.2.2.2.2.1 (u16.wrap ((spOf c)-2)) (Zh s)),c.2.2))) (.br (!mAtC (c,s==5,g,[]) 0||x1.1==14) (.br (mAtC (c,s==5,g,[]) 0) (.br (!x4||mAtC (c,s==5,g,[]) 1) (Ls ((c.1,(x6.1,x7.1,x8.1,x9.1,x10.1,x11.1,x12.1,x5.2,x12.2.2.1,Zy (c,s==5,g,[]) x2.1),c.2.2.1,false,false,c.2.2.2.2.2))) Ln) Ln) Ln)
theorem ZNm (a:HL ZU):EV2 14 a=Zv7 a.1 a.2.1 a.2.2.1 a.2.2.2:=by kernel_rfl
def Zv3 (c:TC) (s:Int) (g:List Int) (ln:QT0):RT (Option TC):=
 let x1:=Zb c.1 (mAt (c,s==5,g,[]) 0)
 let x2:=x1.2
 let x3:=rDad c.1 (Zao c.2.1 2) (Zao c.2.1 x2.2.2.2.1) c.2.1.2.2.2.2.2.2.2.1
 let x4:=Zm c.2.1 2 x3.1
 let x5:=x4.2
 let x6:=x5.2
 let x7:=x6.2
 let x8:=x7.2
 let x9:=x8.2
 let x10:=x9.2
 .br (Zc s) (Ls ((c.1,(rgx c.2.1 c.2.1.2.2.2.2.2.2.2.1 (u16.wrap ((spOf c)-2)) (Zh s)),c.2.2))) (.br (!mAtC (c,s==5,g,[]) 0||x1.1==18) (.br (mAtC (c,s==5,g,[]) 0) (Ls ((c.1,(x4.1,x5.1,x6.1,x7.1,x8.1,x9.1,x10.1,x3.2,x10.2.2.1,Zy (c,s==5,g,[]) x2.1),c.2.2.1,false,false,c.2.2.2.2.2))) Ln) Ln)
theorem ZNi (a:HL ZU):EV2 18 a=Zv3 a.1 a.2.1 a.2.2.1 a.2.2.2:=by kernel_rfl
def ZvZ (c:TC) (s:Int) (g:List Int) (ln:QT0):RT (Option TC):=
 let x1:=Zb c.1 (mAt (c,s==5,g,[]) 0)
 let x2:=c.2.1.2.2.2.2.2.2.2.1.2.2.2
 let x3:=x2.2
 let x4:=x3.2
 .br (Zc s) (Ls ((c.1,(rgx c.2.1 c.2.1.2.2.2.2.2.2.2.1 (u16.wrap ((spOf c)-2)) (Zh s)),c.2.2))) (.br (!mAtC (c,s==5,g,[]) 0||x1.1==22) (.br (mAtC (c,s==5,g,[]) 0) (Ls ((c.1,(rgx c.2.1 ((c.2.1.2.2.2.2.2.2.2.1.1,c.2.1.2.2.2.2.2.2.2.1.2.1,c.2.1.2.2.2.2.2.2.2.1.2.2.1,x2.1,x3.1,x4.1,!x4.2)) (spOf c) (Zy (c,s==5,g,[]) x1.2.1)),c.2.2.1,false,false,c.2.2.2.2.2))) Ln) Ln)
theorem ZNe (a:HL ZU):EV2 22 a=ZvZ a.1 a.2.1 a.2.2.1 a.2.2.2:=by kernel_rfl
def ZvV (c:TC) (s:Int) (g:List Int) (ln:QT0):RT (Option TC):=
 let x1:=Zb c.1 (mAt (c,s==5,g,[]) 0)
 let x2:=x1.2
 let x3:= !Zft (c,s==5,g,[]) (26,x2)
 let x4:=c.2.1.2.2.2.2.2.2.2.1.2.2.1
 let x5:=c.2.1.2.2.2.2.2.2.2.1.2.2.2
 let x6:=x5.1
 let x7:=x5.2
 let x8:=x7.1
 let x9:=x7.2
 let x10:=x9.1
 let x11:=x9.2
 .br (Zc s) (Ls ((c.1,(rgx c.2.1 c.2.1.2.2.2.2.2.2.2.1 (u16.wrap ((spOf c)-2)) (Zh s)),c.2.2))) (.br (!mAtC (c,s==5,g,[]) 0||x1.1==26) (.br (mAtC (c,s==5,g,[]) 0) (.br (x3||ZcL (c,s==5,g,[]) 1) (Ls ((bif x3 then c.1 else c.1,(bif x3 then c.2.1.1 else c.2.1.1,bif x3 then c.2.1.2.1 else c.2.1.2.1,bif x3 then c.2.1.2.2.1 else c.2.1.2.2.1,bif x3 then c.2.1.2.2.2.1 else c.2.1.2.2.2.1,bif x3 then c.2.1.2.2.2.2.1 else c.2.1.2.2.2.2.1,bif x3 then c.2.1.2.2.2.2.2.1 else c.2.1.2.2.2.2.2.1,bif x3 then c.2.1.2.2.2.2.2.2.1 else c.2.1.2.2.2.2.2.2.1,(bif x3 then c.2.1.2.2.2.2.2.2.2.1.1 else c.2.1.2.2.2.2.2.2.2.1.1,bif x3 then c.2.1.2.2.2.2.2.2.2.1.2.1 else c.2.1.2.2.2.2.2.2.2.1.2.1,bif x3 then x4 else x4,bif x3 then x6 else x6,bif x3 then x8 else x8,bif x3 then x10 else x10,bif x3 then x11 else x11),bif x3 then (spOf c) else u16.wrap ((spOf c)+2),bif x3 then Zy (c,s==5,g,[]) x2.1 else ZfC (c,s==5,g,[]) 1),bif x3 then c.2.2.1 else c.2.2.1,false,false,bif x3 then c.2.2.2.2.2.1 else c.2.2.2.2.2.1,bif x3 then c.2.2.2.2.2.2.1 else c.2.2.2.2.2.2.1,bif x3 then c.2.2.2.2.2.2.2.1 else c.2.2.2.2.2.2.2.1,bif x3 then c.2.2.2.2.2.2.2.2.1 else c.2.2.2.2.2.2.2.2.1,bif x3 then c.2.2.2.2.2.2.2.2.2.1 else c.2.2.2.2.2.2.2.2.2.1,bif x3 then c.2.2.2.2.2.2.2.2.2.2.1 else c.2.2.2.2.2.2.2.2.2.2.1,bif x3 then c.2.2.2.2.2.2.2.2.2.2.2.1 else c.2.2.2.2.2.2.2.2.2.2.2.1,bif x3 then c.2.2.2.2.2.2.2.2.2.2.2.2 else c.2.2.2.2.2.2.2.2.2.2.2.2))) Ln) Ln) Ln)
theorem ZNa (a:HL ZU):EV2 26 a=ZvV a.1 a.2.1 a.2.2.1 a.2.2.2:=by kernel_rfl
def ZvR (c:TC) (s:Int) (g:List Int) (ln:QT0):RT (Option TC):=
 let x1:=u16.wrap ((spOf c)-2)
 let x2:=Zb c.1 (mAt (c,s==5,g,[]) 0)
 .br (Zc s) (Ls ((c.1,(rgx c.2.1 c.2.1.2.2.2.2.2.2.2.1 x1 (Zh s)),c.2.2))) (.br (!mAtC (c,s==5,g,[]) 0||x2.1==30) (.br (mAtC (c,s==5,g,[]) 0) (Ls ((c.1,(rgx c.2.1 c.2.1.2.2.2.2.2.2.2.1 x1 (Zy (c,s==5,g,[]) x2.2.1)),c.2.2.1,false,false,c.2.2.2.2.2))) Ln) Ln)
theorem ZM6 (a:HL ZU):EV2 30 a=ZvR a.1 a.2.1 a.2.2.1 a.2.2.2:=by kernel_rfl
def ZvN (c:TC) (s:Int) (g:List Int) (ln:QT0):RT (Option TC):=
 let x1:=Zb c.1 (mAt (c,s==5,g,[]) 0)
 .br (Zc s) (Ls ((c.1,(rgx c.2.1 c.2.1.2.2.2.2.2.2.2.1 (u16.wrap ((spOf c)-2)) (Zh s)),c.2.2))) (.br (!mAtC (c,s==5,g,[]) 0||x1.1==34) (.br (mAtC (c,s==5,g,[]) 0) (Ls ((c.1,(rgx c.2.1 c.2.1.2.2.2.2.2.2.2.1 (spOf c) (Zy (c,s==5,g,[]) x1.2.1)),c.2.2.1,false,false,c.2.2.2.2.2))) Ln) Ln)
theorem ZM2 (a:HL ZU):EV2 34 a=ZvN a.1 a.2.1 a.2.2.1 a.2.2.2:=by kernel_rfl
def ZvJ (c:TC) (s:Int) (g:List Int) (ln:QT0):RT (Option TC):=
 let x1:=Zb c.1 (mAt (c,s==5,g,[]) 0)
 let x2:=rRim (c.1,(rgx c.2.1 c.2.1.2.2.2.2.2.2.2.1 (spOf c) (Zy (c,s==5,g,[]) x1.2.1)),c.2.2) ln
 let x3:=x2.2
 let x4:=x3.2
 let x5:=x4.2
 let x6:=x5.2.2.2
 let x7:=x6.2
 let x8:=x7.2
 let x9:=x8.2
 let x10:=x9.2
 .br (Zc s) (Ls ((c.1,(rgx c.2.1 c.2.1.2.2.2.2.2.2.2.1 (u16.wrap ((spOf c)-2)) (Zh s)),c.2.2))) (.br (!mAtC (c,s==5,g,[]) 0||x1.1==38) (.br (mAtC (c,s==5,g,[]) 0) (Ls ((x3.1,(x2.1,x4.1.2),x5.1,false,false,x6.1,x7.1,x8.1,x9.1,x10.1,false,false,x10.2.2.2))) Ln) Ln)
theorem ZMY (a:HL ZU):EV2 38 a=ZvJ a.1 a.2.1 a.2.2.1 a.2.2.2:=by kernel_rfl
def ZvF (c:TC) (s:Int) (g:List Int) (ln:QT0):RT (Option TC):=
 let x1:=Zb c.1 (mAt (c,s==5,g,[]) 0)
 let x2:=ZAj (Zao c.2.1 1) c.2.1.2.2.2.2.2.2.2.1.2.2.2.2.2.2
 let x3:=Zm c.2.1 1 x2.1
 let x4:=x3.2
 let x5:=x4.2
 let x6:=x5.2
 let x7:=x6.2
 let x8:=x7.2
 let x9:=x8.2
 let x10:=x9.2
 let x11:=x10.1
 let x12:=x11.2
 let x13:=x12.2
 let x14:=x13.2
 let x15:=x2.2
 .br (Zc s) (Ls ((c.1,(rgx c.2.1 c.2.1.2.2.2.2.2.2.2.1 (u16.wrap ((spOf c)-2)) (Zh s)),c.2.2))) (.br (!mAtC (c,s==5,g,[]) 0||x1.1==42) (.br (mAtC (c,s==5,g,[]) 0) (Ls ((c.1,(x3.1,x4.1,x5.1,x6.1,x7.1,x8.1,x9.1,(x11.1,x12.1,x13.1,x14.1,x14.2.1,x15.2,x15.1),x10.2.1,Zy (c,s==5,g,[]) x1.2.1),c.2.2.1,false,false,c.2.2.2.2.2))) Ln) Ln)
theorem ZMU (a:HL ZU):EV2 42 a=ZvF a.1 a.2.1 a.2.2.1 a.2.2.2:=by kernel_rfl
def ZvB (c:TC) (s:Int) (g:List Int) (ln:QT0):RT (Option TC):=
 let x1:=Zb c.1 (mAt (c,s==5,g,[]) 0)
 .br (Zc s) (Ls ((c.1,(rgx c.2.1 c.2.1.2.2.2.2.2.2.2.1 (u16.wrap ((spOf c)-2)) (Zh s)),c.2.2))) (.br (!mAtC (c,s==5,g,[]) 0||x1.1==46) (.br (mAtC (c,s==5,g,[]) 0) (Ls ((c.1,(rgx c.2.1 c.2.1.2.2.2.2.2.2.2.1 (spOf c) (Zy (c,s==5,g,[]) x1.2.1)),c.2.2.1,false,false,c.2.2.2.2.2))) Ln) Ln)
theorem ZMQ (a:HL ZU):EV2 46 a=ZvB a.1 a.2.1 a.2.2.1 a.2.2.2:=by kernel_rfl
