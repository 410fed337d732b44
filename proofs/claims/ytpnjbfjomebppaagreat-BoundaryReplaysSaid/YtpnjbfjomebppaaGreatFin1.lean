import Derived.Test.YtpnjbfjomebppaaGreatFin0
open Go.IntKind (u8 u16 i64)
set_option linter.unusedSimpArgs false
open Go Go.S3 Go.Proofs
set_option linter.unusedVariables false
set_option maxRecDepth 100000
namespace Go.Proofs.YtpnjbfjomebppaaGreat
noncomputable section
def ZD3 (c:TC) (s:Int) (g:List Int) (ln:QT0):RT (Option TC):=
 let x1:QT1:=(c,s==5,g,(0,0,0,0,0,0,0,0),[])
 let x2:=qAtC x1 0
 let x3:=Zb c.1 (qAt x1 0)
 let x4:= !x2||x3.1==1
 .br (Zf s) (Ls ((c.1,(rgx c.2.1 c.2.1.2.2.2.2.2.2.2.1 (u16.wrap ((spOf c)-2)) (Zh s)),c.2.2))) (.br (!x4||x2) (.br (x4) (Ls ((c.1,(rgx c.2.1 c.2.1.2.2.2.2.2.2.2.1 (spOf c) (ZA (c,s==5,g,(1,x3.2),[]))),c.2.2.1,false,false,c.2.2.2.2.2))) Ln) Ln)
theorem ZRc (a:HL ZU):EV0 1 a=ZD3 a.1 a.2.1 a.2.2.1 a.2.2.2:=by kernel_rfl
def ZDZ (c:TC) (s:Int) (g:List Int) (ln:QT0):RT (Option TC):=
 let x1:QT1:=(c,s==5,g,(0,0,0,0,0,0,0,0),[])
 let x2:=qAtC x1 0
 let x3:=Zb c.1 (qAt x1 0)
 let x4:= !x2||x3.1==5
 let x5:QT1:=(c,s==5,g,(5,x3.2),[])
 .br (Zf s) (Ls ((c.1,(rgx c.2.1 c.2.1.2.2.2.2.2.2.2.1 (u16.wrap ((spOf c)-2)) (Zh s)),c.2.2))) (.br (!x4||x2) (.br (x4) (.br (qAtC x5 3) (Ls ((c.1,(qAt x5 3,c.2.1.2.1,c.2.1.2.2.1,c.2.1.2.2.2.1,c.2.1.2.2.2.2.1,c.2.1.2.2.2.2.2.1,c.2.1.2.2.2.2.2.2.1,c.2.1.2.2.2.2.2.2.2.1,spOf c,ZA x5),c.2.2.1,false,false,c.2.2.2.2.2))) Ln) Ln) Ln)
theorem ZQ8 (a:HL ZU):EV0 5 a=ZDZ a.1 a.2.1 a.2.2.1 a.2.2.2:=by kernel_rfl
def ZDV (c:TC) (s:Int) (g:List Int) (ln:QT0):RT (Option TC):=
 let x1:QT1:=(c,s==5,g,(0,0,0,0,0,0,0,0),[])
 let x2:=qAtC x1 0
 let x3:=Zb c.1 (qAt x1 0)
 let x4:= !x2||x3.1==9
 let x5:QT1:=(c,s==5,g,(9,x3.2),[])
 .br (Zf s) (Ls ((c.1,(rgx c.2.1 c.2.1.2.2.2.2.2.2.2.1 (u16.wrap ((spOf c)-2)) (Zh s)),c.2.2))) (.br (!x4||x2) (.br (x4) (.br (qAtC x5 1) (Ls ((c.1,(qAt x5 1,c.2.1.2.1,c.2.1.2.2.1,c.2.1.2.2.2.1,c.2.1.2.2.2.2.1,c.2.1.2.2.2.2.2.1,c.2.1.2.2.2.2.2.2.1,c.2.1.2.2.2.2.2.2.2.1,spOf c,ZA x5),c.2.2.1,false,false,c.2.2.2.2.2))) Ln) Ln) Ln)
theorem ZQ4 (a:HL ZU):EV0 9 a=ZDV a.1 a.2.1 a.2.2.1 a.2.2.2:=by kernel_rfl
def ZvU (c:TC) (s:Int) (g:List Int) (ln:QT0):RT (Option TC):=
 let x1:QT1:=(c,s==5,g,(0,0,0,0,0,0,0,0),[])
 let x2:=qAtC x1 0
 let x3:=Zb c.1 (qAt x1 0)
 let x4:= !x2||x3.1==13
 let x5:=x3.2
 let x6:QT1:=(c,s==5,g,(13,x5),[])
 let x7:=rDo c.1 x5.2.2.2.2.1 c.2.1.1 (ZiY x6) c.2.1.2.2.2.2.2.2.2.1
 .br (Zf s) (Ls ((c.1,(rgx c.2.1 c.2.1.2.2.2.2.2.2.2.1 (u16.wrap ((spOf c)-2)) (Zh s)),c.2.2))) (.br (!x4||x2) (.br (x4) (.br (Zgp x6) (Ls ((c.1,(x7.1,c.2.1.2.1,c.2.1.2.2.1,c.2.1.2.2.2.1,c.2.1.2.2.2.2.1,c.2.1.2.2.2.2.2.1,c.2.1.2.2.2.2.2.2.1,x7.2,spOf c,ZA x6),c.2.2.1,false,false,c.2.2.2.2.2))) Ln) Ln) Ln)
theorem ZLe (a:HL ZU):EV0 13 a=ZvU a.1 a.2.1 a.2.2.1 a.2.2.2:=by kernel_rfl
def ZvQ (c:TC) (s:Int) (g:List Int) (ln:QT0):RT (Option TC):=
 let x1:QT1:=(c,s==5,g,(0,0,0,0,0,0,0,0),[])
 let x2:=qAtC x1 0
 let x3:=Zb c.1 (qAt x1 0)
 let x4:= !x2||x3.1==17
 let x5:=x3.2
 let x6:QT1:=(c,s==5,g,(17,x5),[])
 let x7:=x5.2.2.2.1
 let x8:=rDcx c.1 (Zd0 x6 x7) c.2.1.2.2.2.2.2.2.2.1
 .br (Zf s) (Ls ((c.1,(rgx c.2.1 c.2.1.2.2.2.2.2.2.2.1 (u16.wrap ((spOf c)-2)) (Zh s)),c.2.2))) (.br (!x4||x2) (.br (x4) (Ls ((c.1,Zl (rgx c.2.1 x8.2 (spOf c) (ZA x6)) x7 x8.1,c.2.2.1,false,false,c.2.2.2.2.2))) Ln) Ln)
theorem ZLa (a:HL ZU):EV0 17 a=ZvQ a.1 a.2.1 a.2.2.1 a.2.2.2:=by kernel_rfl
def ZvM (c:TC) (s:Int) (g:List Int) (ln:QT0):RT (Option TC):=
 let x1:QT1:=(c,s==5,g,(0,0,0,0,0,0,0,0),[])
 let x2:=qAtC x1 0
 let x3:=Zb c.1 (qAt x1 0)
 let x4:= !x2||x3.1==21
 let x5:=c.2.1.2.2.2.2.2.2.2.1.2.2.2
 let x6:=x5.2
 .br (Zf s) (Ls ((c.1,(rgx c.2.1 c.2.1.2.2.2.2.2.2.2.1 (u16.wrap ((spOf c)-2)) (Zh s)),c.2.2))) (.br (!x4||x2) (.br (x4) (Ls ((c.1,(rgx c.2.1 ((c.2.1.2.2.2.2.2.2.2.1.1,c.2.1.2.2.2.2.2.2.2.1.2.1,c.2.1.2.2.2.2.2.2.2.1.2.2.1,x5.1,x6.1,x6.2.1,true)) (spOf c) (ZA (c,s==5,g,(21,x3.2),[]))),c.2.2.1,false,false,c.2.2.2.2.2))) Ln) Ln)
theorem ZK6 (a:HL ZU):EV0 21 a=ZvM a.1 a.2.1 a.2.2.1 a.2.2.2:=by kernel_rfl
def ZvI (c:TC) (s:Int) (g:List Int) (ln:QT0):RT (Option TC):=
 let x1:=u16.wrap ((spOf c)-2)
 let x2:QT1:=(c,s==5,g,(0,0,0,0,0,0,0,0),[])
 let x3:=qAtC x2 0
 let x4:=Zb c.1 (qAt x2 0)
 let x5:= !x3||x4.1==25
 let x6:QT1:=(c,s==5,g,(25,x4.2),[])
 let x7:=ZhA x6
 .br (Zf s) (Ls ((c.1,(rgx c.2.1 c.2.1.2.2.2.2.2.2.2.1 x1 (Zh s)),c.2.2))) (.br (!x5||x3) (.br (x5) (.br (!x7||ZcA x6 1) (Ls ((c.1,(rgx c.2.1 c.2.1.2.2.2.2.2.2.2.1 (bif x7 then x1 else (spOf c)) (bif x7 then Zgq x6 1 else ZA x6)),c.2.2.1,false,false,c.2.2.2.2.2))) Ln) Ln) Ln)
theorem ZK2 (a:HL ZU):EV0 25 a=ZvI a.1 a.2.1 a.2.2.1 a.2.2.2:=by kernel_rfl
def ZvE (c:TC) (s:Int) (g:List Int) (ln:QT0):RT (Option TC):=
 let x1:QT1:=(c,s==5,g,(0,0,0,0,0,0,0,0),[])
 let x2:=qAtC x1 0
 let x3:=Zb c.1 (qAt x1 0)
 let x4:= !x2||x3.1==29
 let x5:QT1:=(c,s==5,g,(29,x3.2),[])
 .br (Zf s) (Ls ((c.1,(rgx c.2.1 c.2.1.2.2.2.2.2.2.2.1 (u16.wrap ((spOf c)-2)) (Zh s)),c.2.2))) (.br (!x4||x2) (.br (x4) (Ls ((c.1,(rgx c.2.1 c.2.1.2.2.2.2.2.2.2.1 (Zd0 x5 2) (ZA x5)),c.2.2.1,false,false,c.2.2.2.2.2))) Ln) Ln)
theorem ZKY (a:HL ZU):EV0 29 a=ZvE a.1 a.2.1 a.2.2.1 a.2.2.2:=by kernel_rfl
def ZvA (c:TC) (s:Int) (g:List Int) (ln:QT0):RT (Option TC):=
 let x1:QT1:=(c,s==5,g,(0,0,0,0,0,0,0,0),[])
 let x2:=qAtC x1 0
 let x3:=Zb c.1 (qAt x1 0)
 let x4:= !x2||x3.1==33
 let x5:QT1:=(c,s==5,g,(33,x3.2),[])
 .br (Zf s) (Ls ((c.1,(rgx c.2.1 c.2.1.2.2.2.2.2.2.2.1 (u16.wrap ((spOf c)-2)) (Zh s)),c.2.2))) (.br (!x4||x2) (.br (x4) (.br (qAtC x5 2) (Ls ((c.1,(qAt x5 2,c.2.1.2.1,c.2.1.2.2.1,c.2.1.2.2.2.1,c.2.1.2.2.2.2.1,c.2.1.2.2.2.2.2.1,c.2.1.2.2.2.2.2.2.1,c.2.1.2.2.2.2.2.2.2.1,spOf c,ZA x5),c.2.2.1,false,false,c.2.2.2.2.2))) Ln) Ln) Ln)
theorem ZKU (a:HL ZU):EV0 33 a=ZvA a.1 a.2.1 a.2.2.1 a.2.2.2:=by kernel_rfl
def Zvw (c:TC) (s:Int) (g:List Int) (ln:QT0):RT (Option TC):=
 let x1:QT1:=(c,s==5,g,(0,0,0,0,0,0,0,0),[])
 let x2:=qAtC x1 0
 let x3:=Zb c.1 (qAt x1 0)
 let x4:= !x2||x3.1==37
 .br (Zf s) (Ls ((c.1,(rgx c.2.1 c.2.1.2.2.2.2.2.2.2.1 (u16.wrap ((spOf c)-2)) (Zh s)),c.2.2))) (.br (!x4||x2) (.br (x4) (Ls ((c.1,(rgx c.2.1 c.2.1.2.2.2.2.2.2.2.1 (spOf c) (ZA (c,s==5,g,(37,x3.2),[]))),c.2.2.1,false,true,c.2.2.2.2.2))) Ln) Ln)
theorem ZKQ (a:HL ZU):EV0 37 a=Zvw a.1 a.2.1 a.2.2.1 a.2.2.2:=by kernel_rfl
def Zvs (c:TC) (s:Int) (g:List Int) (ln:QT0):RT (Option TC):=
 let x1:QT1:=(c,s==5,g,(0,0,0,0,0,0,0,0),[])
 let x2:=qAtC x1 0
 let x3:=Zb c.1 (qAt x1 0)
 let x4:= !x2||x3.1==41
 let x5:=c.2.1.2.2.2.2.2.2.2.1.2.2.2
 let x6:=x5.2
 let x7:QT1:=(c,s==5,g,(41,x3.2),[])
 let x8:=ZuE (Zd0 x7 2)
 .br (Zf s) (Ls ((c.1,(rgx c.2.1 c.2.1.2.2.2.2.2.2.2.1 (u16.wrap ((spOf c)-2)) (Zh s)),c.2.2))) (.br (!x4||x2) (.br (x4) (Ls ((c.1,Zl (rgx c.2.1 ((c.2.1.2.2.2.2.2.2.2.1.1,c.2.1.2.2.2.2.2.2.2.1.2.1,c.2.1.2.2.2.2.2.2.2.1.2.2.1,x5.1,x6.1,x6.2.1,x8.2)) (spOf c) (ZA x7)) 2 x8.1,c.2.2.1,false,false,c.2.2.2.2.2))) Ln) Ln)
theorem ZKM (a:HL ZU):EV0 41 a=Zvs a.1 a.2.1 a.2.2.1 a.2.2.2:=by kernel_rfl
def Zvo (c:TC) (s:Int) (g:List Int) (ln:QT0):RT (Option TC):=
 let x1:=u16.wrap ((spOf c)-2)
 let x2:QT1:=(c,s==5,g,(0,0,0,0,0,0,0,0),[])
 let x3:=qAtC x2 0
 let x4:=Zb c.1 (qAt x2 0)
 let x5:= !x3||x4.1==45
 let x6:QT1:=(c,s==5,g,(45,x4.2),[])
 let x7:=ZhA x6
 .br (Zf s) (Ls ((c.1,(rgx c.2.1 c.2.1.2.2.2.2.2.2.2.1 x1 (Zh s)),c.2.2))) (.br (!x5||x3) (.br (x5) (Ls ((c.1,(rgx c.2.1 c.2.1.2.2.2.2.2.2.2.1 (bif x7 then x1 else (spOf c)) (bif x7 then 64 else ZA x6)),c.2.2.1,false,false,c.2.2.2.2.2))) Ln) Ln)
theorem ZKI (a:HL ZU):EV0 45 a=Zvo a.1 a.2.1 a.2.2.1 a.2.2.2:=by kernel_rfl
def ZCF (c:TC) (s:Int) (g:List Int) (ln:QT0):RT (Option TC):=
 let x1:=Zb c.1 (mAt (c,s==5,g,[]) 0)
 let x2:=x1.2
 let x3:=x2.2
 let x4:=x3.2.1
 let x5:=x4==6
 let x6:=rSet c.2.1 x3.1 (bif x5 then mAt (c,s==5,g,[]) 1 else rGet c.2.1 x4)
 let x7:=x6.2
 let x8:=x7.2
 let x9:=x8.2
 let x10:=x9.2
 let x11:=x10.2
 let x12:=x11.2
 let x13:=x12.2
 .br (Zc s) (Ls ((c.1,(rgx c.2.1 c.2.1.2.2.2.2.2.2.2.1 (u16.wrap ((spOf c)-2)) (Zh s)),c.2.2))) (.br (!mAtC (c,s==5,g,[]) 0||x1.1==2) (.br (mAtC (c,s==5,g,[]) 0) (.br (!x5||mAtC (c,s==5,g,[]) 1) (Ls ((c.1,(x6.1,x7.1,x8.1,x9.1,x10.1,x11.1,x12.1,x13.1,x13.2.1,Zw (c,s==5,g,[]) x2.1),c.2.2.1,false,false,c.2.2.2.2.2))) Ln) Ln) Ln)
theorem ZPr (a:HL ZU):EV2 2 a=ZCF a.1 a.2.1 a.2.2.1 a.2.2.2:=by kernel_rfl
def ZCB (c:TC) (s:Int) (g:List Int) (ln:QT0):RT (Option TC):=
 let x1:=Zb c.1 (mAt (c,s==5,g,[]) 0)
 .br (Zc s) (Ls ((c.1,(rgx c.2.1 c.2.1.2.2.2.2.2.2.2.1 (u16.wrap ((spOf c)-2)) (Zh s)),c.2.2))) (.br (!mAtC (c,s==5,g,[]) 0||x1.1==6) (.br (mAtC (c,s==5,g,[]) 0) (Ls ((c.1,(rgx c.2.1 c.2.1.2.2.2.2.2.2.2.1 (spOf c) (Zw (c,s==5,g,[]) x1.2.1)),c.2.2.1,false,false,c.2.2.2.2.2))) Ln) Ln)
theorem ZPn (a:HL ZU):EV2 6 a=ZCB a.1 a.2.1 a.2.2.1 a.2.2.2:=by kernel_rfl
def Zux (c:TC) (s:Int) (g:List Int) (ln:QT0):RT (Option TC):=
 let x1:=Zb c.1 (mAt (c,s==5,g,[]) 0)
 .br (Zc s) (Ls ((c.1,(rgx c.2.1 c.2.1.2.2.2.2.2.2.2.1 (u16.wrap ((spOf c)-2)) (Zh s)),c.2.2))) (.br (!mAtC (c,s==5,g,[]) 0||x1.1==10) (.br (mAtC (c,s==5,g,[]) 0) (Ls ((c.1,(rgx c.2.1 c.2.1.2.2.2.2.2.2.2.1 (spOf c) (Zw (c,s==5,g,[]) x1.2.1)),c.2.2.1,false,false,c.2.2.2.2.2))) Ln) Ln)
theorem ZKb (a:HL ZU):EV2 10 a=Zux a.1 a.2.1 a.2.2.1 a.2.2.2:=by kernel_rfl
def Zut (c:TC) (s:Int) (g:List Int) (ln:QT0):RT (Option TC):=
 let x1:=Zb c.1 (mAt (c,s==5,g,[]) 0)
 let x2:=x1.2
 let x3:=x2.2.1
 let x4:=x3==6
 let x5:=Zg2 c (14,x2) (bif x4 then mAt (c,s==5,g,[]) 1 else rGet c.2.1 x3)
 let x6:=rSet c.2.1 x3 x5.1
 let x7:=x6.2
 let x8:=x7.2
 let x9:=x8.2
 let x10:=x9.2
 let x11:=x10.2
 let x12:=x11.2
 .br (Zc s) (Ls ((c.1,(rgx c.2.1 c.2.1.2.2.2.2.2.2.2.1 (u16.wrap ((spOf c)-2)) (Zh s)),c.2.2))) (.br (!mAtC (c,s==5,g,[]) 0||x1.1==14) (.br (mAtC (c,s==5,g,[]) 0) (.br (!x4||mAtC (c,s==5,g,[]) 1) (Ls ((c.1,(x6.1,x7.1,x8.1,x9.1,x10.1,x11.1,x12.1,x5.2,x12.2.2.1,Zw (c,s==5,g,[]) x2.1),c.2.2.1,false,false,c.2.2.2.2.2))) Ln) Ln) Ln)
theorem ZJ7 (a:HL ZU):EV2 14 a=Zut a.1 a.2.1 a.2.2.1 a.2.2.2:=by kernel_rfl
def Zup (c:TC) (s:Int) (g:List Int) (ln:QT0):RT (Option TC):=
 let x1:=Zb c.1 (mAt (c,s==5,g,[]) 0)
 let x2:=x1.2
 let x3:=rDad c.1 (Zab c.2.1 2) (Zab c.2.1 x2.2.2.2.1) c.2.1.2.2.2.2.2.2.2.1
 let x4:=Zl c.2.1 2 x3.1
 let x5:=x4.2
 let x6:=x5.2
 let x7:=x6.2
 let x8:=x7.2
 let x9:=x8.2
 let x10:=x9.2
 .br (Zc s) (Ls ((c.1,(rgx c.2.1 c.2.1.2.2.2.2.2.2.2.1 (u16.wrap ((spOf c)-2)) (Zh s)),c.2.2))) (.br (!mAtC (c,s==5,g,[]) 0||x1.1==18) (.br (mAtC (c,s==5,g,[]) 0) (Ls ((c.1,(x4.1,x5.1,x6.1,x7.1,x8.1,x9.1,x10.1,x3.2,x10.2.2.1,Zw (c,s==5,g,[]) x2.1),c.2.2.1,false,false,c.2.2.2.2.2))) Ln) Ln)
theorem ZJ3 (a:HL ZU):EV2 18 a=Zup a.1 a.2.1 a.2.2.1 a.2.2.2:=by kernel_rfl
def Zul (c:TC) (s:Int) (g:List Int) (ln:QT0):RT (Option TC):=
 let x1:=Zb c.1 (mAt (c,s==5,g,[]) 0)
 let x2:=c.2.1.2.2.2.2.2.2.2.1.2.2.2
 let x3:=x2.2
 let x4:=x3.2
 .br (Zc s) (Ls ((c.1,(rgx c.2.1 c.2.1.2.2.2.2.2.2.2.1 (u16.wrap ((spOf c)-2)) (Zh s)),c.2.2))) (.br (!mAtC (c,s==5,g,[]) 0||x1.1==22) (.br (mAtC (c,s==5,g,[]) 0) (Ls ((c.1,(rgx c.2.1 ((c.2.1.2.2.2.2.2.2.2.1.1,c.2.1.2.2.2.2.2.2.2.1.2.1,c.2.1.2.2.2.2.2.2.2.1.2.2.1,x2.1,x3.1,x4.1,!x4.2)) (spOf c) (Zw (c,s==5,g,[]) x1.2.1)),c.2.2.1,false,false,c.2.2.2.2.2))) Ln) Ln)
theorem ZJZ (a:HL ZU):EV2 22 a=Zul a.1 a.2.1 a.2.2.1 a.2.2.2:=by kernel_rfl
def Zuh (c:TC) (s:Int) (g:List Int) (ln:QT0):RT (Option TC):=
 let x1:=Zb c.1 (mAt (c,s==5,g,[]) 0)
 let x2:=x1.2
 let x3:= !Zeq (c,s==5,g,[]) (26,x2)
 let x4:=c.2.1.2.2.2.2.2.2.2.1.2.2.1
 let x5:=c.2.1.2.2.2.2.2.2.2.1.2.2.2
 let x6:=x5.1
 let x7:=x5.2
 let x8:=x7.1
 let x9:=x7.2
 let x10:=x9.1
 let x11:=x9.2
 .br (Zc s) (Ls ((c.1,(rgx c.2.1 c.2.1.2.2.2.2.2.2.2.1 (u16.wrap ((spOf c)-2)) (Zh s)),c.2.2))) (.br (!mAtC (c,s==5,g,[]) 0||x1.1==26) (.br (mAtC (c,s==5,g,[]) 0) (.br (x3||Zb3 (c,s==5,g,[]) 1) (Ls ((bif x3 then c.1 else c.1,(bif x3 then c.2.1.1 else c.2.1.1,bif x3 then c.2.1.2.1 else c.2.1.2.1,bif x3 then c.2.1.2.2.1 else c.2.1.2.2.1,bif x3 then c.2.1.2.2.2.1 else c.2.1.2.2.2.1,bif x3 then c.2.1.2.2.2.2.1 else c.2.1.2.2.2.2.1,bif x3 then c.2.1.2.2.2.2.2.1 else c.2.1.2.2.2.2.2.1,bif x3 then c.2.1.2.2.2.2.2.2.1 else c.2.1.2.2.2.2.2.2.1,(bif x3 then c.2.1.2.2.2.2.2.2.2.1.1 else c.2.1.2.2.2.2.2.2.2.1.1,bif x3 then c.2.1.2.2.2.2.2.2.2.1.2.1 else c.2.1.2.2.2.2.2.2.2.1.2.1,bif x3 then x4 else x4,bif x3 then x6 else x6,bif x3 then x8 else x8,bif x3 then x10 else x10,bif x3 then x11 else x11),bif x3 then (spOf c) else u16.wrap ((spOf c)+2),bif x3 then Zw (c,s==5,g,[]) x2.1 else Zew (c,s==5,g,[]) 1),bif x3 then c.2.2.1 else c.2.2.1,false,false,bif x3 then c.2.2.2.2.2.1 else c.2.2.2.2.2.1,bif x3 then c.2.2.2.2.2.2.1 else c.2.2.2.2.2.2.1,bif x3 then c.2.2.2.2.2.2.2.1 else c.2.2.2.2.2.2.2.1,bif x3 then c.2.2.2.2.2.2.2.2.1 else c.2.2.2.2.2.2.2.2.1,bif x3 then c.2.2.2.2.2.2.2.2.2.1 else c.2.2.2.2.2.2.2.2.2.1,bif x3 then c.2.2.2.2.2.2.2.2.2.2.1 else c.2.2.2.2.2.2.2.2.2.2.1,bif x3 then c.2.2.2.2.2.2.2.2.2.2.2.1 else c.2.2.2.2.2.2.2.2.2.2.2.1,bif x3 then c.2.2.2.2.2.2.2.2.2.2.2.2 else c.2.2.2.2.2.2.2.2.2.2.2.2))) Ln) Ln) Ln)
theorem ZJV (a:HL ZU):EV2 26 a=Zuh a.1 a.2.1 a.2.2.1 a.2.2.2:=by kernel_rfl
def Zud (c:TC) (s:Int) (g:List Int) (ln:QT0):RT (Option TC):=
 let x1:=u16.wrap ((spOf c)-2)
 let x2:=Zb c.1 (mAt (c,s==5,g,[]) 0)
 .br (Zc s) (Ls ((c.1,(rgx c.2.1 c.2.1.2.2.2.2.2.2.2.1 x1 (Zh s)),c.2.2))) (.br (!mAtC (c,s==5,g,[]) 0||x2.1==30) (.br (mAtC (c,s==5,g,[]) 0) (Ls ((c.1,(rgx c.2.1 c.2.1.2.2.2.2.2.2.2.1 x1 (Zw (c,s==5,g,[]) x2.2.1)),c.2.2.1,false,false,c.2.2.2.2.2))) Ln) Ln)
theorem ZJR (a:HL ZU):EV2 30 a=Zud a.1 a.2.1 a.2.2.1 a.2.2.2:=by kernel_rfl
def Zt9 (c:TC) (s:Int) (g:List Int) (ln:QT0):RT (Option TC):=
 let x1:=Zb c.1 (mAt (c,s==5,g,[]) 0)
 .br (Zc s) (Ls ((c.1,(rgx c.2.1 c.2.1.2.2.2.2.2.2.2.1 (u16.wrap ((spOf c)-2)) (Zh s)),c.2.2))) (.br (!mAtC (c,s==5,g,[]) 0||x1.1==34) (.br (mAtC (c,s==5,g,[]) 0) (Ls ((c.1,(rgx c.2.1 c.2.1.2.2.2.2.2.2.2.1 (spOf c) (Zw (c,s==5,g,[]) x1.2.1)),c.2.2.1,false,false,c.2.2.2.2.2))) Ln) Ln)
theorem ZJN (a:HL ZU):EV2 34 a=Zt9 a.1 a.2.1 a.2.2.1 a.2.2.2:=by kernel_rfl
def Zt5 (c:TC) (s:Int) (g:List Int) (ln:QT0):RT (Option TC):=
 let x1:=Zb c.1 (mAt (c,s==5,g,[]) 0)
 let x2:=rRim (c.1,(rgx c.2.1 c.2.1.2.2.2.2.2.2.2.1 (spOf c) (Zw (c,s==5,g,[]) x1.2.1)),c.2.2) ln
 let x3:=x2.2
 let x4:=x3.2
 let x5:=x4.2
 let x6:=x5.2.2.2
 let x7:=x6.2
 let x8:=x7.2
 let x9:=x8.2
 let x10:=x9.2
 .br (Zc s) (Ls ((c.1,(rgx c.2.1 c.2.1.2.2.2.2.2.2.2.1 (u16.wrap ((spOf c)-2)) (Zh s)),c.2.2))) (.br (!mAtC (c,s==5,g,[]) 0||x1.1==38) (.br (mAtC (c,s==5,g,[]) 0) (Ls ((x3.1,(x2.1,x4.1.2),x5.1,false,false,x6.1,x7.1,x8.1,x9.1,x10.1,false,false,x10.2.2.2))) Ln) Ln)
theorem ZJJ (a:HL ZU):EV2 38 a=Zt5 a.1 a.2.1 a.2.2.1 a.2.2.2:=by kernel_rfl
def Zt1 (c:TC) (s:Int) (g:List Int) (ln:QT0):RT (Option TC):=
 let x1:=Zb c.1 (mAt (c,s==5,g,[]) 0)
 let x2:=Zyp (Zab c.2.1 1) c.2.1.2.2.2.2.2.2.2.1.2.2.2.2.2.2
 let x3:=Zl c.2.1 1 x2.1
 let x4:=x3.2
 let x5:=x4.2
 let x6:=x5.2
 let x7:=x6.2
 let x8:=x7.2
 let x9:=x8.2
 let x10:=x9.2
 let x11:=x10.1
 let x12:=x11.2
 let x13:=x12.2
 let x14:=x13.2
 let x15:=x2.2
 .br (Zc s) (Ls ((c.1,(rgx c.2.1 c.2.1.2.2.2.2.2.2.2.1 (u16.wrap ((spOf c)-2)) (Zh s)),c.2.2))) (.br (!mAtC (c,s==5,g,[]) 0||x1.1==42) (.br (mAtC (c,s==5,g,[]) 0) (Ls ((c.1,(x3.1,x4.1,x5.1,x6.1,x7.1,x8.1,x9.1,(x11.1,x12.1,x13.1,x14.1,x14.2.1,x15.2,x15.1),x10.2.1,Zw (c,s==5,g,[]) x1.2.1),c.2.2.1,false,false,c.2.2.2.2.2))) Ln) Ln)
theorem ZJF (a:HL ZU):EV2 42 a=Zt1 a.1 a.2.1 a.2.2.1 a.2.2.2:=by kernel_rfl
def ZtX (c:TC) (s:Int) (g:List Int) (ln:QT0):RT (Option TC):=
 let x1:=Zb c.1 (mAt (c,s==5,g,[]) 0)
 .br (Zc s) (Ls ((c.1,(rgx c.2.1 c.2.1.2.2.2.2.2.2.2.1 (u16.wrap ((spOf c)-2)) (Zh s)),c.2.2))) (.br (!mAtC (c,s==5,g,[]) 0||x1.1==46) (.br (mAtC (c,s==5,g,[]) 0) (Ls ((c.1,(rgx c.2.1 c.2.1.2.2.2.2.2.2.2.1 (spOf c) (Zw (c,s==5,g,[]) x1.2.1)),c.2.2.1,false,false,c.2.2.2.2.2))) Ln) Ln)
theorem ZJB (a:HL ZU):EV2 46 a=ZtX a.1 a.2.1 a.2.2.1 a.2.2.2:=by kernel_rfl
