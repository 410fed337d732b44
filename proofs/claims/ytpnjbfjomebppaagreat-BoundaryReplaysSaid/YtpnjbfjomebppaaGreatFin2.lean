import Derived.Test.YtpnjbfjomebppaaGreatFin0
open Go.IntKind (u8 u16 i64)
set_option linter.unusedSimpArgs false
open Go Go.S3 Go.Proofs
set_option linter.unusedVariables false
set_option maxRecDepth 100000
namespace Go.Proofs.YtpnjbfjomebppaaGreat
noncomputable section
def ZD2 (c:TC) (s:Int) (g:List Int) (ln:QT0):RT (Option TC):=
 let x1:QT1:=(c,s==5,g,(0,0,0,0,0,0,0,0),[])
 let x2:=qAtC x1 0
 let x3:=Zb c.1 (qAt x1 0)
 let x4:= !x2||x3.1==2
 let x5:=x3.2
 let x6:=x5.2
 let x7:=x6.2.1
 let x8:=x7==6
 let x9:QT1:=(c,s==5,g,(2,x5),[])
 .br (Zf s) (Ls ((c.1,(rgx c.2.1 c.2.1.2.2.2.2.2.2.2.1 (u16.wrap ((spOf c)-2)) (Zh s)),c.2.2))) (.br (!x4||x2) (.br (x4) (.br (!x8||qAtC x9 1) (Ls ((c.1,rSet (rgx c.2.1 c.2.1.2.2.2.2.2.2.2.1 (spOf c) (ZA x9)) x6.1 (bif x8 then qAt x9 1 else qReg x9 x7),c.2.2.1,false,false,c.2.2.2.2.2))) Ln) Ln) Ln)
theorem ZRb (a:HL ZU):EV0 2 a=ZD2 a.1 a.2.1 a.2.2.1 a.2.2.2:=by kernel_rfl
def ZDY (c:TC) (s:Int) (g:List Int) (ln:QT0):RT (Option TC):=
 let x1:QT1:=(c,s==5,g,(0,0,0,0,0,0,0,0),[])
 let x2:=qAtC x1 0
 let x3:=Zb c.1 (qAt x1 0)
 let x4:= !x2||x3.1==6
 .br (Zf s) (Ls ((c.1,(rgx c.2.1 c.2.1.2.2.2.2.2.2.2.1 (u16.wrap ((spOf c)-2)) (Zh s)),c.2.2))) (.br (!x4||x2) (.br (x4) (Ls ((c.1,(rgx c.2.1 c.2.1.2.2.2.2.2.2.2.1 (spOf c) (ZA (c,s==5,g,(6,x3.2),[]))),c.2.2.1,false,false,c.2.2.2.2.2))) Ln) Ln)
theorem ZQ7 (a:HL ZU):EV0 6 a=ZDY a.1 a.2.1 a.2.2.1 a.2.2.2:=by kernel_rfl
def ZvX (c:TC) (s:Int) (g:List Int) (ln:QT0):RT (Option TC):=
 let x1:QT1:=(c,s==5,g,(0,0,0,0,0,0,0,0),[])
 let x2:=qAtC x1 0
 let x3:=Zb c.1 (qAt x1 0)
 let x4:= !x2||x3.1==10
 .br (Zf s) (Ls ((c.1,(rgx c.2.1 c.2.1.2.2.2.2.2.2.2.1 (u16.wrap ((spOf c)-2)) (Zh s)),c.2.2))) (.br (!x4||x2) (.br (x4) (Ls ((c.1,(rgx c.2.1 c.2.1.2.2.2.2.2.2.2.1 (spOf c) (ZA (c,s==5,g,(10,x3.2),[]))),c.2.2.1,false,false,c.2.2.2.2.2))) Ln) Ln)
theorem ZLh (a:HL ZU):EV0 10 a=ZvX a.1 a.2.1 a.2.2.1 a.2.2.2:=by kernel_rfl
def ZvT (c:TC) (s:Int) (g:List Int) (ln:QT0):RT (Option TC):=
 let x1:QT1:=(c,s==5,g,(0,0,0,0,0,0,0,0),[])
 let x2:=qAtC x1 0
 let x3:=Zb c.1 (qAt x1 0)
 let x4:= !x2||x3.1==14
 let x5:=x3.2
 let x6:=x5.2.1
 let x7:=x6==6
 let x8:QT1:=(c,s==5,g,(14,x5),[])
 let x9:=rInr c.1 (bif x7 then qAt x8 1 else qReg x8 x6) c.2.1.2.2.2.2.2.2.2.1
 .br (Zf s) (Ls ((c.1,(rgx c.2.1 c.2.1.2.2.2.2.2.2.2.1 (u16.wrap ((spOf c)-2)) (Zh s)),c.2.2))) (.br (!x4||x2) (.br (x4) (.br (!x7||qAtC x8 1) (Ls ((c.1,rSet (rgx c.2.1 x9.2 (spOf c) (ZA x8)) x6 x9.1,c.2.2.1,false,false,c.2.2.2.2.2))) Ln) Ln) Ln)
theorem ZLd (a:HL ZU):EV0 14 a=ZvT a.1 a.2.1 a.2.2.1 a.2.2.2:=by kernel_rfl
def ZvP (c:TC) (s:Int) (g:List Int) (ln:QT0):RT (Option TC):=
 let x1:QT1:=(c,s==5,g,(0,0,0,0,0,0,0,0),[])
 let x2:=qAtC x1 0
 let x3:=Zb c.1 (qAt x1 0)
 let x4:= !x2||x3.1==18
 let x5:=x3.2
 let x6:QT1:=(c,s==5,g,(18,x5),[])
 let x7:=rDad c.1 (Zd0 x6 2) (Zd0 x6 x5.2.2.2.1) c.2.1.2.2.2.2.2.2.2.1
 .br (Zf s) (Ls ((c.1,(rgx c.2.1 c.2.1.2.2.2.2.2.2.2.1 (u16.wrap ((spOf c)-2)) (Zh s)),c.2.2))) (.br (!x4||x2) (.br (x4) (Ls ((c.1,Zl (rgx c.2.1 x7.2 (spOf c) (ZA x6)) 2 x7.1,c.2.2.1,false,false,c.2.2.2.2.2))) Ln) Ln)
theorem ZK9 (a:HL ZU):EV0 18 a=ZvP a.1 a.2.1 a.2.2.1 a.2.2.2:=by kernel_rfl
def ZvL (c:TC) (s:Int) (g:List Int) (ln:QT0):RT (Option TC):=
 let x1:QT1:=(c,s==5,g,(0,0,0,0,0,0,0,0),[])
 let x2:=qAtC x1 0
 let x3:=Zb c.1 (qAt x1 0)
 let x4:= !x2||x3.1==22
 let x5:=c.2.1.2.2.2.2.2.2.2.1.2.2.2
 let x6:=x5.2
 let x7:=x6.2
 .br (Zf s) (Ls ((c.1,(rgx c.2.1 c.2.1.2.2.2.2.2.2.2.1 (u16.wrap ((spOf c)-2)) (Zh s)),c.2.2))) (.br (!x4||x2) (.br (x4) (Ls ((c.1,(rgx c.2.1 ((c.2.1.2.2.2.2.2.2.2.1.1,c.2.1.2.2.2.2.2.2.2.1.2.1,c.2.1.2.2.2.2.2.2.2.1.2.2.1,x5.1,x6.1,x7.1,!x7.2)) (spOf c) (ZA (c,s==5,g,(22,x3.2),[]))),c.2.2.1,false,false,c.2.2.2.2.2))) Ln) Ln)
theorem ZK5 (a:HL ZU):EV0 22 a=ZvL a.1 a.2.1 a.2.2.1 a.2.2.2:=by kernel_rfl
def ZvH (c:TC) (s:Int) (g:List Int) (ln:QT0):RT (Option TC):=
 let x1:QT1:=(c,s==5,g,(0,0,0,0,0,0,0,0),[])
 let x2:=qAtC x1 0
 let x3:=Zb c.1 (qAt x1 0)
 let x4:= !x2||x3.1==26
 let x5:QT1:=(c,s==5,g,(26,x3.2),[])
 let x6:=ZhA x5
 .br (Zf s) (Ls ((c.1,(rgx c.2.1 c.2.1.2.2.2.2.2.2.2.1 (u16.wrap ((spOf c)-2)) (Zh s)),c.2.2))) (.br (!x4||x2) (.br (x4) (.br (!x6||ZcA x5 1) (Ls ((c.1,(rgx c.2.1 c.2.1.2.2.2.2.2.2.2.1 (bif x6 then u16.wrap ((spOf c)+2) else (spOf c)) (bif x6 then Zgq x5 1 else ZA x5)),c.2.2.1,false,false,c.2.2.2.2.2))) Ln) Ln) Ln)
theorem ZK1 (a:HL ZU):EV0 26 a=ZvH a.1 a.2.1 a.2.2.1 a.2.2.2:=by kernel_rfl
def ZvD (c:TC) (s:Int) (g:List Int) (ln:QT0):RT (Option TC):=
 let x1:=u16.wrap ((spOf c)-2)
 let x2:QT1:=(c,s==5,g,(0,0,0,0,0,0,0,0),[])
 let x3:=qAtC x2 0
 let x4:=Zb c.1 (qAt x2 0)
 let x5:= !x3||x4.1==30
 .br (Zf s) (Ls ((c.1,(rgx c.2.1 c.2.1.2.2.2.2.2.2.2.1 x1 (Zh s)),c.2.2))) (.br (!x5||x3) (.br (x5) (Ls ((c.1,(rgx c.2.1 c.2.1.2.2.2.2.2.2.2.1 x1 (ZA (c,s==5,g,(30,x4.2),[]))),c.2.2.1,false,false,c.2.2.2.2.2))) Ln) Ln)
theorem ZKX (a:HL ZU):EV0 30 a=ZvD a.1 a.2.1 a.2.2.1 a.2.2.2:=by kernel_rfl
def Zvz (c:TC) (s:Int) (g:List Int) (ln:QT0):RT (Option TC):=
 let x1:QT1:=(c,s==5,g,(0,0,0,0,0,0,0,0),[])
 let x2:=qAtC x1 0
 let x3:=Zb c.1 (qAt x1 0)
 let x4:= !x2||x3.1==34
 .br (Zf s) (Ls ((c.1,(rgx c.2.1 c.2.1.2.2.2.2.2.2.2.1 (u16.wrap ((spOf c)-2)) (Zh s)),c.2.2))) (.br (!x4||x2) (.br (x4) (Ls ((c.1,(rgx c.2.1 c.2.1.2.2.2.2.2.2.2.1 (spOf c) (ZA (c,s==5,g,(34,x3.2),[]))),c.2.2.1,false,false,c.2.2.2.2.2))) Ln) Ln)
theorem ZKT (a:HL ZU):EV0 34 a=Zvz a.1 a.2.1 a.2.2.1 a.2.2.2:=by kernel_rfl
def Zvv (c:TC) (s:Int) (g:List Int) (ln:QT0):RT (Option TC):=
 let x1:QT1:=(c,s==5,g,(0,0,0,0,0,0,0,0),[])
 let x2:=qAtC x1 0
 let x3:=Zb c.1 (qAt x1 0)
 let x4:= !x2||x3.1==38
 let x5:=rRim (c.1,(rgx c.2.1 c.2.1.2.2.2.2.2.2.2.1 (spOf c) (ZA (c,s==5,g,(38,x3.2),[]))),c.2.2.1,38==35,38==37,c.2.2.2.2.2) ln
 let x6:=x5.2
 let x7:=x6.2
 let x8:=x7.2
 let x9:=x8.2.2.2
 let x10:=x9.2
 let x11:=x10.2
 let x12:=x11.2
 let x13:=x12.2
 .br (Zf s) (Ls ((c.1,(rgx c.2.1 c.2.1.2.2.2.2.2.2.2.1 (u16.wrap ((spOf c)-2)) (Zh s)),c.2.2))) (.br (!x4||x2) (.br (x4) (Ls ((x6.1,(x5.1,x7.1.2),x8.1,false,false,x9.1,x10.1,x11.1,x12.1,x13.1,false,false,x13.2.2.2))) Ln) Ln)
theorem ZKP (a:HL ZU):EV0 38 a=Zvv a.1 a.2.1 a.2.2.1 a.2.2.2:=by kernel_rfl
def Zvr (c:TC) (s:Int) (g:List Int) (ln:QT0):RT (Option TC):=
 let x1:QT1:=(c,s==5,g,(0,0,0,0,0,0,0,0),[])
 let x2:=qAtC x1 0
 let x3:=Zb c.1 (qAt x1 0)
 let x4:= !x2||x3.1==42
 let x5:=c.2.1.2.2.2.2.2.2.2.1.2.2.2
 let x6:=x5.2
 let x7:QT1:=(c,s==5,g,(42,x3.2),[])
 let x8:=Zyp (Zd0 x7 1) x6.2.2
 let x9:=x8.2
 .br (Zf s) (Ls ((c.1,(rgx c.2.1 c.2.1.2.2.2.2.2.2.2.1 (u16.wrap ((spOf c)-2)) (Zh s)),c.2.2))) (.br (!x4||x2) (.br (x4) (Ls ((c.1,Zl (rgx c.2.1 ((c.2.1.2.2.2.2.2.2.2.1.1,c.2.1.2.2.2.2.2.2.2.1.2.1,c.2.1.2.2.2.2.2.2.2.1.2.2.1,x5.1,x6.1,x9.2,x9.1)) (spOf c) (ZA x7)) 1 x8.1,c.2.2.1,false,false,c.2.2.2.2.2))) Ln) Ln)
theorem ZKL (a:HL ZU):EV0 42 a=Zvr a.1 a.2.1 a.2.2.1 a.2.2.2:=by kernel_rfl
def Zvn (c:TC) (s:Int) (g:List Int) (ln:QT0):RT (Option TC):=
 let x1:QT1:=(c,s==5,g,(0,0,0,0,0,0,0,0),[])
 let x2:=qAtC x1 0
 let x3:=Zb c.1 (qAt x1 0)
 let x4:= !x2||x3.1==46
 .br (Zf s) (Ls ((c.1,(rgx c.2.1 c.2.1.2.2.2.2.2.2.2.1 (u16.wrap ((spOf c)-2)) (Zh s)),c.2.2))) (.br (!x4||x2) (.br (x4) (Ls ((c.1,(rgx c.2.1 c.2.1.2.2.2.2.2.2.2.1 (spOf c) (ZA (c,s==5,g,(46,x3.2),[]))),c.2.2.1,false,false,c.2.2.2.2.2))) Ln) Ln)
theorem ZKH (a:HL ZU):EV0 46 a=Zvn a.1 a.2.1 a.2.2.1 a.2.2.2:=by kernel_rfl
def ZCE (c:TC) (s:Int) (g:List Int) (ln:QT0):RT (Option TC):=
 let x1:=Zb c.1 (mAt (c,s==5,g,[]) 0)
 let x2:=x1.2
 let x3:=rSet c.2.1 x2.2.1 (mAt (c,s==5,g,[]) 1)
 let x4:=x3.2
 let x5:=x4.2
 let x6:=x5.2
 let x7:=x6.2
 let x8:=x7.2
 let x9:=x8.2
 let x10:=x9.2
 .br (Zc s) (Ls ((c.1,(rgx c.2.1 c.2.1.2.2.2.2.2.2.2.1 (u16.wrap ((spOf c)-2)) (Zh s)),c.2.2))) (.br (!mAtC (c,s==5,g,[]) 0||x1.1==3) (.br (mAtC (c,s==5,g,[]) 0) (.br (mAtC (c,s==5,g,[]) 1) (Ls ((c.1,(x3.1,x4.1,x5.1,x6.1,x7.1,x8.1,x9.1,x10.1,x10.2.1,Zw (c,s==5,g,[]) x2.1),c.2.2.1,false,false,c.2.2.2.2.2))) Ln) Ln) Ln)
theorem ZPq (a:HL ZU):EV2 3 a=ZCE a.1 a.2.1 a.2.2.1 a.2.2.2:=by kernel_rfl
def ZCA (c:TC) (s:Int) (g:List Int) (ln:QT0):RT (Option TC):=
 let x1:=Zb c.1 (mAt (c,s==5,g,[]) 0)
 let x2:= !mAtC (c,s==5,g,[]) 3||mAtC (c,s==5,g,[]) 4
 let x3:= !x2||mAtC (c,s==5,g,[]) 3
 let x4:= !x3||x2
 .br (Zc s) (Ls ((c.1,(rgx c.2.1 c.2.1.2.2.2.2.2.2.2.1 (u16.wrap ((spOf c)-2)) (Zh s)),c.2.2))) (.br (!mAtC (c,s==5,g,[]) 0||x1.1==7) (.br (mAtC (c,s==5,g,[]) 0) (.br (!x4||x3) (.br (x4) (Ls ((c.1,(c.2.1.1,c.2.1.2.1,c.2.1.2.2.1,c.2.1.2.2.2.1,c.2.1.2.2.2.2.1,mAt (c,s==5,g,[]) 4,mAt (c,s==5,g,[]) 3,c.2.1.2.2.2.2.2.2.2.1,spOf c,Zw (c,s==5,g,[]) x1.2.1),c.2.2.1,false,false,c.2.2.2.2.2))) Ln) Ln) Ln) Ln)
theorem ZPm (a:HL ZU):EV2 7 a=ZCA a.1 a.2.1 a.2.2.1 a.2.2.2:=by kernel_rfl
def Zuw (c:TC) (s:Int) (g:List Int) (ln:QT0):RT (Option TC):=
 let x1:=Zb c.1 (mAt (c,s==5,g,[]) 0)
 .br (Zc s) (Ls ((c.1,(rgx c.2.1 c.2.1.2.2.2.2.2.2.2.1 (u16.wrap ((spOf c)-2)) (Zh s)),c.2.2))) (.br (!mAtC (c,s==5,g,[]) 0||x1.1==11) (.br (mAtC (c,s==5,g,[]) 0) (Ls ((c.1,(c.2.1.1,c.2.1.2.1,c.2.1.2.2.1,c.2.1.2.2.2.2.2.1,c.2.1.2.2.2.2.2.2.1,c.2.1.2.2.2.1,c.2.1.2.2.2.2.1,c.2.1.2.2.2.2.2.2.2.1,spOf c,Zw (c,s==5,g,[]) x1.2.1),c.2.2.1,false,false,c.2.2.2.2.2))) Ln) Ln)
theorem ZKa (a:HL ZU):EV2 11 a=Zuw a.1 a.2.1 a.2.2.1 a.2.2.2:=by kernel_rfl
def Zus (c:TC) (s:Int) (g:List Int) (ln:QT0):RT (Option TC):=
 let x1:=Zb c.1 (mAt (c,s==5,g,[]) 0)
 let x2:=x1.2
 let x3:=x2.2.1
 let x4:=x3==6
 let x5:=Zg2 c (15,x2) (bif x4 then mAt (c,s==5,g,[]) 1 else rGet c.2.1 x3)
 let x6:=rSet c.2.1 x3 x5.1
 let x7:=x6.2
 let x8:=x7.2
 let x9:=x8.2
 let x10:=x9.2
 let x11:=x10.2
 let x12:=x11.2
 .br (Zc s) (Ls ((c.1,(rgx c.2.1 c.2.1.2.2.2.2.2.2.2.1 (u16.wrap ((spOf c)-2)) (Zh s)),c.2.2))) (.br (!mAtC (c,s==5,g,[]) 0||x1.1==15) (.br (mAtC (c,s==5,g,[]) 0) (.br (!x4||mAtC (c,s==5,g,[]) 1) (Ls ((c.1,(x6.1,x7.1,x8.1,x9.1,x10.1,x11.1,x12.1,x5.2,x12.2.2.1,Zw (c,s==5,g,[]) x2.1),c.2.2.1,false,false,c.2.2.2.2.2))) Ln) Ln) Ln)
theorem ZJ6 (a:HL ZU):EV2 15 a=Zus a.1 a.2.1 a.2.2.1 a.2.2.2:=by kernel_rfl
def Zuo (c:TC) (s:Int) (g:List Int) (ln:QT0):RT (Option TC):=
 let x1:=Zb c.1 (mAt (c,s==5,g,[]) 0)
 let x2:=rDaa c.1 c.2.1.1 c.2.1.2.2.2.2.2.2.2.1
 .br (Zc s) (Ls ((c.1,(rgx c.2.1 c.2.1.2.2.2.2.2.2.2.1 (u16.wrap ((spOf c)-2)) (Zh s)),c.2.2))) (.br (!mAtC (c,s==5,g,[]) 0||x1.1==19) (.br (mAtC (c,s==5,g,[]) 0) (Ls ((c.1,(x2.1,c.2.1.2.1,c.2.1.2.2.1,c.2.1.2.2.2.1,c.2.1.2.2.2.2.1,c.2.1.2.2.2.2.2.1,c.2.1.2.2.2.2.2.2.1,x2.2,spOf c,Zw (c,s==5,g,[]) x1.2.1),c.2.2.1,false,false,c.2.2.2.2.2))) Ln) Ln)
theorem ZJ2 (a:HL ZU):EV2 19 a=Zuo a.1 a.2.1 a.2.2.1 a.2.2.2:=by kernel_rfl
def Zuk (c:TC) (s:Int) (g:List Int) (ln:QT0):RT (Option TC):=
 let x1:=Zb c.1 (mAt (c,s==5,g,[]) 0)
 let x2:=x1.2
 let x3:=c.2.1.2.2.2.2.2.2.2.1.2.2.2
 let x4:=x3.2
 let x5:=x4.2
 let x6:=rRot x2.2.2.2.2.1 c.2.1.1 x5.2
 .br (Zc s) (Ls ((c.1,(rgx c.2.1 c.2.1.2.2.2.2.2.2.2.1 (u16.wrap ((spOf c)-2)) (Zh s)),c.2.2))) (.br (!mAtC (c,s==5,g,[]) 0||x1.1==23) (.br (mAtC (c,s==5,g,[]) 0) (Ls ((c.1,(x6.1,c.2.1.2.1,c.2.1.2.2.1,c.2.1.2.2.2.1,c.2.1.2.2.2.2.1,c.2.1.2.2.2.2.2.1,c.2.1.2.2.2.2.2.2.1,(c.2.1.2.2.2.2.2.2.2.1.1,c.2.1.2.2.2.2.2.2.2.1.2.1,c.2.1.2.2.2.2.2.2.2.1.2.2.1,x3.1,x4.1,x5.1,x6.2),spOf c,Zw (c,s==5,g,[]) x2.1),c.2.2.1,false,false,c.2.2.2.2.2))) Ln) Ln)
theorem ZJY (a:HL ZU):EV2 23 a=Zuk a.1 a.2.1 a.2.2.1 a.2.2.2:=by kernel_rfl
def Zug (c:TC) (s:Int) (g:List Int) (ln:QT0):RT (Option TC):=
 let x1:=u16.wrap ((spOf c)-2)
 let x2:=Zb c.1 (mAt (c,s==5,g,[]) 0)
 .br (Zc s) (Ls ((c.1,(rgx c.2.1 c.2.1.2.2.2.2.2.2.2.1 x1 (Zh s)),c.2.2))) (.br (!mAtC (c,s==5,g,[]) 0||x2.1==27) (.br (mAtC (c,s==5,g,[]) 0) (Ls ((c.1,(rgx c.2.1 c.2.1.2.2.2.2.2.2.2.1 x1 (u16.wrap (i64.wrap (8*x2.2.2.2.2.2.2.2)))),c.2.2.1,false,false,c.2.2.2.2.2))) Ln) Ln)
theorem ZJU (a:HL ZU):EV2 27 a=Zug a.1 a.2.1 a.2.2.1 a.2.2.2:=by kernel_rfl
def Zuc (c:TC) (s:Int) (g:List Int) (ln:QT0):RT (Option TC):=
 let x1:=Zb c.1 (mAt (c,s==5,g,[]) 0)
 let x2:=x1.2
 let x3:=x2.2.2.2.1
 let x4:=x3==3
 let x5:= !x4||Zb3 (c,s==5,g,[]) 1
 let x6:= !x5||(x4||Zb3 (c,s==5,g,[]) 1)
 let x7:= !x6||x5
 let x8:=Zgh c.1 c.2.1 (Zew (c,s==5,g,[]) 1)
 let x9:=Zl c.2.1 x3 (Zew (c,s==5,g,[]) 1)
 let x10:=x8.2
 let x11:=x9.2
 let x12:=x10.2
 let x13:=x11.2
 let x14:=x12.2
 let x15:=x13.2
 let x16:=x14.2
 let x17:=x15.2
 let x18:=x16.2
 let x19:=x17.2
 let x20:=x18.2
 let x21:=x19.2
 let x22:=x20.2
 let x23:=x22.1
 let x24:=x21.2
 let x25:=x24.1
 let x26:=x23.2
 let x27:=x25.2
 let x28:=x26.2
 let x29:=x27.2
 let x30:=x28.2
 let x31:=x29.2
 let x32:=x30.2
 let x33:=x31.2
 let x34:=x32.2
 let x35:=x33.2
 .br (Zc s) (Ls ((c.1,(rgx c.2.1 c.2.1.2.2.2.2.2.2.2.1 (u16.wrap ((spOf c)-2)) (Zh s)),c.2.2))) (.br (!mAtC (c,s==5,g,[]) 0||x1.1==31) (.br (mAtC (c,s==5,g,[]) 0) (.br (!x7||x6) (.br (x7) (Ls ((c.1,(bif x4 then x8.1 else x9.1,bif x4 then x10.1 else x11.1,bif x4 then x12.1 else x13.1,bif x4 then x14.1 else x15.1,bif x4 then x16.1 else x17.1,bif x4 then x18.1 else x19.1,bif x4 then x20.1 else x21.1,(bif x4 then x23.1 else x25.1,bif x4 then x26.1 else x27.1,bif x4 then x28.1 else x29.1,bif x4 then x30.1 else x31.1,bif x4 then x32.1 else x33.1,bif x4 then x34.1 else x35.1,bif x4 then x34.2 else x35.2),u16.wrap ((bif x4 then x22.2.1 else x24.2.1)+2),Zw (c,s==5,g,[]) x2.1),c.2.2.1,false,false,c.2.2.2.2.2))) Ln) Ln) Ln) Ln)
theorem ZJQ (a:HL ZU):EV2 31 a=Zuc a.1 a.2.1 a.2.2.1 a.2.2.2:=by kernel_rfl
def Zt8 (c:TC) (s:Int) (g:List Int) (ln:QT0):RT (Option TC):=
 let x1:=Zb c.1 (mAt (c,s==5,g,[]) 0)
 .br (Zc s) (Ls ((c.1,(rgx c.2.1 c.2.1.2.2.2.2.2.2.2.1 (u16.wrap ((spOf c)-2)) (Zh s)),c.2.2))) (.br (!mAtC (c,s==5,g,[]) 0||x1.1==35) (.br (mAtC (c,s==5,g,[]) 0) (Ls ((c.1,(rgx c.2.1 c.2.1.2.2.2.2.2.2.2.1 (spOf c) (Zw (c,s==5,g,[]) x1.2.1)),true,true,false,c.2.2.2.2.2))) Ln) Ln)
theorem ZJM (a:HL ZU):EV2 35 a=Zt8 a.1 a.2.1 a.2.2.1 a.2.2.2:=by kernel_rfl
def Zt4 (c:TC) (s:Int) (g:List Int) (ln:QT0):RT (Option TC):=
 let x1:=Zb c.1 (mAt (c,s==5,g,[]) 0)
 let x2:=rSim (c.1,(rgx c.2.1 c.2.1.2.2.2.2.2.2.2.1 (spOf c) (Zw (c,s==5,g,[]) x1.2.1)),c.2.2) c.2.1.1
 let x3:=x2.2
 let x4:=x3.2
 .br (Zc s) (Ls ((c.1,(rgx c.2.1 c.2.1.2.2.2.2.2.2.2.1 (u16.wrap ((spOf c)-2)) (Zh s)),c.2.2))) (.br (!mAtC (c,s==5,g,[]) 0||x1.1==39) (.br (mAtC (c,s==5,g,[]) 0) (Ls ((x2.1,x3.1,x4.1,false,false,x4.2.2.2))) Ln) Ln)
theorem ZJI (a:HL ZU):EV2 39 a=Zt4 a.1 a.2.1 a.2.2.1 a.2.2.2:=by kernel_rfl
def Zt0 (c:TC) (s:Int) (g:List Int) (ln:QT0):RT (Option TC):=
 let x1:=Zb c.1 (mAt (c,s==5,g,[]) 0)
 let x2:=Zl c.2.1 1 (u16.wrap (Zab c.2.1 2+u16.wrap (mAt (c,s==5,g,[]) 1)))
 let x3:=x2.2
 let x4:=x3.2
 let x5:=x4.2
 let x6:=x5.2
 let x7:=x6.2
 let x8:=x7.2
 let x9:=x8.2
 .br (Zc s) (Ls ((c.1,(rgx c.2.1 c.2.1.2.2.2.2.2.2.2.1 (u16.wrap ((spOf c)-2)) (Zh s)),c.2.2))) (.br (!mAtC (c,s==5,g,[]) 0||x1.1==43) (.br (mAtC (c,s==5,g,[]) 0) (.br (mAtC (c,s==5,g,[]) 1) (Ls ((c.1,(x2.1,x3.1,x4.1,x5.1,x6.1,x7.1,x8.1,x9.1,x9.2.1,Zw (c,s==5,g,[]) x1.2.1),c.2.2.1,false,false,c.2.2.2.2.2))) Ln) Ln) Ln)
theorem ZJE (a:HL ZU):EV2 43 a=Zt0 a.1 a.2.1 a.2.2.1 a.2.2.2:=by kernel_rfl
def ZtW (c:TC) (s:Int) (g:List Int) (ln:QT0):RT (Option TC):=
 let x1:=Zb c.1 (mAt (c,s==5,g,[]) 0)
 let x2:= !mAtC (c,s==5,g,[]) 1||mAtC (c,s==5,g,[]) 2
 let x3:= !x2||mAtC (c,s==5,g,[]) 1
 let x4:= !x3||x2
 .br (Zc s) (Ls ((c.1,(rgx c.2.1 c.2.1.2.2.2.2.2.2.2.1 (u16.wrap ((spOf c)-2)) (Zh s)),c.2.2))) (.br (!mAtC (c,s==5,g,[]) 0||x1.1==47) (.br (mAtC (c,s==5,g,[]) 0) (.br (!x4||x3) (.br (x4) (Ls ((c.1,(c.2.1.1,c.2.1.2.1,c.2.1.2.2.1,c.2.1.2.2.2.1,c.2.1.2.2.2.2.1,mAt (c,s==5,g,[]) 2,mAt (c,s==5,g,[]) 1,c.2.1.2.2.2.2.2.2.2.1,spOf c,Zw (c,s==5,g,[]) x1.2.1),c.2.2.1,false,false,c.2.2.2.2.2))) Ln) Ln) Ln) Ln)
theorem ZJA (a:HL ZU):EV2 47 a=ZtW a.1 a.2.1 a.2.2.1 a.2.2.2:=by kernel_rfl
