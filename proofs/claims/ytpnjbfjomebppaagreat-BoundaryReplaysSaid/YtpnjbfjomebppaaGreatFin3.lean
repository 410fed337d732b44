import Derived.Test.YtpnjbfjomebppaaGreatFin0
open Go.IntKind (u8 u16 i64)
set_option linter.unusedSimpArgs false
open Go Go.S3 Go.Proofs
set_option linter.unusedVariables false
set_option maxRecDepth 100000
namespace Go.Proofs.YtpnjbfjomebppaaGreat
noncomputable section
def ZD1 (c:TC) (s:Int) (g:List Int) (ln:QT0):RT (Option TC):=
 let x1:QT1:=(c,s==5,g,(0,0,0,0,0,0,0,0),[])
 let x2:=qAtC x1 0
 let x3:=Zb c.1 (qAt x1 0)
 let x4:= !x2||x3.1==3
 let x5:=x3.2
 let x6:QT1:=(c,s==5,g,(3,x5),[])
 .br (Zf s) (Ls ((c.1,(rgx c.2.1 c.2.1.2.2.2.2.2.2.2.1 (u16.wrap ((spOf c)-2)) (Zh s)),c.2.2))) (.br (!x4||x2) (.br (x4) (.br (qAtC x6 1) (Ls ((c.1,rSet (rgx c.2.1 c.2.1.2.2.2.2.2.2.2.1 (spOf c) (ZA x6)) x5.2.1 (qAt x6 1),c.2.2.1,false,false,c.2.2.2.2.2))) Ln) Ln) Ln)
theorem ZRa (a:HL ZU):EV0 3 a=ZD1 a.1 a.2.1 a.2.2.1 a.2.2.2:=by kernel_rfl
def ZDX (c:TC) (s:Int) (g:List Int) (ln:QT0):RT (Option TC):=
 let x1:QT1:=(c,s==5,g,(0,0,0,0,0,0,0,0),[])
 let x2:=qAtC x1 0
 let x3:=Zb c.1 (qAt x1 0)
 let x4:= !x2||x3.1==7
 let x5:QT1:=(c,s==5,g,(7,x3.2),[])
 .br (Zf s) (Ls ((c.1,(rgx c.2.1 c.2.1.2.2.2.2.2.2.2.1 (u16.wrap ((spOf c)-2)) (Zh s)),c.2.2))) (.br (!x4||x2) (.br (x4) (.br (ZcA x5 3) (Ls ((c.1,Zl (rgx c.2.1 c.2.1.2.2.2.2.2.2.2.1 (spOf c) (ZA x5)) 2 (Zgq x5 3),c.2.2.1,false,false,c.2.2.2.2.2))) Ln) Ln) Ln)
theorem ZQ6 (a:HL ZU):EV0 7 a=ZDX a.1 a.2.1 a.2.2.1 a.2.2.2:=by kernel_rfl
def ZvW (c:TC) (s:Int) (g:List Int) (ln:QT0):RT (Option TC):=
 let x1:QT1:=(c,s==5,g,(0,0,0,0,0,0,0,0),[])
 let x2:=qAtC x1 0
 let x3:=Zb c.1 (qAt x1 0)
 let x4:= !x2||x3.1==11
 .br (Zf s) (Ls ((c.1,(rgx c.2.1 c.2.1.2.2.2.2.2.2.2.1 (u16.wrap ((spOf c)-2)) (Zh s)),c.2.2))) (.br (!x4||x2) (.br (x4) (Ls ((c.1,(c.2.1.1,c.2.1.2.1,c.2.1.2.2.1,c.2.1.2.2.2.2.2.1,c.2.1.2.2.2.2.2.2.1,c.2.1.2.2.2.1,c.2.1.2.2.2.2.1,c.2.1.2.2.2.2.2.2.2.1,spOf c,ZA (c,s==5,g,(11,x3.2),[])),c.2.2.1,false,false,c.2.2.2.2.2))) Ln) Ln)
theorem ZLg (a:HL ZU):EV0 11 a=ZvW a.1 a.2.1 a.2.2.1 a.2.2.2:=by kernel_rfl
def ZvS (c:TC) (s:Int) (g:List Int) (ln:QT0):RT (Option TC):=
 let x1:QT1:=(c,s==5,g,(0,0,0,0,0,0,0,0),[])
 let x2:=qAtC x1 0
 let x3:=Zb c.1 (qAt x1 0)
 let x4:= !x2||x3.1==15
 let x5:=x3.2
 let x6:=x5.2.1
 let x7:=x6==6
 let x8:QT1:=(c,s==5,g,(15,x5),[])
 let x9:=rDcr c.1 (bif x7 then qAt x8 1 else qReg x8 x6) c.2.1.2.2.2.2.2.2.2.1
 .br (Zf s) (Ls ((c.1,(rgx c.2.1 c.2.1.2.2.2.2.2.2.2.1 (u16.wrap ((spOf c)-2)) (Zh s)),c.2.2))) (.br (!x4||x2) (.br (x4) (.br (!x7||qAtC x8 1) (Ls ((c.1,rSet (rgx c.2.1 x9.2 (spOf c) (ZA x8)) x6 x9.1,c.2.2.1,false,false,c.2.2.2.2.2))) Ln) Ln) Ln)
theorem ZLc (a:HL ZU):EV0 15 a=ZvS a.1 a.2.1 a.2.2.1 a.2.2.2:=by kernel_rfl
def ZvO (c:TC) (s:Int) (g:List Int) (ln:QT0):RT (Option TC):=
 let x1:QT1:=(c,s==5,g,(0,0,0,0,0,0,0,0),[])
 let x2:=qAtC x1 0
 let x3:=Zb c.1 (qAt x1 0)
 let x4:= !x2||x3.1==19
 let x5:=rDaa c.1 c.2.1.1 c.2.1.2.2.2.2.2.2.2.1
 .br (Zf s) (Ls ((c.1,(rgx c.2.1 c.2.1.2.2.2.2.2.2.2.1 (u16.wrap ((spOf c)-2)) (Zh s)),c.2.2))) (.br (!x4||x2) (.br (x4) (Ls ((c.1,(x5.1,c.2.1.2.1,c.2.1.2.2.1,c.2.1.2.2.2.1,c.2.1.2.2.2.2.1,c.2.1.2.2.2.2.2.1,c.2.1.2.2.2.2.2.2.1,x5.2,spOf c,ZA (c,s==5,g,(19,x3.2),[])),c.2.2.1,false,false,c.2.2.2.2.2))) Ln) Ln)
theorem ZK8 (a:HL ZU):EV0 19 a=ZvO a.1 a.2.1 a.2.2.1 a.2.2.2:=by kernel_rfl
def ZvK (c:TC) (s:Int) (g:List Int) (ln:QT0):RT (Option TC):=
 let x1:QT1:=(c,s==5,g,(0,0,0,0,0,0,0,0),[])
 let x2:=qAtC x1 0
 let x3:=Zb c.1 (qAt x1 0)
 let x4:= !x2||x3.1==23
 let x5:=x3.2
 let x6:=c.2.1.2.2.2.2.2.2.2.1.2.2.2
 let x7:=x6.2
 let x8:=x7.2
 let x9:=rRot x5.2.2.2.2.1 c.2.1.1 x8.2
 .br (Zf s) (Ls ((c.1,(rgx c.2.1 c.2.1.2.2.2.2.2.2.2.1 (u16.wrap ((spOf c)-2)) (Zh s)),c.2.2))) (.br (!x4||x2) (.br (x4) (Ls ((c.1,(x9.1,c.2.1.2.1,c.2.1.2.2.1,c.2.1.2.2.2.1,c.2.1.2.2.2.2.1,c.2.1.2.2.2.2.2.1,c.2.1.2.2.2.2.2.2.1,(c.2.1.2.2.2.2.2.2.2.1.1,c.2.1.2.2.2.2.2.2.2.1.2.1,c.2.1.2.2.2.2.2.2.2.1.2.2.1,x6.1,x7.1,x8.1,x9.2),spOf c,ZA (c,s==5,g,(23,x5),[])),c.2.2.1,false,false,c.2.2.2.2.2))) Ln) Ln)
theorem ZK4 (a:HL ZU):EV0 23 a=ZvK a.1 a.2.1 a.2.2.1 a.2.2.2:=by kernel_rfl
def ZvG (c:TC) (s:Int) (g:List Int) (ln:QT0):RT (Option TC):=
 let x1:=u16.wrap ((spOf c)-2)
 let x2:QT1:=(c,s==5,g,(0,0,0,0,0,0,0,0),[])
 let x3:=qAtC x2 0
 let x4:=Zb c.1 (qAt x2 0)
 let x5:= !x3||x4.1==27
 .br (Zf s) (Ls ((c.1,(rgx c.2.1 c.2.1.2.2.2.2.2.2.2.1 x1 (Zh s)),c.2.2))) (.br (!x5||x3) (.br (x5) (Ls ((c.1,(rgx c.2.1 c.2.1.2.2.2.2.2.2.2.1 x1 (u16.wrap (i64.wrap (8*x4.2.2.2.2.2.2.2)))),c.2.2.1,false,false,c.2.2.2.2.2))) Ln) Ln)
theorem ZK0 (a:HL ZU):EV0 27 a=ZvG a.1 a.2.1 a.2.2.1 a.2.2.2:=by kernel_rfl
def ZvC (c:TC) (s:Int) (g:List Int) (ln:QT0):RT (Option TC):=
 let x1:QT1:=(c,s==5,g,(0,0,0,0,0,0,0,0),[])
 let x2:=qAtC x1 0
 let x3:=Zb c.1 (qAt x1 0)
 let x4:= !x2||x3.1==31
 let x5:=x3.2
 let x6:=x5.2.2.2.1
 let x7:=x6==3
 let x8:QT1:=(c,s==5,g,(31,x5),[])
 let x9:=ZcA x8 1
 let x10:= !x7||x9
 let x11:= !x10||(x7||x9)
 let x12:= !x11||x10
 let x13:= !x12||x11
 let x14:TR:=(rgx c.2.1 c.2.1.2.2.2.2.2.2.2.1 (spOf c) (ZA x8))
 let x15:=Zgq x8 1
 let x16:=Zgh c.1 x14 x15
 let x17:=Zl x14 x6 x15
 let x18:=x16.2
 let x19:=x17.2
 let x20:=x18.2
 let x21:=x19.2
 let x22:=x20.2
 let x23:=x21.2
 let x24:=x22.2
 let x25:=x23.2
 let x26:=x24.2
 let x27:=x25.2
 let x28:=x26.2
 let x29:=x27.2
 let x30:=x28.2
 let x31:=x30.1
 let x32:=x29.2
 let x33:=x32.1
 let x34:=x31.2
 let x35:=x33.2
 let x36:=x34.2
 let x37:=x35.2
 let x38:=x36.2
 let x39:=x37.2
 let x40:=x38.2
 let x41:=x39.2
 let x42:=x40.2
 let x43:=x41.2
 let x44:=x30.2
 let x45:=x32.2
 .br (Zf s) (Ls ((c.1,(rgx c.2.1 c.2.1.2.2.2.2.2.2.2.1 (u16.wrap ((spOf c)-2)) (Zh s)),c.2.2))) (.br (!x4||x2) (.br (x4) (.br (!x13||x12) (.br (x13) (Ls ((c.1,(bif x7 then x16.1 else x17.1,bif x7 then x18.1 else x19.1,bif x7 then x20.1 else x21.1,bif x7 then x22.1 else x23.1,bif x7 then x24.1 else x25.1,bif x7 then x26.1 else x27.1,bif x7 then x28.1 else x29.1,(bif x7 then x31.1 else x33.1,bif x7 then x34.1 else x35.1,bif x7 then x36.1 else x37.1,bif x7 then x38.1 else x39.1,bif x7 then x40.1 else x41.1,bif x7 then x42.1 else x43.1,bif x7 then x42.2 else x43.2),u16.wrap ((bif x7 then x44.1 else x45.1)+2),bif x7 then x44.2 else x45.2),c.2.2.1,false,false,c.2.2.2.2.2))) Ln) Ln) Ln) Ln)
theorem ZKW (a:HL ZU):EV0 31 a=ZvC a.1 a.2.1 a.2.2.1 a.2.2.2:=by kernel_rfl
def Zvy (c:TC) (s:Int) (g:List Int) (ln:QT0):RT (Option TC):=
 let x1:QT1:=(c,s==5,g,(0,0,0,0,0,0,0,0),[])
 let x2:=qAtC x1 0
 let x3:=Zb c.1 (qAt x1 0)
 let x4:= !x2||x3.1==35
 .br (Zf s) (Ls ((c.1,(rgx c.2.1 c.2.1.2.2.2.2.2.2.2.1 (u16.wrap ((spOf c)-2)) (Zh s)),c.2.2))) (.br (!x4||x2) (.br (x4) (Ls ((c.1,(rgx c.2.1 c.2.1.2.2.2.2.2.2.2.1 (spOf c) (ZA (c,s==5,g,(35,x3.2),[]))),true,true,false,c.2.2.2.2.2))) Ln) Ln)
theorem ZKS (a:HL ZU):EV0 35 a=Zvy a.1 a.2.1 a.2.2.1 a.2.2.2:=by kernel_rfl
def Zvu (c:TC) (s:Int) (g:List Int) (ln:QT0):RT (Option TC):=
 let x1:QT1:=(c,s==5,g,(0,0,0,0,0,0,0,0),[])
 let x2:=qAtC x1 0
 let x3:=Zb c.1 (qAt x1 0)
 let x4:= !x2||x3.1==39
 let x5:=rSim (c.1,(rgx c.2.1 c.2.1.2.2.2.2.2.2.2.1 (spOf c) (ZA (c,s==5,g,(39,x3.2),[]))),c.2.2.1,39==35,39==37,c.2.2.2.2.2) c.2.1.1
 let x6:=x5.2
 let x7:=x6.2
 .br (Zf s) (Ls ((c.1,(rgx c.2.1 c.2.1.2.2.2.2.2.2.2.1 (u16.wrap ((spOf c)-2)) (Zh s)),c.2.2))) (.br (!x4||x2) (.br (x4) (Ls ((x5.1,x6.1,x7.1,false,false,x7.2.2.2))) Ln) Ln)
theorem ZKO (a:HL ZU):EV0 39 a=Zvu a.1 a.2.1 a.2.2.1 a.2.2.2:=by kernel_rfl
def Zvq (c:TC) (s:Int) (g:List Int) (ln:QT0):RT (Option TC):=
 let x1:QT1:=(c,s==5,g,(0,0,0,0,0,0,0,0),[])
 let x2:=qAtC x1 0
 let x3:=Zb c.1 (qAt x1 0)
 let x4:= !x2||x3.1==43
 let x5:QT1:=(c,s==5,g,(43,x3.2),[])
 .br (Zf s) (Ls ((c.1,(rgx c.2.1 c.2.1.2.2.2.2.2.2.2.1 (u16.wrap ((spOf c)-2)) (Zh s)),c.2.2))) (.br (!x4||x2) (.br (x4) (.br (qAtC x5 1) (Ls ((c.1,Zl (rgx c.2.1 c.2.1.2.2.2.2.2.2.2.1 (spOf c) (ZA x5)) 1 (u16.wrap (Zd0 x5 2+u16.wrap (qAt x5 1))),c.2.2.1,false,false,c.2.2.2.2.2))) Ln) Ln) Ln)
theorem ZKK (a:HL ZU):EV0 43 a=Zvq a.1 a.2.1 a.2.2.1 a.2.2.2:=by kernel_rfl
def Zvm (c:TC) (s:Int) (g:List Int) (ln:QT0):RT (Option TC):=
 let x1:QT1:=(c,s==5,g,(0,0,0,0,0,0,0,0),[])
 let x2:=qAtC x1 0
 let x3:=Zb c.1 (qAt x1 0)
 let x4:= !x2||x3.1==47
 let x5:QT1:=(c,s==5,g,(47,x3.2),[])
 .br (Zf s) (Ls ((c.1,(rgx c.2.1 c.2.1.2.2.2.2.2.2.2.1 (u16.wrap ((spOf c)-2)) (Zh s)),c.2.2))) (.br (!x4||x2) (.br (x4) (.br (ZcA x5 1) (Ls ((c.1,Zl (rgx c.2.1 c.2.1.2.2.2.2.2.2.2.1 (spOf c) (ZA x5)) 2 (Zgq x5 1),c.2.2.1,false,false,c.2.2.2.2.2))) Ln) Ln) Ln)
theorem ZKG (a:HL ZU):EV0 47 a=Zvm a.1 a.2.1 a.2.2.1 a.2.2.2:=by kernel_rfl
def ZCD (c:TC) (s:Int) (g:List Int) (ln:QT0):RT (Option TC):=
 let x1:=Zb c.1 (mAt (c,s==5,g,[]) 0)
 let x2:=x1.2
 let x3:=Zl c.2.1 x2.2.2.2.1 (Zew (c,s==5,g,[]) 1)
 let x4:=x3.2
 let x5:=x4.2
 let x6:=x5.2
 let x7:=x6.2
 let x8:=x7.2
 let x9:=x8.2
 let x10:=x9.2
 .br (Zc s) (Ls ((c.1,(rgx c.2.1 c.2.1.2.2.2.2.2.2.2.1 (u16.wrap ((spOf c)-2)) (Zh s)),c.2.2))) (.br (!mAtC (c,s==5,g,[]) 0||x1.1==4) (.br (mAtC (c,s==5,g,[]) 0) (.br (Zb3 (c,s==5,g,[]) 1) (Ls ((c.1,(x3.1,x4.1,x5.1,x6.1,x7.1,x8.1,x9.1,x10.1,x10.2.1,Zw (c,s==5,g,[]) x2.1),c.2.2.1,false,false,c.2.2.2.2.2))) Ln) Ln) Ln)
theorem ZPp (a:HL ZU):EV2 4 a=ZCD a.1 a.2.1 a.2.2.1 a.2.2.2:=by kernel_rfl
def ZCz (c:TC) (s:Int) (g:List Int) (ln:QT0):RT (Option TC):=
 let x1:=Zb c.1 (mAt (c,s==5,g,[]) 0)
 .br (Zc s) (Ls ((c.1,(rgx c.2.1 c.2.1.2.2.2.2.2.2.2.1 (u16.wrap ((spOf c)-2)) (Zh s)),c.2.2))) (.br (!mAtC (c,s==5,g,[]) 0||x1.1==8) (.br (mAtC (c,s==5,g,[]) 0) (Ls ((c.1,(rgx c.2.1 c.2.1.2.2.2.2.2.2.2.1 (spOf c) (Zw (c,s==5,g,[]) x1.2.1)),c.2.2.1,false,false,c.2.2.2.2.2))) Ln) Ln)
theorem ZPl (a:HL ZU):EV2 8 a=ZCz a.1 a.2.1 a.2.2.1 a.2.2.2:=by kernel_rfl
def Zuv (c:TC) (s:Int) (g:List Int) (ln:QT0):RT (Option TC):=
 let x1:=Zb c.1 (mAt (c,s==5,g,[]) 0)
 let x2:=x1.2
 let x3:=x2.2.2
 let x4:=x3.1
 let x5:=x4==6
 let x6:=rDo c.1 x3.2.2.1 c.2.1.1 (bif x5 then mAt (c,s==5,g,[]) 1 else rGet c.2.1 x4) c.2.1.2.2.2.2.2.2.2.1
 .br (Zc s) (Ls ((c.1,(rgx c.2.1 c.2.1.2.2.2.2.2.2.2.1 (u16.wrap ((spOf c)-2)) (Zh s)),c.2.2))) (.br (!mAtC (c,s==5,g,[]) 0||x1.1==12) (.br (mAtC (c,s==5,g,[]) 0) (.br (!x5||mAtC (c,s==5,g,[]) 1) (Ls ((c.1,(x6.1,c.2.1.2.1,c.2.1.2.2.1,c.2.1.2.2.2.1,c.2.1.2.2.2.2.1,c.2.1.2.2.2.2.2.1,c.2.1.2.2.2.2.2.2.1,x6.2,spOf c,Zw (c,s==5,g,[]) x2.1),c.2.2.1,false,false,c.2.2.2.2.2))) Ln) Ln) Ln)
theorem ZJ9 (a:HL ZU):EV2 12 a=Zuv a.1 a.2.1 a.2.2.1 a.2.2.2:=by kernel_rfl
def Zur (c:TC) (s:Int) (g:List Int) (ln:QT0):RT (Option TC):=
 let x1:=Zb c.1 (mAt (c,s==5,g,[]) 0)
 let x2:=x1.2
 let x3:=x2.2.2.2.1
 let x4:=rInx c.1 (Zab c.2.1 x3) c.2.1.2.2.2.2.2.2.2.1
 let x5:=Zl c.2.1 x3 x4.1
 let x6:=x5.2
 let x7:=x6.2
 let x8:=x7.2
 let x9:=x8.2
 let x10:=x9.2
 let x11:=x10.2
 .br (Zc s) (Ls ((c.1,(rgx c.2.1 c.2.1.2.2.2.2.2.2.2.1 (u16.wrap ((spOf c)-2)) (Zh s)),c.2.2))) (.br (!mAtC (c,s==5,g,[]) 0||x1.1==16) (.br (mAtC (c,s==5,g,[]) 0) (Ls ((c.1,(x5.1,x6.1,x7.1,x8.1,x9.1,x10.1,x11.1,x4.2,x11.2.2.1,Zw (c,s==5,g,[]) x2.1),c.2.2.1,false,false,c.2.2.2.2.2))) Ln) Ln)
theorem ZJ5 (a:HL ZU):EV2 16 a=Zur a.1 a.2.1 a.2.2.1 a.2.2.2:=by kernel_rfl
def Zun (c:TC) (s:Int) (g:List Int) (ln:QT0):RT (Option TC):=
 let x1:=Zb c.1 (mAt (c,s==5,g,[]) 0)
 .br (Zc s) (Ls ((c.1,(rgx c.2.1 c.2.1.2.2.2.2.2.2.2.1 (u16.wrap ((spOf c)-2)) (Zh s)),c.2.2))) (.br (!mAtC (c,s==5,g,[]) 0||x1.1==20) (.br (mAtC (c,s==5,g,[]) 0) (Ls ((c.1,(u8.wrap (255-c.2.1.1),c.2.1.2.1,c.2.1.2.2.1,c.2.1.2.2.2.1,c.2.1.2.2.2.2.1,c.2.1.2.2.2.2.2.1,c.2.1.2.2.2.2.2.2.1,c.2.1.2.2.2.2.2.2.2.1,spOf c,Zw (c,s==5,g,[]) x1.2.1),c.2.2.1,false,false,c.2.2.2.2.2))) Ln) Ln)
theorem ZJ1 (a:HL ZU):EV2 20 a=Zun a.1 a.2.1 a.2.2.1 a.2.2.2:=by kernel_rfl
def Zuj (c:TC) (s:Int) (g:List Int) (ln:QT0):RT (Option TC):=
 let x1:=Zb c.1 (mAt (c,s==5,g,[]) 0)
 let x2:=x1.2
 let x3:= !Zeq (c,s==5,g,[]) (24,x2)
 let x4:=c.2.1.2.2.2.2.2.2.2.1.2.2.1
 let x5:=c.2.1.2.2.2.2.2.2.2.1.2.2.2
 let x6:=x5.1
 let x7:=x5.2
 let x8:=x7.1
 let x9:=x7.2
 let x10:=x9.1
 let x11:=x9.2
 .br (Zc s) (Ls ((c.1,(rgx c.2.1 c.2.1.2.2.2.2.2.2.2.1 (u16.wrap ((spOf c)-2)) (Zh s)),c.2.2))) (.br (!mAtC (c,s==5,g,[]) 0||x1.1==24) (.br (mAtC (c,s==5,g,[]) 0) (.br (x3||Zb3 (c,s==5,g,[]) 1) (Ls ((bif x3 then c.1 else c.1,(bif x3 then c.2.1.1 else c.2.1.1,bif x3 then c.2.1.2.1 else c.2.1.2.1,bif x3 then c.2.1.2.2.1 else c.2.1.2.2.1,bif x3 then c.2.1.2.2.2.1 else c.2.1.2.2.2.1,bif x3 then c.2.1.2.2.2.2.1 else c.2.1.2.2.2.2.1,bif x3 then c.2.1.2.2.2.2.2.1 else c.2.1.2.2.2.2.2.1,bif x3 then c.2.1.2.2.2.2.2.2.1 else c.2.1.2.2.2.2.2.2.1,(bif x3 then c.2.1.2.2.2.2.2.2.2.1.1 else c.2.1.2.2.2.2.2.2.2.1.1,bif x3 then c.2.1.2.2.2.2.2.2.2.1.2.1 else c.2.1.2.2.2.2.2.2.2.1.2.1,bif x3 then x4 else x4,bif x3 then x6 else x6,bif x3 then x8 else x8,bif x3 then x10 else x10,bif x3 then x11 else x11),bif x3 then (spOf c) else (spOf c),bif x3 then Zw (c,s==5,g,[]) x2.1 else Zew (c,s==5,g,[]) 1),bif x3 then c.2.2.1 else c.2.2.1,false,false,bif x3 then c.2.2.2.2.2.1 else c.2.2.2.2.2.1,bif x3 then c.2.2.2.2.2.2.1 else c.2.2.2.2.2.2.1,bif x3 then c.2.2.2.2.2.2.2.1 else c.2.2.2.2.2.2.2.1,bif x3 then c.2.2.2.2.2.2.2.2.1 else c.2.2.2.2.2.2.2.2.1,bif x3 then c.2.2.2.2.2.2.2.2.2.1 else c.2.2.2.2.2.2.2.2.2.1,bif x3 then c.2.2.2.2.2.2.2.2.2.2.1 else c.2.2.2.2.2.2.2.2.2.2.1,bif x3 then c.2.2.2.2.2.2.2.2.2.2.2.1 else c.2.2.2.2.2.2.2.2.2.2.2.1,bif x3 then c.2.2.2.2.2.2.2.2.2.2.2.2 else c.2.2.2.2.2.2.2.2.2.2.2.2))) Ln) Ln) Ln)
theorem ZJX (a:HL ZU):EV2 24 a=Zuj a.1 a.2.1 a.2.2.1 a.2.2.2:=by kernel_rfl
def Zuf (c:TC) (s:Int) (g:List Int) (ln:QT0):RT (Option TC):=
 let x1:=Zb c.1 (mAt (c,s==5,g,[]) 0)
 .br (Zc s) (Ls ((c.1,(rgx c.2.1 c.2.1.2.2.2.2.2.2.2.1 (u16.wrap ((spOf c)-2)) (Zh s)),c.2.2))) (.br (!mAtC (c,s==5,g,[]) 0||x1.1==28) (.br (mAtC (c,s==5,g,[]) 0) (Ls ((c.1,(rgx c.2.1 c.2.1.2.2.2.2.2.2.2.1 (spOf c) (Zab (rgx c.2.1 c.2.1.2.2.2.2.2.2.2.1 (spOf c) (Zw (c,s==5,g,[]) x1.2.1)) 2)),c.2.2.1,false,false,c.2.2.2.2.2))) Ln) Ln)
theorem ZJT (a:HL ZU):EV2 28 a=Zuf a.1 a.2.1 a.2.2.1 a.2.2.2:=by kernel_rfl
def Zub (c:TC) (s:Int) (g:List Int) (ln:QT0):RT (Option TC):=
 let x1:=Zb c.1 (mAt (c,s==5,g,[]) 0)
 let x2:= !mAtC (c,s==5,g,[]) 1||mAtC (c,s==5,g,[]) 2
 let x3:= !x2||mAtC (c,s==5,g,[]) 1
 let x4:= !x3||x2
 .br (Zc s) (Ls ((c.1,(rgx c.2.1 c.2.1.2.2.2.2.2.2.2.1 (u16.wrap ((spOf c)-2)) (Zh s)),c.2.2))) (.br (!mAtC (c,s==5,g,[]) 0||x1.1==32) (.br (mAtC (c,s==5,g,[]) 0) (.br (!x4||x3) (.br (x4) (Ls ((c.1,(c.2.1.1,c.2.1.2.1,c.2.1.2.2.1,c.2.1.2.2.2.1,c.2.1.2.2.2.2.1,mAt (c,s==5,g,[]) 2,mAt (c,s==5,g,[]) 1,c.2.1.2.2.2.2.2.2.2.1,spOf c,Zw (c,s==5,g,[]) x1.2.1),c.2.2.1,false,false,c.2.2.2.2.2))) Ln) Ln) Ln) Ln)
theorem ZJP (a:HL ZU):EV2 32 a=Zub a.1 a.2.1 a.2.2.1 a.2.2.2:=by kernel_rfl
def Zt7 (c:TC) (s:Int) (g:List Int) (ln:QT0):RT (Option TC):=
 let x1:=Zb c.1 (mAt (c,s==5,g,[]) 0)
 .br (Zc s) (Ls ((c.1,(rgx c.2.1 c.2.1.2.2.2.2.2.2.2.1 (u16.wrap ((spOf c)-2)) (Zh s)),c.2.2))) (.br (!mAtC (c,s==5,g,[]) 0||x1.1==36) (.br (mAtC (c,s==5,g,[]) 0) (Ls ((c.1,(rgx c.2.1 c.2.1.2.2.2.2.2.2.2.1 (spOf c) (Zw (c,s==5,g,[]) x1.2.1)),false,false,false,c.2.2.2.2.2))) Ln) Ln)
theorem ZJL (a:HL ZU):EV2 36 a=Zt7 a.1 a.2.1 a.2.2.1 a.2.2.2:=by kernel_rfl
def Zt3 (c:TC) (s:Int) (g:List Int) (ln:QT0):RT (Option TC):=
 let x1:=Zb c.1 (mAt (c,s==5,g,[]) 0)
 let x2:=Zl c.2.1 2 (ZyC (Zab c.2.1 2) (Zab c.2.1 0)).1
 let x3:=x2.2
 let x4:=x3.2
 let x5:=x4.2
 let x6:=x5.2
 let x7:=x6.2
 let x8:=x7.2
 .br (Zc s) (Ls ((c.1,(rgx c.2.1 c.2.1.2.2.2.2.2.2.2.1 (u16.wrap ((spOf c)-2)) (Zh s)),c.2.2))) (.br (!mAtC (c,s==5,g,[]) 0||x1.1==40) (.br (mAtC (c,s==5,g,[]) 0) (Ls ((c.1,(x2.1,x3.1,x4.1,x5.1,x6.1,x7.1,x8.1,(ZyC (Zab c.2.1 2) (Zab c.2.1 0)).2,x8.2.2.1,Zw (c,s==5,g,[]) x1.2.1),c.2.2.1,false,false,c.2.2.2.2.2))) Ln) Ln)
theorem ZJH (a:HL ZU):EV2 40 a=Zt3 a.1 a.2.1 a.2.2.1 a.2.2.2:=by kernel_rfl
def ZtZ (c:TC) (s:Int) (g:List Int) (ln:QT0):RT (Option TC):=
 let x1:=Zb c.1 (mAt (c,s==5,g,[]) 0)
 let x2:=Zl c.2.1 1 (u16.wrap ((spOf c)+u16.wrap (mAt (c,s==5,g,[]) 1)))
 let x3:=x2.2
 let x4:=x3.2
 let x5:=x4.2
 let x6:=x5.2
 let x7:=x6.2
 let x8:=x7.2
 let x9:=x8.2
 .br (Zc s) (Ls ((c.1,(rgx c.2.1 c.2.1.2.2.2.2.2.2.2.1 (u16.wrap ((spOf c)-2)) (Zh s)),c.2.2))) (.br (!mAtC (c,s==5,g,[]) 0||x1.1==44) (.br (mAtC (c,s==5,g,[]) 0) (.br (mAtC (c,s==5,g,[]) 1) (Ls ((c.1,(x2.1,x3.1,x4.1,x5.1,x6.1,x7.1,x8.1,x9.1,x9.2.1,Zw (c,s==5,g,[]) x1.2.1),c.2.2.1,false,false,c.2.2.2.2.2))) Ln) Ln) Ln)
theorem ZJD (a:HL ZU):EV2 44 a=ZtZ a.1 a.2.1 a.2.2.1 a.2.2.2:=by kernel_rfl
