import Derived.Test.YtghoimllhpjkjaaGreatS3D
import Derived.Test.YtghoimllhpjkjaaGreatProg
import Derived.Test.YtghoimllhpjkjaaGreatFin0
open Go.Proofs.Tryz (prog)
open Go.IntKind (u8 u16 i64)
set_option linter.unusedSimpArgs false
open Go Go.S3 Go.Proofs
set_option linter.unusedVariables false
set_option maxRecDepth 100000
namespace Go.Proofs.YtghoimllhpjkjaaGreat
noncomputable section
def ZCO (c:TC) (s:Int) (g:List Int) (ln:QT0):RT (Option TC):=
 let x1:QT1:=(c,s==5,g,(0,0,0,0,0,0,0,0),[])
 let x2:=qAtC x1 0
 let x3:=Zb c.1 (qAt x1 0)
 let x4:= !x2||x3.1==1
 .br (Ze s) (.leaf (some ((c.1,(rgx c.2.1 c.2.1.2.2.2.2.2.2.2.1 (u16.wrap ((spOf c)-2)) (Zi s)),c.2.2)))) (.br (!x4||x2) (.br (x4) (.leaf (some ((c.1,(rgx c.2.1 c.2.1.2.2.2.2.2.2.2.1 (spOf c) (ZE (c,s==5,g,(1,x3.2),[]))),c.2.2.1,false,false,c.2.2.2.2.2)))) (.leaf none)) (.leaf none))
theorem ZPU (a:HL Zo):Zh (envX prog (ZaL 1) [] 1023 8) Tryz.f111 Zo Z9 a=ZCO a.1 a.2.1 a.2.2.1 a.2.2.2:=by kernel_rfl
def ZCK (c:TC) (s:Int) (g:List Int) (ln:QT0):RT (Option TC):=
 let x1:QT1:=(c,s==5,g,(0,0,0,0,0,0,0,0),[])
 let x2:=qAtC x1 0
 let x3:=Zb c.1 (qAt x1 0)
 let x4:= !x2||x3.1==5
 let x5:QT1:=(c,s==5,g,(5,x3.2),[])
 .br (Ze s) (.leaf (some ((c.1,(rgx c.2.1 c.2.1.2.2.2.2.2.2.2.1 (u16.wrap ((spOf c)-2)) (Zi s)),c.2.2)))) (.br (!x4||x2) (.br (x4) (.br (qAtC x5 3) (.leaf (some ((c.1,(qAt x5 3,c.2.1.2.1,c.2.1.2.2.1,c.2.1.2.2.2.1,c.2.1.2.2.2.2.1,c.2.1.2.2.2.2.2.1,c.2.1.2.2.2.2.2.2.1,c.2.1.2.2.2.2.2.2.2.1,spOf c,ZE x5),c.2.2.1,false,false,c.2.2.2.2.2)))) (.leaf none)) (.leaf none)) (.leaf none))
theorem ZPQ (a:HL Zo):Zh (envX prog (ZaL 5) [] 1023 8) Tryz.f111 Zo Z9 a=ZCK a.1 a.2.1 a.2.2.1 a.2.2.2:=by kernel_rfl
def ZCG (c:TC) (s:Int) (g:List Int) (ln:QT0):RT (Option TC):=
 let x1:QT1:=(c,s==5,g,(0,0,0,0,0,0,0,0),[])
 let x2:=qAtC x1 0
 let x3:=Zb c.1 (qAt x1 0)
 let x4:= !x2||x3.1==9
 let x5:QT1:=(c,s==5,g,(9,x3.2),[])
 .br (Ze s) (.leaf (some ((c.1,(rgx c.2.1 c.2.1.2.2.2.2.2.2.2.1 (u16.wrap ((spOf c)-2)) (Zi s)),c.2.2)))) (.br (!x4||x2) (.br (x4) (.br (qAtC x5 1) (.leaf (some ((c.1,(qAt x5 1,c.2.1.2.1,c.2.1.2.2.1,c.2.1.2.2.2.1,c.2.1.2.2.2.2.1,c.2.1.2.2.2.2.2.1,c.2.1.2.2.2.2.2.2.1,c.2.1.2.2.2.2.2.2.2.1,spOf c,ZE x5),c.2.2.1,false,false,c.2.2.2.2.2)))) (.leaf none)) (.leaf none)) (.leaf none))
theorem ZPM (a:HL Zo):Zh (envX prog (ZaL 9) [] 1023 8) Tryz.f111 Zo Z9 a=ZCG a.1 a.2.1 a.2.2.1 a.2.2.2:=by kernel_rfl
def Zu3 (c:TC) (s:Int) (g:List Int) (ln:QT0):RT (Option TC):=
 let x1:QT1:=(c,s==5,g,(0,0,0,0,0,0,0,0),[])
 let x2:=qAtC x1 0
 let x3:=Zb c.1 (qAt x1 0)
 let x4:= !x2||x3.1==13
 let x5:=x3.2
 let x6:QT1:=(c,s==5,g,(13,x5),[])
 let x7:=rDo c.1 x5.2.2.2.2.1 c.2.1.1 (ZiA x6) c.2.1.2.2.2.2.2.2.2.1
 .br (Ze s) (.leaf (some ((c.1,(rgx c.2.1 c.2.1.2.2.2.2.2.2.2.1 (u16.wrap ((spOf c)-2)) (Zi s)),c.2.2)))) (.br (!x4||x2) (.br (x4) (.br (Zgl x6) (.leaf (some ((c.1,(x7.1,c.2.1.2.1,c.2.1.2.2.1,c.2.1.2.2.2.1,c.2.1.2.2.2.2.1,c.2.1.2.2.2.2.2.1,c.2.1.2.2.2.2.2.2.1,x7.2,spOf c,ZE x6),c.2.2.1,false,false,c.2.2.2.2.2)))) (.leaf none)) (.leaf none)) (.leaf none))
theorem ZJ0 (a:HL Zo):Zh (envX prog (ZaL 13) [] 1023 8) Tryz.f111 Zo Z9 a=Zu3 a.1 a.2.1 a.2.2.1 a.2.2.2:=by kernel_rfl
def ZuZ (c:TC) (s:Int) (g:List Int) (ln:QT0):RT (Option TC):=
 let x1:QT1:=(c,s==5,g,(0,0,0,0,0,0,0,0),[])
 let x2:=qAtC x1 0
 let x3:=Zb c.1 (qAt x1 0)
 let x4:= !x2||x3.1==17
 let x5:=x3.2
 let x6:QT1:=(c,s==5,g,(17,x5),[])
 let x7:=x5.2.2.2.1
 let x8:=rDcx c.1 (Zef x6 x7) c.2.1.2.2.2.2.2.2.2.1
 .br (Ze s) (.leaf (some ((c.1,(rgx c.2.1 c.2.1.2.2.2.2.2.2.2.1 (u16.wrap ((spOf c)-2)) (Zi s)),c.2.2)))) (.br (!x4||x2) (.br (x4) (.leaf (some ((c.1,Zr (rgx c.2.1 x8.2 (spOf c) (ZE x6)) x7 x8.1,c.2.2.1,false,false,c.2.2.2.2.2)))) (.leaf none)) (.leaf none))
theorem ZJW (a:HL Zo):Zh (envX prog (ZaL 17) [] 1023 8) Tryz.f111 Zo Z9 a=ZuZ a.1 a.2.1 a.2.2.1 a.2.2.2:=by kernel_rfl
def ZuV (c:TC) (s:Int) (g:List Int) (ln:QT0):RT (Option TC):=
 let x1:QT1:=(c,s==5,g,(0,0,0,0,0,0,0,0),[])
 let x2:=qAtC x1 0
 let x3:=Zb c.1 (qAt x1 0)
 let x4:= !x2||x3.1==21
 let x5:=c.2.1.2.2.2.2.2.2.2.1.2.2.2
 let x6:=x5.2
 .br (Ze s) (.leaf (some ((c.1,(rgx c.2.1 c.2.1.2.2.2.2.2.2.2.1 (u16.wrap ((spOf c)-2)) (Zi s)),c.2.2)))) (.br (!x4||x2) (.br (x4) (.leaf (some ((c.1,(rgx c.2.1 ((c.2.1.2.2.2.2.2.2.2.1.1,c.2.1.2.2.2.2.2.2.2.1.2.1,c.2.1.2.2.2.2.2.2.2.1.2.2.1,x5.1,x6.1,x6.2.1,true)) (spOf c) (ZE (c,s==5,g,(21,x3.2),[]))),c.2.2.1,false,false,c.2.2.2.2.2)))) (.leaf none)) (.leaf none))
theorem ZJS (a:HL Zo):Zh (envX prog (ZaL 21) [] 1023 8) Tryz.f111 Zo Z9 a=ZuV a.1 a.2.1 a.2.2.1 a.2.2.2:=by kernel_rfl
def ZuR (c:TC) (s:Int) (g:List Int) (ln:QT0):RT (Option TC):=
 let x1:=u16.wrap ((spOf c)-2)
 let x2:QT1:=(c,s==5,g,(0,0,0,0,0,0,0,0),[])
 let x3:=qAtC x2 0
 let x4:=Zb c.1 (qAt x2 0)
 let x5:= !x3||x4.1==25
 let x6:QT1:=(c,s==5,g,(25,x4.2),[])
 let x7:=Zhq x6
 .br (Ze s) (.leaf (some ((c.1,(rgx c.2.1 c.2.1.2.2.2.2.2.2.2.1 x1 (Zi s)),c.2.2)))) (.br (!x5||x3) (.br (x5) (.br (!x7||ZcV x6 1) (.leaf (some ((c.1,(rgx c.2.1 c.2.1.2.2.2.2.2.2.2.1 (bif x7 then x1 else (spOf c)) (bif x7 then Zgm x6 1 else ZE x6)),c.2.2.1,false,false,c.2.2.2.2.2)))) (.leaf none)) (.leaf none)) (.leaf none))
theorem ZJO (a:HL Zo):Zh (envX prog (ZaL 25) [] 1023 8) Tryz.f111 Zo Z9 a=ZuR a.1 a.2.1 a.2.2.1 a.2.2.2:=by kernel_rfl
def ZuN (c:TC) (s:Int) (g:List Int) (ln:QT0):RT (Option TC):=
 let x1:QT1:=(c,s==5,g,(0,0,0,0,0,0,0,0),[])
 let x2:=qAtC x1 0
 let x3:=Zb c.1 (qAt x1 0)
 let x4:= !x2||x3.1==29
 let x5:QT1:=(c,s==5,g,(29,x3.2),[])
 .br (Ze s) (.leaf (some ((c.1,(rgx c.2.1 c.2.1.2.2.2.2.2.2.2.1 (u16.wrap ((spOf c)-2)) (Zi s)),c.2.2)))) (.br (!x4||x2) (.br (x4) (.leaf (some ((c.1,(rgx c.2.1 c.2.1.2.2.2.2.2.2.2.1 (Zef x5 2) (ZE x5)),c.2.2.1,false,false,c.2.2.2.2.2)))) (.leaf none)) (.leaf none))
theorem ZJK (a:HL Zo):Zh (envX prog (ZaL 29) [] 1023 8) Tryz.f111 Zo Z9 a=ZuN a.1 a.2.1 a.2.2.1 a.2.2.2:=by kernel_rfl
def ZuJ (c:TC) (s:Int) (g:List Int) (ln:QT0):RT (Option TC):=
 let x1:QT1:=(c,s==5,g,(0,0,0,0,0,0,0,0),[])
 let x2:=qAtC x1 0
 let x3:=Zb c.1 (qAt x1 0)
 let x4:= !x2||x3.1==33
 let x5:QT1:=(c,s==5,g,(33,x3.2),[])
 .br (Ze s) (.leaf (some ((c.1,(rgx c.2.1 c.2.1.2.2.2.2.2.2.2.1 (u16.wrap ((spOf c)-2)) (Zi s)),c.2.2)))) (.br (!x4||x2) (.br (x4) (.br (qAtC x5 2) (.leaf (some ((c.1,(qAt x5 2,c.2.1.2.1,c.2.1.2.2.1,c.2.1.2.2.2.1,c.2.1.2.2.2.2.1,c.2.1.2.2.2.2.2.1,c.2.1.2.2.2.2.2.2.1,c.2.1.2.2.2.2.2.2.2.1,spOf c,ZE x5),c.2.2.1,false,false,c.2.2.2.2.2)))) (.leaf none)) (.leaf none)) (.leaf none))
theorem ZJG (a:HL Zo):Zh (envX prog (ZaL 33) [] 1023 8) Tryz.f111 Zo Z9 a=ZuJ a.1 a.2.1 a.2.2.1 a.2.2.2:=by kernel_rfl
def ZuF (c:TC) (s:Int) (g:List Int) (ln:QT0):RT (Option TC):=
 let x1:QT1:=(c,s==5,g,(0,0,0,0,0,0,0,0),[])
 let x2:=qAtC x1 0
 let x3:=Zb c.1 (qAt x1 0)
 let x4:= !x2||x3.1==37
 .br (Ze s) (.leaf (some ((c.1,(rgx c.2.1 c.2.1.2.2.2.2.2.2.2.1 (u16.wrap ((spOf c)-2)) (Zi s)),c.2.2)))) (.br (!x4||x2) (.br (x4) (.leaf (some ((c.1,(rgx c.2.1 c.2.1.2.2.2.2.2.2.2.1 (spOf c) (ZE (c,s==5,g,(37,x3.2),[]))),c.2.2.1,false,true,c.2.2.2.2.2)))) (.leaf none)) (.leaf none))
theorem ZJC (a:HL Zo):Zh (envX prog (ZaL 37) [] 1023 8) Tryz.f111 Zo Z9 a=ZuF a.1 a.2.1 a.2.2.1 a.2.2.2:=by kernel_rfl
def ZuB (c:TC) (s:Int) (g:List Int) (ln:QT0):RT (Option TC):=
 let x1:QT1:=(c,s==5,g,(0,0,0,0,0,0,0,0),[])
 let x2:=qAtC x1 0
 let x3:=Zb c.1 (qAt x1 0)
 let x4:= !x2||x3.1==41
 let x5:=c.2.1.2.2.2.2.2.2.2.1.2.2.2
 let x6:=x5.2
 let x7:QT1:=(c,s==5,g,(41,x3.2),[])
 let x8:=ZtM (Zef x7 2)
 .br (Ze s) (.leaf (some ((c.1,(rgx c.2.1 c.2.1.2.2.2.2.2.2.2.1 (u16.wrap ((spOf c)-2)) (Zi s)),c.2.2)))) (.br (!x4||x2) (.br (x4) (.leaf (some ((c.1,Zr (rgx c.2.1 ((c.2.1.2.2.2.2.2.2.2.1.1,c.2.1.2.2.2.2.2.2.2.1.2.1,c.2.1.2.2.2.2.2.2.2.1.2.2.1,x5.1,x6.1,x6.2.1,x8.2)) (spOf c) (ZE x7)) 2 x8.1,c.2.2.1,false,false,c.2.2.2.2.2)))) (.leaf none)) (.leaf none))
theorem ZJy (a:HL Zo):Zh (envX prog (ZaL 41) [] 1023 8) Tryz.f111 Zo Z9 a=ZuB a.1 a.2.1 a.2.2.1 a.2.2.2:=by kernel_rfl
def Zux (c:TC) (s:Int) (g:List Int) (ln:QT0):RT (Option TC):=
 let x1:=u16.wrap ((spOf c)-2)
 let x2:QT1:=(c,s==5,g,(0,0,0,0,0,0,0,0),[])
 let x3:=qAtC x2 0
 let x4:=Zb c.1 (qAt x2 0)
 let x5:= !x3||x4.1==45
 let x6:QT1:=(c,s==5,g,(45,x4.2),[])
 let x7:=Zhq x6
 .br (Ze s) (.leaf (some ((c.1,(rgx c.2.1 c.2.1.2.2.2.2.2.2.2.1 x1 (Zi s)),c.2.2)))) (.br (!x5||x3) (.br (x5) (.leaf (some ((c.1,(rgx c.2.1 c.2.1.2.2.2.2.2.2.2.1 (bif x7 then x1 else (spOf c)) (bif x7 then 64 else ZE x6)),c.2.2.1,false,false,c.2.2.2.2.2)))) (.leaf none)) (.leaf none))
theorem ZJu (a:HL Zo):Zh (envX prog (ZaL 45) [] 1023 8) Tryz.f111 Zo Z9 a=Zux a.1 a.2.1 a.2.2.1 a.2.2.2:=by kernel_rfl
def ZBs (c:TC) (s:Int) (g:List Int) (ln:QT0):RT (Option TC):=
 let x1:=Zb c.1 (mAt (c,s==5,g,[]) 0)
 let x2:=x1.2
 let x3:=x2.2
 let x4:=x3.2.1
 let x5:=x4==6
 let x6:=rSet c.2.1 x3.1 (bif x5 then mAt (c,s==5,g,[]) 1 else rGet c.2.1 x4)
 let x7:=x6.2
 let x8:=x7.2
 let x9:=x8.2
 let x10:=x9.2
 let x11:=x10.2
 let x12:=x11.2
 let x13:=x12.2
 .br (Zc s) (.leaf (some ((c.1,(rgx c.2.1 c.2.1.2.2.2.2.2.2.2.1 (u16.wrap ((spOf c)-2)) (Zi s)),c.2.2)))) (.br (!mAtC (c,s==5,g,[]) 0||x1.1==2) (.br (mAtC (c,s==5,g,[]) 0) (.br (!x5||mAtC (c,s==5,g,[]) 1) (.leaf (some ((c.1,(x6.1,x7.1,x8.1,x9.1,x10.1,x11.1,x12.1,x13.1,x13.2.1,ZC (c,s==5,g,[]) x2.1),c.2.2.1,false,false,c.2.2.2.2.2)))) (.leaf none)) (.leaf none)) (.leaf none))
theorem ZOb (a:HL Zn):Zh (envX prog (ZaK 2) [] 79250227772808467515411824639 8) Tryz.f98 Zn Z7 a=ZBs a.1 a.2.1 a.2.2.1 a.2.2.2:=by kernel_rfl
def ZBo (c:TC) (s:Int) (g:List Int) (ln:QT0):RT (Option TC):=
 let x1:=Zb c.1 (mAt (c,s==5,g,[]) 0)
 .br (Zc s) (.leaf (some ((c.1,(rgx c.2.1 c.2.1.2.2.2.2.2.2.2.1 (u16.wrap ((spOf c)-2)) (Zi s)),c.2.2)))) (.br (!mAtC (c,s==5,g,[]) 0||x1.1==6) (.br (mAtC (c,s==5,g,[]) 0) (.leaf (some ((c.1,(rgx c.2.1 c.2.1.2.2.2.2.2.2.2.1 (spOf c) (ZC (c,s==5,g,[]) x1.2.1)),c.2.2.1,false,false,c.2.2.2.2.2)))) (.leaf none)) (.leaf none))
theorem ZN7 (a:HL Zn):Zh (envX prog (ZaK 6) [] 79250227772808467515411824639 8) Tryz.f98 Zn Z7 a=ZBo a.1 a.2.1 a.2.2.1 a.2.2.2:=by kernel_rfl
def ZtG (c:TC) (s:Int) (g:List Int) (ln:QT0):RT (Option TC):=
 let x1:=Zb c.1 (mAt (c,s==5,g,[]) 0)
 .br (Zc s) (.leaf (some ((c.1,(rgx c.2.1 c.2.1.2.2.2.2.2.2.2.1 (u16.wrap ((spOf c)-2)) (Zi s)),c.2.2)))) (.br (!mAtC (c,s==5,g,[]) 0||x1.1==10) (.br (mAtC (c,s==5,g,[]) 0) (.leaf (some ((c.1,(rgx c.2.1 c.2.1.2.2.2.2.2.2.2.1 (spOf c) (ZC (c,s==5,g,[]) x1.2.1)),c.2.2.1,false,false,c.2.2.2.2.2)))) (.leaf none)) (.leaf none))
theorem ZIV (a:HL Zn):Zh (envX prog (ZaK 10) [] 79250227772808467515411824639 8) Tryz.f98 Zn Z7 a=ZtG a.1 a.2.1 a.2.2.1 a.2.2.2:=by kernel_rfl
def ZtC (c:TC) (s:Int) (g:List Int) (ln:QT0):RT (Option TC):=
 let x1:=Zb c.1 (mAt (c,s==5,g,[]) 0)
 let x2:=x1.2
 let x3:=x2.2.1
 let x4:=x3==6
 let x5:=ZgV c (14,x2) (bif x4 then mAt (c,s==5,g,[]) 1 else rGet c.2.1 x3)
 let x6:=rSet c.2.1 x3 x5.1
 let x7:=x6.2
 let x8:=x7.2
 let x9:=x8.2
 let x10:=x9.2
 let x11:=x10.2
 let x12:=x11.2
 .br (Zc s) (.leaf (some ((c.1,(rgx c.2.1 c.2.1.2.2.2.2.2.2.2.1 (u16.wrap ((spOf c)-2)) (Zi s)),c.2.2)))) (.br (!mAtC (c,s==5,g,[]) 0||x1.1==14) (.br (mAtC (c,s==5,g,[]) 0) (.br (!x4||mAtC (c,s==5,g,[]) 1) (.leaf (some ((c.1,(x6.1,x7.1,x8.1,x9.1,x10.1,x11.1,x12.1,x5.2,x12.2.2.1,ZC (c,s==5,g,[]) x2.1),c.2.2.1,false,false,c.2.2.2.2.2)))) (.leaf none)) (.leaf none)) (.leaf none))
theorem ZIR (a:HL Zn):Zh (envX prog (ZaK 14) [] 79250227772808467515411824639 8) Tryz.f98 Zn Z7 a=ZtC a.1 a.2.1 a.2.2.1 a.2.2.2:=by kernel_rfl
def Zty (c:TC) (s:Int) (g:List Int) (ln:QT0):RT (Option TC):=
 let x1:=Zb c.1 (mAt (c,s==5,g,[]) 0)
 let x2:=x1.2
 let x3:=rDad c.1 (Zan c.2.1 2) (Zan c.2.1 x2.2.2.2.1) c.2.1.2.2.2.2.2.2.2.1
 let x4:=Zr c.2.1 2 x3.1
 let x5:=x4.2
 let x6:=x5.2
 let x7:=x6.2
 let x8:=x7.2
 let x9:=x8.2
 let x10:=x9.2
 .br (Zc s) (.leaf (some ((c.1,(rgx c.2.1 c.2.1.2.2.2.2.2.2.2.1 (u16.wrap ((spOf c)-2)) (Zi s)),c.2.2)))) (.br (!mAtC (c,s==5,g,[]) 0||x1.1==18) (.br (mAtC (c,s==5,g,[]) 0) (.leaf (some ((c.1,(x4.1,x5.1,x6.1,x7.1,x8.1,x9.1,x10.1,x3.2,x10.2.2.1,ZC (c,s==5,g,[]) x2.1),c.2.2.1,false,false,c.2.2.2.2.2)))) (.leaf none)) (.leaf none))
theorem ZIN (a:HL Zn):Zh (envX prog (ZaK 18) [] 79250227772808467515411824639 8) Tryz.f98 Zn Z7 a=Zty a.1 a.2.1 a.2.2.1 a.2.2.2:=by kernel_rfl
def Ztu (c:TC) (s:Int) (g:List Int) (ln:QT0):RT (Option TC):=
 let x1:=Zb c.1 (mAt (c,s==5,g,[]) 0)
 let x2:=c.2.1.2.2.2.2.2.2.2.1.2.2.2
 let x3:=x2.2
 let x4:=x3.2
 .br (Zc s) (.leaf (some ((c.1,(rgx c.2.1 c.2.1.2.2.2.2.2.2.2.1 (u16.wrap ((spOf c)-2)) (Zi s)),c.2.2)))) (.br (!mAtC (c,s==5,g,[]) 0||x1.1==22) (.br (mAtC (c,s==5,g,[]) 0) (.leaf (some ((c.1,(rgx c.2.1 ((c.2.1.2.2.2.2.2.2.2.1.1,c.2.1.2.2.2.2.2.2.2.1.2.1,c.2.1.2.2.2.2.2.2.2.1.2.2.1,x2.1,x3.1,x4.1,!x4.2)) (spOf c) (ZC (c,s==5,g,[]) x1.2.1)),c.2.2.1,false,false,c.2.2.2.2.2)))) (.leaf none)) (.leaf none))
theorem ZIJ (a:HL Zn):Zh (envX prog (ZaK 22) [] 79250227772808467515411824639 8) Tryz.f98 Zn Z7 a=Ztu a.1 a.2.1 a.2.2.1 a.2.2.2:=by kernel_rfl
def Ztq (c:TC) (s:Int) (g:List Int) (ln:QT0):RT (Option TC):=
 let x1:=Zb c.1 (mAt (c,s==5,g,[]) 0)
 let x2:=x1.2
 let x3:= !ZeH (c,s==5,g,[]) (26,x2)
 let x4:=c.2.1.2.2.2.2.2.2.2.1.2.2.1
 let x5:=c.2.1.2.2.2.2.2.2.2.1.2.2.2
 let x6:=x5.1
 let x7:=x5.2
 let x8:=x7.1
 let x9:=x7.2
 let x10:=x9.1
 let x11:=x9.2
 .br (Zc s) (.leaf (some ((c.1,(rgx c.2.1 c.2.1.2.2.2.2.2.2.2.1 (u16.wrap ((spOf c)-2)) (Zi s)),c.2.2)))) (.br (!mAtC (c,s==5,g,[]) 0||x1.1==26) (.br (mAtC (c,s==5,g,[]) 0) (.br (x3||Zcm (c,s==5,g,[]) 1) (.leaf (some ((bif x3 then c.1 else c.1,(bif x3 then c.2.1.1 else c.2.1.1,bif x3 then c.2.1.2.1 else c.2.1.2.1,bif x3 then c.2.1.2.2.1 else c.2.1.2.2.1,bif x3 then c.2.1.2.2.2.1 else c.2.1.2.2.2.1,bif x3 then c.2.1.2.2.2.2.1 else c.2.1.2.2.2.2.1,bif x3 then c.2.1.2.2.2.2.2.1 else c.2.1.2.2.2.2.2.1,bif x3 then c.2.1.2.2.2.2.2.2.1 else c.2.1.2.2.2.2.2.2.1,(bif x3 then c.2.1.2.2.2.2.2.2.2.1.1 else c.2.1.2.2.2.2.2.2.2.1.1,bif x3 then c.2.1.2.2.2.2.2.2.2.1.2.1 else c.2.1.2.2.2.2.2.2.2.1.2.1,bif x3 then x4 else x4,bif x3 then x6 else x6,bif x3 then x8 else x8,bif x3 then x10 else x10,bif x3 then x11 else x11),bif x3 then (spOf c) else u16.wrap ((spOf c)+2),bif x3 then ZC (c,s==5,g,[]) x2.1 else ZeN (c,s==5,g,[]) 1),bif x3 then c.2.2.1 else c.2.2.1,false,false,bif x3 then c.2.2.2.2.2.1 else c.2.2.2.2.2.1,bif x3 then c.2.2.2.2.2.2.1 else c.2.2.2.2.2.2.1,bif x3 then c.2.2.2.2.2.2.2.1 else c.2.2.2.2.2.2.2.1,bif x3 then c.2.2.2.2.2.2.2.2.1 else c.2.2.2.2.2.2.2.2.1,bif x3 then c.2.2.2.2.2.2.2.2.2.1 else c.2.2.2.2.2.2.2.2.2.1,bif x3 then c.2.2.2.2.2.2.2.2.2.2.1 else c.2.2.2.2.2.2.2.2.2.2.1,bif x3 then c.2.2.2.2.2.2.2.2.2.2.2.1 else c.2.2.2.2.2.2.2.2.2.2.2.1,bif x3 then c.2.2.2.2.2.2.2.2.2.2.2.2 else c.2.2.2.2.2.2.2.2.2.2.2.2)))) (.leaf none)) (.leaf none)) (.leaf none))
theorem ZIF (a:HL Zn):Zh (envX prog (ZaK 26) [] 79250227772808467515411824639 8) Tryz.f98 Zn Z7 a=Ztq a.1 a.2.1 a.2.2.1 a.2.2.2:=by kernel_rfl
def Ztm (c:TC) (s:Int) (g:List Int) (ln:QT0):RT (Option TC):=
 let x1:=u16.wrap ((spOf c)-2)
 let x2:=Zb c.1 (mAt (c,s==5,g,[]) 0)
 .br (Zc s) (.leaf (some ((c.1,(rgx c.2.1 c.2.1.2.2.2.2.2.2.2.1 x1 (Zi s)),c.2.2)))) (.br (!mAtC (c,s==5,g,[]) 0||x2.1==30) (.br (mAtC (c,s==5,g,[]) 0) (.leaf (some ((c.1,(rgx c.2.1 c.2.1.2.2.2.2.2.2.2.1 x1 (ZC (c,s==5,g,[]) x2.2.1)),c.2.2.1,false,false,c.2.2.2.2.2)))) (.leaf none)) (.leaf none))
theorem ZIB (a:HL Zn):Zh (envX prog (ZaK 30) [] 79250227772808467515411824639 8) Tryz.f98 Zn Z7 a=Ztm a.1 a.2.1 a.2.2.1 a.2.2.2:=by kernel_rfl
def Zti (c:TC) (s:Int) (g:List Int) (ln:QT0):RT (Option TC):=
 let x1:=Zb c.1 (mAt (c,s==5,g,[]) 0)
 .br (Zc s) (.leaf (some ((c.1,(rgx c.2.1 c.2.1.2.2.2.2.2.2.2.1 (u16.wrap ((spOf c)-2)) (Zi s)),c.2.2)))) (.br (!mAtC (c,s==5,g,[]) 0||x1.1==34) (.br (mAtC (c,s==5,g,[]) 0) (.leaf (some ((c.1,(rgx c.2.1 c.2.1.2.2.2.2.2.2.2.1 (spOf c) (ZC (c,s==5,g,[]) x1.2.1)),c.2.2.1,false,false,c.2.2.2.2.2)))) (.leaf none)) (.leaf none))
theorem ZIx (a:HL Zn):Zh (envX prog (ZaK 34) [] 79250227772808467515411824639 8) Tryz.f98 Zn Z7 a=Zti a.1 a.2.1 a.2.2.1 a.2.2.2:=by kernel_rfl
def Zte (c:TC) (s:Int) (g:List Int) (ln:QT0):RT (Option TC):=
 let x1:=Zb c.1 (mAt (c,s==5,g,[]) 0)
 let x2:=rRim (c.1,(rgx c.2.1 c.2.1.2.2.2.2.2.2.2.1 (spOf c) (ZC (c,s==5,g,[]) x1.2.1)),c.2.2) ln
 let x3:=x2.2
 let x4:=x3.2
 let x5:=x4.2
 let x6:=x5.2.2.2
 let x7:=x6.2
 let x8:=x7.2
 let x9:=x8.2
 let x10:=x9.2
 .br (Zc s) (.leaf (some ((c.1,(rgx c.2.1 c.2.1.2.2.2.2.2.2.2.1 (u16.wrap ((spOf c)-2)) (Zi s)),c.2.2)))) (.br (!mAtC (c,s==5,g,[]) 0||x1.1==38) (.br (mAtC (c,s==5,g,[]) 0) (.leaf (some ((x3.1,(x2.1,x4.1.2),x5.1,false,false,x6.1,x7.1,x8.1,x9.1,x10.1,false,false,x10.2.2.2)))) (.leaf none)) (.leaf none))
theorem ZIt (a:HL Zn):Zh (envX prog (ZaK 38) [] 79250227772808467515411824639 8) Tryz.f98 Zn Z7 a=Zte a.1 a.2.1 a.2.2.1 a.2.2.2:=by kernel_rfl
def Zta (c:TC) (s:Int) (g:List Int) (ln:QT0):RT (Option TC):=
 let x1:=Zb c.1 (mAt (c,s==5,g,[]) 0)
 let x2:=Zxi (Zan c.2.1 1) c.2.1.2.2.2.2.2.2.2.1.2.2.2.2.2.2
 let x3:=Zr c.2.1 1 x2.1
 let x4:=x3.2
 let x5:=x4.2
 let x6:=x5.2
 let x7:=x6.2
 let x8:=x7.2
 let x9:=x8.2
 let x10:=x9.2
 let x11:=x10.1
 let x12:=x11.2
 let x13:=x12.2
 let x14:=x13.2
 let x15:=x2.2
 .br (Zc s) (.leaf (some ((c.1,(rgx c.2.1 c.2.1.2.2.2.2.2.2.2.1 (u16.wrap ((spOf c)-2)) (Zi s)),c.2.2)))) (.br (!mAtC (c,s==5,g,[]) 0||x1.1==42) (.br (mAtC (c,s==5,g,[]) 0) (.leaf (some ((c.1,(x3.1,x4.1,x5.1,x6.1,x7.1,x8.1,x9.1,(x11.1,x12.1,x13.1,x14.1,x14.2.1,x15.2,x15.1),x10.2.1,ZC (c,s==5,g,[]) x1.2.1),c.2.2.1,false,false,c.2.2.2.2.2)))) (.leaf none)) (.leaf none))
theorem ZIp (a:HL Zn):Zh (envX prog (ZaK 42) [] 79250227772808467515411824639 8) Tryz.f98 Zn Z7 a=Zta a.1 a.2.1 a.2.2.1 a.2.2.2:=by kernel_rfl
def Zs6 (c:TC) (s:Int) (g:List Int) (ln:QT0):RT (Option TC):=
 let x1:=Zb c.1 (mAt (c,s==5,g,[]) 0)
 .br (Zc s) (.leaf (some ((c.1,(rgx c.2.1 c.2.1.2.2.2.2.2.2.2.1 (u16.wrap ((spOf c)-2)) (Zi s)),c.2.2)))) (.br (!mAtC (c,s==5,g,[]) 0||x1.1==46) (.br (mAtC (c,s==5,g,[]) 0) (.leaf (some ((c.1,(rgx c.2.1 c.2.1.2.2.2.2.2.2.2.1 (spOf c) (ZC (c,s==5,g,[]) x1.2.1)),c.2.2.1,false,false,c.2.2.2.2.2)))) (.leaf none)) (.leaf none))
theorem ZIl (a:HL Zn):Zh (envX prog (ZaK 46) [] 79250227772808467515411824639 8) Tryz.f98 Zn Z7 a=Zs6 a.1 a.2.1 a.2.2.1 a.2.2.2:=by kernel_rfl
end
end Go.Proofs.YtghoimllhpjkjaaGreat
