import Derived.Test.YtghoimllhpjkjaaGreatS3D
import Derived.Test.YtghoimllhpjkjaaGreatProg
import Derived.Test.YtghoimllhpjkjaaGreatFin0
open Go.Proofs.Tryz (prog)
open Go.IntKind (u8 u16 i64)
set_option linter.unusedSimpArgs false
open Go Go.S3 Go.Proofs
set_option linter.unusedVariables false
set_option maxRecDepth 100000
namespace Go.Proofs.YtghoimllhpjkjaaGreat
noncomputable section
def ZC8 (c:TC) (s:Int) (g:List Int) (ln:QT0):RT (Option TC):=
 let x1:QT1:=(c,s==5,g,(0,0,0,0,0,0,0,0),[])
 let x2:=qAtC x1 0
 let x3:=Zb c.1 (qAt x1 0)
 let x4:= !x2||x3.1==4
 let x5:=x3.2
 let x6:QT1:=(c,s==5,g,(4,x5),[])
 .br (Ze s) (.leaf (some ((c.1,(rgx c.2.1 c.2.1.2.2.2.2.2.2.2.1 (u16.wrap ((spOf c)-2)) (Zi s)),c.2.2)))) (.br (!x4||x2) (.br (x4) (.br (ZcR x6 1) (.leaf (some ((c.1,Zr (rgx c.2.1 c.2.1.2.2.2.2.2.2.2.1 (spOf c) (ZE x6)) x5.2.2.2.1 (Zgq x6 1),c.2.2.1,false,false,c.2.2.2.2.2)))) (.leaf none)) (.leaf none)) (.leaf none))
theorem ZQi (a:HL Zo):Zh (envX prog (ZaL 4) [] 1023 8) Tryz.f111 Zo Z4 a=ZC8 a.1 a.2.1 a.2.2.1 a.2.2.2:=by kernel_rfl
def ZC4 (c:TC) (s:Int) (g:List Int) (ln:QT0):RT (Option TC):=
 let x1:QT1:=(c,s==5,g,(0,0,0,0,0,0,0,0),[])
 let x2:=qAtC x1 0
 let x3:=Zb c.1 (qAt x1 0)
 let x4:= !x2||x3.1==8
 .br (Ze s) (.leaf (some ((c.1,(rgx c.2.1 c.2.1.2.2.2.2.2.2.2.1 (u16.wrap ((spOf c)-2)) (Zi s)),c.2.2)))) (.br (!x4||x2) (.br (x4) (.leaf (some ((c.1,(rgx c.2.1 c.2.1.2.2.2.2.2.2.2.1 (spOf c) (ZE (c,s==5,g,(8,x3.2),[]))),c.2.2.1,false,false,c.2.2.2.2.2)))) (.leaf none)) (.leaf none))
theorem ZQe (a:HL Zo):Zh (envX prog (ZaL 8) [] 1023 8) Tryz.f111 Zo Z4 a=ZC4 a.1 a.2.1 a.2.2.1 a.2.2.2:=by kernel_rfl
def Zvu (c:TC) (s:Int) (g:List Int) (ln:QT0):RT (Option TC):=
 let x1:QT1:=(c,s==5,g,(0,0,0,0,0,0,0,0),[])
 let x2:=qAtC x1 0
 let x3:=Zb c.1 (qAt x1 0)
 let x4:= !x2||x3.1==12
 let x5:=x3.2
 let x6:QT1:=(c,s==5,g,(12,x5),[])
 let x7:=rDo c.1 x5.2.2.2.2.1 c.2.1.1 (ZiS x6) c.2.1.2.2.2.2.2.2.2.1
 .br (Ze s) (.leaf (some ((c.1,(rgx c.2.1 c.2.1.2.2.2.2.2.2.2.1 (u16.wrap ((spOf c)-2)) (Zi s)),c.2.2)))) (.br (!x4||x2) (.br (x4) (.br (Zgp x6) (.leaf (some ((c.1,(x7.1,c.2.1.2.1,c.2.1.2.2.1,c.2.1.2.2.2.1,c.2.1.2.2.2.2.1,c.2.1.2.2.2.2.2.1,c.2.1.2.2.2.2.2.2.1,x7.2,spOf c,ZE x6),c.2.2.1,false,false,c.2.2.2.2.2)))) (.leaf none)) (.leaf none)) (.leaf none))
theorem ZKo (a:HL Zo):Zh (envX prog (ZaL 12) [] 1023 8) Tryz.f111 Zo Z4 a=Zvu a.1 a.2.1 a.2.2.1 a.2.2.2:=by kernel_rfl
def Zvq (c:TC) (s:Int) (g:List Int) (ln:QT0):RT (Option TC):=
 let x1:QT1:=(c,s==5,g,(0,0,0,0,0,0,0,0),[])
 let x2:=qAtC x1 0
 let x3:=Zb c.1 (qAt x1 0)
 let x4:= !x2||x3.1==16
 let x5:=x3.2
 let x6:QT1:=(c,s==5,g,(16,x5),[])
 let x7:=x5.2.2.2.1
 let x8:=rInx c.1 (Zea x6 x7) c.2.1.2.2.2.2.2.2.2.1
 .br (Ze s) (.leaf (some ((c.1,(rgx c.2.1 c.2.1.2.2.2.2.2.2.2.1 (u16.wrap ((spOf c)-2)) (Zi s)),c.2.2)))) (.br (!x4||x2) (.br (x4) (.leaf (some ((c.1,Zr (rgx c.2.1 x8.2 (spOf c) (ZE x6)) x7 x8.1,c.2.2.1,false,false,c.2.2.2.2.2)))) (.leaf none)) (.leaf none))
theorem ZKk (a:HL Zo):Zh (envX prog (ZaL 16) [] 1023 8) Tryz.f111 Zo Z4 a=Zvq a.1 a.2.1 a.2.2.1 a.2.2.2:=by kernel_rfl
def Zvm (c:TC) (s:Int) (g:List Int) (ln:QT0):RT (Option TC):=
 let x1:QT1:=(c,s==5,g,(0,0,0,0,0,0,0,0),[])
 let x2:=qAtC x1 0
 let x3:=Zb c.1 (qAt x1 0)
 let x4:= !x2||x3.1==20
 .br (Ze s) (.leaf (some ((c.1,(rgx c.2.1 c.2.1.2.2.2.2.2.2.2.1 (u16.wrap ((spOf c)-2)) (Zi s)),c.2.2)))) (.br (!x4||x2) (.br (x4) (.leaf (some ((c.1,(notI u8 c.2.1.1,c.2.1.2.1,c.2.1.2.2.1,c.2.1.2.2.2.1,c.2.1.2.2.2.2.1,c.2.1.2.2.2.2.2.1,c.2.1.2.2.2.2.2.2.1,c.2.1.2.2.2.2.2.2.2.1,spOf c,ZE (c,s==5,g,(20,x3.2),[])),c.2.2.1,false,false,c.2.2.2.2.2)))) (.leaf none)) (.leaf none))
theorem ZKg (a:HL Zo):Zh (envX prog (ZaL 20) [] 1023 8) Tryz.f111 Zo Z4 a=Zvm a.1 a.2.1 a.2.2.1 a.2.2.2:=by kernel_rfl
def Zvi (c:TC) (s:Int) (g:List Int) (ln:QT0):RT (Option TC):=
 let x1:QT1:=(c,s==5,g,(0,0,0,0,0,0,0,0),[])
 let x2:=qAtC x1 0
 let x3:=Zb c.1 (qAt x1 0)
 let x4:= !x2||x3.1==24
 let x5:QT1:=(c,s==5,g,(24,x3.2),[])
 let x6:=Zhy x5
 .br (Ze s) (.leaf (some ((c.1,(rgx c.2.1 c.2.1.2.2.2.2.2.2.2.1 (u16.wrap ((spOf c)-2)) (Zi s)),c.2.2)))) (.br (!x4||x2) (.br (x4) (.br (!x6||ZcR x5 1) (.leaf (some ((c.1,(rgx c.2.1 c.2.1.2.2.2.2.2.2.2.1 (spOf c) (bif x6 then Zgq x5 1 else ZE x5)),c.2.2.1,false,false,c.2.2.2.2.2)))) (.leaf none)) (.leaf none)) (.leaf none))
theorem ZKc (a:HL Zo):Zh (envX prog (ZaL 24) [] 1023 8) Tryz.f111 Zo Z4 a=Zvi a.1 a.2.1 a.2.2.1 a.2.2.2:=by kernel_rfl
def Zve (c:TC) (s:Int) (g:List Int) (ln:QT0):RT (Option TC):=
 let x1:QT1:=(c,s==5,g,(0,0,0,0,0,0,0,0),[])
 let x2:=qAtC x1 0
 let x3:=Zb c.1 (qAt x1 0)
 let x4:= !x2||x3.1==28
 .br (Ze s) (.leaf (some ((c.1,(rgx c.2.1 c.2.1.2.2.2.2.2.2.2.1 (u16.wrap ((spOf c)-2)) (Zi s)),c.2.2)))) (.br (!x4||x2) (.br (x4) (.leaf (some ((c.1,(rgx c.2.1 c.2.1.2.2.2.2.2.2.2.1 (spOf c) (Zea (c,s==5,g,(28,x3.2),[]) 2)),c.2.2.1,false,false,c.2.2.2.2.2)))) (.leaf none)) (.leaf none))
theorem ZJ8 (a:HL Zo):Zh (envX prog (ZaL 28) [] 1023 8) Tryz.f111 Zo Z4 a=Zve a.1 a.2.1 a.2.2.1 a.2.2.2:=by kernel_rfl
def Zva (c:TC) (s:Int) (g:List Int) (ln:QT0):RT (Option TC):=
 let x1:QT1:=(c,s==5,g,(0,0,0,0,0,0,0,0),[])
 let x2:=qAtC x1 0
 let x3:=Zb c.1 (qAt x1 0)
 let x4:= !x2||x3.1==32
 let x5:QT1:=(c,s==5,g,(32,x3.2),[])
 .br (Ze s) (.leaf (some ((c.1,(rgx c.2.1 c.2.1.2.2.2.2.2.2.2.1 (u16.wrap ((spOf c)-2)) (Zi s)),c.2.2)))) (.br (!x4||x2) (.br (x4) (.br (ZcR x5 1) (.leaf (some ((c.1,Zr (rgx c.2.1 c.2.1.2.2.2.2.2.2.2.1 (spOf c) (ZE x5)) 2 (Zgq x5 1),c.2.2.1,false,false,c.2.2.2.2.2)))) (.leaf none)) (.leaf none)) (.leaf none))
theorem ZJ4 (a:HL Zo):Zh (envX prog (ZaL 32) [] 1023 8) Tryz.f111 Zo Z4 a=Zva a.1 a.2.1 a.2.2.1 a.2.2.2:=by kernel_rfl
def Zu6 (c:TC) (s:Int) (g:List Int) (ln:QT0):RT (Option TC):=
 let x1:QT1:=(c,s==5,g,(0,0,0,0,0,0,0,0),[])
 let x2:=qAtC x1 0
 let x3:=Zb c.1 (qAt x1 0)
 let x4:= !x2||x3.1==36
 .br (Ze s) (.leaf (some ((c.1,(rgx c.2.1 c.2.1.2.2.2.2.2.2.2.1 (u16.wrap ((spOf c)-2)) (Zi s)),c.2.2)))) (.br (!x4||x2) (.br (x4) (.leaf (some ((c.1,(rgx c.2.1 c.2.1.2.2.2.2.2.2.2.1 (spOf c) (ZE (c,s==5,g,(36,x3.2),[]))),false,false,false,c.2.2.2.2.2)))) (.leaf none)) (.leaf none))
theorem ZJ0 (a:HL Zo):Zh (envX prog (ZaL 36) [] 1023 8) Tryz.f111 Zo Z4 a=Zu6 a.1 a.2.1 a.2.2.1 a.2.2.2:=by kernel_rfl
def Zu2 (c:TC) (s:Int) (g:List Int) (ln:QT0):RT (Option TC):=
 let x1:QT1:=(c,s==5,g,(0,0,0,0,0,0,0,0),[])
 let x2:=qAtC x1 0
 let x3:=Zb c.1 (qAt x1 0)
 let x4:= !x2||x3.1==40
 let x5:QT1:=(c,s==5,g,(40,x3.2),[])
 let x6:=ZxV (Zea x5 2) (Zea x5 0)
 .br (Ze s) (.leaf (some ((c.1,(rgx c.2.1 c.2.1.2.2.2.2.2.2.2.1 (u16.wrap ((spOf c)-2)) (Zi s)),c.2.2)))) (.br (!x4||x2) (.br (x4) (.leaf (some ((c.1,Zr (rgx c.2.1 x6.2 (spOf c) (ZE x5)) 2 x6.1,c.2.2.1,false,false,c.2.2.2.2.2)))) (.leaf none)) (.leaf none))
theorem ZJW (a:HL Zo):Zh (envX prog (ZaL 40) [] 1023 8) Tryz.f111 Zo Z4 a=Zu2 a.1 a.2.1 a.2.2.1 a.2.2.2:=by kernel_rfl
def ZuY (c:TC) (s:Int) (g:List Int) (ln:QT0):RT (Option TC):=
 let x1:QT1:=(c,s==5,g,(0,0,0,0,0,0,0,0),[])
 let x2:=qAtC x1 0
 let x3:=Zb c.1 (qAt x1 0)
 let x4:= !x2||x3.1==44
 let x5:QT1:=(c,s==5,g,(44,x3.2),[])
 .br (Ze s) (.leaf (some ((c.1,(rgx c.2.1 c.2.1.2.2.2.2.2.2.2.1 (u16.wrap ((spOf c)-2)) (Zi s)),c.2.2)))) (.br (!x4||x2) (.br (x4) (.br (qAtC x5 1) (.leaf (some ((c.1,Zr (rgx c.2.1 c.2.1.2.2.2.2.2.2.2.1 (spOf c) (ZE x5)) 1 (u16.wrap ((spOf c)+u16.wrap (qAt x5 1))),c.2.2.1,false,false,c.2.2.2.2.2)))) (.leaf none)) (.leaf none)) (.leaf none))
theorem ZJS (a:HL Zo):Zh (envX prog (ZaL 44) [] 1023 8) Tryz.f111 Zo Z4 a=ZuY a.1 a.2.1 a.2.2.1 a.2.2.2:=by kernel_rfl
def ZBQ (c:TC) (s:Int) (g:List Int) (ln:QT0):RT (Option TC):=
 let x1:=Zb c.1 (mAt (c,s==5,g,[]) 0)
 .br (Zc s) (.leaf (some ((c.1,(rgx c.2.1 c.2.1.2.2.2.2.2.2.2.1 (u16.wrap ((spOf c)-2)) (Zi s)),c.2.2)))) (.br (!mAtC (c,s==5,g,[]) 0||x1.1==1) (.br (mAtC (c,s==5,g,[]) 0) (.leaf (some ((c.1,(rgx c.2.1 c.2.1.2.2.2.2.2.2.2.1 (spOf c) (ZC (c,s==5,g,[]) x1.2.1)),c.2.2.1,false,false,c.2.2.2.2.2)))) (.leaf none)) (.leaf none))
theorem ZOC (a:HL Zn):Zh (envX prog (ZaK 1) [] 79250227772808467515411824639 8) Tryz.f98 Zn Z2 a=ZBQ a.1 a.2.1 a.2.2.1 a.2.2.2:=by kernel_rfl
def ZBM (c:TC) (s:Int) (g:List Int) (ln:QT0):RT (Option TC):=
 let x1:=Zb c.1 (mAt (c,s==5,g,[]) 0)
 .br (Zc s) (.leaf (some ((c.1,(rgx c.2.1 c.2.1.2.2.2.2.2.2.2.1 (u16.wrap ((spOf c)-2)) (Zi s)),c.2.2)))) (.br (!mAtC (c,s==5,g,[]) 0||x1.1==5) (.br (mAtC (c,s==5,g,[]) 0) (.br (mAtC (c,s==5,g,[]) 3) (.leaf (some ((c.1,(mAt (c,s==5,g,[]) 3,c.2.1.2.1,c.2.1.2.2.1,c.2.1.2.2.2.1,c.2.1.2.2.2.2.1,c.2.1.2.2.2.2.2.1,c.2.1.2.2.2.2.2.2.1,c.2.1.2.2.2.2.2.2.2.1,spOf c,ZC (c,s==5,g,[]) x1.2.1),c.2.2.1,false,false,c.2.2.2.2.2)))) (.leaf none)) (.leaf none)) (.leaf none))
theorem ZOy (a:HL Zn):Zh (envX prog (ZaK 5) [] 79250227772808467515411824639 8) Tryz.f98 Zn Z2 a=ZBM a.1 a.2.1 a.2.2.1 a.2.2.2:=by kernel_rfl
def ZBI (c:TC) (s:Int) (g:List Int) (ln:QT0):RT (Option TC):=
 let x1:=Zb c.1 (mAt (c,s==5,g,[]) 0)
 .br (Zc s) (.leaf (some ((c.1,(rgx c.2.1 c.2.1.2.2.2.2.2.2.2.1 (u16.wrap ((spOf c)-2)) (Zi s)),c.2.2)))) (.br (!mAtC (c,s==5,g,[]) 0||x1.1==9) (.br (mAtC (c,s==5,g,[]) 0) (.br (mAtC (c,s==5,g,[]) 1) (.leaf (some ((c.1,(mAt (c,s==5,g,[]) 1,c.2.1.2.1,c.2.1.2.2.1,c.2.1.2.2.2.1,c.2.1.2.2.2.2.1,c.2.1.2.2.2.2.2.1,c.2.1.2.2.2.2.2.2.1,c.2.1.2.2.2.2.2.2.2.1,spOf c,ZC (c,s==5,g,[]) x1.2.1),c.2.2.1,false,false,c.2.2.2.2.2)))) (.leaf none)) (.leaf none)) (.leaf none))
theorem ZOu (a:HL Zn):Zh (envX prog (ZaK 9) [] 79250227772808467515411824639 8) Tryz.f98 Zn Z2 a=ZBI a.1 a.2.1 a.2.2.1 a.2.2.2:=by kernel_rfl
def Zt3 (c:TC) (s:Int) (g:List Int) (ln:QT0):RT (Option TC):=
 let x1:=Zb c.1 (mAt (c,s==5,g,[]) 0)
 let x2:=x1.2
 let x3:=rDo c.1 x2.2.2.2.2.1 c.2.1.1 (mAt (c,s==5,g,[]) 1) c.2.1.2.2.2.2.2.2.2.1
 .br (Zc s) (.leaf (some ((c.1,(rgx c.2.1 c.2.1.2.2.2.2.2.2.2.1 (u16.wrap ((spOf c)-2)) (Zi s)),c.2.2)))) (.br (!mAtC (c,s==5,g,[]) 0||x1.1==13) (.br (mAtC (c,s==5,g,[]) 0) (.br (mAtC (c,s==5,g,[]) 1) (.leaf (some ((c.1,(x3.1,c.2.1.2.1,c.2.1.2.2.1,c.2.1.2.2.2.1,c.2.1.2.2.2.2.1,c.2.1.2.2.2.2.2.1,c.2.1.2.2.2.2.2.2.1,x3.2,spOf c,ZC (c,s==5,g,[]) x2.1),c.2.2.1,false,false,c.2.2.2.2.2)))) (.leaf none)) (.leaf none)) (.leaf none))
theorem ZJf (a:HL Zn):Zh (envX prog (ZaK 13) [] 79250227772808467515411824639 8) Tryz.f98 Zn Z2 a=Zt3 a.1 a.2.1 a.2.2.1 a.2.2.2:=by kernel_rfl
def ZtZ (c:TC) (s:Int) (g:List Int) (ln:QT0):RT (Option TC):=
 let x1:=Zb c.1 (mAt (c,s==5,g,[]) 0)
 let x2:=x1.2
 let x3:=x2.2.2.2.1
 let x4:=rDcx c.1 (Zal c.2.1 x3) c.2.1.2.2.2.2.2.2.2.1
 let x5:=Zr c.2.1 x3 x4.1
 let x6:=x5.2
 let x7:=x6.2
 let x8:=x7.2
 let x9:=x8.2
 let x10:=x9.2
 let x11:=x10.2
 .br (Zc s) (.leaf (some ((c.1,(rgx c.2.1 c.2.1.2.2.2.2.2.2.2.1 (u16.wrap ((spOf c)-2)) (Zi s)),c.2.2)))) (.br (!mAtC (c,s==5,g,[]) 0||x1.1==17) (.br (mAtC (c,s==5,g,[]) 0) (.leaf (some ((c.1,(x5.1,x6.1,x7.1,x8.1,x9.1,x10.1,x11.1,x4.2,x11.2.2.1,ZC (c,s==5,g,[]) x2.1),c.2.2.1,false,false,c.2.2.2.2.2)))) (.leaf none)) (.leaf none))
theorem ZJb (a:HL Zn):Zh (envX prog (ZaK 17) [] 79250227772808467515411824639 8) Tryz.f98 Zn Z2 a=ZtZ a.1 a.2.1 a.2.2.1 a.2.2.2:=by kernel_rfl
def ZtV (c:TC) (s:Int) (g:List Int) (ln:QT0):RT (Option TC):=
 let x1:=Zb c.1 (mAt (c,s==5,g,[]) 0)
 let x2:=c.2.1.2.2.2.2.2.2.2.1.2.2.2
 let x3:=x2.2
 .br (Zc s) (.leaf (some ((c.1,(rgx c.2.1 c.2.1.2.2.2.2.2.2.2.1 (u16.wrap ((spOf c)-2)) (Zi s)),c.2.2)))) (.br (!mAtC (c,s==5,g,[]) 0||x1.1==21) (.br (mAtC (c,s==5,g,[]) 0) (.leaf (some ((c.1,(rgx c.2.1 ((c.2.1.2.2.2.2.2.2.2.1.1,c.2.1.2.2.2.2.2.2.2.1.2.1,c.2.1.2.2.2.2.2.2.2.1.2.2.1,x2.1,x3.1,x3.2.1,true)) (spOf c) (ZC (c,s==5,g,[]) x1.2.1)),c.2.2.1,false,false,c.2.2.2.2.2)))) (.leaf none)) (.leaf none))
theorem ZI7 (a:HL Zn):Zh (envX prog (ZaK 21) [] 79250227772808467515411824639 8) Tryz.f98 Zn Z2 a=ZtV a.1 a.2.1 a.2.2.1 a.2.2.2:=by kernel_rfl
def ZtR (c:TC) (s:Int) (g:List Int) (ln:QT0):RT (Option TC):=
 let x1:=u16.wrap ((spOf c)-2)
 let x2:=Zb c.1 (mAt (c,s==5,g,[]) 0)
 let x3:=x2.2
 let x4:= !ZeC (c,s==5,g,[]) (25,x3)
 let x5:=c.2.1.2.2.2.2.2.2.2.1.2.2.1
 let x6:=c.2.1.2.2.2.2.2.2.2.1.2.2.2
 let x7:=x6.1
 let x8:=x6.2
 let x9:=x8.1
 let x10:=x8.2
 let x11:=x10.1
 let x12:=x10.2
 .br (Zc s) (.leaf (some ((c.1,(rgx c.2.1 c.2.1.2.2.2.2.2.2.2.1 x1 (Zi s)),c.2.2)))) (.br (!mAtC (c,s==5,g,[]) 0||x2.1==25) (.br (mAtC (c,s==5,g,[]) 0) (.br (x4||Zcd (c,s==5,g,[]) 1) (.leaf (some ((bif x4 then c.1 else c.1,(bif x4 then c.2.1.1 else c.2.1.1,bif x4 then c.2.1.2.1 else c.2.1.2.1,bif x4 then c.2.1.2.2.1 else c.2.1.2.2.1,bif x4 then c.2.1.2.2.2.1 else c.2.1.2.2.2.1,bif x4 then c.2.1.2.2.2.2.1 else c.2.1.2.2.2.2.1,bif x4 then c.2.1.2.2.2.2.2.1 else c.2.1.2.2.2.2.2.1,bif x4 then c.2.1.2.2.2.2.2.2.1 else c.2.1.2.2.2.2.2.2.1,(bif x4 then c.2.1.2.2.2.2.2.2.2.1.1 else c.2.1.2.2.2.2.2.2.2.1.1,bif x4 then c.2.1.2.2.2.2.2.2.2.1.2.1 else c.2.1.2.2.2.2.2.2.2.1.2.1,bif x4 then x5 else x5,bif x4 then x7 else x7,bif x4 then x9 else x9,bif x4 then x11 else x11,bif x4 then x12 else x12),bif x4 then (spOf c) else x1,bif x4 then ZC (c,s==5,g,[]) x3.1 else ZeI (c,s==5,g,[]) 1),bif x4 then c.2.2.1 else c.2.2.1,false,false,bif x4 then c.2.2.2.2.2.1 else c.2.2.2.2.2.1,bif x4 then c.2.2.2.2.2.2.1 else c.2.2.2.2.2.2.1,bif x4 then c.2.2.2.2.2.2.2.1 else c.2.2.2.2.2.2.2.1,bif x4 then c.2.2.2.2.2.2.2.2.1 else c.2.2.2.2.2.2.2.2.1,bif x4 then c.2.2.2.2.2.2.2.2.2.1 else c.2.2.2.2.2.2.2.2.2.1,bif x4 then c.2.2.2.2.2.2.2.2.2.2.1 else c.2.2.2.2.2.2.2.2.2.2.1,bif x4 then c.2.2.2.2.2.2.2.2.2.2.2.1 else c.2.2.2.2.2.2.2.2.2.2.2.1,bif x4 then c.2.2.2.2.2.2.2.2.2.2.2.2 else c.2.2.2.2.2.2.2.2.2.2.2.2)))) (.leaf none)) (.leaf none)) (.leaf none))
theorem ZI3 (a:HL Zn):Zh (envX prog (ZaK 25) [] 79250227772808467515411824639 8) Tryz.f98 Zn Z2 a=ZtR a.1 a.2.1 a.2.2.1 a.2.2.2:=by kernel_rfl
def ZtN (c:TC) (s:Int) (g:List Int) (ln:QT0):RT (Option TC):=
 let x1:=Zb c.1 (mAt (c,s==5,g,[]) 0)
 .br (Zc s) (.leaf (some ((c.1,(rgx c.2.1 c.2.1.2.2.2.2.2.2.2.1 (u16.wrap ((spOf c)-2)) (Zi s)),c.2.2)))) (.br (!mAtC (c,s==5,g,[]) 0||x1.1==29) (.br (mAtC (c,s==5,g,[]) 0) (.leaf (some ((c.1,(rgx c.2.1 c.2.1.2.2.2.2.2.2.2.1 (Zal c.2.1 2) (ZC (c,s==5,g,[]) x1.2.1)),c.2.2.1,false,false,c.2.2.2.2.2)))) (.leaf none)) (.leaf none))
theorem ZIZ (a:HL Zn):Zh (envX prog (ZaK 29) [] 79250227772808467515411824639 8) Tryz.f98 Zn Z2 a=ZtN a.1 a.2.1 a.2.2.1 a.2.2.2:=by kernel_rfl
def ZtJ (c:TC) (s:Int) (g:List Int) (ln:QT0):RT (Option TC):=
 let x1:=Zb c.1 (mAt (c,s==5,g,[]) 0)
 .br (Zc s) (.leaf (some ((c.1,(rgx c.2.1 c.2.1.2.2.2.2.2.2.2.1 (u16.wrap ((spOf c)-2)) (Zi s)),c.2.2)))) (.br (!mAtC (c,s==5,g,[]) 0||x1.1==33) (.br (mAtC (c,s==5,g,[]) 0) (.br (mAtC (c,s==5,g,[]) 2) (.leaf (some ((c.1,(mAt (c,s==5,g,[]) 2,c.2.1.2.1,c.2.1.2.2.1,c.2.1.2.2.2.1,c.2.1.2.2.2.2.1,c.2.1.2.2.2.2.2.1,c.2.1.2.2.2.2.2.2.1,c.2.1.2.2.2.2.2.2.2.1,spOf c,ZC (c,s==5,g,[]) x1.2.1),c.2.2.1,false,false,c.2.2.2.2.2)))) (.leaf none)) (.leaf none)) (.leaf none))
theorem ZIV (a:HL Zn):Zh (envX prog (ZaK 33) [] 79250227772808467515411824639 8) Tryz.f98 Zn Z2 a=ZtJ a.1 a.2.1 a.2.2.1 a.2.2.2:=by kernel_rfl
def ZtF (c:TC) (s:Int) (g:List Int) (ln:QT0):RT (Option TC):=
 let x1:=Zb c.1 (mAt (c,s==5,g,[]) 0)
 .br (Zc s) (.leaf (some ((c.1,(rgx c.2.1 c.2.1.2.2.2.2.2.2.2.1 (u16.wrap ((spOf c)-2)) (Zi s)),c.2.2)))) (.br (!mAtC (c,s==5,g,[]) 0||x1.1==37) (.br (mAtC (c,s==5,g,[]) 0) (.leaf (some ((c.1,(rgx c.2.1 c.2.1.2.2.2.2.2.2.2.1 (spOf c) (ZC (c,s==5,g,[]) x1.2.1)),c.2.2.1,false,true,c.2.2.2.2.2)))) (.leaf none)) (.leaf none))
theorem ZIR (a:HL Zn):Zh (envX prog (ZaK 37) [] 79250227772808467515411824639 8) Tryz.f98 Zn Z2 a=ZtF a.1 a.2.1 a.2.2.1 a.2.2.2:=by kernel_rfl
def ZtB (c:TC) (s:Int) (g:List Int) (ln:QT0):RT (Option TC):=
 let x1:=Zb c.1 (mAt (c,s==5,g,[]) 0)
 let x2:Int×Int×Int×Int×Int×TF×Int×Int:=(Zr c.2.1 2 (Zuc (Zal c.2.1 2)).1).2.2
 let x3:=x2.2
 let x4:=x3.2
 let x5:=x4.2
 let x6:=x5.2
 let x7:=x6.2
 let x8:=x7.1
 let x9:=x8.2
 let x10:=x9.2
 let x11:=x10.2
 let x12:=x11.2
 .br (Zc s) (.leaf (some ((c.1,(rgx c.2.1 c.2.1.2.2.2.2.2.2.2.1 (u16.wrap ((spOf c)-2)) (Zi s)),c.2.2)))) (.br (!mAtC (c,s==5,g,[]) 0||x1.1==41) (.br (mAtC (c,s==5,g,[]) 0) (.leaf (some ((c.1,((Zr c.2.1 2 (Zuc (Zal c.2.1 2)).1).1,(Zr c.2.1 2 (Zuc (Zal c.2.1 2)).1).2.1,x2.1,x3.1,x4.1,x5.1,x6.1,(x8.1,x9.1,x10.1,x11.1,x12.1,x12.2.1,(Zuc (Zal c.2.1 2)).2),x7.2.1,ZC (c,s==5,g,[]) x1.2.1),c.2.2.1,false,false,c.2.2.2.2.2)))) (.leaf none)) (.leaf none))
theorem ZIN (a:HL Zn):Zh (envX prog (ZaK 41) [] 79250227772808467515411824639 8) Tryz.f98 Zn Z2 a=ZtB a.1 a.2.1 a.2.2.1 a.2.2.2:=by kernel_rfl
def Ztx (c:TC) (s:Int) (g:List Int) (ln:QT0):RT (Option TC):=
 let x1:=u16.wrap ((spOf c)-2)
 let x2:=Zb c.1 (mAt (c,s==5,g,[]) 0)
 let x3:=x2.2
 let x4:= !ZeC (c,s==5,g,[]) (45,x3)
 let x5:=c.2.1.2.2.2.2.2.2.2.1.2.2.1
 let x6:=c.2.1.2.2.2.2.2.2.2.1.2.2.2
 let x7:=x6.1
 let x8:=x6.2
 let x9:=x8.1
 let x10:=x8.2
 let x11:=x10.1
 let x12:=x10.2
 .br (Zc s) (.leaf (some ((c.1,(rgx c.2.1 c.2.1.2.2.2.2.2.2.2.1 x1 (Zi s)),c.2.2)))) (.br (!mAtC (c,s==5,g,[]) 0||x2.1==45) (.br (mAtC (c,s==5,g,[]) 0) (.leaf (some ((bif x4 then c.1 else c.1,(bif x4 then c.2.1.1 else c.2.1.1,bif x4 then c.2.1.2.1 else c.2.1.2.1,bif x4 then c.2.1.2.2.1 else c.2.1.2.2.1,bif x4 then c.2.1.2.2.2.1 else c.2.1.2.2.2.1,bif x4 then c.2.1.2.2.2.2.1 else c.2.1.2.2.2.2.1,bif x4 then c.2.1.2.2.2.2.2.1 else c.2.1.2.2.2.2.2.1,bif x4 then c.2.1.2.2.2.2.2.2.1 else c.2.1.2.2.2.2.2.2.1,(bif x4 then c.2.1.2.2.2.2.2.2.2.1.1 else c.2.1.2.2.2.2.2.2.2.1.1,bif x4 then c.2.1.2.2.2.2.2.2.2.1.2.1 else c.2.1.2.2.2.2.2.2.2.1.2.1,bif x4 then x5 else x5,bif x4 then x7 else x7,bif x4 then x9 else x9,bif x4 then x11 else x11,bif x4 then x12 else x12),bif x4 then (spOf c) else x1,bif x4 then ZC (c,s==5,g,[]) x3.1 else 64),bif x4 then c.2.2.1 else c.2.2.1,false,false,bif x4 then c.2.2.2.2.2.1 else c.2.2.2.2.2.1,bif x4 then c.2.2.2.2.2.2.1 else c.2.2.2.2.2.2.1,bif x4 then c.2.2.2.2.2.2.2.1 else c.2.2.2.2.2.2.2.1,bif x4 then c.2.2.2.2.2.2.2.2.1 else c.2.2.2.2.2.2.2.2.1,bif x4 then c.2.2.2.2.2.2.2.2.2.1 else c.2.2.2.2.2.2.2.2.2.1,bif x4 then c.2.2.2.2.2.2.2.2.2.2.1 else c.2.2.2.2.2.2.2.2.2.2.1,bif x4 then c.2.2.2.2.2.2.2.2.2.2.2.1 else c.2.2.2.2.2.2.2.2.2.2.2.1,bif x4 then c.2.2.2.2.2.2.2.2.2.2.2.2 else c.2.2.2.2.2.2.2.2.2.2.2.2)))) (.leaf none)) (.leaf none))
theorem ZIJ (a:HL Zn):Zh (envX prog (ZaK 45) [] 79250227772808467515411824639 8) Tryz.f98 Zn Z2 a=Ztx a.1 a.2.1 a.2.2.1 a.2.2.2:=by kernel_rfl
end
end Go.Proofs.YtghoimllhpjkjaaGreat
