import Derived.Test.YtghoimllhpjkjaaGreatS3D
import Derived.Test.YtghoimllhpjkjaaGreatProg
import Derived.Test.YtghoimllhpjkjaaGreatFin0
open Go.Proofs.Tryz (prog)
open Go.IntKind (u8 u16 i64)
set_option linter.unusedSimpArgs false
open Go Go.S3 Go.Proofs
set_option linter.unusedVariables false
set_option maxRecDepth 100000
namespace Go.Proofs.YtghoimllhpjkjaaGreat
noncomputable section
def ZCN (c:TC) (s:Int) (g:List Int) (ln:QT0):RT (Option TC):=
 let x1:QT1:=(c,s==5,g,(0,0,0,0,0,0,0,0),[])
 let x2:=qAtC x1 0
 let x3:=Zb c.1 (qAt x1 0)
 let x4:= !x2||x3.1==2
 let x5:=x3.2
 let x6:=x5.2
 let x7:=x6.2.1
 let x8:=x7==6
 let x9:QT1:=(c,s==5,g,(2,x5),[])
 .br (Ze s) (.leaf (some ((c.1,(rgx c.2.1 c.2.1.2.2.2.2.2.2.2.1 (u16.wrap ((spOf c)-2)) (Zi s)),c.2.2)))) (.br (!x4||x2) (.br (x4) (.br (!x8||qAtC x9 1) (.leaf (some ((c.1,rSet (rgx c.2.1 c.2.1.2.2.2.2.2.2.2.1 (spOf c) (ZE x9)) x6.1 (bif x8 then qAt x9 1 else qReg x9 x7),c.2.2.1,false,false,c.2.2.2.2.2)))) (.leaf none)) (.leaf none)) (.leaf none))
theorem ZPT (a:HL Zo):Zh (envX prog (ZaL 2) [] 1023 8) Tryz.f111 Zo Z9 a=ZCN a.1 a.2.1 a.2.2.1 a.2.2.2:=by kernel_rfl
def ZCJ (c:TC) (s:Int) (g:List Int) (ln:QT0):RT (Option TC):=
 let x1:QT1:=(c,s==5,g,(0,0,0,0,0,0,0,0),[])
 let x2:=qAtC x1 0
 let x3:=Zb c.1 (qAt x1 0)
 let x4:= !x2||x3.1==6
 .br (Ze s) (.leaf (some ((c.1,(rgx c.2.1 c.2.1.2.2.2.2.2.2.2.1 (u16.wrap ((spOf c)-2)) (Zi s)),c.2.2)))) (.br (!x4||x2) (.br (x4) (.leaf (some ((c.1,(rgx c.2.1 c.2.1.2.2.2.2.2.2.2.1 (spOf c) (ZE (c,s==5,g,(6,x3.2),[]))),c.2.2.1,false,false,c.2.2.2.2.2)))) (.leaf none)) (.leaf none))
theorem ZPP (a:HL Zo):Zh (envX prog (ZaL 6) [] 1023 8) Tryz.f111 Zo Z9 a=ZCJ a.1 a.2.1 a.2.2.1 a.2.2.2:=by kernel_rfl
def Zu6 (c:TC) (s:Int) (g:List Int) (ln:QT0):RT (Option TC):=
 let x1:QT1:=(c,s==5,g,(0,0,0,0,0,0,0,0),[])
 let x2:=qAtC x1 0
 let x3:=Zb c.1 (qAt x1 0)
 let x4:= !x2||x3.1==10
 .br (Ze s) (.leaf (some ((c.1,(rgx c.2.1 c.2.1.2.2.2.2.2.2.2.1 (u16.wrap ((spOf c)-2)) (Zi s)),c.2.2)))) (.br (!x4||x2) (.br (x4) (.leaf (some ((c.1,(rgx c.2.1 c.2.1.2.2.2.2.2.2.2.1 (spOf c) (ZE (c,s==5,g,(10,x3.2),[]))),c.2.2.1,false,false,c.2.2.2.2.2)))) (.leaf none)) (.leaf none))
theorem ZJ3 (a:HL Zo):Zh (envX prog (ZaL 10) [] 1023 8) Tryz.f111 Zo Z9 a=Zu6 a.1 a.2.1 a.2.2.1 a.2.2.2:=by kernel_rfl
def Zu2 (c:TC) (s:Int) (g:List Int) (ln:QT0):RT (Option TC):=
 let x1:QT1:=(c,s==5,g,(0,0,0,0,0,0,0,0),[])
 let x2:=qAtC x1 0
 let x3:=Zb c.1 (qAt x1 0)
 let x4:= !x2||x3.1==14
 let x5:=x3.2
 let x6:=x5.2.1
 let x7:=x6==6
 let x8:QT1:=(c,s==5,g,(14,x5),[])
 let x9:=rInr c.1 (bif x7 then qAt x8 1 else qReg x8 x6) c.2.1.2.2.2.2.2.2.2.1
 .br (Ze s) (.leaf (some ((c.1,(rgx c.2.1 c.2.1.2.2.2.2.2.2.2.1 (u16.wrap ((spOf c)-2)) (Zi s)),c.2.2)))) (.br (!x4||x2) (.br (x4) (.br (!x7||qAtC x8 1) (.leaf (some ((c.1,rSet (rgx c.2.1 x9.2 (spOf c) (ZE x8)) x6 x9.1,c.2.2.1,false,false,c.2.2.2.2.2)))) (.leaf none)) (.leaf none)) (.leaf none))
theorem ZJZ (a:HL Zo):Zh (envX prog (ZaL 14) [] 1023 8) Tryz.f111 Zo Z9 a=Zu2 a.1 a.2.1 a.2.2.1 a.2.2.2:=by kernel_rfl
def ZuY (c:TC) (s:Int) (g:List Int) (ln:QT0):RT (Option TC):=
 let x1:QT1:=(c,s==5,g,(0,0,0,0,0,0,0,0),[])
 let x2:=qAtC x1 0
 let x3:=Zb c.1 (qAt x1 0)
 let x4:= !x2||x3.1==18
 let x5:=x3.2
 let x6:QT1:=(c,s==5,g,(18,x5),[])
 let x7:=rDad c.1 (Zef x6 2) (Zef x6 x5.2.2.2.1) c.2.1.2.2.2.2.2.2.2.1
 .br (Ze s) (.leaf (some ((c.1,(rgx c.2.1 c.2.1.2.2.2.2.2.2.2.1 (u16.wrap ((spOf c)-2)) (Zi s)),c.2.2)))) (.br (!x4||x2) (.br (x4) (.leaf (some ((c.1,Zr (rgx c.2.1 x7.2 (spOf c) (ZE x6)) 2 x7.1,c.2.2.1,false,false,c.2.2.2.2.2)))) (.leaf none)) (.leaf none))
theorem ZJV (a:HL Zo):Zh (envX prog (ZaL 18) [] 1023 8) Tryz.f111 Zo Z9 a=ZuY a.1 a.2.1 a.2.2.1 a.2.2.2:=by kernel_rfl
def ZuU (c:TC) (s:Int) (g:List Int) (ln:QT0):RT (Option TC):=
 let x1:QT1:=(c,s==5,g,(0,0,0,0,0,0,0,0),[])
 let x2:=qAtC x1 0
 let x3:=Zb c.1 (qAt x1 0)
 let x4:= !x2||x3.1==22
 let x5:=c.2.1.2.2.2.2.2.2.2.1.2.2.2
 let x6:=x5.2
 let x7:=x6.2
 .br (Ze s) (.leaf (some ((c.1,(rgx c.2.1 c.2.1.2.2.2.2.2.2.2.1 (u16.wrap ((spOf c)-2)) (Zi s)),c.2.2)))) (.br (!x4||x2) (.br (x4) (.leaf (some ((c.1,(rgx c.2.1 ((c.2.1.2.2.2.2.2.2.2.1.1,c.2.1.2.2.2.2.2.2.2.1.2.1,c.2.1.2.2.2.2.2.2.2.1.2.2.1,x5.1,x6.1,x7.1,!x7.2)) (spOf c) (ZE (c,s==5,g,(22,x3.2),[]))),c.2.2.1,false,false,c.2.2.2.2.2)))) (.leaf none)) (.leaf none))
theorem ZJR (a:HL Zo):Zh (envX prog (ZaL 22) [] 1023 8) Tryz.f111 Zo Z9 a=ZuU a.1 a.2.1 a.2.2.1 a.2.2.2:=by kernel_rfl
def ZuQ (c:TC) (s:Int) (g:List Int) (ln:QT0):RT (Option TC):=
 let x1:QT1:=(c,s==5,g,(0,0,0,0,0,0,0,0),[])
 let x2:=qAtC x1 0
 let x3:=Zb c.1 (qAt x1 0)
 let x4:= !x2||x3.1==26
 let x5:QT1:=(c,s==5,g,(26,x3.2),[])
 let x6:=Zhq x5
 .br (Ze s) (.leaf (some ((c.1,(rgx c.2.1 c.2.1.2.2.2.2.2.2.2.1 (u16.wrap ((spOf c)-2)) (Zi s)),c.2.2)))) (.br (!x4||x2) (.br (x4) (.br (!x6||ZcV x5 1) (.leaf (some ((c.1,(rgx c.2.1 c.2.1.2.2.2.2.2.2.2.1 (bif x6 then u16.wrap ((spOf c)+2) else (spOf c)) (bif x6 then Zgm x5 1 else ZE x5)),c.2.2.1,false,false,c.2.2.2.2.2)))) (.leaf none)) (.leaf none)) (.leaf none))
theorem ZJN (a:HL Zo):Zh (envX prog (ZaL 26) [] 1023 8) Tryz.f111 Zo Z9 a=ZuQ a.1 a.2.1 a.2.2.1 a.2.2.2:=by kernel_rfl
def ZuM (c:TC) (s:Int) (g:List Int) (ln:QT0):RT (Option TC):=
 let x1:=u16.wrap ((spOf c)-2)
 let x2:QT1:=(c,s==5,g,(0,0,0,0,0,0,0,0),[])
 let x3:=qAtC x2 0
 let x4:=Zb c.1 (qAt x2 0)
 let x5:= !x3||x4.1==30
 .br (Ze s) (.leaf (some ((c.1,(rgx c.2.1 c.2.1.2.2.2.2.2.2.2.1 x1 (Zi s)),c.2.2)))) (.br (!x5||x3) (.br (x5) (.leaf (some ((c.1,(rgx c.2.1 c.2.1.2.2.2.2.2.2.2.1 x1 (ZE (c,s==5,g,(30,x4.2),[]))),c.2.2.1,false,false,c.2.2.2.2.2)))) (.leaf none)) (.leaf none))
theorem ZJJ (a:HL Zo):Zh (envX prog (ZaL 30) [] 1023 8) Tryz.f111 Zo Z9 a=ZuM a.1 a.2.1 a.2.2.1 a.2.2.2:=by kernel_rfl
def ZuI (c:TC) (s:Int) (g:List Int) (ln:QT0):RT (Option TC):=
 let x1:QT1:=(c,s==5,g,(0,0,0,0,0,0,0,0),[])
 let x2:=qAtC x1 0
 let x3:=Zb c.1 (qAt x1 0)
 let x4:= !x2||x3.1==34
 .br (Ze s) (.leaf (some ((c.1,(rgx c.2.1 c.2.1.2.2.2.2.2.2.2.1 (u16.wrap ((spOf c)-2)) (Zi s)),c.2.2)))) (.br (!x4||x2) (.br (x4) (.leaf (some ((c.1,(rgx c.2.1 c.2.1.2.2.2.2.2.2.2.1 (spOf c) (ZE (c,s==5,g,(34,x3.2),[]))),c.2.2.1,false,false,c.2.2.2.2.2)))) (.leaf none)) (.leaf none))
theorem ZJF (a:HL Zo):Zh (envX prog (ZaL 34) [] 1023 8) Tryz.f111 Zo Z9 a=ZuI a.1 a.2.1 a.2.2.1 a.2.2.2:=by kernel_rfl
def ZuE (c:TC) (s:Int) (g:List Int) (ln:QT0):RT (Option TC):=
 let x1:QT1:=(c,s==5,g,(0,0,0,0,0,0,0,0),[])
 let x2:=qAtC x1 0
 let x3:=Zb c.1 (qAt x1 0)
 let x4:= !x2||x3.1==38
 let x5:=rRim (c.1,(rgx c.2.1 c.2.1.2.2.2.2.2.2.2.1 (spOf c) (ZE (c,s==5,g,(38,x3.2),[]))),c.2.2.1,38==35,38==37,c.2.2.2.2.2) ln
 let x6:=x5.2
 let x7:=x6.2
 let x8:=x7.2
 let x9:=x8.2.2.2
 let x10:=x9.2
 let x11:=x10.2
 let x12:=x11.2
 let x13:=x12.2
 .br (Ze s) (.leaf (some ((c.1,(rgx c.2.1 c.2.1.2.2.2.2.2.2.2.1 (u16.wrap ((spOf c)-2)) (Zi s)),c.2.2)))) (.br (!x4||x2) (.br (x4) (.leaf (some ((x6.1,(x5.1,x7.1.2),x8.1,false,false,x9.1,x10.1,x11.1,x12.1,x13.1,false,false,x13.2.2.2)))) (.leaf none)) (.leaf none))
theorem ZJB (a:HL Zo):Zh (envX prog (ZaL 38) [] 1023 8) Tryz.f111 Zo Z9 a=ZuE a.1 a.2.1 a.2.2.1 a.2.2.2:=by kernel_rfl
def ZuA (c:TC) (s:Int) (g:List Int) (ln:QT0):RT (Option TC):=
 let x1:QT1:=(c,s==5,g,(0,0,0,0,0,0,0,0),[])
 let x2:=qAtC x1 0
 let x3:=Zb c.1 (qAt x1 0)
 let x4:= !x2||x3.1==42
 let x5:=c.2.1.2.2.2.2.2.2.2.1.2.2.2
 let x6:=x5.2
 let x7:QT1:=(c,s==5,g,(42,x3.2),[])
 let x8:=Zxi (Zef x7 1) x6.2.2
 let x9:=x8.2
 .br (Ze s) (.leaf (some ((c.1,(rgx c.2.1 c.2.1.2.2.2.2.2.2.2.1 (u16.wrap ((spOf c)-2)) (Zi s)),c.2.2)))) (.br (!x4||x2) (.br (x4) (.leaf (some ((c.1,Zr (rgx c.2.1 ((c.2.1.2.2.2.2.2.2.2.1.1,c.2.1.2.2.2.2.2.2.2.1.2.1,c.2.1.2.2.2.2.2.2.2.1.2.2.1,x5.1,x6.1,x9.2,x9.1)) (spOf c) (ZE x7)) 1 x8.1,c.2.2.1,false,false,c.2.2.2.2.2)))) (.leaf none)) (.leaf none))
theorem ZJx (a:HL Zo):Zh (envX prog (ZaL 42) [] 1023 8) Tryz.f111 Zo Z9 a=ZuA a.1 a.2.1 a.2.2.1 a.2.2.2:=by kernel_rfl
def Zuw (c:TC) (s:Int) (g:List Int) (ln:QT0):RT (Option TC):=
 let x1:QT1:=(c,s==5,g,(0,0,0,0,0,0,0,0),[])
 let x2:=qAtC x1 0
 let x3:=Zb c.1 (qAt x1 0)
 let x4:= !x2||x3.1==46
 .br (Ze s) (.leaf (some ((c.1,(rgx c.2.1 c.2.1.2.2.2.2.2.2.2.1 (u16.wrap ((spOf c)-2)) (Zi s)),c.2.2)))) (.br (!x4||x2) (.br (x4) (.leaf (some ((c.1,(rgx c.2.1 c.2.1.2.2.2.2.2.2.2.1 (spOf c) (ZE (c,s==5,g,(46,x3.2),[]))),c.2.2.1,false,false,c.2.2.2.2.2)))) (.leaf none)) (.leaf none))
theorem ZJt (a:HL Zo):Zh (envX prog (ZaL 46) [] 1023 8) Tryz.f111 Zo Z9 a=Zuw a.1 a.2.1 a.2.2.1 a.2.2.2:=by kernel_rfl
def ZBr (c:TC) (s:Int) (g:List Int) (ln:QT0):RT (Option TC):=
 let x1:=Zb c.1 (mAt (c,s==5,g,[]) 0)
 let x2:=x1.2
 let x3:=rSet c.2.1 x2.2.1 (mAt (c,s==5,g,[]) 1)
 let x4:=x3.2
 let x5:=x4.2
 let x6:=x5.2
 let x7:=x6.2
 let x8:=x7.2
 let x9:=x8.2
 let x10:=x9.2
 .br (Zc s) (.leaf (some ((c.1,(rgx c.2.1 c.2.1.2.2.2.2.2.2.2.1 (u16.wrap ((spOf c)-2)) (Zi s)),c.2.2)))) (.br (!mAtC (c,s==5,g,[]) 0||x1.1==3) (.br (mAtC (c,s==5,g,[]) 0) (.br (mAtC (c,s==5,g,[]) 1) (.leaf (some ((c.1,(x3.1,x4.1,x5.1,x6.1,x7.1,x8.1,x9.1,x10.1,x10.2.1,ZC (c,s==5,g,[]) x2.1),c.2.2.1,false,false,c.2.2.2.2.2)))) (.leaf none)) (.leaf none)) (.leaf none))
theorem ZOa (a:HL Zn):Zh (envX prog (ZaK 3) [] 79250227772808467515411824639 8) Tryz.f98 Zn Z7 a=ZBr a.1 a.2.1 a.2.2.1 a.2.2.2:=by kernel_rfl
def ZBn (c:TC) (s:Int) (g:List Int) (ln:QT0):RT (Option TC):=
 let x1:=Zb c.1 (mAt (c,s==5,g,[]) 0)
 let x2:= !mAtC (c,s==5,g,[]) 3||mAtC (c,s==5,g,[]) 4
 let x3:= !x2||mAtC (c,s==5,g,[]) 3
 let x4:= !x3||x2
 .br (Zc s) (.leaf (some ((c.1,(rgx c.2.1 c.2.1.2.2.2.2.2.2.2.1 (u16.wrap ((spOf c)-2)) (Zi s)),c.2.2)))) (.br (!mAtC (c,s==5,g,[]) 0||x1.1==7) (.br (mAtC (c,s==5,g,[]) 0) (.br (!x4||x3) (.br (x4) (.leaf (some ((c.1,(c.2.1.1,c.2.1.2.1,c.2.1.2.2.1,c.2.1.2.2.2.1,c.2.1.2.2.2.2.1,mAt (c,s==5,g,[]) 4,mAt (c,s==5,g,[]) 3,c.2.1.2.2.2.2.2.2.2.1,spOf c,ZC (c,s==5,g,[]) x1.2.1),c.2.2.1,false,false,c.2.2.2.2.2)))) (.leaf none)) (.leaf none)) (.leaf none)) (.leaf none))
theorem ZN6 (a:HL Zn):Zh (envX prog (ZaK 7) [] 79250227772808467515411824639 8) Tryz.f98 Zn Z7 a=ZBn a.1 a.2.1 a.2.2.1 a.2.2.2:=by kernel_rfl
def ZtF (c:TC) (s:Int) (g:List Int) (ln:QT0):RT (Option TC):=
 let x1:=Zb c.1 (mAt (c,s==5,g,[]) 0)
 .br (Zc s) (.leaf (some ((c.1,(rgx c.2.1 c.2.1.2.2.2.2.2.2.2.1 (u16.wrap ((spOf c)-2)) (Zi s)),c.2.2)))) (.br (!mAtC (c,s==5,g,[]) 0||x1.1==11) (.br (mAtC (c,s==5,g,[]) 0) (.leaf (some ((c.1,(c.2.1.1,c.2.1.2.1,c.2.1.2.2.1,c.2.1.2.2.2.2.2.1,c.2.1.2.2.2.2.2.2.1,c.2.1.2.2.2.1,c.2.1.2.2.2.2.1,c.2.1.2.2.2.2.2.2.2.1,spOf c,ZC (c,s==5,g,[]) x1.2.1),c.2.2.1,false,false,c.2.2.2.2.2)))) (.leaf none)) (.leaf none))
theorem ZIU (a:HL Zn):Zh (envX prog (ZaK 11) [] 79250227772808467515411824639 8) Tryz.f98 Zn Z7 a=ZtF a.1 a.2.1 a.2.2.1 a.2.2.2:=by kernel_rfl
def ZtB (c:TC) (s:Int) (g:List Int) (ln:QT0):RT (Option TC):=
 let x1:=Zb c.1 (mAt (c,s==5,g,[]) 0)
 let x2:=x1.2
 let x3:=x2.2.1
 let x4:=x3==6
 let x5:=ZgV c (15,x2) (bif x4 then mAt (c,s==5,g,[]) 1 else rGet c.2.1 x3)
 let x6:=rSet c.2.1 x3 x5.1
 let x7:=x6.2
 let x8:=x7.2
 let x9:=x8.2
 let x10:=x9.2
 let x11:=x10.2
 let x12:=x11.2
 .br (Zc s) (.leaf (some ((c.1,(rgx c.2.1 c.2.1.2.2.2.2.2.2.2.1 (u16.wrap ((spOf c)-2)) (Zi s)),c.2.2)))) (.br (!mAtC (c,s==5,g,[]) 0||x1.1==15) (.br (mAtC (c,s==5,g,[]) 0) (.br (!x4||mAtC (c,s==5,g,[]) 1) (.leaf (some ((c.1,(x6.1,x7.1,x8.1,x9.1,x10.1,x11.1,x12.1,x5.2,x12.2.2.1,ZC (c,s==5,g,[]) x2.1),c.2.2.1,false,false,c.2.2.2.2.2)))) (.leaf none)) (.leaf none)) (.leaf none))
theorem ZIQ (a:HL Zn):Zh (envX prog (ZaK 15) [] 79250227772808467515411824639 8) Tryz.f98 Zn Z7 a=ZtB a.1 a.2.1 a.2.2.1 a.2.2.2:=by kernel_rfl
def Ztx (c:TC) (s:Int) (g:List Int) (ln:QT0):RT (Option TC):=
 let x1:=Zb c.1 (mAt (c,s==5,g,[]) 0)
 let x2:=rDaa c.1 c.2.1.1 c.2.1.2.2.2.2.2.2.2.1
 .br (Zc s) (.leaf (some ((c.1,(rgx c.2.1 c.2.1.2.2.2.2.2.2.2.1 (u16.wrap ((spOf c)-2)) (Zi s)),c.2.2)))) (.br (!mAtC (c,s==5,g,[]) 0||x1.1==19) (.br (mAtC (c,s==5,g,[]) 0) (.leaf (some ((c.1,(x2.1,c.2.1.2.1,c.2.1.2.2.1,c.2.1.2.2.2.1,c.2.1.2.2.2.2.1,c.2.1.2.2.2.2.2.1,c.2.1.2.2.2.2.2.2.1,x2.2,spOf c,ZC (c,s==5,g,[]) x1.2.1),c.2.2.1,false,false,c.2.2.2.2.2)))) (.leaf none)) (.leaf none))
theorem ZIM (a:HL Zn):Zh (envX prog (ZaK 19) [] 79250227772808467515411824639 8) Tryz.f98 Zn Z7 a=Ztx a.1 a.2.1 a.2.2.1 a.2.2.2:=by kernel_rfl
def Ztt (c:TC) (s:Int) (g:List Int) (ln:QT0):RT (Option TC):=
 let x1:=Zb c.1 (mAt (c,s==5,g,[]) 0)
 let x2:=x1.2
 let x3:=c.2.1.2.2.2.2.2.2.2.1.2.2.2
 let x4:=x3.2
 let x5:=x4.2
 let x6:=rRot x2.2.2.2.2.1 c.2.1.1 x5.2
 .br (Zc s) (.leaf (some ((c.1,(rgx c.2.1 c.2.1.2.2.2.2.2.2.2.1 (u16.wrap ((spOf c)-2)) (Zi s)),c.2.2)))) (.br (!mAtC (c,s==5,g,[]) 0||x1.1==23) (.br (mAtC (c,s==5,g,[]) 0) (.leaf (some ((c.1,(x6.1,c.2.1.2.1,c.2.1.2.2.1,c.2.1.2.2.2.1,c.2.1.2.2.2.2.1,c.2.1.2.2.2.2.2.1,c.2.1.2.2.2.2.2.2.1,(c.2.1.2.2.2.2.2.2.2.1.1,c.2.1.2.2.2.2.2.2.2.1.2.1,c.2.1.2.2.2.2.2.2.2.1.2.2.1,x3.1,x4.1,x5.1,x6.2),spOf c,ZC (c,s==5,g,[]) x2.1),c.2.2.1,false,false,c.2.2.2.2.2)))) (.leaf none)) (.leaf none))
theorem ZII (a:HL Zn):Zh (envX prog (ZaK 23) [] 79250227772808467515411824639 8) Tryz.f98 Zn Z7 a=Ztt a.1 a.2.1 a.2.2.1 a.2.2.2:=by kernel_rfl
def Ztp (c:TC) (s:Int) (g:List Int) (ln:QT0):RT (Option TC):=
 let x1:=u16.wrap ((spOf c)-2)
 let x2:=Zb c.1 (mAt (c,s==5,g,[]) 0)
 .br (Zc s) (.leaf (some ((c.1,(rgx c.2.1 c.2.1.2.2.2.2.2.2.2.1 x1 (Zi s)),c.2.2)))) (.br (!mAtC (c,s==5,g,[]) 0||x2.1==27) (.br (mAtC (c,s==5,g,[]) 0) (.leaf (some ((c.1,(rgx c.2.1 c.2.1.2.2.2.2.2.2.2.1 x1 (u16.wrap (i64.wrap (8*x2.2.2.2.2.2.2.2)))),c.2.2.1,false,false,c.2.2.2.2.2)))) (.leaf none)) (.leaf none))
theorem ZIE (a:HL Zn):Zh (envX prog (ZaK 27) [] 79250227772808467515411824639 8) Tryz.f98 Zn Z7 a=Ztp a.1 a.2.1 a.2.2.1 a.2.2.2:=by kernel_rfl
def Ztl (c:TC) (s:Int) (g:List Int) (ln:QT0):RT (Option TC):=
 let x1:=Zb c.1 (mAt (c,s==5,g,[]) 0)
 let x2:=x1.2
 let x3:=x2.2.2.2.1
 let x4:=x3==3
 let x5:= !x4||Zcm (c,s==5,g,[]) 1
 let x6:= !x5||(x4||Zcm (c,s==5,g,[]) 1)
 let x7:= !x6||x5
 let x8:=Zge c.1 c.2.1 (ZeN (c,s==5,g,[]) 1)
 let x9:=Zr c.2.1 x3 (ZeN (c,s==5,g,[]) 1)
 let x10:=x8.2
 let x11:=x9.2
 let x12:=x10.2
 let x13:=x11.2
 let x14:=x12.2
 let x15:=x13.2
 let x16:=x14.2
 let x17:=x15.2
 let x18:=x16.2
 let x19:=x17.2
 let x20:=x18.2
 let x21:=x19.2
 let x22:=x20.2
 let x23:=x22.1
 let x24:=x21.2
 let x25:=x24.1
 let x26:=x23.2
 let x27:=x25.2
 let x28:=x26.2
 let x29:=x27.2
 let x30:=x28.2
 let x31:=x29.2
 let x32:=x30.2
 let x33:=x31.2
 let x34:=x32.2
 let x35:=x33.2
 .br (Zc s) (.leaf (some ((c.1,(rgx c.2.1 c.2.1.2.2.2.2.2.2.2.1 (u16.wrap ((spOf c)-2)) (Zi s)),c.2.2)))) (.br (!mAtC (c,s==5,g,[]) 0||x1.1==31) (.br (mAtC (c,s==5,g,[]) 0) (.br (!x7||x6) (.br (x7) (.leaf (some ((c.1,(bif x4 then x8.1 else x9.1,bif x4 then x10.1 else x11.1,bif x4 then x12.1 else x13.1,bif x4 then x14.1 else x15.1,bif x4 then x16.1 else x17.1,bif x4 then x18.1 else x19.1,bif x4 then x20.1 else x21.1,(bif x4 then x23.1 else x25.1,bif x4 then x26.1 else x27.1,bif x4 then x28.1 else x29.1,bif x4 then x30.1 else x31.1,bif x4 then x32.1 else x33.1,bif x4 then x34.1 else x35.1,bif x4 then x34.2 else x35.2),u16.wrap ((bif x4 then x22.2.1 else x24.2.1)+2),ZC (c,s==5,g,[]) x2.1),c.2.2.1,false,false,c.2.2.2.2.2)))) (.leaf none)) (.leaf none)) (.leaf none)) (.leaf none))
theorem ZIA (a:HL Zn):Zh (envX prog (ZaK 31) [] 79250227772808467515411824639 8) Tryz.f98 Zn Z7 a=Ztl a.1 a.2.1 a.2.2.1 a.2.2.2:=by kernel_rfl
def Zth (c:TC) (s:Int) (g:List Int) (ln:QT0):RT (Option TC):=
 let x1:=Zb c.1 (mAt (c,s==5,g,[]) 0)
 .br (Zc s) (.leaf (some ((c.1,(rgx c.2.1 c.2.1.2.2.2.2.2.2.2.1 (u16.wrap ((spOf c)-2)) (Zi s)),c.2.2)))) (.br (!mAtC (c,s==5,g,[]) 0||x1.1==35) (.br (mAtC (c,s==5,g,[]) 0) (.leaf (some ((c.1,(rgx c.2.1 c.2.1.2.2.2.2.2.2.2.1 (spOf c) (ZC (c,s==5,g,[]) x1.2.1)),true,true,false,c.2.2.2.2.2)))) (.leaf none)) (.leaf none))
theorem ZIw (a:HL Zn):Zh (envX prog (ZaK 35) [] 79250227772808467515411824639 8) Tryz.f98 Zn Z7 a=Zth a.1 a.2.1 a.2.2.1 a.2.2.2:=by kernel_rfl
def Ztd (c:TC) (s:Int) (g:List Int) (ln:QT0):RT (Option TC):=
 let x1:=Zb c.1 (mAt (c,s==5,g,[]) 0)
 let x2:=rSim (c.1,(rgx c.2.1 c.2.1.2.2.2.2.2.2.2.1 (spOf c) (ZC (c,s==5,g,[]) x1.2.1)),c.2.2) c.2.1.1
 let x3:=x2.2
 let x4:=x3.2
 .br (Zc s) (.leaf (some ((c.1,(rgx c.2.1 c.2.1.2.2.2.2.2.2.2.1 (u16.wrap ((spOf c)-2)) (Zi s)),c.2.2)))) (.br (!mAtC (c,s==5,g,[]) 0||x1.1==39) (.br (mAtC (c,s==5,g,[]) 0) (.leaf (some ((x2.1,x3.1,x4.1,false,false,x4.2.2.2)))) (.leaf none)) (.leaf none))
theorem ZIs (a:HL Zn):Zh (envX prog (ZaK 39) [] 79250227772808467515411824639 8) Tryz.f98 Zn Z7 a=Ztd a.1 a.2.1 a.2.2.1 a.2.2.2:=by kernel_rfl
def Zs9 (c:TC) (s:Int) (g:List Int) (ln:QT0):RT (Option TC):=
 let x1:=Zb c.1 (mAt (c,s==5,g,[]) 0)
 let x2:=Zr c.2.1 1 (u16.wrap (Zan c.2.1 2+u16.wrap (mAt (c,s==5,g,[]) 1)))
 let x3:=x2.2
 let x4:=x3.2
 let x5:=x4.2
 let x6:=x5.2
 let x7:=x6.2
 let x8:=x7.2
 let x9:=x8.2
 .br (Zc s) (.leaf (some ((c.1,(rgx c.2.1 c.2.1.2.2.2.2.2.2.2.1 (u16.wrap ((spOf c)-2)) (Zi s)),c.2.2)))) (.br (!mAtC (c,s==5,g,[]) 0||x1.1==43) (.br (mAtC (c,s==5,g,[]) 0) (.br (mAtC (c,s==5,g,[]) 1) (.leaf (some ((c.1,(x2.1,x3.1,x4.1,x5.1,x6.1,x7.1,x8.1,x9.1,x9.2.1,ZC (c,s==5,g,[]) x1.2.1),c.2.2.1,false,false,c.2.2.2.2.2)))) (.leaf none)) (.leaf none)) (.leaf none))
theorem ZIo (a:HL Zn):Zh (envX prog (ZaK 43) [] 79250227772808467515411824639 8) Tryz.f98 Zn Z7 a=Zs9 a.1 a.2.1 a.2.2.1 a.2.2.2:=by kernel_rfl
def Zs5 (c:TC) (s:Int) (g:List Int) (ln:QT0):RT (Option TC):=
 let x1:=Zb c.1 (mAt (c,s==5,g,[]) 0)
 let x2:= !mAtC (c,s==5,g,[]) 1||mAtC (c,s==5,g,[]) 2
 let x3:= !x2||mAtC (c,s==5,g,[]) 1
 let x4:= !x3||x2
 .br (Zc s) (.leaf (some ((c.1,(rgx c.2.1 c.2.1.2.2.2.2.2.2.2.1 (u16.wrap ((spOf c)-2)) (Zi s)),c.2.2)))) (.br (!mAtC (c,s==5,g,[]) 0||x1.1==47) (.br (mAtC (c,s==5,g,[]) 0) (.br (!x4||x3) (.br (x4) (.leaf (some ((c.1,(c.2.1.1,c.2.1.2.1,c.2.1.2.2.1,c.2.1.2.2.2.1,c.2.1.2.2.2.2.1,mAt (c,s==5,g,[]) 2,mAt (c,s==5,g,[]) 1,c.2.1.2.2.2.2.2.2.2.1,spOf c,ZC (c,s==5,g,[]) x1.2.1),c.2.2.1,false,false,c.2.2.2.2.2)))) (.leaf none)) (.leaf none)) (.leaf none)) (.leaf none))
theorem ZIk (a:HL Zn):Zh (envX prog (ZaK 47) [] 79250227772808467515411824639 8) Tryz.f98 Zn Z7 a=Zs5 a.1 a.2.1 a.2.2.1 a.2.2.2:=by kernel_rfl
end
end Go.Proofs.YtghoimllhpjkjaaGreat
