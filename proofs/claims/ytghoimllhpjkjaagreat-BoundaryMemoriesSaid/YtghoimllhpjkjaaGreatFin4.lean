import Derived.Test.YtghoimllhpjkjaaGreatS3D
import Derived.Test.YtghoimllhpjkjaaGreatProg
import Derived.Test.YtghoimllhpjkjaaGreatFin0
open Go.Proofs.Tryz (prog)
open Go.IntKind (u8 u16 i64)
set_option linter.unusedSimpArgs false
open Go Go.S3 Go.Proofs
set_option linter.unusedVariables false
set_option maxRecDepth 100000
namespace Go.Proofs.YtghoimllhpjkjaaGreat
noncomputable section
def ZCL (c:TC) (s:Int) (g:List Int) (ln:QT0):RT (Option TC):=
 let x1:QT1:=(c,s==5,g,(0,0,0,0,0,0,0,0),[])
 let x2:=qAtC x1 0
 let x3:=Zb c.1 (qAt x1 0)
 let x4:= !x2||x3.1==4
 let x5:=x3.2
 let x6:QT1:=(c,s==5,g,(4,x5),[])
 .br (Ze s) (.leaf (some ((c.1,(rgx c.2.1 c.2.1.2.2.2.2.2.2.2.1 (u16.wrap ((spOf c)-2)) (Zi s)),c.2.2)))) (.br (!x4||x2) (.br (x4) (.br (ZcV x6 1) (.leaf (some ((c.1,Zr (rgx c.2.1 c.2.1.2.2.2.2.2.2.2.1 (spOf c) (ZE x6)) x5.2.2.2.1 (Zgm x6 1),c.2.2.1,false,false,c.2.2.2.2.2)))) (.leaf none)) (.leaf none)) (.leaf none))
theorem ZPR (a:HL Zo):Zh (envX prog (ZaL 4) [] 1023 8) Tryz.f111 Zo Z9 a=ZCL a.1 a.2.1 a.2.2.1 a.2.2.2:=by kernel_rfl
def ZCH (c:TC) (s:Int) (g:List Int) (ln:QT0):RT (Option TC):=
 let x1:QT1:=(c,s==5,g,(0,0,0,0,0,0,0,0),[])
 let x2:=qAtC x1 0
 let x3:=Zb c.1 (qAt x1 0)
 let x4:= !x2||x3.1==8
 .br (Ze s) (.leaf (some ((c.1,(rgx c.2.1 c.2.1.2.2.2.2.2.2.2.1 (u16.wrap ((spOf c)-2)) (Zi s)),c.2.2)))) (.br (!x4||x2) (.br (x4) (.leaf (some ((c.1,(rgx c.2.1 c.2.1.2.2.2.2.2.2.2.1 (spOf c) (ZE (c,s==5,g,(8,x3.2),[]))),c.2.2.1,false,false,c.2.2.2.2.2)))) (.leaf none)) (.leaf none))
theorem ZPN (a:HL Zo):Zh (envX prog (ZaL 8) [] 1023 8) Tryz.f111 Zo Z9 a=ZCH a.1 a.2.1 a.2.2.1 a.2.2.2:=by kernel_rfl
def Zu4 (c:TC) (s:Int) (g:List Int) (ln:QT0):RT (Option TC):=
 let x1:QT1:=(c,s==5,g,(0,0,0,0,0,0,0,0),[])
 let x2:=qAtC x1 0
 let x3:=Zb c.1 (qAt x1 0)
 let x4:= !x2||x3.1==12
 let x5:=x3.2
 let x6:QT1:=(c,s==5,g,(12,x5),[])
 let x7:=rDo c.1 x5.2.2.2.2.1 c.2.1.1 (ZiA x6) c.2.1.2.2.2.2.2.2.2.1
 .br (Ze s) (.leaf (some ((c.1,(rgx c.2.1 c.2.1.2.2.2.2.2.2.2.1 (u16.wrap ((spOf c)-2)) (Zi s)),c.2.2)))) (.br (!x4||x2) (.br (x4) (.br (Zgl x6) (.leaf (some ((c.1,(x7.1,c.2.1.2.1,c.2.1.2.2.1,c.2.1.2.2.2.1,c.2.1.2.2.2.2.1,c.2.1.2.2.2.2.2.1,c.2.1.2.2.2.2.2.2.1,x7.2,spOf c,ZE x6),c.2.2.1,false,false,c.2.2.2.2.2)))) (.leaf none)) (.leaf none)) (.leaf none))
theorem ZJ1 (a:HL Zo):Zh (envX prog (ZaL 12) [] 1023 8) Tryz.f111 Zo Z9 a=Zu4 a.1 a.2.1 a.2.2.1 a.2.2.2:=by kernel_rfl
def Zu0 (c:TC) (s:Int) (g:List Int) (ln:QT0):RT (Option TC):=
 let x1:QT1:=(c,s==5,g,(0,0,0,0,0,0,0,0),[])
 let x2:=qAtC x1 0
 let x3:=Zb c.1 (qAt x1 0)
 let x4:= !x2||x3.1==16
 let x5:=x3.2
 let x6:QT1:=(c,s==5,g,(16,x5),[])
 let x7:=x5.2.2.2.1
 let x8:=rInx c.1 (Zef x6 x7) c.2.1.2.2.2.2.2.2.2.1
 .br (Ze s) (.leaf (some ((c.1,(rgx c.2.1 c.2.1.2.2.2.2.2.2.2.1 (u16.wrap ((spOf c)-2)) (Zi s)),c.2.2)))) (.br (!x4||x2) (.br (x4) (.leaf (some ((c.1,Zr (rgx c.2.1 x8.2 (spOf c) (ZE x6)) x7 x8.1,c.2.2.1,false,false,c.2.2.2.2.2)))) (.leaf none)) (.leaf none))
theorem ZJX (a:HL Zo):Zh (envX prog (ZaL 16) [] 1023 8) Tryz.f111 Zo Z9 a=Zu0 a.1 a.2.1 a.2.2.1 a.2.2.2:=by kernel_rfl
def ZuW (c:TC) (s:Int) (g:List Int) (ln:QT0):RT (Option TC):=
 let x1:QT1:=(c,s==5,g,(0,0,0,0,0,0,0,0),[])
 let x2:=qAtC x1 0
 let x3:=Zb c.1 (qAt x1 0)
 let x4:= !x2||x3.1==20
 .br (Ze s) (.leaf (some ((c.1,(rgx c.2.1 c.2.1.2.2.2.2.2.2.2.1 (u16.wrap ((spOf c)-2)) (Zi s)),c.2.2)))) (.br (!x4||x2) (.br (x4) (.leaf (some ((c.1,(notI u8 c.2.1.1,c.2.1.2.1,c.2.1.2.2.1,c.2.1.2.2.2.1,c.2.1.2.2.2.2.1,c.2.1.2.2.2.2.2.1,c.2.1.2.2.2.2.2.2.1,c.2.1.2.2.2.2.2.2.2.1,spOf c,ZE (c,s==5,g,(20,x3.2),[])),c.2.2.1,false,false,c.2.2.2.2.2)))) (.leaf none)) (.leaf none))
theorem ZJT (a:HL Zo):Zh (envX prog (ZaL 20) [] 1023 8) Tryz.f111 Zo Z9 a=ZuW a.1 a.2.1 a.2.2.1 a.2.2.2:=by kernel_rfl
def ZuS (c:TC) (s:Int) (g:List Int) (ln:QT0):RT (Option TC):=
 let x1:QT1:=(c,s==5,g,(0,0,0,0,0,0,0,0),[])
 let x2:=qAtC x1 0
 let x3:=Zb c.1 (qAt x1 0)
 let x4:= !x2||x3.1==24
 let x5:QT1:=(c,s==5,g,(24,x3.2),[])
 let x6:=Zhq x5
 .br (Ze s) (.leaf (some ((c.1,(rgx c.2.1 c.2.1.2.2.2.2.2.2.2.1 (u16.wrap ((spOf c)-2)) (Zi s)),c.2.2)))) (.br (!x4||x2) (.br (x4) (.br (!x6||ZcV x5 1) (.leaf (some ((c.1,(rgx c.2.1 c.2.1.2.2.2.2.2.2.2.1 (spOf c) (bif x6 then Zgm x5 1 else ZE x5)),c.2.2.1,false,false,c.2.2.2.2.2)))) (.leaf none)) (.leaf none)) (.leaf none))
theorem ZJP (a:HL Zo):Zh (envX prog (ZaL 24) [] 1023 8) Tryz.f111 Zo Z9 a=ZuS a.1 a.2.1 a.2.2.1 a.2.2.2:=by kernel_rfl
def ZuO (c:TC) (s:Int) (g:List Int) (ln:QT0):RT (Option TC):=
 let x1:QT1:=(c,s==5,g,(0,0,0,0,0,0,0,0),[])
 let x2:=qAtC x1 0
 let x3:=Zb c.1 (qAt x1 0)
 let x4:= !x2||x3.1==28
 .br (Ze s) (.leaf (some ((c.1,(rgx c.2.1 c.2.1.2.2.2.2.2.2.2.1 (u16.wrap ((spOf c)-2)) (Zi s)),c.2.2)))) (.br (!x4||x2) (.br (x4) (.leaf (some ((c.1,(rgx c.2.1 c.2.1.2.2.2.2.2.2.2.1 (spOf c) (Zef (c,s==5,g,(28,x3.2),[]) 2)),c.2.2.1,false,false,c.2.2.2.2.2)))) (.leaf none)) (.leaf none))
theorem ZJL (a:HL Zo):Zh (envX prog (ZaL 28) [] 1023 8) Tryz.f111 Zo Z9 a=ZuO a.1 a.2.1 a.2.2.1 a.2.2.2:=by kernel_rfl
def ZuK (c:TC) (s:Int) (g:List Int) (ln:QT0):RT (Option TC):=
 let x1:QT1:=(c,s==5,g,(0,0,0,0,0,0,0,0),[])
 let x2:=qAtC x1 0
 let x3:=Zb c.1 (qAt x1 0)
 let x4:= !x2||x3.1==32
 let x5:QT1:=(c,s==5,g,(32,x3.2),[])
 .br (Ze s) (.leaf (some ((c.1,(rgx c.2.1 c.2.1.2.2.2.2.2.2.2.1 (u16.wrap ((spOf c)-2)) (Zi s)),c.2.2)))) (.br (!x4||x2) (.br (x4) (.br (ZcV x5 1) (.leaf (some ((c.1,Zr (rgx c.2.1 c.2.1.2.2.2.2.2.2.2.1 (spOf c) (ZE x5)) 2 (Zgm x5 1),c.2.2.1,false,false,c.2.2.2.2.2)))) (.leaf none)) (.leaf none)) (.leaf none))
theorem ZJH (a:HL Zo):Zh (envX prog (ZaL 32) [] 1023 8) Tryz.f111 Zo Z9 a=ZuK a.1 a.2.1 a.2.2.1 a.2.2.2:=by kernel_rfl
def ZuG (c:TC) (s:Int) (g:List Int) (ln:QT0):RT (Option TC):=
 let x1:QT1:=(c,s==5,g,(0,0,0,0,0,0,0,0),[])
 let x2:=qAtC x1 0
 let x3:=Zb c.1 (qAt x1 0)
 let x4:= !x2||x3.1==36
 .br (Ze s) (.leaf (some ((c.1,(rgx c.2.1 c.2.1.2.2.2.2.2.2.2.1 (u16.wrap ((spOf c)-2)) (Zi s)),c.2.2)))) (.br (!x4||x2) (.br (x4) (.leaf (some ((c.1,(rgx c.2.1 c.2.1.2.2.2.2.2.2.2.1 (spOf c) (ZE (c,s==5,g,(36,x3.2),[]))),false,false,false,c.2.2.2.2.2)))) (.leaf none)) (.leaf none))
theorem ZJD (a:HL Zo):Zh (envX prog (ZaL 36) [] 1023 8) Tryz.f111 Zo Z9 a=ZuG a.1 a.2.1 a.2.2.1 a.2.2.2:=by kernel_rfl
def ZuC (c:TC) (s:Int) (g:List Int) (ln:QT0):RT (Option TC):=
 let x1:QT1:=(c,s==5,g,(0,0,0,0,0,0,0,0),[])
 let x2:=qAtC x1 0
 let x3:=Zb c.1 (qAt x1 0)
 let x4:= !x2||x3.1==40
 let x5:QT1:=(c,s==5,g,(40,x3.2),[])
 let x6:=Zxw (Zef x5 2) (Zef x5 0)
 .br (Ze s) (.leaf (some ((c.1,(rgx c.2.1 c.2.1.2.2.2.2.2.2.2.1 (u16.wrap ((spOf c)-2)) (Zi s)),c.2.2)))) (.br (!x4||x2) (.br (x4) (.leaf (some ((c.1,Zr (rgx c.2.1 x6.2 (spOf c) (ZE x5)) 2 x6.1,c.2.2.1,false,false,c.2.2.2.2.2)))) (.leaf none)) (.leaf none))
theorem ZJz (a:HL Zo):Zh (envX prog (ZaL 40) [] 1023 8) Tryz.f111 Zo Z9 a=ZuC a.1 a.2.1 a.2.2.1 a.2.2.2:=by kernel_rfl
def Zuy (c:TC) (s:Int) (g:List Int) (ln:QT0):RT (Option TC):=
 let x1:QT1:=(c,s==5,g,(0,0,0,0,0,0,0,0),[])
 let x2:=qAtC x1 0
 let x3:=Zb c.1 (qAt x1 0)
 let x4:= !x2||x3.1==44
 let x5:QT1:=(c,s==5,g,(44,x3.2),[])
 .br (Ze s) (.leaf (some ((c.1,(rgx c.2.1 c.2.1.2.2.2.2.2.2.2.1 (u16.wrap ((spOf c)-2)) (Zi s)),c.2.2)))) (.br (!x4||x2) (.br (x4) (.br (qAtC x5 1) (.leaf (some ((c.1,Zr (rgx c.2.1 c.2.1.2.2.2.2.2.2.2.1 (spOf c) (ZE x5)) 1 (u16.wrap ((spOf c)+u16.wrap (qAt x5 1))),c.2.2.1,false,false,c.2.2.2.2.2)))) (.leaf none)) (.leaf none)) (.leaf none))
theorem ZJv (a:HL Zo):Zh (envX prog (ZaL 44) [] 1023 8) Tryz.f111 Zo Z9 a=Zuy a.1 a.2.1 a.2.2.1 a.2.2.2:=by kernel_rfl
def ZBt (c:TC) (s:Int) (g:List Int) (ln:QT0):RT (Option TC):=
 let x1:=Zb c.1 (mAt (c,s==5,g,[]) 0)
 .br (Zc s) (.leaf (some ((c.1,(rgx c.2.1 c.2.1.2.2.2.2.2.2.2.1 (u16.wrap ((spOf c)-2)) (Zi s)),c.2.2)))) (.br (!mAtC (c,s==5,g,[]) 0||x1.1==1) (.br (mAtC (c,s==5,g,[]) 0) (.leaf (some ((c.1,(rgx c.2.1 c.2.1.2.2.2.2.2.2.2.1 (spOf c) (ZC (c,s==5,g,[]) x1.2.1)),c.2.2.1,false,false,c.2.2.2.2.2)))) (.leaf none)) (.leaf none))
theorem ZOc (a:HL Zn):Zh (envX prog (ZaK 1) [] 79250227772808467515411824639 8) Tryz.f98 Zn Z7 a=ZBt a.1 a.2.1 a.2.2.1 a.2.2.2:=by kernel_rfl
def ZBp (c:TC) (s:Int) (g:List Int) (ln:QT0):RT (Option TC):=
 let x1:=Zb c.1 (mAt (c,s==5,g,[]) 0)
 .br (Zc s) (.leaf (some ((c.1,(rgx c.2.1 c.2.1.2.2.2.2.2.2.2.1 (u16.wrap ((spOf c)-2)) (Zi s)),c.2.2)))) (.br (!mAtC (c,s==5,g,[]) 0||x1.1==5) (.br (mAtC (c,s==5,g,[]) 0) (.br (mAtC (c,s==5,g,[]) 3) (.leaf (some ((c.1,(mAt (c,s==5,g,[]) 3,c.2.1.2.1,c.2.1.2.2.1,c.2.1.2.2.2.1,c.2.1.2.2.2.2.1,c.2.1.2.2.2.2.2.1,c.2.1.2.2.2.2.2.2.1,c.2.1.2.2.2.2.2.2.2.1,spOf c,ZC (c,s==5,g,[]) x1.2.1),c.2.2.1,false,false,c.2.2.2.2.2)))) (.leaf none)) (.leaf none)) (.leaf none))
theorem ZN8 (a:HL Zn):Zh (envX prog (ZaK 5) [] 79250227772808467515411824639 8) Tryz.f98 Zn Z7 a=ZBp a.1 a.2.1 a.2.2.1 a.2.2.2:=by kernel_rfl
def ZBl (c:TC) (s:Int) (g:List Int) (ln:QT0):RT (Option TC):=
 let x1:=Zb c.1 (mAt (c,s==5,g,[]) 0)
 .br (Zc s) (.leaf (some ((c.1,(rgx c.2.1 c.2.1.2.2.2.2.2.2.2.1 (u16.wrap ((spOf c)-2)) (Zi s)),c.2.2)))) (.br (!mAtC (c,s==5,g,[]) 0||x1.1==9) (.br (mAtC (c,s==5,g,[]) 0) (.br (mAtC (c,s==5,g,[]) 1) (.leaf (some ((c.1,(mAt (c,s==5,g,[]) 1,c.2.1.2.1,c.2.1.2.2.1,c.2.1.2.2.2.1,c.2.1.2.2.2.2.1,c.2.1.2.2.2.2.2.1,c.2.1.2.2.2.2.2.2.1,c.2.1.2.2.2.2.2.2.2.1,spOf c,ZC (c,s==5,g,[]) x1.2.1),c.2.2.1,false,false,c.2.2.2.2.2)))) (.leaf none)) (.leaf none)) (.leaf none))
theorem ZN4 (a:HL Zn):Zh (envX prog (ZaK 9) [] 79250227772808467515411824639 8) Tryz.f98 Zn Z7 a=ZBl a.1 a.2.1 a.2.2.1 a.2.2.2:=by kernel_rfl
def ZtD (c:TC) (s:Int) (g:List Int) (ln:QT0):RT (Option TC):=
 let x1:=Zb c.1 (mAt (c,s==5,g,[]) 0)
 let x2:=x1.2
 let x3:=rDo c.1 x2.2.2.2.2.1 c.2.1.1 (mAt (c,s==5,g,[]) 1) c.2.1.2.2.2.2.2.2.2.1
 .br (Zc s) (.leaf (some ((c.1,(rgx c.2.1 c.2.1.2.2.2.2.2.2.2.1 (u16.wrap ((spOf c)-2)) (Zi s)),c.2.2)))) (.br (!mAtC (c,s==5,g,[]) 0||x1.1==13) (.br (mAtC (c,s==5,g,[]) 0) (.br (mAtC (c,s==5,g,[]) 1) (.leaf (some ((c.1,(x3.1,c.2.1.2.1,c.2.1.2.2.1,c.2.1.2.2.2.1,c.2.1.2.2.2.2.1,c.2.1.2.2.2.2.2.1,c.2.1.2.2.2.2.2.2.1,x3.2,spOf c,ZC (c,s==5,g,[]) x2.1),c.2.2.1,false,false,c.2.2.2.2.2)))) (.leaf none)) (.leaf none)) (.leaf none))
theorem ZIS (a:HL Zn):Zh (envX prog (ZaK 13) [] 79250227772808467515411824639 8) Tryz.f98 Zn Z7 a=ZtD a.1 a.2.1 a.2.2.1 a.2.2.2:=by kernel_rfl
def Ztz (c:TC) (s:Int) (g:List Int) (ln:QT0):RT (Option TC):=
 let x1:=Zb c.1 (mAt (c,s==5,g,[]) 0)
 let x2:=x1.2
 let x3:=x2.2.2.2.1
 let x4:=rDcx c.1 (Zan c.2.1 x3) c.2.1.2.2.2.2.2.2.2.1
 let x5:=Zr c.2.1 x3 x4.1
 let x6:=x5.2
 let x7:=x6.2
 let x8:=x7.2
 let x9:=x8.2
 let x10:=x9.2
 let x11:=x10.2
 .br (Zc s) (.leaf (some ((c.1,(rgx c.2.1 c.2.1.2.2.2.2.2.2.2.1 (u16.wrap ((spOf c)-2)) (Zi s)),c.2.2)))) (.br (!mAtC (c,s==5,g,[]) 0||x1.1==17) (.br (mAtC (c,s==5,g,[]) 0) (.leaf (some ((c.1,(x5.1,x6.1,x7.1,x8.1,x9.1,x10.1,x11.1,x4.2,x11.2.2.1,ZC (c,s==5,g,[]) x2.1),c.2.2.1,false,false,c.2.2.2.2.2)))) (.leaf none)) (.leaf none))
theorem ZIO (a:HL Zn):Zh (envX prog (ZaK 17) [] 79250227772808467515411824639 8) Tryz.f98 Zn Z7 a=Ztz a.1 a.2.1 a.2.2.1 a.2.2.2:=by kernel_rfl
def Ztv (c:TC) (s:Int) (g:List Int) (ln:QT0):RT (Option TC):=
 let x1:=Zb c.1 (mAt (c,s==5,g,[]) 0)
 let x2:=c.2.1.2.2.2.2.2.2.2.1.2.2.2
 let x3:=x2.2
 .br (Zc s) (.leaf (some ((c.1,(rgx c.2.1 c.2.1.2.2.2.2.2.2.2.1 (u16.wrap ((spOf c)-2)) (Zi s)),c.2.2)))) (.br (!mAtC (c,s==5,g,[]) 0||x1.1==21) (.br (mAtC (c,s==5,g,[]) 0) (.leaf (some ((c.1,(rgx c.2.1 ((c.2.1.2.2.2.2.2.2.2.1.1,c.2.1.2.2.2.2.2.2.2.1.2.1,c.2.1.2.2.2.2.2.2.2.1.2.2.1,x2.1,x3.1,x3.2.1,true)) (spOf c) (ZC (c,s==5,g,[]) x1.2.1)),c.2.2.1,false,false,c.2.2.2.2.2)))) (.leaf none)) (.leaf none))
theorem ZIK (a:HL Zn):Zh (envX prog (ZaK 21) [] 79250227772808467515411824639 8) Tryz.f98 Zn Z7 a=Ztv a.1 a.2.1 a.2.2.1 a.2.2.2:=by kernel_rfl
def Ztr (c:TC) (s:Int) (g:List Int) (ln:QT0):RT (Option TC):=
 let x1:=u16.wrap ((spOf c)-2)
 let x2:=Zb c.1 (mAt (c,s==5,g,[]) 0)
 let x3:=x2.2
 let x4:= !ZeH (c,s==5,g,[]) (25,x3)
 let x5:=c.2.1.2.2.2.2.2.2.2.1.2.2.1
 let x6:=c.2.1.2.2.2.2.2.2.2.1.2.2.2
 let x7:=x6.1
 let x8:=x6.2
 let x9:=x8.1
 let x10:=x8.2
 let x11:=x10.1
 let x12:=x10.2
 .br (Zc s) (.leaf (some ((c.1,(rgx c.2.1 c.2.1.2.2.2.2.2.2.2.1 x1 (Zi s)),c.2.2)))) (.br (!mAtC (c,s==5,g,[]) 0||x2.1==25) (.br (mAtC (c,s==5,g,[]) 0) (.br (x4||Zcm (c,s==5,g,[]) 1) (.leaf (some ((bif x4 then c.1 else c.1,(bif x4 then c.2.1.1 else c.2.1.1,bif x4 then c.2.1.2.1 else c.2.1.2.1,bif x4 then c.2.1.2.2.1 else c.2.1.2.2.1,bif x4 then c.2.1.2.2.2.1 else c.2.1.2.2.2.1,bif x4 then c.2.1.2.2.2.2.1 else c.2.1.2.2.2.2.1,bif x4 then c.2.1.2.2.2.2.2.1 else c.2.1.2.2.2.2.2.1,bif x4 then c.2.1.2.2.2.2.2.2.1 else c.2.1.2.2.2.2.2.2.1,(bif x4 then c.2.1.2.2.2.2.2.2.2.1.1 else c.2.1.2.2.2.2.2.2.2.1.1,bif x4 then c.2.1.2.2.2.2.2.2.2.1.2.1 else c.2.1.2.2.2.2.2.2.2.1.2.1,bif x4 then x5 else x5,bif x4 then x7 else x7,bif x4 then x9 else x9,bif x4 then x11 else x11,bif x4 then x12 else x12),bif x4 then (spOf c) else x1,bif x4 then ZC (c,s==5,g,[]) x3.1 else ZeN (c,s==5,g,[]) 1),bif x4 then c.2.2.1 else c.2.2.1,false,false,bif x4 then c.2.2.2.2.2.1 else c.2.2.2.2.2.1,bif x4 then c.2.2.2.2.2.2.1 else c.2.2.2.2.2.2.1,bif x4 then c.2.2.2.2.2.2.2.1 else c.2.2.2.2.2.2.2.1,bif x4 then c.2.2.2.2.2.2.2.2.1 else c.2.2.2.2.2.2.2.2.1,bif x4 then c.2.2.2.2.2.2.2.2.2.1 else c.2.2.2.2.2.2.2.2.2.1,bif x4 then c.2.2.2.2.2.2.2.2.2.2.1 else c.2.2.2.2.2.2.2.2.2.2.1,bif x4 then c.2.2.2.2.2.2.2.2.2.2.2.1 else c.2.2.2.2.2.2.2.2.2.2.2.1,bif x4 then c.2.2.2.2.2.2.2.2.2.2.2.2 else c.2.2.2.2.2.2.2.2.2.2.2.2)))) (.leaf none)) (.leaf none)) (.leaf none))
theorem ZIG (a:HL Zn):Zh (envX prog (ZaK 25) [] 79250227772808467515411824639 8) Tryz.f98 Zn Z7 a=Ztr a.1 a.2.1 a.2.2.1 a.2.2.2:=by kernel_rfl
def Ztn (c:TC) (s:Int) (g:List Int) (ln:QT0):RT (Option TC):=
 let x1:=Zb c.1 (mAt (c,s==5,g,[]) 0)
 .br (Zc s) (.leaf (some ((c.1,(rgx c.2.1 c.2.1.2.2.2.2.2.2.2.1 (u16.wrap ((spOf c)-2)) (Zi s)),c.2.2)))) (.br (!mAtC (c,s==5,g,[]) 0||x1.1==29) (.br (mAtC (c,s==5,g,[]) 0) (.leaf (some ((c.1,(rgx c.2.1 c.2.1.2.2.2.2.2.2.2.1 (Zan c.2.1 2) (ZC (c,s==5,g,[]) x1.2.1)),c.2.2.1,false,false,c.2.2.2.2.2)))) (.leaf none)) (.leaf none))
theorem ZIC (a:HL Zn):Zh (envX prog (ZaK 29) [] 79250227772808467515411824639 8) Tryz.f98 Zn Z7 a=Ztn a.1 a.2.1 a.2.2.1 a.2.2.2:=by kernel_rfl
def Ztj (c:TC) (s:Int) (g:List Int) (ln:QT0):RT (Option TC):=
 let x1:=Zb c.1 (mAt (c,s==5,g,[]) 0)
 .br (Zc s) (.leaf (some ((c.1,(rgx c.2.1 c.2.1.2.2.2.2.2.2.2.1 (u16.wrap ((spOf c)-2)) (Zi s)),c.2.2)))) (.br (!mAtC (c,s==5,g,[]) 0||x1.1==33) (.br (mAtC (c,s==5,g,[]) 0) (.br (mAtC (c,s==5,g,[]) 2) (.leaf (some ((c.1,(mAt (c,s==5,g,[]) 2,c.2.1.2.1,c.2.1.2.2.1,c.2.1.2.2.2.1,c.2.1.2.2.2.2.1,c.2.1.2.2.2.2.2.1,c.2.1.2.2.2.2.2.2.1,c.2.1.2.2.2.2.2.2.2.1,spOf c,ZC (c,s==5,g,[]) x1.2.1),c.2.2.1,false,false,c.2.2.2.2.2)))) (.leaf none)) (.leaf none)) (.leaf none))
theorem ZIy (a:HL Zn):Zh (envX prog (ZaK 33) [] 79250227772808467515411824639 8) Tryz.f98 Zn Z7 a=Ztj a.1 a.2.1 a.2.2.1 a.2.2.2:=by kernel_rfl
def Ztf (c:TC) (s:Int) (g:List Int) (ln:QT0):RT (Option TC):=
 let x1:=Zb c.1 (mAt (c,s==5,g,[]) 0)
 .br (Zc s) (.leaf (some ((c.1,(rgx c.2.1 c.2.1.2.2.2.2.2.2.2.1 (u16.wrap ((spOf c)-2)) (Zi s)),c.2.2)))) (.br (!mAtC (c,s==5,g,[]) 0||x1.1==37) (.br (mAtC (c,s==5,g,[]) 0) (.leaf (some ((c.1,(rgx c.2.1 c.2.1.2.2.2.2.2.2.2.1 (spOf c) (ZC (c,s==5,g,[]) x1.2.1)),c.2.2.1,false,true,c.2.2.2.2.2)))) (.leaf none)) (.leaf none))
theorem ZIu (a:HL Zn):Zh (envX prog (ZaK 37) [] 79250227772808467515411824639 8) Tryz.f98 Zn Z7 a=Ztf a.1 a.2.1 a.2.2.1 a.2.2.2:=by kernel_rfl
def Ztb (c:TC) (s:Int) (g:List Int) (ln:QT0):RT (Option TC):=
 let x1:=Zb c.1 (mAt (c,s==5,g,[]) 0)
 let x2:Int×Int×Int×Int×Int×TF×Int×Int:=(Zr c.2.1 2 (ZtM (Zan c.2.1 2)).1).2.2
 let x3:=x2.2
 let x4:=x3.2
 let x5:=x4.2
 let x6:=x5.2
 let x7:=x6.2
 let x8:=x7.1
 let x9:=x8.2
 let x10:=x9.2
 let x11:=x10.2
 let x12:=x11.2
 .br (Zc s) (.leaf (some ((c.1,(rgx c.2.1 c.2.1.2.2.2.2.2.2.2.1 (u16.wrap ((spOf c)-2)) (Zi s)),c.2.2)))) (.br (!mAtC (c,s==5,g,[]) 0||x1.1==41) (.br (mAtC (c,s==5,g,[]) 0) (.leaf (some ((c.1,((Zr c.2.1 2 (ZtM (Zan c.2.1 2)).1).1,(Zr c.2.1 2 (ZtM (Zan c.2.1 2)).1).2.1,x2.1,x3.1,x4.1,x5.1,x6.1,(x8.1,x9.1,x10.1,x11.1,x12.1,x12.2.1,(ZtM (Zan c.2.1 2)).2),x7.2.1,ZC (c,s==5,g,[]) x1.2.1),c.2.2.1,false,false,c.2.2.2.2.2)))) (.leaf none)) (.leaf none))
theorem ZIq (a:HL Zn):Zh (envX prog (ZaK 41) [] 79250227772808467515411824639 8) Tryz.f98 Zn Z7 a=Ztb a.1 a.2.1 a.2.2.1 a.2.2.2:=by kernel_rfl
def Zs7 (c:TC) (s:Int) (g:List Int) (ln:QT0):RT (Option TC):=
 let x1:=u16.wrap ((spOf c)-2)
 let x2:=Zb c.1 (mAt (c,s==5,g,[]) 0)
 let x3:=x2.2
 let x4:= !ZeH (c,s==5,g,[]) (45,x3)
 let x5:=c.2.1.2.2.2.2.2.2.2.1.2.2.1
 let x6:=c.2.1.2.2.2.2.2.2.2.1.2.2.2
 let x7:=x6.1
 let x8:=x6.2
 let x9:=x8.1
 let x10:=x8.2
 let x11:=x10.1
 let x12:=x10.2
 .br (Zc s) (.leaf (some ((c.1,(rgx c.2.1 c.2.1.2.2.2.2.2.2.2.1 x1 (Zi s)),c.2.2)))) (.br (!mAtC (c,s==5,g,[]) 0||x2.1==45) (.br (mAtC (c,s==5,g,[]) 0) (.leaf (some ((bif x4 then c.1 else c.1,(bif x4 then c.2.1.1 else c.2.1.1,bif x4 then c.2.1.2.1 else c.2.1.2.1,bif x4 then c.2.1.2.2.1 else c.2.1.2.2.1,bif x4 then c.2.1.2.2.2.1 else c.2.1.2.2.2.1,bif x4 then c.2.1.2.2.2.2.1 else c.2.1.2.2.2.2.1,bif x4 then c.2.1.2.2.2.2.2.1 else c.2.1.2.2.2.2.2.1,bif x4 then c.2.1.2.2.2.2.2.2.1 else c.2.1.2.2.2.2.2.2.1,(bif x4 then c.2.1.2.2.2.2.2.2.2.1.1 else c.2.1.2.2.2.2.2.2.2.1.1,bif x4 then c.2.1.2.2.2.2.2.2.2.1.2.1 else c.2.1.2.2.2.2.2.2.2.1.2.1,bif x4 then x5 else x5,bif x4 then x7 else x7,bif x4 then x9 else x9,bif x4 then x11 else x11,bif x4 then x12 else x12),bif x4 then (spOf c) else x1,bif x4 then ZC (c,s==5,g,[]) x3.1 else 64),bif x4 then c.2.2.1 else c.2.2.1,false,false,bif x4 then c.2.2.2.2.2.1 else c.2.2.2.2.2.1,bif x4 then c.2.2.2.2.2.2.1 else c.2.2.2.2.2.2.1,bif x4 then c.2.2.2.2.2.2.2.1 else c.2.2.2.2.2.2.2.1,bif x4 then c.2.2.2.2.2.2.2.2.1 else c.2.2.2.2.2.2.2.2.1,bif x4 then c.2.2.2.2.2.2.2.2.2.1 else c.2.2.2.2.2.2.2.2.2.1,bif x4 then c.2.2.2.2.2.2.2.2.2.2.1 else c.2.2.2.2.2.2.2.2.2.2.1,bif x4 then c.2.2.2.2.2.2.2.2.2.2.2.1 else c.2.2.2.2.2.2.2.2.2.2.2.1,bif x4 then c.2.2.2.2.2.2.2.2.2.2.2.2 else c.2.2.2.2.2.2.2.2.2.2.2.2)))) (.leaf none)) (.leaf none))
theorem ZIm (a:HL Zn):Zh (envX prog (ZaK 45) [] 79250227772808467515411824639 8) Tryz.f98 Zn Z7 a=Zs7 a.1 a.2.1 a.2.2.1 a.2.2.2:=by kernel_rfl
end
end Go.Proofs.YtghoimllhpjkjaaGreat
