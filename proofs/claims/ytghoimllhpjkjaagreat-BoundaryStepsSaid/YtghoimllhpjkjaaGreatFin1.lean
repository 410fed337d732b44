import Derived.Test.YtghoimllhpjkjaaGreatFin0
open Go.IntKind (u8 u16 i64)
set_option linter.unusedSimpArgs false
open Go Go.S3 Go.Proofs
set_option linter.unusedVariables false
set_option maxRecDepth 100000
namespace Go.Proofs.YtghoimllhpjkjaaGreat
noncomputable section
def ZDM (c:TC) (s:Int) (g:List Int) (ln:QT0):RT (Option TC):=
 let x1:QT1:=(c,s==5,g,(0,0,0,0,0,0,0,0),[])
 let x2:=qAtC x1 0
 let x3:=Zb c.1 (qAt x1 0)
 let x4:= !x2||x3.1==1
 .br (Zf s) (.Lf (some ((c.1,(rgx c.2.1 c.2.1.2.2.2.2.2.2.2.1 (u16.wrap ((spOf c)-2)) (Zk s)),c.2.2)))) (.br (!x4||x2) (.br (x4) (.Lf (some ((c.1,(rgx c.2.1 c.2.1.2.2.2.2.2.2.2.1 (spOf c) (ZG (c,s==5,g,(1,x3.2),[]))),c.2.2.1,false,false,c.2.2.2.2.2)))) (.Lf none)) (.Lf none))
theorem ZRl (a:HL ZY):EV0 1 a=ZDM a.1 a.2.1 a.2.2.1 a.2.2.2:=by kernel_rfl
def ZDI (c:TC) (s:Int) (g:List Int) (ln:QT0):RT (Option TC):=
 let x1:QT1:=(c,s==5,g,(0,0,0,0,0,0,0,0),[])
 let x2:=qAtC x1 0
 let x3:=Zb c.1 (qAt x1 0)
 let x4:= !x2||x3.1==5
 let x5:QT1:=(c,s==5,g,(5,x3.2),[])
 .br (Zf s) (.Lf (some ((c.1,(rgx c.2.1 c.2.1.2.2.2.2.2.2.2.1 (u16.wrap ((spOf c)-2)) (Zk s)),c.2.2)))) (.br (!x4||x2) (.br (x4) (.br (qAtC x5 3) (.Lf (some ((c.1,(qAt x5 3,c.2.1.2.1,c.2.1.2.2.1,c.2.1.2.2.2.1,c.2.1.2.2.2.2.1,c.2.1.2.2.2.2.2.1,c.2.1.2.2.2.2.2.2.1,c.2.1.2.2.2.2.2.2.2.1,spOf c,ZG x5),c.2.2.1,false,false,c.2.2.2.2.2)))) (.Lf none)) (.Lf none)) (.Lf none))
theorem ZRh (a:HL ZY):EV0 5 a=ZDI a.1 a.2.1 a.2.2.1 a.2.2.2:=by kernel_rfl
def ZDE (c:TC) (s:Int) (g:List Int) (ln:QT0):RT (Option TC):=
 let x1:QT1:=(c,s==5,g,(0,0,0,0,0,0,0,0),[])
 let x2:=qAtC x1 0
 let x3:=Zb c.1 (qAt x1 0)
 let x4:= !x2||x3.1==9
 let x5:QT1:=(c,s==5,g,(9,x3.2),[])
 .br (Zf s) (.Lf (some ((c.1,(rgx c.2.1 c.2.1.2.2.2.2.2.2.2.1 (u16.wrap ((spOf c)-2)) (Zk s)),c.2.2)))) (.br (!x4||x2) (.br (x4) (.br (qAtC x5 1) (.Lf (some ((c.1,(qAt x5 1,c.2.1.2.1,c.2.1.2.2.1,c.2.1.2.2.2.1,c.2.1.2.2.2.2.1,c.2.1.2.2.2.2.2.1,c.2.1.2.2.2.2.2.2.1,c.2.1.2.2.2.2.2.2.2.1,spOf c,ZG x5),c.2.2.1,false,false,c.2.2.2.2.2)))) (.Lf none)) (.Lf none)) (.Lf none))
theorem ZRd (a:HL ZY):EV0 9 a=ZDE a.1 a.2.1 a.2.2.1 a.2.2.2:=by kernel_rfl
def ZvF (c:TC) (s:Int) (g:List Int) (ln:QT0):RT (Option TC):=
 let x1:QT1:=(c,s==5,g,(0,0,0,0,0,0,0,0),[])
 let x2:=qAtC x1 0
 let x3:=Zb c.1 (qAt x1 0)
 let x4:= !x2||x3.1==13
 let x5:=x3.2
 let x6:QT1:=(c,s==5,g,(13,x5),[])
 let x7:=rDo c.1 x5.2.2.2.2.1 c.2.1.1 (ZiQ x6) c.2.1.2.2.2.2.2.2.2.1
 .br (Zf s) (.Lf (some ((c.1,(rgx c.2.1 c.2.1.2.2.2.2.2.2.2.1 (u16.wrap ((spOf c)-2)) (Zk s)),c.2.2)))) (.br (!x4||x2) (.br (x4) (.br (Zgx x6) (.Lf (some ((c.1,(x7.1,c.2.1.2.1,c.2.1.2.2.1,c.2.1.2.2.2.1,c.2.1.2.2.2.2.1,c.2.1.2.2.2.2.2.1,c.2.1.2.2.2.2.2.2.1,x7.2,spOf c,ZG x6),c.2.2.1,false,false,c.2.2.2.2.2)))) (.Lf none)) (.Lf none)) (.Lf none))
theorem ZLi (a:HL ZY):EV0 13 a=ZvF a.1 a.2.1 a.2.2.1 a.2.2.2:=by kernel_rfl
def ZvB (c:TC) (s:Int) (g:List Int) (ln:QT0):RT (Option TC):=
 let x1:QT1:=(c,s==5,g,(0,0,0,0,0,0,0,0),[])
 let x2:=qAtC x1 0
 let x3:=Zb c.1 (qAt x1 0)
 let x4:= !x2||x3.1==17
 let x5:=x3.2
 let x6:QT1:=(c,s==5,g,(17,x5),[])
 let x7:=x5.2.2.2.1
 let x8:=rDcx c.1 (Zej x6 x7) c.2.1.2.2.2.2.2.2.2.1
 .br (Zf s) (.Lf (some ((c.1,(rgx c.2.1 c.2.1.2.2.2.2.2.2.2.1 (u16.wrap ((spOf c)-2)) (Zk s)),c.2.2)))) (.br (!x4||x2) (.br (x4) (.Lf (some ((c.1,Zn (rgx c.2.1 x8.2 (spOf c) (ZG x6)) x7 x8.1,c.2.2.1,false,false,c.2.2.2.2.2)))) (.Lf none)) (.Lf none))
theorem ZLe (a:HL ZY):EV0 17 a=ZvB a.1 a.2.1 a.2.2.1 a.2.2.2:=by kernel_rfl
def Zvx (c:TC) (s:Int) (g:List Int) (ln:QT0):RT (Option TC):=
 let x1:QT1:=(c,s==5,g,(0,0,0,0,0,0,0,0),[])
 let x2:=qAtC x1 0
 let x3:=Zb c.1 (qAt x1 0)
 let x4:= !x2||x3.1==21
 let x5:=c.2.1.2.2.2.2.2.2.2.1.2.2.2
 let x6:=x5.2
 .br (Zf s) (.Lf (some ((c.1,(rgx c.2.1 c.2.1.2.2.2.2.2.2.2.1 (u16.wrap ((spOf c)-2)) (Zk s)),c.2.2)))) (.br (!x4||x2) (.br (x4) (.Lf (some ((c.1,(rgx c.2.1 ((c.2.1.2.2.2.2.2.2.2.1.1,c.2.1.2.2.2.2.2.2.2.1.2.1,c.2.1.2.2.2.2.2.2.2.1.2.2.1,x5.1,x6.1,x6.2.1,true)) (spOf c) (ZG (c,s==5,g,(21,x3.2),[]))),c.2.2.1,false,false,c.2.2.2.2.2)))) (.Lf none)) (.Lf none))
theorem ZLa (a:HL ZY):EV0 21 a=Zvx a.1 a.2.1 a.2.2.1 a.2.2.2:=by kernel_rfl
def Zvt (c:TC) (s:Int) (g:List Int) (ln:QT0):RT (Option TC):=
 let x1:=u16.wrap ((spOf c)-2)
 let x2:QT1:=(c,s==5,g,(0,0,0,0,0,0,0,0),[])
 let x3:=qAtC x2 0
 let x4:=Zb c.1 (qAt x2 0)
 let x5:= !x3||x4.1==25
 let x6:QT1:=(c,s==5,g,(25,x4.2),[])
 let x7:=ZhD x6
 .br (Zf s) (.Lf (some ((c.1,(rgx c.2.1 c.2.1.2.2.2.2.2.2.2.1 x1 (Zk s)),c.2.2)))) (.br (!x5||x3) (.br (x5) (.br (!x7||ZcR x6 1) (.Lf (some ((c.1,(rgx c.2.1 c.2.1.2.2.2.2.2.2.2.1 (bif x7 then x1 else (spOf c)) (bif x7 then Zgy x6 1 else ZG x6)),c.2.2.1,false,false,c.2.2.2.2.2)))) (.Lf none)) (.Lf none)) (.Lf none))
theorem ZK6 (a:HL ZY):EV0 25 a=Zvt a.1 a.2.1 a.2.2.1 a.2.2.2:=by kernel_rfl
def Zvp (c:TC) (s:Int) (g:List Int) (ln:QT0):RT (Option TC):=
 let x1:QT1:=(c,s==5,g,(0,0,0,0,0,0,0,0),[])
 let x2:=qAtC x1 0
 let x3:=Zb c.1 (qAt x1 0)
 let x4:= !x2||x3.1==29
 let x5:QT1:=(c,s==5,g,(29,x3.2),[])
 .br (Zf s) (.Lf (some ((c.1,(rgx c.2.1 c.2.1.2.2.2.2.2.2.2.1 (u16.wrap ((spOf c)-2)) (Zk s)),c.2.2)))) (.br (!x4||x2) (.br (x4) (.Lf (some ((c.1,(rgx c.2.1 c.2.1.2.2.2.2.2.2.2.1 (Zej x5 2) (ZG x5)),c.2.2.1,false,false,c.2.2.2.2.2)))) (.Lf none)) (.Lf none))
theorem ZK2 (a:HL ZY):EV0 29 a=Zvp a.1 a.2.1 a.2.2.1 a.2.2.2:=by kernel_rfl
def Zvl (c:TC) (s:Int) (g:List Int) (ln:QT0):RT (Option TC):=
 let x1:QT1:=(c,s==5,g,(0,0,0,0,0,0,0,0),[])
 let x2:=qAtC x1 0
 let x3:=Zb c.1 (qAt x1 0)
 let x4:= !x2||x3.1==33
 let x5:QT1:=(c,s==5,g,(33,x3.2),[])
 .br (Zf s) (.Lf (some ((c.1,(rgx c.2.1 c.2.1.2.2.2.2.2.2.2.1 (u16.wrap ((spOf c)-2)) (Zk s)),c.2.2)))) (.br (!x4||x2) (.br (x4) (.br (qAtC x5 2) (.Lf (some ((c.1,(qAt x5 2,c.2.1.2.1,c.2.1.2.2.1,c.2.1.2.2.2.1,c.2.1.2.2.2.2.1,c.2.1.2.2.2.2.2.1,c.2.1.2.2.2.2.2.2.1,c.2.1.2.2.2.2.2.2.2.1,spOf c,ZG x5),c.2.2.1,false,false,c.2.2.2.2.2)))) (.Lf none)) (.Lf none)) (.Lf none))
theorem ZKY (a:HL ZY):EV0 33 a=Zvl a.1 a.2.1 a.2.2.1 a.2.2.2:=by kernel_rfl
def Zvh (c:TC) (s:Int) (g:List Int) (ln:QT0):RT (Option TC):=
 let x1:QT1:=(c,s==5,g,(0,0,0,0,0,0,0,0),[])
 let x2:=qAtC x1 0
 let x3:=Zb c.1 (qAt x1 0)
 let x4:= !x2||x3.1==37
 .br (Zf s) (.Lf (some ((c.1,(rgx c.2.1 c.2.1.2.2.2.2.2.2.2.1 (u16.wrap ((spOf c)-2)) (Zk s)),c.2.2)))) (.br (!x4||x2) (.br (x4) (.Lf (some ((c.1,(rgx c.2.1 c.2.1.2.2.2.2.2.2.2.1 (spOf c) (ZG (c,s==5,g,(37,x3.2),[]))),c.2.2.1,false,true,c.2.2.2.2.2)))) (.Lf none)) (.Lf none))
theorem ZKU (a:HL ZY):EV0 37 a=Zvh a.1 a.2.1 a.2.2.1 a.2.2.2:=by kernel_rfl
def Zvd (c:TC) (s:Int) (g:List Int) (ln:QT0):RT (Option TC):=
 let x1:QT1:=(c,s==5,g,(0,0,0,0,0,0,0,0),[])
 let x2:=qAtC x1 0
 let x3:=Zb c.1 (qAt x1 0)
 let x4:= !x2||x3.1==41
 let x5:=c.2.1.2.2.2.2.2.2.2.1.2.2.2
 let x6:=x5.2
 let x7:QT1:=(c,s==5,g,(41,x3.2),[])
 let x8:=Zuk (Zej x7 2)
 .br (Zf s) (.Lf (some ((c.1,(rgx c.2.1 c.2.1.2.2.2.2.2.2.2.1 (u16.wrap ((spOf c)-2)) (Zk s)),c.2.2)))) (.br (!x4||x2) (.br (x4) (.Lf (some ((c.1,Zn (rgx c.2.1 ((c.2.1.2.2.2.2.2.2.2.1.1,c.2.1.2.2.2.2.2.2.2.1.2.1,c.2.1.2.2.2.2.2.2.2.1.2.2.1,x5.1,x6.1,x6.2.1,x8.2)) (spOf c) (ZG x7)) 2 x8.1,c.2.2.1,false,false,c.2.2.2.2.2)))) (.Lf none)) (.Lf none))
theorem ZKQ (a:HL ZY):EV0 41 a=Zvd a.1 a.2.1 a.2.2.1 a.2.2.2:=by kernel_rfl
def Zu9 (c:TC) (s:Int) (g:List Int) (ln:QT0):RT (Option TC):=
 let x1:=u16.wrap ((spOf c)-2)
 let x2:QT1:=(c,s==5,g,(0,0,0,0,0,0,0,0),[])
 let x3:=qAtC x2 0
 let x4:=Zb c.1 (qAt x2 0)
 let x5:= !x3||x4.1==45
 let x6:QT1:=(c,s==5,g,(45,x4.2),[])
 let x7:=ZhD x6
 .br (Zf s) (.Lf (some ((c.1,(rgx c.2.1 c.2.1.2.2.2.2.2.2.2.1 x1 (Zk s)),c.2.2)))) (.br (!x5||x3) (.br (x5) (.Lf (some ((c.1,(rgx c.2.1 c.2.1.2.2.2.2.2.2.2.1 (bif x7 then x1 else (spOf c)) (bif x7 then 64 else ZG x6)),c.2.2.1,false,false,c.2.2.2.2.2)))) (.Lf none)) (.Lf none))
theorem ZKM (a:HL ZY):EV0 45 a=Zu9 a.1 a.2.1 a.2.2.1 a.2.2.2:=by kernel_rfl
def ZCl (c:TC) (s:Int) (g:List Int) (ln:QT0):RT (Option TC):=
 let x1:=Zb c.1 (mAt (c,s==5,g,[]) 0)
 let x2:=x1.2
 let x3:=x2.2
 let x4:=x3.2.1
 let x5:=x4==6
 let x6:=rSet c.2.1 x3.1 (bif x5 then mAt (c,s==5,g,[]) 1 else rGet c.2.1 x4)
 let x7:=x6.2
 let x8:=x7.2
 let x9:=x8.2
 let x10:=x9.2
 let x11:=x10.2
 let x12:=x11.2
 let x13:=x12.2
 .br (Zc s) (.Lf (some ((c.1,(rgx c.2.1 c.2.1.2.2.2.2.2.2.2.1 (u16.wrap ((spOf c)-2)) (Zk s)),c.2.2)))) (.br (!mAtC (c,s==5,g,[]) 0||x1.1==2) (.br (mAtC (c,s==5,g,[]) 0) (.br (!x5||mAtC (c,s==5,g,[]) 1) (.Lf (some ((c.1,(x6.1,x7.1,x8.1,x9.1,x10.1,x11.1,x12.1,x13.1,x13.2.1,Zz (c,s==5,g,[]) x2.1),c.2.2.1,false,false,c.2.2.2.2.2)))) (.Lf none)) (.Lf none)) (.Lf none))
theorem ZPw (a:HL ZX):EV2 2 a=ZCl a.1 a.2.1 a.2.2.1 a.2.2.2:=by kernel_rfl
def ZCh (c:TC) (s:Int) (g:List Int) (ln:QT0):RT (Option TC):=
 let x1:=Zb c.1 (mAt (c,s==5,g,[]) 0)
 .br (Zc s) (.Lf (some ((c.1,(rgx c.2.1 c.2.1.2.2.2.2.2.2.2.1 (u16.wrap ((spOf c)-2)) (Zk s)),c.2.2)))) (.br (!mAtC (c,s==5,g,[]) 0||x1.1==6) (.br (mAtC (c,s==5,g,[]) 0) (.Lf (some ((c.1,(rgx c.2.1 c.2.1.2.2.2.2.2.2.2.1 (spOf c) (Zz (c,s==5,g,[]) x1.2.1)),c.2.2.1,false,false,c.2.2.2.2.2)))) (.Lf none)) (.Lf none))
theorem ZPs (a:HL ZX):EV2 6 a=ZCh a.1 a.2.1 a.2.2.1 a.2.2.2:=by kernel_rfl
def Zue (c:TC) (s:Int) (g:List Int) (ln:QT0):RT (Option TC):=
 let x1:=Zb c.1 (mAt (c,s==5,g,[]) 0)
 .br (Zc s) (.Lf (some ((c.1,(rgx c.2.1 c.2.1.2.2.2.2.2.2.2.1 (u16.wrap ((spOf c)-2)) (Zk s)),c.2.2)))) (.br (!mAtC (c,s==5,g,[]) 0||x1.1==10) (.br (mAtC (c,s==5,g,[]) 0) (.Lf (some ((c.1,(rgx c.2.1 c.2.1.2.2.2.2.2.2.2.1 (spOf c) (Zz (c,s==5,g,[]) x1.2.1)),c.2.2.1,false,false,c.2.2.2.2.2)))) (.Lf none)) (.Lf none))
theorem ZKf (a:HL ZX):EV2 10 a=Zue a.1 a.2.1 a.2.2.1 a.2.2.2:=by kernel_rfl
def Zua (c:TC) (s:Int) (g:List Int) (ln:QT0):RT (Option TC):=
 let x1:=Zb c.1 (mAt (c,s==5,g,[]) 0)
 let x2:=x1.2
 let x3:=x2.2.1
 let x4:=x3==6
 let x5:=Zg8 c (14,x2) (bif x4 then mAt (c,s==5,g,[]) 1 else rGet c.2.1 x3)
 let x6:=rSet c.2.1 x3 x5.1
 let x7:=x6.2
 let x8:=x7.2
 let x9:=x8.2
 let x10:=x9.2
 let x11:=x10.2
 let x12:=x11.2
 .br (Zc s) (.Lf (some ((c.1,(rgx c.2.1 c.2.1.2.2.2.2.2.2.2.1 (u16.wrap ((spOf c)-2)) (Zk s)),c.2.2)))) (.br (!mAtC (c,s==5,g,[]) 0||x1.1==14) (.br (mAtC (c,s==5,g,[]) 0) (.br (!x4||mAtC (c,s==5,g,[]) 1) (.Lf (some ((c.1,(x6.1,x7.1,x8.1,x9.1,x10.1,x11.1,x12.1,x5.2,x12.2.2.1,Zz (c,s==5,g,[]) x2.1),c.2.2.1,false,false,c.2.2.2.2.2)))) (.Lf none)) (.Lf none)) (.Lf none))
theorem ZKb (a:HL ZX):EV2 14 a=Zua a.1 a.2.1 a.2.2.1 a.2.2.2:=by kernel_rfl
def Zt6 (c:TC) (s:Int) (g:List Int) (ln:QT0):RT (Option TC):=
 let x1:=Zb c.1 (mAt (c,s==5,g,[]) 0)
 let x2:=x1.2
 let x3:=rDad c.1 (Zak c.2.1 2) (Zak c.2.1 x2.2.2.2.1) c.2.1.2.2.2.2.2.2.2.1
 let x4:=Zn c.2.1 2 x3.1
 let x5:=x4.2
 let x6:=x5.2
 let x7:=x6.2
 let x8:=x7.2
 let x9:=x8.2
 let x10:=x9.2
 .br (Zc s) (.Lf (some ((c.1,(rgx c.2.1 c.2.1.2.2.2.2.2.2.2.1 (u16.wrap ((spOf c)-2)) (Zk s)),c.2.2)))) (.br (!mAtC (c,s==5,g,[]) 0||x1.1==18) (.br (mAtC (c,s==5,g,[]) 0) (.Lf (some ((c.1,(x4.1,x5.1,x6.1,x7.1,x8.1,x9.1,x10.1,x3.2,x10.2.2.1,Zz (c,s==5,g,[]) x2.1),c.2.2.1,false,false,c.2.2.2.2.2)))) (.Lf none)) (.Lf none))
theorem ZJ7 (a:HL ZX):EV2 18 a=Zt6 a.1 a.2.1 a.2.2.1 a.2.2.2:=by kernel_rfl
def Zt2 (c:TC) (s:Int) (g:List Int) (ln:QT0):RT (Option TC):=
 let x1:=Zb c.1 (mAt (c,s==5,g,[]) 0)
 let x2:=c.2.1.2.2.2.2.2.2.2.1.2.2.2
 let x3:=x2.2
 let x4:=x3.2
 .br (Zc s) (.Lf (some ((c.1,(rgx c.2.1 c.2.1.2.2.2.2.2.2.2.1 (u16.wrap ((spOf c)-2)) (Zk s)),c.2.2)))) (.br (!mAtC (c,s==5,g,[]) 0||x1.1==22) (.br (mAtC (c,s==5,g,[]) 0) (.Lf (some ((c.1,(rgx c.2.1 ((c.2.1.2.2.2.2.2.2.2.1.1,c.2.1.2.2.2.2.2.2.2.1.2.1,c.2.1.2.2.2.2.2.2.2.1.2.2.1,x2.1,x3.1,x4.1,!x4.2)) (spOf c) (Zz (c,s==5,g,[]) x1.2.1)),c.2.2.1,false,false,c.2.2.2.2.2)))) (.Lf none)) (.Lf none))
theorem ZJ3 (a:HL ZX):EV2 22 a=Zt2 a.1 a.2.1 a.2.2.1 a.2.2.2:=by kernel_rfl
def ZtY (c:TC) (s:Int) (g:List Int) (ln:QT0):RT (Option TC):=
 let x1:=Zb c.1 (mAt (c,s==5,g,[]) 0)
 let x2:=x1.2
 let x3:= !ZeO (c,s==5,g,[]) (26,x2)
 let x4:=c.2.1.2.2.2.2.2.2.2.1.2.2.1
 let x5:=c.2.1.2.2.2.2.2.2.2.1.2.2.2
 let x6:=x5.1
 let x7:=x5.2
 let x8:=x7.1
 let x9:=x7.2
 let x10:=x9.1
 let x11:=x9.2
 .br (Zc s) (.Lf (some ((c.1,(rgx c.2.1 c.2.1.2.2.2.2.2.2.2.1 (u16.wrap ((spOf c)-2)) (Zk s)),c.2.2)))) (.br (!mAtC (c,s==5,g,[]) 0||x1.1==26) (.br (mAtC (c,s==5,g,[]) 0) (.br (x3||Zcl (c,s==5,g,[]) 1) (.Lf (some ((bif x3 then c.1 else c.1,(bif x3 then c.2.1.1 else c.2.1.1,bif x3 then c.2.1.2.1 else c.2.1.2.1,bif x3 then c.2.1.2.2.1 else c.2.1.2.2.1,bif x3 then c.2.1.2.2.2.1 else c.2.1.2.2.2.1,bif x3 then c.2.1.2.2.2.2.1 else c.2.1.2.2.2.2.1,bif x3 then c.2.1.2.2.2.2.2.1 else c.2.1.2.2.2.2.2.1,bif x3 then c.2.1.2.2.2.2.2.2.1 else c.2.1.2.2.2.2.2.2.1,(bif x3 then c.2.1.2.2.2.2.2.2.2.1.1 else c.2.1.2.2.2.2.2.2.2.1.1,bif x3 then c.2.1.2.2.2.2.2.2.2.1.2.1 else c.2.1.2.2.2.2.2.2.2.1.2.1,bif x3 then x4 else x4,bif x3 then x6 else x6,bif x3 then x8 else x8,bif x3 then x10 else x10,bif x3 then x11 else x11),bif x3 then (spOf c) else u16.wrap ((spOf c)+2),bif x3 then Zz (c,s==5,g,[]) x2.1 else ZeT (c,s==5,g,[]) 1),bif x3 then c.2.2.1 else c.2.2.1,false,false,bif x3 then c.2.2.2.2.2.1 else c.2.2.2.2.2.1,bif x3 then c.2.2.2.2.2.2.1 else c.2.2.2.2.2.2.1,bif x3 then c.2.2.2.2.2.2.2.1 else c.2.2.2.2.2.2.2.1,bif x3 then c.2.2.2.2.2.2.2.2.1 else c.2.2.2.2.2.2.2.2.1,bif x3 then c.2.2.2.2.2.2.2.2.2.1 else c.2.2.2.2.2.2.2.2.2.1,bif x3 then c.2.2.2.2.2.2.2.2.2.2.1 else c.2.2.2.2.2.2.2.2.2.2.1,bif x3 then c.2.2.2.2.2.2.2.2.2.2.2.1 else c.2.2.2.2.2.2.2.2.2.2.2.1,bif x3 then c.2.2.2.2.2.2.2.2.2.2.2.2 else c.2.2.2.2.2.2.2.2.2.2.2.2)))) (.Lf none)) (.Lf none)) (.Lf none))
theorem ZJZ (a:HL ZX):EV2 26 a=ZtY a.1 a.2.1 a.2.2.1 a.2.2.2:=by kernel_rfl
def ZtU (c:TC) (s:Int) (g:List Int) (ln:QT0):RT (Option TC):=
 let x1:=u16.wrap ((spOf c)-2)
 let x2:=Zb c.1 (mAt (c,s==5,g,[]) 0)
 .br (Zc s) (.Lf (some ((c.1,(rgx c.2.1 c.2.1.2.2.2.2.2.2.2.1 x1 (Zk s)),c.2.2)))) (.br (!mAtC (c,s==5,g,[]) 0||x2.1==30) (.br (mAtC (c,s==5,g,[]) 0) (.Lf (some ((c.1,(rgx c.2.1 c.2.1.2.2.2.2.2.2.2.1 x1 (Zz (c,s==5,g,[]) x2.2.1)),c.2.2.1,false,false,c.2.2.2.2.2)))) (.Lf none)) (.Lf none))
theorem ZJV (a:HL ZX):EV2 30 a=ZtU a.1 a.2.1 a.2.2.1 a.2.2.2:=by kernel_rfl
def ZtQ (c:TC) (s:Int) (g:List Int) (ln:QT0):RT (Option TC):=
 let x1:=Zb c.1 (mAt (c,s==5,g,[]) 0)
 .br (Zc s) (.Lf (some ((c.1,(rgx c.2.1 c.2.1.2.2.2.2.2.2.2.1 (u16.wrap ((spOf c)-2)) (Zk s)),c.2.2)))) (.br (!mAtC (c,s==5,g,[]) 0||x1.1==34) (.br (mAtC (c,s==5,g,[]) 0) (.Lf (some ((c.1,(rgx c.2.1 c.2.1.2.2.2.2.2.2.2.1 (spOf c) (Zz (c,s==5,g,[]) x1.2.1)),c.2.2.1,false,false,c.2.2.2.2.2)))) (.Lf none)) (.Lf none))
theorem ZJR (a:HL ZX):EV2 34 a=ZtQ a.1 a.2.1 a.2.2.1 a.2.2.2:=by kernel_rfl
def ZtM (c:TC) (s:Int) (g:List Int) (ln:QT0):RT (Option TC):=
 let x1:=Zb c.1 (mAt (c,s==5,g,[]) 0)
 let x2:=rRim (c.1,(rgx c.2.1 c.2.1.2.2.2.2.2.2.2.1 (spOf c) (Zz (c,s==5,g,[]) x1.2.1)),c.2.2) ln
 let x3:=x2.2
 let x4:=x3.2
 let x5:=x4.2
 let x6:=x5.2.2.2
 let x7:=x6.2
 let x8:=x7.2
 let x9:=x8.2
 let x10:=x9.2
 .br (Zc s) (.Lf (some ((c.1,(rgx c.2.1 c.2.1.2.2.2.2.2.2.2.1 (u16.wrap ((spOf c)-2)) (Zk s)),c.2.2)))) (.br (!mAtC (c,s==5,g,[]) 0||x1.1==38) (.br (mAtC (c,s==5,g,[]) 0) (.Lf (some ((x3.1,(x2.1,x4.1.2),x5.1,false,false,x6.1,x7.1,x8.1,x9.1,x10.1,false,false,x10.2.2.2)))) (.Lf none)) (.Lf none))
theorem ZJN (a:HL ZX):EV2 38 a=ZtM a.1 a.2.1 a.2.2.1 a.2.2.2:=by kernel_rfl
def ZtI (c:TC) (s:Int) (g:List Int) (ln:QT0):RT (Option TC):=
 let x1:=Zb c.1 (mAt (c,s==5,g,[]) 0)
 let x2:=Zx4 (Zak c.2.1 1) c.2.1.2.2.2.2.2.2.2.1.2.2.2.2.2.2
 let x3:=Zn c.2.1 1 x2.1
 let x4:=x3.2
 let x5:=x4.2
 let x6:=x5.2
 let x7:=x6.2
 let x8:=x7.2
 let x9:=x8.2
 let x10:=x9.2
 let x11:=x10.1
 let x12:=x11.2
 let x13:=x12.2
 let x14:=x13.2
 let x15:=x2.2
 .br (Zc s) (.Lf (some ((c.1,(rgx c.2.1 c.2.1.2.2.2.2.2.2.2.1 (u16.wrap ((spOf c)-2)) (Zk s)),c.2.2)))) (.br (!mAtC (c,s==5,g,[]) 0||x1.1==42) (.br (mAtC (c,s==5,g,[]) 0) (.Lf (some ((c.1,(x3.1,x4.1,x5.1,x6.1,x7.1,x8.1,x9.1,(x11.1,x12.1,x13.1,x14.1,x14.2.1,x15.2,x15.1),x10.2.1,Zz (c,s==5,g,[]) x1.2.1),c.2.2.1,false,false,c.2.2.2.2.2)))) (.Lf none)) (.Lf none))
theorem ZJJ (a:HL ZX):EV2 42 a=ZtI a.1 a.2.1 a.2.2.1 a.2.2.2:=by kernel_rfl
def ZtE (c:TC) (s:Int) (g:List Int) (ln:QT0):RT (Option TC):=
 let x1:=Zb c.1 (mAt (c,s==5,g,[]) 0)
 .br (Zc s) (.Lf (some ((c.1,(rgx c.2.1 c.2.1.2.2.2.2.2.2.2.1 (u16.wrap ((spOf c)-2)) (Zk s)),c.2.2)))) (.br (!mAtC (c,s==5,g,[]) 0||x1.1==46) (.br (mAtC (c,s==5,g,[]) 0) (.Lf (some ((c.1,(rgx c.2.1 c.2.1.2.2.2.2.2.2.2.1 (spOf c) (Zz (c,s==5,g,[]) x1.2.1)),c.2.2.1,false,false,c.2.2.2.2.2)))) (.Lf none)) (.Lf none))
theorem ZJF (a:HL ZX):EV2 46 a=ZtE a.1 a.2.1 a.2.2.1 a.2.2.2:=by kernel_rfl
end
end Go.Proofs.YtghoimllhpjkjaaGreat
