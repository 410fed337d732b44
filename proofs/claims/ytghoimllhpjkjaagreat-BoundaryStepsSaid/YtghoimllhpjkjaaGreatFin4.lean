import Derived.Test.YtghoimllhpjkjaaGreatFin0
open Go.IntKind (u8 u16 i64)
set_option linter.unusedSimpArgs false
open Go Go.S3 Go.Proofs
set_option linter.unusedVariables false
set_option maxRecDepth 100000
namespace Go.Proofs.YtghoimllhpjkjaaGreat
noncomputable section
def ZDJ (c:TC) (s:Int) (g:List Int) (ln:QT0):RT (Option TC):=
 let x1:QT1:=(c,s==5,g,(0,0,0,0,0,0,0,0),[])
 let x2:=qAtC x1 0
 let x3:=Zb c.1 (qAt x1 0)
 let x4:= !x2||x3.1==4
 let x5:=x3.2
 let x6:QT1:=(c,s==5,g,(4,x5),[])
 .br (Zf s) (.Lf (some ((c.1,(rgx c.2.1 c.2.1.2.2.2.2.2.2.2.1 (u16.wrap ((spOf c)-2)) (Zk s)),c.2.2)))) (.br (!x4||x2) (.br (x4) (.br (ZcR x6 1) (.Lf (some ((c.1,Zn (rgx c.2.1 c.2.1.2.2.2.2.2.2.2.1 (spOf c) (ZG x6)) x5.2.2.2.1 (Zgy x6 1),c.2.2.1,false,false,c.2.2.2.2.2)))) (.Lf none)) (.Lf none)) (.Lf none))
theorem ZRi (a:HL ZY):EV0 4 a=ZDJ a.1 a.2.1 a.2.2.1 a.2.2.2:=by kernel_rfl
def ZDF (c:TC) (s:Int) (g:List Int) (ln:QT0):RT (Option TC):=
 let x1:QT1:=(c,s==5,g,(0,0,0,0,0,0,0,0),[])
 let x2:=qAtC x1 0
 let x3:=Zb c.1 (qAt x1 0)
 let x4:= !x2||x3.1==8
 .br (Zf s) (.Lf (some ((c.1,(rgx c.2.1 c.2.1.2.2.2.2.2.2.2.1 (u16.wrap ((spOf c)-2)) (Zk s)),c.2.2)))) (.br (!x4||x2) (.br (x4) (.Lf (some ((c.1,(rgx c.2.1 c.2.1.2.2.2.2.2.2.2.1 (spOf c) (ZG (c,s==5,g,(8,x3.2),[]))),c.2.2.1,false,false,c.2.2.2.2.2)))) (.Lf none)) (.Lf none))
theorem ZRe (a:HL ZY):EV0 8 a=ZDF a.1 a.2.1 a.2.2.1 a.2.2.2:=by kernel_rfl
def ZvG (c:TC) (s:Int) (g:List Int) (ln:QT0):RT (Option TC):=
 let x1:QT1:=(c,s==5,g,(0,0,0,0,0,0,0,0),[])
 let x2:=qAtC x1 0
 let x3:=Zb c.1 (qAt x1 0)
 let x4:= !x2||x3.1==12
 let x5:=x3.2
 let x6:QT1:=(c,s==5,g,(12,x5),[])
 let x7:=rDo c.1 x5.2.2.2.2.1 c.2.1.1 (ZiQ x6) c.2.1.2.2.2.2.2.2.2.1
 .br (Zf s) (.Lf (some ((c.1,(rgx c.2.1 c.2.1.2.2.2.2.2.2.2.1 (u16.wrap ((spOf c)-2)) (Zk s)),c.2.2)))) (.br (!x4||x2) (.br (x4) (.br (Zgx x6) (.Lf (some ((c.1,(x7.1,c.2.1.2.1,c.2.1.2.2.1,c.2.1.2.2.2.1,c.2.1.2.2.2.2.1,c.2.1.2.2.2.2.2.1,c.2.1.2.2.2.2.2.2.1,x7.2,spOf c,ZG x6),c.2.2.1,false,false,c.2.2.2.2.2)))) (.Lf none)) (.Lf none)) (.Lf none))
theorem ZLj (a:HL ZY):EV0 12 a=ZvG a.1 a.2.1 a.2.2.1 a.2.2.2:=by kernel_rfl
def ZvC (c:TC) (s:Int) (g:List Int) (ln:QT0):RT (Option TC):=
 let x1:QT1:=(c,s==5,g,(0,0,0,0,0,0,0,0),[])
 let x2:=qAtC x1 0
 let x3:=Zb c.1 (qAt x1 0)
 let x4:= !x2||x3.1==16
 let x5:=x3.2
 let x6:QT1:=(c,s==5,g,(16,x5),[])
 let x7:=x5.2.2.2.1
 let x8:=rInx c.1 (Zej x6 x7) c.2.1.2.2.2.2.2.2.2.1
 .br (Zf s) (.Lf (some ((c.1,(rgx c.2.1 c.2.1.2.2.2.2.2.2.2.1 (u16.wrap ((spOf c)-2)) (Zk s)),c.2.2)))) (.br (!x4||x2) (.br (x4) (.Lf (some ((c.1,Zn (rgx c.2.1 x8.2 (spOf c) (ZG x6)) x7 x8.1,c.2.2.1,false,false,c.2.2.2.2.2)))) (.Lf none)) (.Lf none))
theorem ZLf (a:HL ZY):EV0 16 a=ZvC a.1 a.2.1 a.2.2.1 a.2.2.2:=by kernel_rfl
def Zvy (c:TC) (s:Int) (g:List Int) (ln:QT0):RT (Option TC):=
 let x1:QT1:=(c,s==5,g,(0,0,0,0,0,0,0,0),[])
 let x2:=qAtC x1 0
 let x3:=Zb c.1 (qAt x1 0)
 let x4:= !x2||x3.1==20
 .br (Zf s) (.Lf (some ((c.1,(rgx c.2.1 c.2.1.2.2.2.2.2.2.2.1 (u16.wrap ((spOf c)-2)) (Zk s)),c.2.2)))) (.br (!x4||x2) (.br (x4) (.Lf (some ((c.1,(notI u8 c.2.1.1,c.2.1.2.1,c.2.1.2.2.1,c.2.1.2.2.2.1,c.2.1.2.2.2.2.1,c.2.1.2.2.2.2.2.1,c.2.1.2.2.2.2.2.2.1,c.2.1.2.2.2.2.2.2.2.1,spOf c,ZG (c,s==5,g,(20,x3.2),[])),c.2.2.1,false,false,c.2.2.2.2.2)))) (.Lf none)) (.Lf none))
theorem ZLb (a:HL ZY):EV0 20 a=Zvy a.1 a.2.1 a.2.2.1 a.2.2.2:=by kernel_rfl
def Zvu (c:TC) (s:Int) (g:List Int) (ln:QT0):RT (Option TC):=
 let x1:QT1:=(c,s==5,g,(0,0,0,0,0,0,0,0),[])
 let x2:=qAtC x1 0
 let x3:=Zb c.1 (qAt x1 0)
 let x4:= !x2||x3.1==24
 let x5:QT1:=(c,s==5,g,(24,x3.2),[])
 let x6:=ZhD x5
 .br (Zf s) (.Lf (some ((c.1,(rgx c.2.1 c.2.1.2.2.2.2.2.2.2.1 (u16.wrap ((spOf c)-2)) (Zk s)),c.2.2)))) (.br (!x4||x2) (.br (x4) (.br (!x6||ZcR x5 1) (.Lf (some ((c.1,(rgx c.2.1 c.2.1.2.2.2.2.2.2.2.1 (spOf c) (bif x6 then Zgy x5 1 else ZG x5)),c.2.2.1,false,false,c.2.2.2.2.2)))) (.Lf none)) (.Lf none)) (.Lf none))
theorem ZK7 (a:HL ZY):EV0 24 a=Zvu a.1 a.2.1 a.2.2.1 a.2.2.2:=by kernel_rfl
def Zvq (c:TC) (s:Int) (g:List Int) (ln:QT0):RT (Option TC):=
 let x1:QT1:=(c,s==5,g,(0,0,0,0,0,0,0,0),[])
 let x2:=qAtC x1 0
 let x3:=Zb c.1 (qAt x1 0)
 let x4:= !x2||x3.1==28
 .br (Zf s) (.Lf (some ((c.1,(rgx c.2.1 c.2.1.2.2.2.2.2.2.2.1 (u16.wrap ((spOf c)-2)) (Zk s)),c.2.2)))) (.br (!x4||x2) (.br (x4) (.Lf (some ((c.1,(rgx c.2.1 c.2.1.2.2.2.2.2.2.2.1 (spOf c) (Zej (c,s==5,g,(28,x3.2),[]) 2)),c.2.2.1,false,false,c.2.2.2.2.2)))) (.Lf none)) (.Lf none))
theorem ZK3 (a:HL ZY):EV0 28 a=Zvq a.1 a.2.1 a.2.2.1 a.2.2.2:=by kernel_rfl
def Zvm (c:TC) (s:Int) (g:List Int) (ln:QT0):RT (Option TC):=
 let x1:QT1:=(c,s==5,g,(0,0,0,0,0,0,0,0),[])
 let x2:=qAtC x1 0
 let x3:=Zb c.1 (qAt x1 0)
 let x4:= !x2||x3.1==32
 let x5:QT1:=(c,s==5,g,(32,x3.2),[])
 .br (Zf s) (.Lf (some ((c.1,(rgx c.2.1 c.2.1.2.2.2.2.2.2.2.1 (u16.wrap ((spOf c)-2)) (Zk s)),c.2.2)))) (.br (!x4||x2) (.br (x4) (.br (ZcR x5 1) (.Lf (some ((c.1,Zn (rgx c.2.1 c.2.1.2.2.2.2.2.2.2.1 (spOf c) (ZG x5)) 2 (Zgy x5 1),c.2.2.1,false,false,c.2.2.2.2.2)))) (.Lf none)) (.Lf none)) (.Lf none))
theorem ZKZ (a:HL ZY):EV0 32 a=Zvm a.1 a.2.1 a.2.2.1 a.2.2.2:=by kernel_rfl
def Zvi (c:TC) (s:Int) (g:List Int) (ln:QT0):RT (Option TC):=
 let x1:QT1:=(c,s==5,g,(0,0,0,0,0,0,0,0),[])
 let x2:=qAtC x1 0
 let x3:=Zb c.1 (qAt x1 0)
 let x4:= !x2||x3.1==36
 .br (Zf s) (.Lf (some ((c.1,(rgx c.2.1 c.2.1.2.2.2.2.2.2.2.1 (u16.wrap ((spOf c)-2)) (Zk s)),c.2.2)))) (.br (!x4||x2) (.br (x4) (.Lf (some ((c.1,(rgx c.2.1 c.2.1.2.2.2.2.2.2.2.1 (spOf c) (ZG (c,s==5,g,(36,x3.2),[]))),false,false,false,c.2.2.2.2.2)))) (.Lf none)) (.Lf none))
theorem ZKV (a:HL ZY):EV0 36 a=Zvi a.1 a.2.1 a.2.2.1 a.2.2.2:=by kernel_rfl
def Zve (c:TC) (s:Int) (g:List Int) (ln:QT0):RT (Option TC):=
 let x1:QT1:=(c,s==5,g,(0,0,0,0,0,0,0,0),[])
 let x2:=qAtC x1 0
 let x3:=Zb c.1 (qAt x1 0)
 let x4:= !x2||x3.1==40
 let x5:QT1:=(c,s==5,g,(40,x3.2),[])
 let x6:=Zyh (Zej x5 2) (Zej x5 0)
 .br (Zf s) (.Lf (some ((c.1,(rgx c.2.1 c.2.1.2.2.2.2.2.2.2.1 (u16.wrap ((spOf c)-2)) (Zk s)),c.2.2)))) (.br (!x4||x2) (.br (x4) (.Lf (some ((c.1,Zn (rgx c.2.1 x6.2 (spOf c) (ZG x5)) 2 x6.1,c.2.2.1,false,false,c.2.2.2.2.2)))) (.Lf none)) (.Lf none))
theorem ZKR (a:HL ZY):EV0 40 a=Zve a.1 a.2.1 a.2.2.1 a.2.2.2:=by kernel_rfl
def Zva (c:TC) (s:Int) (g:List Int) (ln:QT0):RT (Option TC):=
 let x1:QT1:=(c,s==5,g,(0,0,0,0,0,0,0,0),[])
 let x2:=qAtC x1 0
 let x3:=Zb c.1 (qAt x1 0)
 let x4:= !x2||x3.1==44
 let x5:QT1:=(c,s==5,g,(44,x3.2),[])
 .br (Zf s) (.Lf (some ((c.1,(rgx c.2.1 c.2.1.2.2.2.2.2.2.2.1 (u16.wrap ((spOf c)-2)) (Zk s)),c.2.2)))) (.br (!x4||x2) (.br (x4) (.br (qAtC x5 1) (.Lf (some ((c.1,Zn (rgx c.2.1 c.2.1.2.2.2.2.2.2.2.1 (spOf c) (ZG x5)) 1 (u16.wrap ((spOf c)+u16.wrap (qAt x5 1))),c.2.2.1,false,false,c.2.2.2.2.2)))) (.Lf none)) (.Lf none)) (.Lf none))
theorem ZKN (a:HL ZY):EV0 44 a=Zva a.1 a.2.1 a.2.2.1 a.2.2.2:=by kernel_rfl
def ZCm (c:TC) (s:Int) (g:List Int) (ln:QT0):RT (Option TC):=
 let x1:=Zb c.1 (mAt (c,s==5,g,[]) 0)
 .br (Zc s) (.Lf (some ((c.1,(rgx c.2.1 c.2.1.2.2.2.2.2.2.2.1 (u16.wrap ((spOf c)-2)) (Zk s)),c.2.2)))) (.br (!mAtC (c,s==5,g,[]) 0||x1.1==1) (.br (mAtC (c,s==5,g,[]) 0) (.Lf (some ((c.1,(rgx c.2.1 c.2.1.2.2.2.2.2.2.2.1 (spOf c) (Zz (c,s==5,g,[]) x1.2.1)),c.2.2.1,false,false,c.2.2.2.2.2)))) (.Lf none)) (.Lf none))
theorem ZPx (a:HL ZX):EV2 1 a=ZCm a.1 a.2.1 a.2.2.1 a.2.2.2:=by kernel_rfl
def ZCi (c:TC) (s:Int) (g:List Int) (ln:QT0):RT (Option TC):=
 let x1:=Zb c.1 (mAt (c,s==5,g,[]) 0)
 .br (Zc s) (.Lf (some ((c.1,(rgx c.2.1 c.2.1.2.2.2.2.2.2.2.1 (u16.wrap ((spOf c)-2)) (Zk s)),c.2.2)))) (.br (!mAtC (c,s==5,g,[]) 0||x1.1==5) (.br (mAtC (c,s==5,g,[]) 0) (.br (mAtC (c,s==5,g,[]) 3) (.Lf (some ((c.1,(mAt (c,s==5,g,[]) 3,c.2.1.2.1,c.2.1.2.2.1,c.2.1.2.2.2.1,c.2.1.2.2.2.2.1,c.2.1.2.2.2.2.2.1,c.2.1.2.2.2.2.2.2.1,c.2.1.2.2.2.2.2.2.2.1,spOf c,Zz (c,s==5,g,[]) x1.2.1),c.2.2.1,false,false,c.2.2.2.2.2)))) (.Lf none)) (.Lf none)) (.Lf none))
theorem ZPt (a:HL ZX):EV2 5 a=ZCi a.1 a.2.1 a.2.2.1 a.2.2.2:=by kernel_rfl
def ZCe (c:TC) (s:Int) (g:List Int) (ln:QT0):RT (Option TC):=
 let x1:=Zb c.1 (mAt (c,s==5,g,[]) 0)
 .br (Zc s) (.Lf (some ((c.1,(rgx c.2.1 c.2.1.2.2.2.2.2.2.2.1 (u16.wrap ((spOf c)-2)) (Zk s)),c.2.2)))) (.br (!mAtC (c,s==5,g,[]) 0||x1.1==9) (.br (mAtC (c,s==5,g,[]) 0) (.br (mAtC (c,s==5,g,[]) 1) (.Lf (some ((c.1,(mAt (c,s==5,g,[]) 1,c.2.1.2.1,c.2.1.2.2.1,c.2.1.2.2.2.1,c.2.1.2.2.2.2.1,c.2.1.2.2.2.2.2.1,c.2.1.2.2.2.2.2.2.1,c.2.1.2.2.2.2.2.2.2.1,spOf c,Zz (c,s==5,g,[]) x1.2.1),c.2.2.1,false,false,c.2.2.2.2.2)))) (.Lf none)) (.Lf none)) (.Lf none))
theorem ZPp (a:HL ZX):EV2 9 a=ZCe a.1 a.2.1 a.2.2.1 a.2.2.2:=by kernel_rfl
def Zub (c:TC) (s:Int) (g:List Int) (ln:QT0):RT (Option TC):=
 let x1:=Zb c.1 (mAt (c,s==5,g,[]) 0)
 let x2:=x1.2
 let x3:=rDo c.1 x2.2.2.2.2.1 c.2.1.1 (mAt (c,s==5,g,[]) 1) c.2.1.2.2.2.2.2.2.2.1
 .br (Zc s) (.Lf (some ((c.1,(rgx c.2.1 c.2.1.2.2.2.2.2.2.2.1 (u16.wrap ((spOf c)-2)) (Zk s)),c.2.2)))) (.br (!mAtC (c,s==5,g,[]) 0||x1.1==13) (.br (mAtC (c,s==5,g,[]) 0) (.br (mAtC (c,s==5,g,[]) 1) (.Lf (some ((c.1,(x3.1,c.2.1.2.1,c.2.1.2.2.1,c.2.1.2.2.2.1,c.2.1.2.2.2.2.1,c.2.1.2.2.2.2.2.1,c.2.1.2.2.2.2.2.2.1,x3.2,spOf c,Zz (c,s==5,g,[]) x2.1),c.2.2.1,false,false,c.2.2.2.2.2)))) (.Lf none)) (.Lf none)) (.Lf none))
theorem ZKc (a:HL ZX):EV2 13 a=Zub a.1 a.2.1 a.2.2.1 a.2.2.2:=by kernel_rfl
def Zt7 (c:TC) (s:Int) (g:List Int) (ln:QT0):RT (Option TC):=
 let x1:=Zb c.1 (mAt (c,s==5,g,[]) 0)
 let x2:=x1.2
 let x3:=x2.2.2.2.1
 let x4:=rDcx c.1 (Zak c.2.1 x3) c.2.1.2.2.2.2.2.2.2.1
 let x5:=Zn c.2.1 x3 x4.1
 let x6:=x5.2
 let x7:=x6.2
 let x8:=x7.2
 let x9:=x8.2
 let x10:=x9.2
 let x11:=x10.2
 .br (Zc s) (.Lf (some ((c.1,(rgx c.2.1 c.2.1.2.2.2.2.2.2.2.1 (u16.wrap ((spOf c)-2)) (Zk s)),c.2.2)))) (.br (!mAtC (c,s==5,g,[]) 0||x1.1==17) (.br (mAtC (c,s==5,g,[]) 0) (.Lf (some ((c.1,(x5.1,x6.1,x7.1,x8.1,x9.1,x10.1,x11.1,x4.2,x11.2.2.1,Zz (c,s==5,g,[]) x2.1),c.2.2.1,false,false,c.2.2.2.2.2)))) (.Lf none)) (.Lf none))
theorem ZJ8 (a:HL ZX):EV2 17 a=Zt7 a.1 a.2.1 a.2.2.1 a.2.2.2:=by kernel_rfl
def Zt3 (c:TC) (s:Int) (g:List Int) (ln:QT0):RT (Option TC):=
 let x1:=Zb c.1 (mAt (c,s==5,g,[]) 0)
 let x2:=c.2.1.2.2.2.2.2.2.2.1.2.2.2
 let x3:=x2.2
 .br (Zc s) (.Lf (some ((c.1,(rgx c.2.1 c.2.1.2.2.2.2.2.2.2.1 (u16.wrap ((spOf c)-2)) (Zk s)),c.2.2)))) (.br (!mAtC (c,s==5,g,[]) 0||x1.1==21) (.br (mAtC (c,s==5,g,[]) 0) (.Lf (some ((c.1,(rgx c.2.1 ((c.2.1.2.2.2.2.2.2.2.1.1,c.2.1.2.2.2.2.2.2.2.1.2.1,c.2.1.2.2.2.2.2.2.2.1.2.2.1,x2.1,x3.1,x3.2.1,true)) (spOf c) (Zz (c,s==5,g,[]) x1.2.1)),c.2.2.1,false,false,c.2.2.2.2.2)))) (.Lf none)) (.Lf none))
theorem ZJ4 (a:HL ZX):EV2 21 a=Zt3 a.1 a.2.1 a.2.2.1 a.2.2.2:=by kernel_rfl
def ZtZ (c:TC) (s:Int) (g:List Int) (ln:QT0):RT (Option TC):=
 let x1:=u16.wrap ((spOf c)-2)
 let x2:=Zb c.1 (mAt (c,s==5,g,[]) 0)
 let x3:=x2.2
 let x4:= !ZeO (c,s==5,g,[]) (25,x3)
 let x5:=c.2.1.2.2.2.2.2.2.2.1.2.2.1
 let x6:=c.2.1.2.2.2.2.2.2.2.1.2.2.2
 let x7:=x6.1
 let x8:=x6.2
 let x9:=x8.1
 let x10:=x8.2
 let x11:=x10.1
 let x12:=x10.2
 .br (Zc s) (.Lf (some ((c.1,(rgx c.2.1 c.2.1.2.2.2.2.2.2.2.1 x1 (Zk s)),c.2.2)))) (.br (!mAtC (c,s==5,g,[]) 0||x2.1==25) (.br (mAtC (c,s==5,g,[]) 0) (.br (x4||Zcl (c,s==5,g,[]) 1) (.Lf (some ((bif x4 then c.1 else c.1,(bif x4 then c.2.1.1 else c.2.1.1,bif x4 then c.2.1.2.1 else c.2.1.2.1,bif x4 then c.2.1.2.2.1 else c.2.1.2.2.1,bif x4 then c.2.1.2.2.2.1 else c.2.1.2.2.2.1,bif x4 then c.2.1.2.2.2.2.1 else c.2.1.2.2.2.2.1,bif x4 then c.2.1.2.2.2.2.2.1 else c.2.1.2.2.2.2.2.1,bif x4 then c.2.1.2.2.2.2.2.2.1 else c.2.1.2.2.2.2.2.2.1,(bif x4 then c.2.1.2.2.2.2.2.2.2.1.1 else c.2.1.2.2.2.2.2.2.2.1.1,bif x4 then c.2.1.2.2.2.2.2.2.2.1.2.1 else c.2.1.2.2.2.2.2.2.2.1.2.1,bif x4 then x5 else x5,bif x4 then x7 else x7,bif x4 then x9 else x9,bif x4 then x11 else x11,bif x4 then x12 else x12),bif x4 then (spOf c) else x1,bif x4 then Zz (c,s==5,g,[]) x3.1 else ZeT (c,s==5,g,[]) 1),bif x4 then c.2.2.1 else c.2.2.1,false,false,bif x4 then c.2.2.2.2.2.1 else c.2.2.2.2.2.1,bif x4 then c.2.2.2.2.2.2.1 else c.2.2.2.2.2.2.1,bif x4 then c.2.2.2.2.2.2.2.1 else c.2.2.2.2.2.2.2.1,bif x4 then c.2.2.2.2.2.2.2.2.1 else c.2.2.2.2.2.2.2.2.1,bif x4 then c.2.2.2.2.2.2.2.2.2.1 else c.2.2.2.2.2.2.2.2.2.1,bif x4 then c.2.2.2.2.2.2.2.2.2.2.1 else c.2.2.2.2.2.2.2.2.2.2.1,bif x4 then c.2.2.2.2.2.2.2.2.2.2.2.1 else c.2.2.2.2.2.2.2.2.2.2.2.1,bif x4 then c.2.2.2.2.2.2.2.2.2.2.2.2 else c.2.2.2.2.2.2.2.2.2.2.2.2)))) (.Lf none)) (.Lf none)) (.Lf none))
theorem ZJ0 (a:HL ZX):EV2 25 a=ZtZ a.1 a.2.1 a.2.2.1 a.2.2.2:=by kernel_rfl
def ZtV (c:TC) (s:Int) (g:List Int) (ln:QT0):RT (Option TC):=
 let x1:=Zb c.1 (mAt (c,s==5,g,[]) 0)
 .br (Zc s) (.Lf (some ((c.1,(rgx c.2.1 c.2.1.2.2.2.2.2.2.2.1 (u16.wrap ((spOf c)-2)) (Zk s)),c.2.2)))) (.br (!mAtC (c,s==5,g,[]) 0||x1.1==29) (.br (mAtC (c,s==5,g,[]) 0) (.Lf (some ((c.1,(rgx c.2.1 c.2.1.2.2.2.2.2.2.2.1 (Zak c.2.1 2) (Zz (c,s==5,g,[]) x1.2.1)),c.2.2.1,false,false,c.2.2.2.2.2)))) (.Lf none)) (.Lf none))
theorem ZJW (a:HL ZX):EV2 29 a=ZtV a.1 a.2.1 a.2.2.1 a.2.2.2:=by kernel_rfl
def ZtR (c:TC) (s:Int) (g:List Int) (ln:QT0):RT (Option TC):=
 let x1:=Zb c.1 (mAt (c,s==5,g,[]) 0)
 .br (Zc s) (.Lf (some ((c.1,(rgx c.2.1 c.2.1.2.2.2.2.2.2.2.1 (u16.wrap ((spOf c)-2)) (Zk s)),c.2.2)))) (.br (!mAtC (c,s==5,g,[]) 0||x1.1==33) (.br (mAtC (c,s==5,g,[]) 0) (.br (mAtC (c,s==5,g,[]) 2) (.Lf (some ((c.1,(mAt (c,s==5,g,[]) 2,c.2.1.2.1,c.2.1.2.2.1,c.2.1.2.2.2.1,c.2.1.2.2.2.2.1,c.2.1.2.2.2.2.2.1,c.2.1.2.2.2.2.2.2.1,c.2.1.2.2.2.2.2.2.2.1,spOf c,Zz (c,s==5,g,[]) x1.2.1),c.2.2.1,false,false,c.2.2.2.2.2)))) (.Lf none)) (.Lf none)) (.Lf none))
theorem ZJS (a:HL ZX):EV2 33 a=ZtR a.1 a.2.1 a.2.2.1 a.2.2.2:=by kernel_rfl
def ZtN (c:TC) (s:Int) (g:List Int) (ln:QT0):RT (Option TC):=
 let x1:=Zb c.1 (mAt (c,s==5,g,[]) 0)
 .br (Zc s) (.Lf (some ((c.1,(rgx c.2.1 c.2.1.2.2.2.2.2.2.2.1 (u16.wrap ((spOf c)-2)) (Zk s)),c.2.2)))) (.br (!mAtC (c,s==5,g,[]) 0||x1.1==37) (.br (mAtC (c,s==5,g,[]) 0) (.Lf (some ((c.1,(rgx c.2.1 c.2.1.2.2.2.2.2.2.2.1 (spOf c) (Zz (c,s==5,g,[]) x1.2.1)),c.2.2.1,false,true,c.2.2.2.2.2)))) (.Lf none)) (.Lf none))
theorem ZJO (a:HL ZX):EV2 37 a=ZtN a.1 a.2.1 a.2.2.1 a.2.2.2:=by kernel_rfl
def ZtJ (c:TC) (s:Int) (g:List Int) (ln:QT0):RT (Option TC):=
 let x1:=Zb c.1 (mAt (c,s==5,g,[]) 0)
 let x2:Int×Int×Int×Int×Int×TF×Int×Int:=(Zn c.2.1 2 (Zuk (Zak c.2.1 2)).1).2.2
 let x3:=x2.2
 let x4:=x3.2
 let x5:=x4.2
 let x6:=x5.2
 let x7:=x6.2
 let x8:=x7.1
 let x9:=x8.2
 let x10:=x9.2
 let x11:=x10.2
 let x12:=x11.2
 .br (Zc s) (.Lf (some ((c.1,(rgx c.2.1 c.2.1.2.2.2.2.2.2.2.1 (u16.wrap ((spOf c)-2)) (Zk s)),c.2.2)))) (.br (!mAtC (c,s==5,g,[]) 0||x1.1==41) (.br (mAtC (c,s==5,g,[]) 0) (.Lf (some ((c.1,((Zn c.2.1 2 (Zuk (Zak c.2.1 2)).1).1,(Zn c.2.1 2 (Zuk (Zak c.2.1 2)).1).2.1,x2.1,x3.1,x4.1,x5.1,x6.1,(x8.1,x9.1,x10.1,x11.1,x12.1,x12.2.1,(Zuk (Zak c.2.1 2)).2),x7.2.1,Zz (c,s==5,g,[]) x1.2.1),c.2.2.1,false,false,c.2.2.2.2.2)))) (.Lf none)) (.Lf none))
theorem ZJK (a:HL ZX):EV2 41 a=ZtJ a.1 a.2.1 a.2.2.1 a.2.2.2:=by kernel_rfl
def ZtF (c:TC) (s:Int) (g:List Int) (ln:QT0):RT (Option TC):=
 let x1:=u16.wrap ((spOf c)-2)
 let x2:=Zb c.1 (mAt (c,s==5,g,[]) 0)
 let x3:=x2.2
 let x4:= !ZeO (c,s==5,g,[]) (45,x3)
 let x5:=c.2.1.2.2.2.2.2.2.2.1.2.2.1
 let x6:=c.2.1.2.2.2.2.2.2.2.1.2.2.2
 let x7:=x6.1
 let x8:=x6.2
 let x9:=x8.1
 let x10:=x8.2
 let x11:=x10.1
 let x12:=x10.2
 .br (Zc s) (.Lf (some ((c.1,(rgx c.2.1 c.2.1.2.2.2.2.2.2.2.1 x1 (Zk s)),c.2.2)))) (.br (!mAtC (c,s==5,g,[]) 0||x2.1==45) (.br (mAtC (c,s==5,g,[]) 0) (.Lf (some ((bif x4 then c.1 else c.1,(bif x4 then c.2.1.1 else c.2.1.1,bif x4 then c.2.1.2.1 else c.2.1.2.1,bif x4 then c.2.1.2.2.1 else c.2.1.2.2.1,bif x4 then c.2.1.2.2.2.1 else c.2.1.2.2.2.1,bif x4 then c.2.1.2.2.2.2.1 else c.2.1.2.2.2.2.1,bif x4 then c.2.1.2.2.2.2.2.1 else c.2.1.2.2.2.2.2.1,bif x4 then c.2.1.2.2.2.2.2.2.1 else c.2.1.2.2.2.2.2.2.1,(bif x4 then c.2.1.2.2.2.2.2.2.2.1.1 else c.2.1.2.2.2.2.2.2.2.1.1,bif x4 then c.2.1.2.2.2.2.2.2.2.1.2.1 else c.2.1.2.2.2.2.2.2.2.1.2.1,bif x4 then x5 else x5,bif x4 then x7 else x7,bif x4 then x9 else x9,bif x4 then x11 else x11,bif x4 then x12 else x12),bif x4 then (spOf c) else x1,bif x4 then Zz (c,s==5,g,[]) x3.1 else 64),bif x4 then c.2.2.1 else c.2.2.1,false,false,bif x4 then c.2.2.2.2.2.1 else c.2.2.2.2.2.1,bif x4 then c.2.2.2.2.2.2.1 else c.2.2.2.2.2.2.1,bif x4 then c.2.2.2.2.2.2.2.1 else c.2.2.2.2.2.2.2.1,bif x4 then c.2.2.2.2.2.2.2.2.1 else c.2.2.2.2.2.2.2.2.1,bif x4 then c.2.2.2.2.2.2.2.2.2.1 else c.2.2.2.2.2.2.2.2.2.1,bif x4 then c.2.2.2.2.2.2.2.2.2.2.1 else c.2.2.2.2.2.2.2.2.2.2.1,bif x4 then c.2.2.2.2.2.2.2.2.2.2.2.1 else c.2.2.2.2.2.2.2.2.2.2.2.1,bif x4 then c.2.2.2.2.2.2.2.2.2.2.2.2 else c.2.2.2.2.2.2.2.2.2.2.2.2)))) (.Lf none)) (.Lf none))
theorem ZJG (a:HL ZX):EV2 45 a=ZtF a.1 a.2.1 a.2.2.1 a.2.2.2:=by kernel_rfl
end
end Go.Proofs.YtghoimllhpjkjaaGreat
