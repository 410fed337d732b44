import Derived.Test.YtghoimllhpjkjaaGreatS3D
import Derived.Test.YtghoimllhpjkjaaGreatProg
open Go.Proofs.Tryz (prog)
open Go.IntKind (u8 u16 i64)
set_option linter.unusedSimpArgs false
open Go Go.S3 Go.Proofs
set_option linter.unusedVariables false
set_option maxRecDepth 100000
namespace Go.Proofs.YtghoimllhpjkjaaGreat
noncomputable section
abbrev ZxU:List Sh:=[Sh.one (R.int u8)]
abbrev ZnJ:Rs:=Rs.one (Sh.one R.bool)
def Zub (b:Int):RT (Option (Bool)):=
 let x1:=andI u8 (andI u8 b (u8.wrap (b-1))) (u8.wrap (andI u8 b (u8.wrap (b-1))-1))
 let x2:= !x1 !=0
 let x3:=andI u8 x1 (u8.wrap (x1-1))
 let x4:=x3 !=0
 let x5:=andI u8 x3 (u8.wrap (x3-1))
 let x6:= !x5 !=0
 let x7:=andI u8 x5 (u8.wrap (x5-1))
 let x8:=x7 !=0
 let x9:=andI u8 x7 (u8.wrap (x7-1))
 let x10:= !x9 !=0
 let x11:=andI u8 x9 (u8.wrap (x9-1))
 let x12:=x11 !=0
 let x13:=andI u8 x11 (u8.wrap (x11-1))
 let x14:= !x13 !=0
 .br (!b !=0||(!andI u8 b (u8.wrap (b-1)) !=0||(x2||(!x4||(x6||(!x8||(x10||(!x12||(x14|| !andI u8 x13 (u8.wrap (x13-1)) !=0))))))))) (.leaf (some (!b !=0||andI u8 b (u8.wrap (b-1)) !=0&&(x2||x4&&(x6||x8&&(x10||x12&&x14)))))) (.leaf none)
def Zuc (b:Int):Bool:=getO ZnJ.dflt (Zub b).val
def Zlo (b:Int):Bool:=okB (Zub b).val
def ZGf:Entry:=Zg ZxU ZnJ (λa=>some (Zlo a)) (λa=>Zuc a)
theorem ZJd:Za prog 334 ZGf:=
 Znw (P:=prog) (n:=15) (k:=10) (l:=[]) (ol:=[]) trivial Tryz.func334 rfl (by kernel_rfl) Tryz.call334 trivial (ts:=ZxU) (rs:=ZnJ) (t:=λa=>Zub a) (λa=>by kernel_rfl)
abbrev ZWa:List Sh:=[Sh.one R.bool,Sh.one R.bool,Sh.one R.bool]
abbrev ZWb:Rs:=Rs.one (Sh.one R.bool)
def Z0s (a:Bool) (b:Bool) (c:Bool):RT (Bool):=
 .leaf (bif a then b||bif a then c||b&&c else b&&c else bif a then c||b&&c else b&&c)
def pMaj (a:Bool) (b:Bool) (c:Bool):Bool:=(Z0s a b c).val
def ZJn:Entry:=Zg ZWa ZWb (λ_=>none) (λa=>pMaj a.1 a.2.1 a.2.2)
theorem Zom:Za prog 315 ZJn:=
 pureQ 127 [] [] ZWa ZWb trivial Tryz.func315 Tryz.call315 trivial (t:=λa=>Z0s a.1 a.2.1 a.2.2)
abbrev ZV7:List Sh:=[Sh.one R.bool]
abbrev ZV8:Rs:=Rs.one (Sh.one (R.int i64))
def Z0q (b:Bool):RT (Int):=
 .br (b) (.leaf (1)) (.leaf (0))
def pOne (b:Bool):Int:=(Z0q b).val
def ZYp:Entry:=Zg ZV7 ZV8 (λ_=>none) (λa=>pOne a)
theorem ZPk:Za prog 332 ZYp:=
 pureQ 7 [] [] ZV7 ZV8 trivial Tryz.func332 Tryz.call332 trivial (t:=λa=>Z0q a)
abbrev ZxP:List Sh:=[Sh.one (R.int i64)]
abbrev ZxQ:Rs:=Rs.one (Sh.one R.bool)
def Zlm (n:Int):RT (Bool):=
 .leaf (decide (n< -128)||decide (n>127))
def ZnC (n:Int):Bool:=(Zlm n).val
def Zt2:Entry:=Zg ZxP ZxQ (λ_=>none) (λa=>ZnC a)
theorem Zq4:Za prog 333 Zt2:=
 pureQ 7 [] [] ZxP ZxQ trivial Tryz.func333 Tryz.call333 trivial (t:=λa=>Zlm a)
abbrev ZV3:List Sh:=[Sh.one (R.int u8),Sh.one (R.int u8),Sh.one R.bool]
abbrev ZV4:Rs:=Rs.tup [Sh.one (R.int u8),Sh.one R.bool,Sh.one R.bool,Sh.one R.bool]
def ZYb (a:Int) (b:Int) (c:Bool):RT (QT19):=
 let x1:=i64.wrap (i64.wrap (i64.wrap a+i64.wrap b)+pOne c)
 .leaf ((u8.wrap x1,decide (x1>255),decide (i64.wrap (i64.wrap (i64.wrap (andI u8 a 15)+i64.wrap (andI u8 b 15))+pOne c)>15),ZnC (i64.wrap (i64.wrap (i64.wrap (IntKind.i8.wrap a)+i64.wrap (IntKind.i8.wrap b))+pOne c))))
def pSum (a:Int) (b:Int) (c:Bool):QT19:=(ZYb a b c).val
def ZTs:Entry:=Zg ZV3 ZV4 (λ_=>none) (λa=>pSum a.1 a.2.1 a.2.2)
theorem ZBI:Za prog 312 ZTs:=
 pureQ 4095 [(332,ZYp),(333,Zt2)] [] ZV3 ZV4 ⟨ZPk,Zq4,Tv⟩ Tryz.func312 Tryz.call312 trivial (t:=λa=>ZYb a.1 a.2.1 a.2.2)
abbrev ZPX:List Sh:=[Sh.one (R.int u8),Sh.one (R.int u8),Sh.one R.bool]
abbrev ZPZ:Rs:=Rs.tup [Sh.one (R.int u8),Sh.one R.bool,Sh.one R.bool,Sh.one R.bool]
def ZPY (a:Int) (b:Int) (c:Bool):RT (QT19):=
 let x1:=i64.wrap (i64.wrap (i64.wrap a-i64.wrap b)-pOne c)
 .leaf ((u8.wrap x1,decide (x1<0),decide (i64.wrap (i64.wrap (i64.wrap (i64.wrap (i64.wrap (andI u8 a 15)+15)-i64.wrap (andI u8 b 15))+1)-pOne c)>15),ZnC (i64.wrap (i64.wrap (i64.wrap (IntKind.i8.wrap a)-i64.wrap (IntKind.i8.wrap b))-pOne c))))
def ZhM (a:Int) (b:Int) (c:Bool):QT19:=(ZPY a b c).val
def ZGx:Entry:=Zg ZPX ZPZ (λ_=>none) (λa=>ZhM a.1 a.2.1 a.2.2)
theorem Zu8:Za prog 313 ZGx:=
 pureQ 4095 [(332,ZYp),(333,Zt2)] [] ZPX ZPZ ⟨ZPk,Zq4,Tv⟩ Tryz.func313 Tryz.call313 trivial (t:=λa=>ZPY a.1 a.2.1 a.2.2)
abbrev ZCB:List Sh:=[Sh.one (R.int u8),Sh.one (R.int u8)]
abbrev ZCC:Rs:=Rs.one (Sh.one (R.int u16))
def ZWe (h:Int) (l:Int):RT (Int):=
 .leaf (orI u16 (shlI u16 (u16.wrap h) 8) (u16.wrap l))
def ZPz (h:Int) (l:Int):Int:=(ZWe h l).val
def ZGo:Entry:=Zg ZCB ZCC (λ_=>none) (λa=>ZPz a.1 a.2)
theorem Zlp:Za prog 236 ZGo:=
 pureQ 31 [] [] ZCB ZCC trivial Tryz.func236 Tryz.call236 trivial (t:=λa=>ZWe a.1 a.2)
abbrev ZWh:List Sh:=[Sh.one R.bool,Sh.one (R.int i64)]
abbrev ZP9:Rs:=Rs.one (Sh.one (R.int u8))
def ZTW (b:Bool) (n:Int):RT (Option (Int)):=
 .br (!b||decide (0<=n)) (.br (b) (.leaf (some (shlI u8 1 n))) (.leaf (some (0)))) (.leaf none)
def pBit (b:Bool) (n:Int):Int:=getO ZP9.dflt (ZTW b n).val
def ZeM (b:Bool) (n:Int):Bool:=okB (ZTW b n).val
def Z0y:Entry:=Zg ZWh ZP9 (λa=>some (ZeM a.1 a.2)) (λa=>pBit a.1 a.2)
theorem ZYN:Za prog 335 Z0y:=
 pureP 31 [] [] ZWh ZP9 trivial Tryz.func335 Tryz.call335 trivial (t:=λa=>ZTW a.1 a.2)
abbrev ZPh:List Sh:=[Sh.one (R.int i64),Sh.agg rcF7]
abbrev ZBU:Rs:=Rs.one (Sh.one (R.int u8))
def ZxV (chip:Int) (f:TF):RT (Option (Int)):=
 let x1:=orI u8 (orI u8 (orI u8 (orI u8 (pBit f.1 7) (pBit f.2.1 6)) (pBit f.2.2.2.1 4)) (pBit f.2.2.2.2.1 2)) (pBit f.2.2.2.2.2.2 0)
 .br (!ZeM f.1 7||(!ZeM f.2.1 6||(!ZeM f.2.2.2.1 4||(!ZeM f.2.2.2.2.1 2||ZeM f.2.2.2.2.2.2 0)))) (.br (!ZeM f.1 7||(!ZeM f.2.1 6||(!ZeM f.2.2.2.1 4||ZeM f.2.2.2.2.1 2))) (.br (!ZeM f.1 7||(!ZeM f.2.1 6||ZeM f.2.2.2.1 4)) (.br (!ZeM f.1 7||ZeM f.2.1 6) (.br (ZeM f.1 7) (.br (!chip==2||(!ZeM f.2.2.1 5||ZeM f.2.2.2.2.2.1 1)) (.br (!chip==2||ZeM f.2.2.1 5) (.br (chip==2) (.leaf (some (orI u8 (orI u8 x1 (pBit f.2.2.1 5)) (pBit f.2.2.2.2.2.1 1)))) (.leaf (some (orI u8 x1 2)))) (.leaf none)) (.leaf none)) (.leaf none)) (.leaf none)) (.leaf none)) (.leaf none)) (.leaf none)
def ZTD (chip:Int) (f:TF):Int:=getO ZBU.dflt (ZxV chip f).val
def ZGg (chip:Int) (f:TF):Bool:=okB (ZxV chip f).val
def ZV6:Entry:=Zg ZPh ZBU (λa=>some (ZGg a.1 a.2)) (λa=>ZTD a.1 a.2)
theorem ZTC:Za prog 324 ZV6:=
 pureP 63 [(335,Z0y)] [] ZPh ZBU ⟨ZYN,Tv⟩ Tryz.func324 Tryz.call324 trivial (t:=λa=>ZxV a.1 a.2)
abbrev ZxN:List Sh:=[Sh.one (R.int i64),Sh.one (R.int u8)]
abbrev ZxO:Rs:=Rs.one (Sh.agg rcF7)
def Zt0 (chip:Int) (b:Int):RT TF:=
 .leaf ((andI u8 b 128 !=0,andI u8 b 64 !=0,chip==2&&andI u8 b 32 !=0,andI u8 b 16 !=0,andI u8 b 4 !=0,chip==2&&andI u8 b 2 !=0,andI u8 b 1 !=0))
def Zt1 (chip:Int) (b:Int):TF:=(Zt0 chip b).val
def ZF9:Entry:=Zg ZxN ZxO (λ_=>none) (λa=>Zt1 a.1 a.2)
theorem ZJa:Za prog 323 ZF9:=
 pureQ 63 [] [] ZxN ZxO trivial Tryz.func323 Tryz.call323 trivial (t:=λa=>Zt0 a.1 a.2)
abbrev Z0r:List Sh:=[Sh.one (R.int u8)]
abbrev ZYr:Rs:=Rs.one (Sh.agg rcF7)
def pOfT (r:Int):RT (Option TF):=
 .br (Zlo r) (.leaf (some ((decide (r>=128),r==0,false,false,Zuc r,false,false)))) (.leaf none)
def pOf (r:Int):TF:=getO ZYr.dflt (pOfT r).val
def pOfC (r:Int):Bool:=okB (pOfT r).val
def pOfE:Entry:=Zg Z0r ZYr (λa=>some (pOfC a)) (λa=>pOf a)
theorem ZxW:Za prog 314 pOfE:=
 pureP 7 [(334,ZGf)] [] Z0r ZYr ⟨ZJd,Tv⟩ Tryz.func314 Tryz.call314 trivial (t:=λa=>pOfT a)
def Zpe:Entry:=.tree (ZS (envX prog [] [] 141872468127 8) Tryz.f310)
theorem Zpd:Za prog 310 Zpe:=Zas (P:=prog) (n:=141872468127) (k:=8) (l:=[]) (ol:=[]) trivial Tryz.func310 rfl (by kernel_rfl) Tryz.call310 trivial
abbrev ZPH:List Sh:=[Sh.agg ZeX,Sh.one (R.int i64)]
abbrev ZPI:Rs:=Rs.one (Sh.one (R.int u8))
def ZYx (r:TR) (n:Int):RT (Int):=
 .br (andI i64 n 7==0) (.leaf r.2.1) (.br (andI i64 n 7==1) (.leaf r.2.2.1) (.br (andI i64 n 7==2) (.leaf r.2.2.2.1) (.br (andI i64 n 7==3) (.leaf r.2.2.2.2.1) (.br (andI i64 n 7==4) (.leaf r.2.2.2.2.2.1) (.br (andI i64 n 7==5) (.leaf r.2.2.2.2.2.2.1) (.br (andI i64 n 7==7) (.leaf r.1) (.leaf (0))))))))
def pGet (r:TR) (n:Int):Int:=(ZYx r n).val
def Z0u:Entry:=Zg ZPH ZPI (λ_=>none) (λa=>pGet a.1 a.2)
theorem ZPG:Za prog 287 Z0u:=
 pureQ 63 [(310,Zpe)] [] ZPH ZPI ⟨Zpd,Tv⟩ Tryz.func287 Tryz.call287 trivial (t:=λa=>ZYx a.1 a.2)
abbrev ZO0:List Sh:=[Sh.agg ZeX,Sh.one (R.int i64),Sh.one (R.int u8)]
abbrev ZO1:Rs:=Rs.one (Sh.agg ZeX)
def ZYe (r:TR) (n:Int) (v:Int):RT TR:=
 .br (andI i64 n 7==0) (.leaf ((r.1,v,r.2.2))) (.br (andI i64 n 7==1) (.leaf ((r.1,r.2.1,v,r.2.2.2))) (.br (andI i64 n 7==2) (.leaf ((r.1,r.2.1,r.2.2.1,v,r.2.2.2.2))) (.br (andI i64 n 7==3) (.leaf ((r.1,r.2.1,r.2.2.1,r.2.2.2.1,v,r.2.2.2.2.2))) (.br (andI i64 n 7==4) (.leaf ((r.1,r.2.1,r.2.2.1,r.2.2.2.1,r.2.2.2.2.1,v,r.2.2.2.2.2.2))) (.br (andI i64 n 7==5) (.leaf ((r.1,r.2.1,r.2.2.1,r.2.2.2.1,r.2.2.2.2.1,r.2.2.2.2.2.1,v,r.2.2.2.2.2.2.2))) (.br (andI i64 n 7==7) (.leaf ((v,r.2))) (.leaf (r))))))))
def pSet (r:TR) (n:Int) (v:Int):TR:=(ZYe r n v).val
def Z0n:Entry:=Zg ZO0 ZO1 (λ_=>none) (λa=>pSet a.1 a.2.1 a.2.2)
theorem ZOZ:Za prog 268 Z0n:=
 pureQ 255 [(310,Zpe)] [] ZO0 ZO1 ⟨Zpd,Tv⟩ Tryz.func268 Tryz.call268 trivial (t:=λa=>ZYe a.1 a.2.1 a.2.2)
abbrev ZBS:List Sh:=[Sh.agg ZeX,Sh.one (R.int i64)]
abbrev ZBT:Rs:=Rs.one (Sh.one (R.int u16))
def ZPe (r:TR) (n:Int):RT (Int):=
 .br (andI i64 n 3==3) (.leaf r.2.2.2.2.2.2.2.2.1) (.leaf (ZPz (pGet r (i64.wrap (2*andI i64 n 3))) (pGet r (i64.wrap (i64.wrap (2*andI i64 n 3)+1)))))
def ZYm (r:TR) (n:Int):Int:=(ZPe r n).val
def Z0p:Entry:=Zg ZBS ZBT (λ_=>none) (λa=>ZYm a.1 a.2)
theorem ZTB:Za prog 286 Z0p:=
 pureQ 31 [(236,ZGo),(287,Z0u)] [] ZBS ZBT ⟨Zlp,ZPG,Tv⟩ Tryz.func286 Tryz.call286 trivial (t:=λa=>ZPe a.1 a.2)
abbrev ZjM:List Sh:=[Sh.agg ZeX,Sh.one (R.int i64),Sh.one (R.int u16)]
abbrev ZjN:Rs:=Rs.one (Sh.agg ZeX)
def ZnD (r:TR) (n:Int) (v:Int):RT TR:=
 .br (andI i64 n 3==3) (.leaf ((r.1,r.2.1,r.2.2.1,r.2.2.2.1,r.2.2.2.2.1,r.2.2.2.2.2.1,r.2.2.2.2.2.2.1,r.2.2.2.2.2.2.2.1,v,r.2.2.2.2.2.2.2.2.2))) (.leaf (pSet (pSet r (i64.wrap (2*andI i64 n 3)) (u8.wrap (shrI u16 v 8))) (i64.wrap (i64.wrap (2*andI i64 n 3)+1)) (u8.wrap v)))
def Zt3 (r:TR) (n:Int) (v:Int):TR:=(ZnD r n v).val
def ZO2:Entry:=Zg ZjM ZjN (λ_=>none) (λa=>Zt3 a.1 a.2.1 a.2.2)
theorem ZBJ:Za prog 269 ZO2:=
 pureQ 127 [(268,Z0n)] [] ZjM ZjN ⟨ZOZ,Tv⟩ Tryz.func269 Tryz.call269 trivial (t:=λa=>ZnD a.1 a.2.1 a.2.2)
abbrev ZPi:List Sh:=[Sh.one (R.int i64),Sh.agg ZeX]
abbrev ZGh:Rs:=Rs.one (Sh.one (R.int u16))
def ZTE (chip:Int) (r:TR):RT (Option (Int)):=
 .br (ZGg chip r.2.2.2.2.2.2.2.1) (.leaf (some (ZPz r.1 (ZTD chip r.2.2.2.2.2.2.2.1)))) (.leaf none)
def pPSW (chip:Int) (r:TR):Int:=getO ZGh.dflt (ZTE chip r).val
def ZYo (chip:Int) (r:TR):Bool:=okB (ZTE chip r).val
def pPSWE:Entry:=Zg ZPi ZGh (λa=>some (ZYo a.1 a.2)) (λa=>pPSW a.1 a.2)
theorem ZYn:Za prog 290 pPSWE:=
 pureP 31 [(236,ZGo),(324,ZV6)] [] ZPi ZGh ⟨Zlp,ZTC,Tv⟩ Tryz.func290 Tryz.call290 trivial (t:=λa=>ZTE a.1 a.2)
abbrev ZnE:List Sh:=[Sh.one (R.int i64),Sh.agg ZeX,Sh.one (R.int u16)]
abbrev ZnF:Rs:=Rs.one (Sh.agg ZeX)
def Zt4 (chip:Int) (r:TR) (v:Int):RT TR:=
 .leaf ((u8.wrap (shrI u16 v 8),r.2.1,r.2.2.1,r.2.2.2.1,r.2.2.2.2.1,r.2.2.2.2.2.1,r.2.2.2.2.2.2.1,Zt1 chip (u8.wrap v),r.2.2.2.2.2.2.2.2))
def ZBL (chip:Int) (r:TR) (v:Int):TR:=(Zt4 chip r v).val
def ZTu:Entry:=Zg ZnE ZnF (λ_=>none) (λa=>ZBL a.1 a.2.1 a.2.2)
theorem ZJb:Za prog 281 ZTu:=
 pureQ 127 [(323,ZF9)] [] ZnE ZnF ⟨ZJa,Tv⟩ Tryz.func281 Tryz.call281 trivial (t:=λa=>Zt4 a.1 a.2.1 a.2.2)
abbrev ZGk:List Sh:=[Sh.one (R.int i64),Sh.one (R.int i64),Sh.one (R.int u8),Sh.one (R.int u8)]
abbrev Zun:Rs:=Rs.tup [Sh.one (R.int u8),Sh.agg rcF7]
def Zon (chip:Int) (op:Int) (a:Int) (b:Int):RT (Option (QT2)):=
 let x1:Int:=bif op==4 then andI u8 a b else bif op==5 then xorI u8 a b else bif op==6 then orI u8 a b else 0
 let x2:=pOf x1
 let x3:=x2.2
 let x4:=x3.2
 .br (pOfC x1) (.leaf (some ((x1,x2.1,x3.1,bif chip==2 then pMaj (decide (a>=128)) (decide (b>=128)) (decide (x1>=128)) else x4.1,op==4&&(chip==2||andI u8 (orI u8 a b) 8 !=0),x4.2.2)))) (.leaf none)
def ZGl (chip:Int) (op:Int) (a:Int) (b:Int):QT2:=getO Zun.dflt (Zon chip op a b).val
def Zuo (chip:Int) (op:Int) (a:Int) (b:Int):Bool:=okB (Zon chip op a b).val
def ZPu:Entry:=Zg ZGk Zun (λa=>some (Zuo a.1 a.2.1 a.2.2.1 a.2.2.2)) (λa=>ZGl a.1 a.2.1 a.2.2.1 a.2.2.2)
theorem ZPt:Za prog 311 ZPu:=
 pureP 8858394623 [(314,pOfE),(315,ZJn)] [] ZGk Zun ⟨ZxW,Zom,Tv⟩ Tryz.func311 Tryz.call311 trivial (t:=λa=>Zon a.1 a.2.1 a.2.2.1 a.2.2.2)
abbrev ZYC:List Sh:=[Sh.one (R.int i64),Sh.one (R.int i64),Sh.one (R.int u8),Sh.one (R.int u8),Sh.agg rcF7]
abbrev ZTP:Rs:=Rs.tup [Sh.one (R.int u8),Sh.agg rcF7]
def pDoT (chip:Int) (op:Int) (a:Int) (b:Int) (f:TF):RT (Option (QT2)):=
 let x1:=decide (andI i64 op 7>=4)&&decide (andI i64 op 7<=6)
 let x2:=f.2.2.2.2.2.2&&(andI i64 op 7==1||andI i64 op 7==3)
 let x3:=ZhM a b x2
 let x4:=x3.1
 let x5:=pOf x4
 let x6:=x5.2
 let x7:=x6.2
 let x8:=x3.2
 let x9:=x8.2
 let x10:=x7.2.2
 let x11:TF:=(x5.1,x6.1,bif chip==2 then pMaj (decide (a>=128)) (decide (b<128)) (decide (x4>=128)) else x7.1,x9.1,x10.1,bif chip==2 then x9.2 else x10.2.1,x8.1)
 let x12:=pSum a b x2
 let x13:=x12.1
 let x14:=pOf x13
 let x15:=x14.2
 let x16:=x15.2
 let x17:=x12.2
 let x18:=x17.2
 let x19:=x16.2.2
 let x20:TF:=(x14.1,x15.1,bif chip==2 then pMaj (decide (a>=128)) (decide (b>=128)) (decide (x13>=128)) else x16.1,x18.1,x19.1,bif chip==2 then x18.2 else x19.2.1,x17.1)
 .br (!x1||Zuo chip (andI i64 op 7) a b) (.br (x1) (.leaf (some (ZGl chip (andI i64 op 7) a b))) (.br (andI i64 op 7 !=0&&andI i64 op 7 !=1) (.br (pOfC x4) (.br (andI i64 op 7==7) (.leaf (some ((a,x11)))) (.leaf (some ((x4,x11))))) (.leaf none)) (.br (pOfC x13) (.br (andI i64 op 7==7) (.leaf (some ((a,x20)))) (.leaf (some ((x13,x20))))) (.leaf none)))) (.leaf none)
def pDo (chip:Int) (op:Int) (a:Int) (b:Int) (f:TF):QT2:=getO ZTP.dflt (pDoT chip op a b f).val
def pDoC (chip:Int) (op:Int) (a:Int) (b:Int) (f:TF):Bool:=okB (pDoT chip op a b f).val
def pDoE:Entry:=Zg ZYC ZTP (λa=>some (pDoC a.1 a.2.1 a.2.2.1 a.2.2.2.1 a.2.2.2.2)) (λa=>pDo a.1 a.2.1 a.2.2.1 a.2.2.2.1 a.2.2.2.2)
theorem Z0x:Za prog 271 pDoE:=
 pureP 1048575 [(311,ZPu),(312,ZTs),(313,ZGx),(314,pOfE),(315,ZJn)] [] ZYC ZTP ⟨ZPt,ZBI,Zu8,ZxW,Zom,Tv⟩ Tryz.func271 Tryz.call271 trivial (t:=λa=>pDoT a.1 a.2.1 a.2.2.1 a.2.2.2.1 a.2.2.2.2)
abbrev ZxT:List Sh:=[Sh.one (R.int i64),Sh.one (R.int u8),Sh.one (R.int u8),Sh.one R.bool,Sh.one R.bool,Sh.one R.bool,Sh.agg rcF7]
abbrev ZnH:Rs:=Rs.one (Sh.agg rcF7)
def Zln (chip:Int) (v:Int) (r:Int) (half:Bool) (over:Bool) (x:Bool) (f:TF):RT (Option TF):=
 .br (pOfC r) (.leaf (some (((pOf r).1,(pOf r).2.1,bif chip==2 then pMaj (decide (v>=128)) x (decide (r>=128)) else (pOf r).2.2.1,half,(pOf r).2.2.2.2.1,bif chip==2 then over else (pOf r).2.2.2.2.2.1,f.2.2.2.2.2.2)))) (.leaf none)
def ZnI (chip:Int) (v:Int) (r:Int) (half:Bool) (over:Bool) (x:Bool) (f:TF):TF:=getO ZnH.dflt (Zln chip v r half over x f).val
def ZiI (chip:Int) (v:Int) (r:Int) (half:Bool) (over:Bool) (x:Bool) (f:TF):Bool:=okB (Zln chip v r half over x f).val
def Zt5:Entry:=Zg ZxT ZnH (λa=>some (ZiI a.1 a.2.1 a.2.2.1 a.2.2.2.1 a.2.2.2.2.1 a.2.2.2.2.2.1 a.2.2.2.2.2.2)) (λa=>ZnI a.1 a.2.1 a.2.2.1 a.2.2.2.1 a.2.2.2.2.1 a.2.2.2.2.2.1 a.2.2.2.2.2.2)
theorem Zq5:Za prog 316 Zt5:=
 pureP 65535 [(314,pOfE),(315,ZJn)] [] ZxT ZnH ⟨ZxW,Zom,Tv⟩ Tryz.func316 Tryz.call316 trivial (t:=λa=>Zln a.1 a.2.1 a.2.2.1 a.2.2.2.1 a.2.2.2.2.1 a.2.2.2.2.2.1 a.2.2.2.2.2.2)
abbrev ZPD:List Sh:=[Sh.one (R.int i64),Sh.one (R.int u8),Sh.agg rcF7]
abbrev ZGp:Rs:=Rs.tup [Sh.one (R.int u8),Sh.agg rcF7]
def ZTJ (chip:Int) (v:Int) (f:TF):RT (Option (QT2)):=
 .br (ZiI chip v (pSum v 1 false).1 (pSum v 1 false).2.2.1 (pSum v 1 false).2.2.2 false f) (.leaf (some (((pSum v 1 false).1,ZnI chip v (pSum v 1 false).1 (pSum v 1 false).2.2.1 (pSum v 1 false).2.2.2 false f)))) (.leaf none)
def pInr (chip:Int) (v:Int) (f:TF):QT2:=getO ZGp.dflt (ZTJ chip v f).val
def ZYv (chip:Int) (v:Int) (f:TF):Bool:=okB (ZTJ chip v f).val
def pInrE:Entry:=Zg ZPD ZGp (λa=>some (ZYv a.1 a.2.1 a.2.2)) (λa=>pInr a.1 a.2.1 a.2.2)
theorem ZYu:Za prog 273 pInrE:=
 pureP 4095 [(312,ZTs),(316,Zt5)] [] ZPD ZGp ⟨ZBI,Zq5,Tv⟩ Tryz.func273 Tryz.call273 trivial (t:=λa=>ZTJ a.1 a.2.1 a.2.2)
abbrev ZP3:List Sh:=[Sh.one (R.int i64),Sh.one (R.int u8),Sh.agg rcF7]
abbrev ZGz:Rs:=Rs.tup [Sh.one (R.int u8),Sh.agg rcF7]
def ZTS (chip:Int) (v:Int) (f:TF):RT (Option (QT2)):=
 .br (ZiI chip v (ZhM v 1 false).1 (ZhM v 1 false).2.2.1 (ZhM v 1 false).2.2.2 true f) (.leaf (some (((ZhM v 1 false).1,ZnI chip v (ZhM v 1 false).1 (ZhM v 1 false).2.2.1 (ZhM v 1 false).2.2.2 true f)))) (.leaf none)
def pDcr (chip:Int) (v:Int) (f:TF):QT2:=getO ZGz.dflt (ZTS chip v f).val
def ZYI (chip:Int) (v:Int) (f:TF):Bool:=okB (ZTS chip v f).val
def pDcrE:Entry:=Zg ZP3 ZGz (λa=>some (ZYI a.1 a.2.1 a.2.2)) (λa=>pDcr a.1 a.2.1 a.2.2)
theorem ZYH:Za prog 274 pDcrE:=
 pureP 4095 [(313,ZGx),(316,Zt5)] [] ZP3 ZGz ⟨Zu8,Zq5,Tv⟩ Tryz.func274 Tryz.call274 trivial (t:=λa=>ZTS a.1 a.2.1 a.2.2)
abbrev ZPA:List Sh:=[Sh.one (R.int i64),Sh.one (R.int u16),Sh.agg rcF7]
abbrev ZPB:Rs:=Rs.tup [Sh.one (R.int u16),Sh.agg rcF7]
def ZYt (chip:Int) (v:Int) (f:TF):RT (QT2):=
 .leaf ((u16.wrap (v+1),f.1,f.2.1,bif chip==2 then v==65535 else f.2.2.1,f.2.2.2))
def pInx (chip:Int) (v:Int) (f:TF):QT2:=(ZYt chip v f).val
def pInxE:Entry:=Zg ZPA ZPB (λ_=>none) (λa=>pInx a.1 a.2.1 a.2.2)
theorem ZYs:Za prog 275 pInxE:=
 pureQ 255 [] [] ZPA ZPB trivial Tryz.func275 Tryz.call275 trivial (t:=λa=>ZYt a.1 a.2.1 a.2.2)
abbrev ZP0:List Sh:=[Sh.one (R.int i64),Sh.one (R.int u16),Sh.agg rcF7]
abbrev ZP1:Rs:=Rs.tup [Sh.one (R.int u16),Sh.agg rcF7]
def ZYG (chip:Int) (v:Int) (f:TF):RT (QT2):=
 .leaf ((u16.wrap (v-1),f.1,f.2.1,bif chip==2 then v==0 else f.2.2.1,f.2.2.2))
def pDcx (chip:Int) (v:Int) (f:TF):QT2:=(ZYG chip v f).val
def pDcxE:Entry:=Zg ZP0 ZP1 (λ_=>none) (λa=>pDcx a.1 a.2.1 a.2.2)
theorem ZYF:Za prog 276 pDcxE:=
 pureQ 255 [] [] ZP0 ZP1 trivial Tryz.func276 Tryz.call276 trivial (t:=λa=>ZYG a.1 a.2.1 a.2.2)
abbrev ZP4:List Sh:=[Sh.one (R.int i64),Sh.one (R.int u16),Sh.one (R.int u16),Sh.agg rcF7]
abbrev ZP5:Rs:=Rs.tup [Sh.one (R.int u16),Sh.agg rcF7]
def ZYK (chip:Int) (a:Int) (b:Int) (f:TF):RT (QT2):=
 .leaf ((u16.wrap (a+b),f.1,f.2.1,f.2.2.1,f.2.2.2.1,f.2.2.2.2.1,bif chip==2 then andI u16 (andI u16 (xorI u16 a (u16.wrap (a+b))) (xorI u16 b (u16.wrap (a+b)))) 32768 !=0 else f.2.2.2.2.2.1,decide (u16.wrap (a+b)<a)))
def pDad (chip:Int) (a:Int) (b:Int) (f:TF):QT2:=(ZYK chip a b f).val
def pDadE:Entry:=Zg ZP4 ZP5 (λ_=>none) (λa=>pDad a.1 a.2.1 a.2.2.1 a.2.2.2)
theorem ZYJ:Za prog 277 pDadE:=
 pureQ 2047 [] [] ZP4 ZP5 trivial Tryz.func277 Tryz.call277 trivial (t:=λa=>ZYK a.1 a.2.1 a.2.2.1 a.2.2.2)
abbrev ZCQ:List Sh:=[Sh.one (R.int u16),Sh.one (R.int u16)]
abbrev Zu7:Rs:=Rs.tup [Sh.one (R.int u16),Sh.agg rcF7]
def ZGw (a:Int) (b:Int):RT (Option (QT2)):=
 let x1:=ZhM (u8.wrap (shrI u16 a 8)) (u8.wrap (shrI u16 b 8)) (ZhM (u8.wrap a) (u8.wrap b) false).2.1
 let x2:=x1.1
 let x3:=pOf x2
 let x4:=x1.2
 let x5:=x4.2
 .br (pOfC x2) (.leaf (some ((ZPz x2 (ZhM (u8.wrap a) (u8.wrap b) false).1,x3.1,x2==0&&(ZhM (u8.wrap a) (u8.wrap b) false).1==0,pMaj (decide (a>=32768)) (decide (b<32768)) (decide (x2>=128)),x5.1,x3.2.2.2.2.1,x5.2,x4.1)))) (.leaf none)
def ZYB (a:Int) (b:Int):QT2:=getO Zu7.dflt (ZGw a b).val
def ZPV (a:Int) (b:Int):Bool:=okB (ZGw a b).val
def Z0w:Entry:=Zg ZCQ Zu7 (λa=>some (ZPV a.1 a.2)) (λa=>ZYB a.1 a.2)
theorem ZTO:Za prog 283 Z0w:=
 pureP 32767 [(236,ZGo),(313,ZGx),(314,pOfE),(315,ZJn)] [] ZCQ Zu7 ⟨Zlp,Zu8,ZxW,Zom,Tv⟩ Tryz.func283 Tryz.call283 trivial (t:=λa=>ZGw a.1 a.2)
abbrev ZP7:List Sh:=[Sh.one (R.int i64),Sh.one (R.int u8),Sh.agg rcF7]
abbrev ZGC:Rs:=Rs.tup [Sh.one (R.int u8),Sh.agg rcF7]
def ZTU (chip:Int) (a:Int) (f:TF):RT (Option (QT2)):=
 let x1:Int:=bif f.2.2.2.1||decide (andI u8 a 15>9) then 6 else 0
 let x2:=pSum a (bif f.2.2.2.2.2.2||decide (a>153) then u8.wrap (x1+96) else x1) false
 let x3:=x2.1
 let x4:=pOf x3
 let x5:=x4.2
 let x6:=x5.2
 let x7:=x2.2.2
 let x8:=x6.2.2
 .br (pOfC x3) (.leaf (some ((x3,x4.1,x5.1,bif chip==2 then pMaj (decide (a>=128)) false (decide (x3>=128)) else x6.1,x7.1,x8.1,bif chip==2 then x7.2 else x8.2.1,f.2.2.2.2.2.2||decide (a>153))))) (.leaf none)
def pDaa (chip:Int) (a:Int) (f:TF):QT2:=getO ZGC.dflt (ZTU chip a f).val
def ZYM (chip:Int) (a:Int) (f:TF):Bool:=okB (ZTU chip a f).val
def pDaaE:Entry:=Zg ZP7 ZGC (λa=>some (ZYM a.1 a.2.1 a.2.2)) (λa=>pDaa a.1 a.2.1 a.2.2)
theorem ZYL:Za prog 278 pDaaE:=
 pureP 32767 [(312,ZTs),(314,pOfE),(315,ZJn)] [] ZP7 ZGC ⟨ZBI,ZxW,Zom,Tv⟩ Tryz.func278 Tryz.call278 trivial (t:=λa=>ZTU a.1 a.2.1 a.2.2)
abbrev ZWc:List Sh:=[Sh.one R.bool]
abbrev ZWd:Rs:=Rs.one (Sh.one (R.int u8))
def Z0t (c:Bool):RT (Int):=
 .br (c) (.leaf (1)) (.leaf (0))
def pLow (c:Bool):Int:=(Z0t c).val
def ZJo:Entry:=Zg ZWc ZWd (λ_=>none) (λa=>pLow a)
theorem ZCA:Za prog 320 ZJo:=
 pureQ 7 [] [] ZWc ZWd trivial Tryz.func320 Tryz.call320 trivial (t:=λa=>Z0t a)
def ZgA:Entry:=.tree (ZS (envX prog [] [] 7 8) Tryz.f317)
theorem Zj5:Za prog 317 ZgA:=Zas (P:=prog) (n:=7) (k:=8) (l:=[]) (ol:=[]) trivial Tryz.func317 rfl (by kernel_rfl) Tryz.call317 trivial
def Zgz:Entry:=.tree (ZS (envX prog [] [] 7 8) Tryz.f318)
theorem Zj4:Za prog 318 Zgz:=Zas (P:=prog) (n:=7) (k:=8) (l:=[]) (ol:=[]) trivial Tryz.func318 rfl (by kernel_rfl) Tryz.call318 trivial
def Zgy:Entry:=.tree (ZS (envX prog [(320,ZJo)] [] 15 8) Tryz.f319)
theorem Zj3:Za prog 319 Zgy:=Zas (P:=prog) (n:=15) (k:=8) (l:=[(320,ZJo)]) (ol:=[]) ⟨ZCA,Tv⟩ Tryz.func319 rfl (by kernel_rfl) Tryz.call319 trivial
def Zgx:Entry:=.tree (ZS (envX prog [(320,ZJo)] [] 15 8) Tryz.f321)
theorem Zj2:Za prog 321 Zgx:=Zas (P:=prog) (n:=15) (k:=8) (l:=[(320,ZJo)]) (ol:=[]) ⟨ZCA,Tv⟩ Tryz.func321 rfl (by kernel_rfl) Tryz.call321 trivial
abbrev ZO4:List Sh:=[Sh.one (R.int i64),Sh.one (R.int u8),Sh.one R.bool]
abbrev ZGc:Rs:=Rs.tup [Sh.one (R.int u8),Sh.one R.bool]
def ZTw (op:Int) (a:Int) (c:Bool):RT (Option (Int×Bool)):=
 .br (andI i64 op 3==0||(andI i64 op 3== ↑(0+1)||(andI i64 op 3== ↑(0+1+1)||andI i64 op 3== ↑(0+1+1+1)))) (.leaf (some ((bif andI i64 op 3==0 then orI u8 (shlI u8 a 1) (shrI u8 a 7) else bif andI i64 op 3== ↑(0+1) then orI u8 (shrI u8 a 1) (shlI u8 a 7) else bif andI i64 op 3== ↑(0+1+1) then orI u8 (shlI u8 a 1) (pLow c) else orI u8 (shrI u8 a 1) (shlI u8 (pLow c) 7),bif andI i64 op 3==0 then decide (a>=128) else bif andI i64 op 3== ↑(0+1) then andI u8 a 1==1 else bif andI i64 op 3== ↑(0+1+1) then decide (a>=128) else andI u8 a 1==1)))) (.leaf none)
def pRot (op:Int) (a:Int) (c:Bool):Int×Bool:=getO ZGc.dflt (ZTw op a c).val
def ZYg (op:Int) (a:Int) (c:Bool):Bool:=okB (ZTw op a c).val
def pRotE:Entry:=Zg ZO4 ZGc (λa=>some (ZYg a.1 a.2.1 a.2.2)) (λa=>pRot a.1 a.2.1 a.2.2)
theorem ZYf:Za prog 279 pRotE:=
 pureP 511 [(317,ZgA),(318,Zgz),(319,Zgy),(321,Zgx)] [] ZO4 ZGc ⟨Zj5,Zj4,Zj3,Zj2,Tv⟩ Tryz.func279 Tryz.call279 trivial (t:=λa=>ZTw a.1 a.2.1 a.2.2)
abbrev ZCS:List Sh:=[Sh.one (R.int u16)]
abbrev ZCT:Rs:=Rs.tup [Sh.one (R.int u16),Sh.one R.bool]
def ZWi (v:Int):RT (Int×Bool):=
 .leaf ((orI u16 (shrI u16 v 1) (andI u16 v 32768),andI u16 v 1==1))
def Z0A (v:Int):Int×Bool:=(ZWi v).val
def Z0z:Entry:=Zg ZCS ZCT (λ_=>none) (λa=>Z0A a)
theorem ZTX:Za prog 284 Z0z:=
 pureQ 15 [] [] ZCS ZCT trivial Tryz.func284 Tryz.call284 trivial (t:=λa=>ZWi a)
abbrev ZBP:List Sh:=[Sh.one (R.int u16),Sh.one R.bool]
abbrev ZBQ:Rs:=Rs.tup [Sh.one (R.int u16),Sh.one R.bool,Sh.one R.bool]
def ZPc (v:Int) (c:Bool):RT (Int×Bool×Bool):=
 .leaf ((orI u16 (shlI u16 v 1) (u16.wrap (pLow c)),decide (v>=32768),andI u16 (xorI u16 (orI u16 (shlI u16 v 1) (u16.wrap (pLow c))) v) 32768 !=0))
def ZYl (v:Int) (c:Bool):Int×Bool×Bool:=(ZPc v c).val
def Z0o:Entry:=Zg ZBP ZBQ (λ_=>none) (λa=>ZYl a.1 a.2)
theorem ZTA:Za prog 285 Z0o:=
 pureQ 127 [(320,ZJo)] [] ZBP ZBQ ⟨ZCA,Tv⟩ Tryz.func285 Tryz.call285 trivial (t:=λa=>ZPc a.1 a.2)
abbrev ZO3:List Sh:=[Sh.one R.bool,Sh.one (R.int i64)]
abbrev ZBM:Rs:=Rs.one (Sh.one (R.int u8))
def ZGb (b:Bool) (n:Int):RT (Option (Int)):=
 .br (!b||decide (0<=n)) (.br (b) (.leaf (some (shlI u8 1 n))) (.leaf (some (0)))) (.leaf none)
def ZxS (b:Bool) (n:Int):Int:=getO ZBM.dflt (ZGb b n).val
def ZcW (b:Bool) (n:Int):Bool:=okB (ZGb b n).val
def ZV5:Entry:=Zg ZO3 ZBM (λa=>some (ZcW a.1 a.2)) (λa=>ZxS a.1 a.2)
theorem ZTv:Za prog 282 ZV5:=
 pureP 31 [] [] ZO3 ZBM trivial Tryz.func282 Tryz.call282 trivial (t:=λa=>ZGb a.1 a.2)
abbrev ZO6:List Sh:=[Sh.agg ZF,Sh.agg (R.pair R.bool (R.pair R.bool rcF7))]
abbrev ZGd:Rs:=Rs.tup [Sh.one (R.int u8),Sh.agg ZF]
def ZTy (c:TC) (l:QT0):RT (Option (Int×TC)):=
 let x1:=bif c.2.2.2.2.2.2.2.2.2.2.1 then c.2.2.2.2.2.2.2.2.2.2.2.1 else c.2.2.1
 .br (!ZcW l.2.2.2.1 7||(!ZcW c.2.2.2.2.2.2.2.1 6||(!ZcW l.2.2.2.2.2.2.1 5||(!ZcW l.2.2.2.2.2.2.2.1 4||ZcW x1 3)))) (.br (!ZcW l.2.2.2.1 7||(!ZcW c.2.2.2.2.2.2.2.1 6||(!ZcW l.2.2.2.2.2.2.1 5||ZcW l.2.2.2.2.2.2.2.1 4))) (.br (!ZcW l.2.2.2.1 7||(!ZcW c.2.2.2.2.2.2.2.1 6||ZcW l.2.2.2.2.2.2.1 5)) (.br (!ZcW l.2.2.2.1 7||ZcW c.2.2.2.2.2.2.2.1 6) (.br (ZcW l.2.2.2.1 7) (.leaf (some ((orI u8 (orI u8 (orI u8 (orI u8 (orI u8 (ZxS l.2.2.2.1 7) (ZxS c.2.2.2.2.2.2.2.1 6)) (ZxS l.2.2.2.2.2.2.1 5)) (ZxS l.2.2.2.2.2.2.2.1 4)) (ZxS x1 3)) (andI u8 c.2.2.2.2.2.1 7),c.1,c.2.1,c.2.2.1,c.2.2.2.1,c.2.2.2.2.1,c.2.2.2.2.2.1,c.2.2.2.2.2.2.1,c.2.2.2.2.2.2.2.1,c.2.2.2.2.2.2.2.2.1,c.2.2.2.2.2.2.2.2.2.1,false,false,c.2.2.2.2.2.2.2.2.2.2.2.2)))) (.leaf none)) (.leaf none)) (.leaf none)) (.leaf none)) (.leaf none)
def pRim (c:TC) (l:QT0):Int×TC:=getO ZGd.dflt (ZTy c l).val
def ZYi (c:TC) (l:QT0):Bool:=okB (ZTy c l).val
def pRimE:Entry:=Zg ZO6 ZGd (λa=>some (ZYi a.1 a.2)) (λa=>pRim a.1 a.2)
theorem ZYh:Za prog 227 pRimE:=
 pureP 255 [(282,ZV5)] [] ZO6 ZGd ⟨ZTv,Tv⟩ Tryz.func227 Tryz.call227 trivial (t:=λa=>ZTy a.1 a.2)
abbrev ZOW:List Sh:=[Sh.agg ZF,Sh.one (R.int u8)]
abbrev ZOX:Rs:=Rs.one (Sh.agg ZF)
def ZYd (c:TC) (a:Int):RT TC:=
 .leaf ((c.1,c.2.1,c.2.2.1,c.2.2.2.1,c.2.2.2.2.1,bif andI u8 a 8 !=0 then andI u8 a 7 else c.2.2.2.2.2.1,c.2.2.2.2.2.2.1,!andI u8 a 16 !=0&&c.2.2.2.2.2.2.2.1,c.2.2.2.2.2.2.2.2.1,c.2.2.2.2.2.2.2.2.2.1,c.2.2.2.2.2.2.2.2.2.2.1,c.2.2.2.2.2.2.2.2.2.2.2.1,bif andI u8 a 64 !=0 then andI u8 a 128 !=0 else c.2.2.2.2.2.2.2.2.2.2.2.2))
def pSim (c:TC) (a:Int):TC:=(ZYd c a).val
def pSimE:Entry:=Zg ZOW ZOX (λ_=>none) (λa=>pSim a.1 a.2)
theorem ZYc:Za prog 228 pSimE:=
 pureQ 31 [] [] ZOW ZOX trivial Tryz.func228 Tryz.call228 trivial (t:=λa=>ZYd a.1 a.2)
abbrev Zuq:List Sh:=[Sh.one (R.int i64),Sh.agg rcF7]
abbrev Zur:Rs:=Rs.one (Sh.one R.bool)
def ZCD (c:Int) (f:TF):RT (Bool):=
 .br (bif c==0 then c==0 else c==1) (.leaf (f.2.1==(c==1))) (.br (bif c==2 then c==2 else c==3) (.leaf (f.2.2.2.2.2.2==(c==3))) (.br (bif c==4 then c==4 else c==5) (.leaf (f.2.2.2.2.1==(c==5))) (.br (bif c==6 then c==6 else c==7) (.leaf (f.1==(c==7))) (.br (bif c==8 then c==8 else c==9) (.leaf (f.2.2.1==(c==9))) (.br (c==10) (.leaf f.2.2.2.2.2.1) (.leaf (c==11)))))))
def ZPF (c:Int) (f:TF):Bool:=(ZCD c f).val
def ZYw:Entry:=Zg Zuq Zur (λ_=>none) (λa=>ZPF a.1 a.2)
theorem ZPE:Za prog 322 ZYw:=
 pureQ 70644700037215 [] [] Zuq Zur trivial Tryz.func322 Tryz.call322 trivial (t:=λa=>ZCD a.1 a.2)
abbrev ZnA:List Sh:=[Sh.one (R.int i64)]
abbrev ZnB:Rs:=Rs.one (Sh.one (R.int u16))
def ZtZ (s:Int):RT (Int):=
 .br (s==1) (.leaf (36)) (.br (s==2) (.leaf (60)) (.br (s==3) (.leaf (52)) (.br (s==4) (.leaf (44)) (.leaf (0)))))
def ZBH (s:Int):Int:=(ZtZ s).val
def ZTr:Entry:=Zg ZnA ZnB (λ_=>none) (λa=>ZBH a)
theorem ZI9:Za prog 177 ZTr:=
 pureQ 1367 [] [] ZnA ZnB trivial Tryz.func177 Tryz.call177 trivial (t:=λa=>ZtZ a)
abbrev ZGm:List Sh:=[Sh.one (R.int u8)]
abbrev ZGn:Rs:=Rs.tup [Sh.agg (R.pair (R.int i64) (R.pair (R.int i64) (R.pair (R.int i64) (R.pair (R.int i64) (R.pair (R.int i64) (R.pair (R.int i64) (R.pair (R.int i64) (R.int i64)))))))),Sh.one R.bool]
def ZPw (op:Int):RT (TI×Bool):=
 .br (op==8) (.leaf (((40,1,0,0,0,0,0,0),true))) (.br (op==16) (.leaf (((41,1,0,0,0,0,0,0),true))) (.br (op==24) (.leaf (((42,1,0,0,0,0,0,0),true))) (.br (op==32) (.leaf (((38,1,0,0,0,0,0,0),true))) (.br (op==40) (.leaf (((43,2,0,0,0,0,0,0),true))) (.br (op==48) (.leaf (((39,1,0,0,0,0,0,0),true))) (.br (op==56) (.leaf (((44,2,0,0,0,0,0,0),true))) (.br (op==203) (.leaf (((45,1,0,0,0,0,10,0),true))) (.br (op==217) (.leaf (((46,1,0,0,0,0,0,0),true))) (.br (op==221) (.leaf (((24,3,0,0,0,0,8,0),true))) (.br (op==237) (.leaf (((47,1,0,0,0,0,0,0),true))) (.br (op==253) (.leaf (((24,3,0,0,0,0,9,0),true))) (.leaf (((0,0,0,0,0,0,0,0),false))))))))))))))
def ZPy (op:Int):TI×Bool:=(ZPw op).val
def ZPx:Entry:=Zg ZGm ZGn (λ_=>none) (λa=>ZPy a)
theorem ZPv:Za prog 239 ZPx:=
 pureQ 314146179375 [] [] ZGm ZGn trivial Tryz.func239 Tryz.call239 trivial (t:=λa=>ZPw a)
abbrev Zra:List Sh:=[Sh.one (R.int u8)]
abbrev Zrb:Rs:=Rs.tup [Sh.agg (R.pair (R.int i64) (R.pair (R.int i64) (R.pair (R.int i64) (R.pair (R.int i64) (R.pair (R.int i64) (R.pair (R.int i64) (R.pair (R.int i64) (R.int i64)))))))),Sh.one R.bool]
def ZxY (op:Int):RT (TI×Bool):=
 .br (bif op==0 then op==0 else bif op==8 then op==8 else bif op==16 then op==16 else bif op==24 then op==24 else bif op==32 then op==32 else bif op==40 then op==40 else bif op==48 then op==48 else op==56) (.leaf (((1,1,0,0,0,0,0,0),true))) (.br (bif op==195 then op==195 else op==203) (.leaf (((24,3,0,0,0,0,11,0),true))) (.br (bif op==201 then op==201 else op==217) (.leaf (((26,1,0,0,0,0,11,0),true))) (.br (bif op==205 then op==205 else bif op==221 then op==221 else bif op==237 then op==237 else op==253) (.leaf (((25,3,0,0,0,0,11,0),true))) (.leaf (((0,0,0,0,0,0,0,0),false))))))
def ZiJ (op:Int):TI×Bool:=(ZxY op).val
def ZxZ:Entry:=Zg Zra Zrb (λ_=>none) (λa=>ZiJ a)
theorem ZCP:Za prog 240 ZxZ:=
 pureQ 8945711 [] [] Zra Zrb trivial Tryz.func240 Tryz.call240 trivial (t:=λa=>ZxY a)
abbrev ZPl:List Sh:=[Sh.one (R.int u8)]
abbrev ZBV:Rs:=Rs.one (Sh.agg (R.pair (R.int i64) (R.pair (R.int i64) (R.pair (R.int i64) (R.pair (R.int i64) (R.pair (R.int i64) (R.pair (R.int i64) (R.pair (R.int i64) (R.int i64)))))))))
def ZPm (op:Int):RT (Option TI):=
 let x1:QT29:=(0,0,i64.wrap (andI u8 (shrI u8 op 4) 3),0,0,0)
 let x2:QT21:=(1,x1)
 let x3:=decide (i64.wrap (andI u8 (shrI u8 op 3) 7)<4)&&andI u8 op 8 !=0
 let x4:=decide (0<=i64.wrap (i64.wrap (andI u8 (shrI u8 op 3) 7)-4)/\i64.wrap (i64.wrap (andI u8 (shrI u8 op 3) 7)-4)<4)
 let x5:=i64.wrap (i64.wrap (andI u8 (shrI u8 op 3) 7)-4)==0
 let x6:=i64.wrap (i64.wrap (andI u8 (shrI u8 op 3) 7)-4)== ↑(0+1)
 let x7:=i64.wrap (i64.wrap (andI u8 (shrI u8 op 3) 7)-4)== ↑(0+1+1)
 let x8:QT29:=(i64.wrap (andI u8 (shrI u8 op 3) 7),0,0,0,0,0)
 let x9:QT21:=(1,x8)
 .br (andI u8 op 7==1) (.br (andI u8 op 8 !=0) (.leaf (some ((18,x2)))) (.leaf (some ((4,3,x1))))) (.br (!andI u8 op 7==2||(x3||(decide (i64.wrap (andI u8 (shrI u8 op 3) 7)<4)||x4))) (.br (andI u8 op 7==2) (.br (x3) (.leaf (some ((9,x2)))) (.br (decide (i64.wrap (andI u8 (shrI u8 op 3) 7)<4)) (.leaf (some ((10,x2)))) (.leaf (some ((bif x5 then 8 else bif x6 then 7 else bif x7 then 6 else 5,3,0,0,0,0,0,0)))))) (.br (andI u8 op 7==3) (.br (andI u8 op 8 !=0) (.leaf (some ((17,x2)))) (.leaf (some ((16,x2))))) (.br (andI u8 op 7==4) (.leaf (some ((14,x9)))) (.br (andI u8 op 7==5) (.leaf (some ((15,x9)))) (.br (andI u8 op 7==6) (.leaf (some ((3,2,x8)))) (.br (decide (i64.wrap (andI u8 (shrI u8 op 3) 7)<4)) (.leaf (some ((23,1,0,0,0,i64.wrap (andI u8 (shrI u8 op 3) 7),0,0)))) (.br (x4) (.leaf (some ((bif x5 then 19 else bif x6 then 20 else bif x7 then 21 else 22,1,0,0,0,0,0,0)))) (.leaf none)))))))) (.leaf none))
def ZYq (op:Int):QT6:=getO ZBV.dflt (ZPm op).val
def ZPn (op:Int):Bool:=okB (ZPm op).val
def ZV9:Entry:=Zg ZPl ZBV (λa=>some (ZPn a)) (λa=>ZYq a)
theorem ZTG:Za prog 241 ZV9:=
 pureP 614758941389750335 [] [] ZPl ZBV trivial Tryz.func241 Tryz.call241 trivial (t:=λa=>ZPm a)
abbrev ZGi:List Sh:=[Sh.one (R.int u8)]
abbrev Zud:Rs:=Rs.one (Sh.agg (R.pair (R.int i64) (R.pair (R.int i64) (R.pair (R.int i64) (R.pair (R.int i64) (R.pair (R.int i64) (R.pair (R.int i64) (R.pair (R.int i64) (R.int i64)))))))))
def ZBW (op:Int):RT (Option TI):=
 let x1:QT29:=(0,0,0,0,i64.wrap (andI u8 (shrI u8 op 3) 7),0)
 let x2:QT21:=(1,0,0,i64.wrap (andI u8 (shrI u8 op 4) 3),0,0,0)
 let x3:=andI u8 op 7==2||(!andI u8 op 7==3||(!decide (i64.wrap (andI u8 (shrI u8 op 3) 7)<4)||decide (0<=i64.wrap (i64.wrap (andI u8 (shrI u8 op 3) 7)-2)/\i64.wrap (i64.wrap (andI u8 (shrI u8 op 3) 7)-2)<2)))
 let x4:QT21:=(3,x1)
 .br (andI u8 op 7==0) (.leaf (some ((26,1,x1)))) (.br (andI u8 op 7==1) (.br (!andI u8 op 8 !=0) (.leaf (some ((31,x2)))) (.br (i64.wrap (andI u8 (shrI u8 op 3) 7)==5) (.leaf (some ((28,1,0,0,0,0,0,0)))) (.leaf (some ((29,1,0,0,0,0,0,0)))))) (.br (!x3||(andI u8 op 7==2||(!andI u8 op 7==3||(decide (i64.wrap (andI u8 (shrI u8 op 3) 7)<4)||decide (0<=i64.wrap (i64.wrap (andI u8 (shrI u8 op 3) 7)-4)/\i64.wrap (i64.wrap (andI u8 (shrI u8 op 3) 7)-4)<4))))) (.br (x3) (.br (andI u8 op 7==2) (.leaf (some ((24,x4)))) (.br (andI u8 op 7==3) (.br (decide (i64.wrap (andI u8 (shrI u8 op 3) 7)<4)) (.leaf (some ((bif i64.wrap (i64.wrap (andI u8 (shrI u8 op 3) 7)-2)==0 then 34 else 33,2,0,0,0,0,0,0)))) (.leaf (some ((bif i64.wrap (i64.wrap (andI u8 (shrI u8 op 3) 7)-4)==0 then 32 else bif i64.wrap (i64.wrap (andI u8 (shrI u8 op 3) 7)-4)== ↑(0+1) then 11 else bif i64.wrap (i64.wrap (andI u8 (shrI u8 op 3) 7)-4)== ↑(0+1+1) then 36 else 35,1,0,0,0,0,0,0))))) (.br (andI u8 op 7==4) (.leaf (some ((25,x4)))) (.br (andI u8 op 7==5) (.leaf (some ((30,x2)))) (.br (andI u8 op 7==6) (.leaf (some ((13,2,0,0,0,i64.wrap (andI u8 (shrI u8 op 3) 7),0,0)))) (.leaf (some ((27,1,0,0,0,0,0,i64.wrap (andI u8 (shrI u8 op 3) 7)))))))))) (.leaf none)) (.leaf none)))
def ZPq (op:Int):QT6:=getO Zud.dflt (ZBW op).val
def ZBX (op:Int):Bool:=okB (ZBW op).val
def ZPp:Entry:=Zg ZGi Zud (λa=>some (ZBX a)) (λa=>ZPq a)
theorem ZPo:Za prog 242 ZPp:=
 pureP 614741495173873727 [] [] ZGi Zud trivial Tryz.func242 Tryz.call242 trivial (t:=λa=>ZBW a)
abbrev ZiK:List Sh:=[Sh.one (R.int i64),Sh.one (R.int u8)]
abbrev ZiL:Rs:=Rs.one (Sh.agg (R.pair (R.int i64) (R.pair (R.int i64) (R.pair (R.int i64) (R.pair (R.int i64) (R.pair (R.int i64) (R.pair (R.int i64) (R.pair (R.int i64) (R.int i64)))))))))
def Zfu (chip:Int) (op:Int):RT (Option TI):=
 let x1:QT6:=(37,1,0,0,0,0,0,0)
 let x2:QT6:=(2,1,i64.wrap (andI u8 (shrI u8 op 3) 7),i64.wrap (andI u8 op 7),0,0,0,0)
 let x3:QT6:=(12,1,0,i64.wrap (andI u8 op 7),0,i64.wrap (andI u8 (shrI u8 op 3) 7),0,0)
 .br (chip==2) (.br (ZPy op).2 (.leaf (some (ZPy op).1)) (.br (ZiJ op).2 (.leaf (some (ZiJ op).1)) (.br (!shrI u8 op 6==0||ZPn op) (.br (shrI u8 op 6==0) (.leaf (some (ZYq op))) (.br (shrI u8 op 6==1) (.br (op==118) (.leaf (some (x1))) (.leaf (some (x2)))) (.br (shrI u8 op 6==2) (.leaf (some (x3))) (.br (ZBX op) (.leaf (some (ZPq op))) (.leaf none))))) (.leaf none)))) (.br (ZiJ op).2 (.leaf (some (ZiJ op).1)) (.br (!shrI u8 op 6==0||ZPn op) (.br (shrI u8 op 6==0) (.leaf (some (ZYq op))) (.br (shrI u8 op 6==1) (.br (op==118) (.leaf (some (x1))) (.leaf (some (x2)))) (.br (shrI u8 op 6==2) (.leaf (some (x3))) (.br (ZBX op) (.leaf (some (ZPq op))) (.leaf none))))) (.leaf none)))
def Zor (chip:Int) (op:Int):QT6:=getO ZiL.dflt (Zfu chip op).val
def Zlq (chip:Int) (op:Int):Bool:=okB (Zfu chip op).val
def ZTQ:Entry:=Zg ZiK ZiL (λa=>some (Zlq a.1 a.2)) (λa=>Zor a.1 a.2)
theorem ZJ4:Za prog 182 ZTQ:=
 pureP 17594467746303 [(239,ZPx),(240,ZxZ),(241,ZV9),(242,ZPp)] [] ZiK ZiL ⟨ZPv,ZCP,ZTG,ZPo,Tv⟩ Tryz.func182 Tryz.call182 trivial (t:=λa=>Zfu a.1 a.2)
abbrev ZZ4:List Sh:=[Sh.one (R.int i64)]
abbrev ZZ5:Rs:=Rs.one (Sh.one R.bool)
def rOnT (chip:Int):RT (Bool):=
 .leaf (chip==2)
def rOn (chip:Int):Bool:=(rOnT chip).val
def rOnE:Entry:=Zg ZZ4 ZZ5 (λ_=>none) (λa=>rOn a)
theorem Zee:Za prog 146 rOnE:=
 pureQ 7 [] [] ZZ4 ZZ5 trivial Tryz.func146 Tryz.call146 trivial (t:=λa=>rOnT a)
abbrev Zxk:List Sh:=[Sh.one (R.int u8)]
abbrev Zxl:Rs:=Rs.one (Sh.one R.bool)
def ZFq (b:Int):RT (Bool):=
 let x1:=i64.wrap (i64.wrap (i64.wrap (i64.wrap (0+1)+1)+1)+1)
 let x2:=i64.wrap (x1+1)
 let x3:=i64.wrap (x2+1)
 let x4:=bif andI u8 (shrI u8 b (i64.wrap (0+1))) 1==1 then !!andI u8 (shrI u8 b 0) 1==1 else !andI u8 (shrI u8 b 0) 1==1
 let x5:=bif andI u8 (shrI u8 b (i64.wrap (i64.wrap (0+1)+1))) 1==1 then !x4 else x4
 let x6:=bif andI u8 (shrI u8 b (i64.wrap (i64.wrap (i64.wrap (0+1)+1)+1))) 1==1 then !x5 else x5
 let x7:=bif andI u8 (shrI u8 b x1) 1==1 then !x6 else x6
 let x8:=bif andI u8 (shrI u8 b x2) 1==1 then !x7 else x7
 let x9:=bif andI u8 (shrI u8 b x3) 1==1 then !x8 else x8
 .leaf (bif andI u8 (shrI u8 b (i64.wrap (x3+1))) 1==1 then !x9 else x9)
def Zmz (b:Int):Bool:=(ZFq b).val
def ZsJ:Entry:=Zg Zxk Zxl (λ_=>none) (λa=>Zmz a)
theorem ZqN:Za prog 266 ZsJ:=
 ZF4 (P:=prog) (n:=31) (k:=10) (l:=[]) (ol:=[]) trivial Tryz.func266 rfl (by kernel_rfl) Tryz.call266 trivial (ts:=Zxk) (rs:=Zxl) (t:=λa=>ZFq a) (λa=>by kernel_rfl)
abbrev ZVA:List Sh:=[Sh.one R.bool,Sh.one R.bool,Sh.one R.bool]
abbrev ZVB:Rs:=Rs.one (Sh.one R.bool)
def Z0a (a:Bool) (b:Bool) (c:Bool):RT (Bool):=
 .leaf (bif a then b||bif a then c||b&&c else b&&c else bif a then c||b&&c else b&&c)
def rMaj (a:Bool) (b:Bool) (c:Bool):Bool:=(Z0a a b c).val
def ZIf:Entry:=Zg ZVA ZVB (λ_=>none) (λa=>rMaj a.1 a.2.1 a.2.2)
theorem Zne:Za prog 264 ZIf:=
 pureQ 127 [] [] ZVA ZVB trivial Tryz.func264 Tryz.call264 trivial (t:=λa=>Z0a a.1 a.2.1 a.2.2)
abbrev ZVu:List Sh:=[Sh.one R.bool]
abbrev ZVv:Rs:=Rs.one (Sh.one (R.int i64))
def ZZ3 (b:Bool):RT (Int):=
 .br (b) (.leaf (1)) (.leaf (0))
def rOne (b:Bool):Int:=(ZZ3 b).val
def ZS5:Entry:=Zg ZVu ZVv (λ_=>none) (λa=>rOne a)
theorem ZAs:Za prog 267 ZS5:=
 pureQ 7 [] [] ZVu ZVv trivial Tryz.func267 Tryz.call267 trivial (t:=λa=>ZZ3 a)
abbrev Zxb:List Sh:=[Sh.one (R.int u8)]
abbrev Zxc:Rs:=Rs.one (Sh.one (R.int i64))
def Zlb (n:Int):RT (Int):=
 .leaf (i64.wrap (IntKind.i8.wrap n))
def Zed (n:Int):Int:=(Zlb n).val
def ZsA:Entry:=Zg Zxb Zxc (λ_=>none) (λa=>Zed a)
theorem ZqG:Za prog 309 ZsA:=
 pureQ 7 [] [] Zxb Zxc trivial Tryz.func309 Tryz.call309 trivial (t:=λa=>Zlb a)
abbrev ZVj:List Sh:=[Sh.one (R.int u8),Sh.one (R.int u8),Sh.one R.bool]
abbrev ZVk:Rs:=Rs.tup [Sh.one (R.int u8),Sh.one R.bool,Sh.one R.bool,Sh.one R.bool]
def ZSP (a:Int) (b:Int) (c:Bool):RT (QT19):=
 let x1:=decide (i64.wrap (i64.wrap (Zed a+Zed b)+rOne c)< -128)
 let x2:=i64.wrap (i64.wrap (i64.wrap a+i64.wrap b)+rOne c)
 let x3:=u8.wrap x2
 let x4:=decide (x2>255)
 let x5:=decide (i64.wrap (i64.wrap (i64.wrap (andI u8 a 15)+i64.wrap (andI u8 b 15))+rOne c)>15)
 .leaf ((bif x1 then x3 else x3,bif x1 then x4 else x4,bif x1 then x5 else x5,x1||decide (i64.wrap (i64.wrap (Zed a+Zed b)+rOne c)>127)))
def rSum (a:Int) (b:Int) (c:Bool):QT19:=(ZSP a b c).val
def ZSQ:Entry:=Zg ZVj ZVk (λ_=>none) (λa=>rSum a.1 a.2.1 a.2.2)
theorem ZAc:Za prog 260 ZSQ:=
 pureQ 8191 [(267,ZS5),(309,ZsA)] [] ZVj ZVk ⟨ZAs,ZqG,Tv⟩ Tryz.func260 Tryz.call260 trivial (t:=λa=>ZSP a.1 a.2.1 a.2.2)
abbrev ZOk:List Sh:=[Sh.one (R.int u8),Sh.one (R.int u8),Sh.one R.bool]
abbrev ZOl:Rs:=Rs.tup [Sh.one (R.int u8),Sh.one R.bool,Sh.one R.bool,Sh.one R.bool]
def ZFN (a:Int) (b:Int) (c:Bool):RT (QT19):=
 let x1:=decide (i64.wrap (i64.wrap (Zed a-Zed b)-rOne c)< -128)
 let x2:=i64.wrap (i64.wrap (i64.wrap a-i64.wrap b)-rOne c)
 let x3:=u8.wrap x2
 let x4:=decide (x2<0)
 let x5:=decide (i64.wrap (i64.wrap (i64.wrap (i64.wrap (andI u8 a 15)+i64.wrap (u8.wrap (15-andI u8 b 15)))+1)-rOne c)>15)
 .leaf ((bif x1 then x3 else x3,bif x1 then x4 else x4,bif x1 then x5 else x5,x1||decide (i64.wrap (i64.wrap (Zed a-Zed b)-rOne c)>127)))
def ZcH (a:Int) (b:Int) (c:Bool):QT19:=(ZFN a b c).val
def ZFO:Entry:=Zg ZOk ZOl (λ_=>none) (λa=>ZcH a.1 a.2.1 a.2.2)
theorem ZtH:Za prog 261 ZFO:=
 pureQ 8191 [(267,ZS5),(309,ZsA)] [] ZOk ZOl ⟨ZAs,ZqG,Tv⟩ Tryz.func261 Tryz.call261 trivial (t:=λa=>ZFN a.1 a.2.1 a.2.2)
abbrev ZNV:List Sh:=[Sh.one (R.int u8),Sh.one (R.int u8)]
abbrev ZNW:Rs:=Rs.one (Sh.one (R.int u16))
def ZVC (h:Int) (l:Int):RT (Int):=
 .leaf (orI u16 (shlI u16 (u16.wrap h) 8) (u16.wrap l))
def ZcS (h:Int) (l:Int):Int:=(ZVC h l).val
def Zni:Entry:=Zg ZNV ZNW (λ_=>none) (λa=>ZcS a.1 a.2)
theorem Ziv:Za prog 172 Zni:=
 pureQ 31 [] [] ZNV ZNW trivial Tryz.func172 Tryz.call172 trivial (t:=λa=>ZVC a.1 a.2)
abbrev ZVT:List Sh:=[Sh.one R.bool,Sh.one (R.int i64)]
abbrev ZOr:Rs:=Rs.one (Sh.one (R.int u8))
def ZTh (b:Bool) (n:Int):RT (Option (Int)):=
 .br (!b||decide (0<=n)) (.br (b) (.leaf (some (shlI u8 1 n))) (.leaf (some (0)))) (.leaf none)
def rBit (b:Bool) (n:Int):Int:=getO ZOr.dflt (ZTh b n).val
def ZdL (b:Bool) (n:Int):Bool:=okB (ZTh b n).val
def ZTi:Entry:=Zg ZVT ZOr (λa=>some (ZdL a.1 a.2)) (λa=>rBit a.1 a.2)
theorem ZBu:Za prog 265 ZTi:=
 pureP 31 [] [] ZVT ZOr trivial Tryz.func265 Tryz.call265 trivial (t:=λa=>ZTh a.1 a.2)
abbrev ZNA:List Sh:=[Sh.one (R.int i64),Sh.agg rcF7]
abbrev ZAr:Rs:=Rs.one (Sh.one (R.int u8))
def Zxm (chip:Int) (f:TF):RT (Option (Int)):=
 let x1:=orI u8 (orI u8 (orI u8 (orI u8 (rBit f.1 7) (rBit f.2.1 6)) (rBit f.2.2.2.1 4)) (rBit f.2.2.2.2.1 2)) (rBit f.2.2.2.2.2.2 0)
 .br (!ZdL f.1 7||(!ZdL f.2.1 6||(!ZdL f.2.2.2.1 4||(!ZdL f.2.2.2.2.1 2||ZdL f.2.2.2.2.2.2 0)))) (.br (!ZdL f.1 7||(!ZdL f.2.1 6||(!ZdL f.2.2.2.1 4||ZdL f.2.2.2.2.1 2))) (.br (!ZdL f.1 7||(!ZdL f.2.1 6||ZdL f.2.2.2.1 4)) (.br (!ZdL f.1 7||ZdL f.2.1 6) (.br (ZdL f.1 7) (.br (!rOn chip||(!ZdL f.2.2.1 5||ZdL f.2.2.2.2.2.1 1)) (.br (!rOn chip||ZdL f.2.2.1 5) (.br (rOn chip) (.leaf (some (orI u8 (orI u8 x1 (rBit f.2.2.1 5)) (rBit f.2.2.2.2.2.1 1)))) (.leaf (some (orI u8 x1 2)))) (.leaf none)) (.leaf none)) (.leaf none)) (.leaf none)) (.leaf none)) (.leaf none)) (.leaf none)
def ZS3 (chip:Int) (f:TF):Int:=getO ZAr.dflt (Zxm chip f).val
def ZFr (chip:Int) (f:TF):Bool:=okB (Zxm chip f).val
def ZVt:Entry:=Zg ZNA ZAr (λa=>some (ZFr a.1 a.2)) (λa=>ZS3 a.1 a.2)
theorem ZS2:Za prog 221 ZVt:=
 pureP 63 [(146,rOnE),(265,ZTi)] [] ZNA ZAr ⟨Zee,ZBu,Tv⟩ Tryz.func221 Tryz.call221 trivial (t:=λa=>Zxm a.1 a.2)
abbrev Zw4:List Sh:=[Sh.one (R.int i64),Sh.one (R.int u8)]
abbrev Zw5:Rs:=Rs.one (Sh.agg rcF7)
def Zsw (chip:Int) (b:Int):RT TF:=
 .leaf ((andI u8 b 128 !=0,andI u8 b 64 !=0,rOn chip&&andI u8 b 32 !=0,andI u8 b 16 !=0,andI u8 b 4 !=0,rOn chip&&andI u8 b 2 !=0,andI u8 b 1 !=0))
def Zsx (chip:Int) (b:Int):TF:=(Zsw chip b).val
def ZE0:Entry:=Zg Zw4 Zw5 (λ_=>none) (λa=>Zsx a.1 a.2)
theorem ZHV:Za prog 259 ZE0:=
 pureQ 63 [(146,rOnE)] [] Zw4 Zw5 ⟨Zee,Tv⟩ Tryz.func259 Tryz.call259 trivial (t:=λa=>Zsw a.1 a.2)
abbrev ZZ7:List Sh:=[Sh.one (R.int u8)]
abbrev ZZ8:Rs:=Rs.one (Sh.agg rcF7)
def rOfT (r:Int):RT TF:=
 .leaf ((decide (r>=128),r==0,false,false,Zmz r,false,false))
def rOf (r:Int):TF:=(rOfT r).val
def rOfE:Entry:=Zg ZZ7 ZZ8 (λ_=>none) (λa=>rOf a)
theorem ZFu:Za prog 262 rOfE:=
 pureQ 7 [(266,ZsJ)] [] ZZ7 ZZ8 ⟨ZqN,Tv⟩ Tryz.func262 Tryz.call262 trivial (t:=λa=>rOfT a)
abbrev ZNE:List Sh:=[Sh.one (R.int i64),Sh.agg rcF7,Sh.one R.bool,Sh.one R.bool]
abbrev ZNF:Rs:=Rs.one (Sh.agg rcF7)
def ZqP (chip:Int) (f:TF) (k:Bool) (v:Bool):RT TF:=
 .leaf ((f.1,f.2.1,rOn chip&&bif rOn chip then k else k,f.2.2.2.1,f.2.2.2.2.1,bif rOn chip then rOn chip&&v else rOn chip&&v,f.2.2.2.2.2.2))
def ZpS (chip:Int) (f:TF) (k:Bool) (v:Bool):TF:=(ZqP chip f k v).val
def Zxn:Entry:=Zg ZNE ZNF (λ_=>none) (λa=>ZpS a.1 a.2.1 a.2.2.1 a.2.2.2)
theorem Zlg:Za prog 263 Zxn:=
 pureQ 511 [(146,rOnE)] [] ZNE ZNF ⟨Zee,Tv⟩ Tryz.func263 Tryz.call263 trivial (t:=λa=>ZqP a.1 a.2.1 a.2.2.1 a.2.2.2)
abbrev ZN0:List Sh:=[Sh.agg ZeX,Sh.one (R.int i64)]
abbrev ZFF:Rs:=Rs.one (Sh.one (R.int u8))
def ZBf (r:TR) (n:Int):RT (Option (Int)):=
 .br (decide (0<=andI i64 n 7/\andI i64 n 7<8)) (.leaf (some (bif andI i64 n 7==0 then r.2.1 else bif andI i64 n 7== ↑(0+1) then r.2.2.1 else bif andI i64 n 7== ↑(0+1+1) then r.2.2.2.1 else bif andI i64 n 7== ↑(0+1+1+1) then r.2.2.2.2.1 else bif andI i64 n 7== ↑(0+1+1+1+1) then r.2.2.2.2.2.1 else bif andI i64 n 7== ↑(0+1+1+1+1+1) then r.2.2.2.2.2.2.1 else bif andI i64 n 7== ↑(0+1+1+1+1+1+1) then 0 else r.1))) (.leaf none)
def rGet (r:TR) (n:Int):Int:=getO ZFF.dflt (ZBf r n).val
def ZBh (r:TR) (n:Int):Bool:=okB (ZBf r n).val
def Z0c:Entry:=Zg ZN0 ZFF (λa=>some (ZBh a.1 a.2)) (λa=>rGet a.1 a.2)
theorem ZNZ:Za prog 163 Z0c:=
 pureP 31 [] [] ZN0 ZFF trivial Tryz.func163 Tryz.call163 trivial (t:=λa=>ZBf a.1 a.2)
abbrev ZVn:List Sh:=[Sh.agg ZeX,Sh.one (R.int i64),Sh.one (R.int u8)]
abbrev ZVo:Rs:=Rs.one (Sh.agg ZeX)
def ZXz (r:TR) (n:Int) (v:Int):RT TR:=
 .leaf ((bif andI i64 n 7==0 then r.1 else bif andI i64 n 7==1 then r.1 else bif andI i64 n 7==2 then r.1 else bif andI i64 n 7==3 then r.1 else bif andI i64 n 7==4 then r.1 else bif andI i64 n 7==5 then r.1 else bif andI i64 n 7==7 then v else r.1,bif andI i64 n 7==0 then v else r.2.1,bif andI i64 n 7==0 then r.2.2.1 else bif andI i64 n 7==1 then v else r.2.2.1,bif andI i64 n 7==0 then r.2.2.2.1 else bif andI i64 n 7==1 then r.2.2.2.1 else bif andI i64 n 7==2 then v else r.2.2.2.1,bif andI i64 n 7==0 then r.2.2.2.2.1 else bif andI i64 n 7==1 then r.2.2.2.2.1 else bif andI i64 n 7==2 then r.2.2.2.2.1 else bif andI i64 n 7==3 then v else r.2.2.2.2.1,bif andI i64 n 7==0 then r.2.2.2.2.2.1 else bif andI i64 n 7==1 then r.2.2.2.2.2.1 else bif andI i64 n 7==2 then r.2.2.2.2.2.1 else bif andI i64 n 7==3 then r.2.2.2.2.2.1 else bif andI i64 n 7==4 then v else r.2.2.2.2.2.1,bif andI i64 n 7==0 then r.2.2.2.2.2.2.1 else bif andI i64 n 7==1 then r.2.2.2.2.2.2.1 else bif andI i64 n 7==2 then r.2.2.2.2.2.2.1 else bif andI i64 n 7==3 then r.2.2.2.2.2.2.1 else bif andI i64 n 7==4 then r.2.2.2.2.2.2.1 else bif andI i64 n 7==5 then v else r.2.2.2.2.2.2.1,r.2.2.2.2.2.2.2))
def rSet (r:TR) (n:Int) (v:Int):TR:=(ZXz r n v).val
def ZHY:Entry:=Zg ZVn ZVo (λ_=>none) (λa=>rSet a.1 a.2.1 a.2.2)
theorem ZAe:Za prog 205 ZHY:=
 pureQ 9162596991 [] [] ZVn ZVo trivial Tryz.func205 Tryz.call205 trivial (t:=λa=>ZXz a.1 a.2.1 a.2.2)
abbrev ZAq:List Sh:=[Sh.agg ZeX,Sh.one (R.int i64)]
abbrev ZsK:Rs:=Rs.one (Sh.one (R.int u16))
def ZqO (r:TR) (n:Int):RT (Option (Int)):=
 .br (andI i64 n 3==3) (.leaf (some r.2.2.2.2.2.2.2.2.1)) (.br (!ZBh r (i64.wrap (2*andI i64 n 3))||ZBh r (i64.wrap (i64.wrap (2*andI i64 n 3)+1))) (.br (ZBh r (i64.wrap (2*andI i64 n 3))) (.leaf (some (ZcS (rGet r (i64.wrap (2*andI i64 n 3))) (rGet r (i64.wrap (i64.wrap (2*andI i64 n 3)+1)))))) (.leaf none)) (.leaf none))
def Zan (r:TR) (n:Int):Int:=getO ZsK.dflt (ZqO r n).val
def ZNz (r:TR) (n:Int):Bool:=okB (ZqO r n).val
def ZZ2:Entry:=Zg ZAq ZsK (λa=>some (ZNz a.1 a.2)) (λa=>Zan a.1 a.2)
theorem ZS1:Za prog 158 ZZ2:=
 pureP 31 [(163,Z0c),(172,Zni)] [] ZAq ZsK ⟨ZNZ,Ziv,Tv⟩ Tryz.func158 Tryz.call158 trivial (t:=λa=>ZqO a.1 a.2)
abbrev ZqH:List Sh:=[Sh.agg ZeX,Sh.one (R.int i64),Sh.one (R.int u16)]
abbrev ZqI:Rs:=Rs.one (Sh.agg ZeX)
def Zgc (r:TR) (n:Int) (v:Int):RT TR:=
 .br (andI i64 n 3==3) (.leaf ((r.1,r.2.1,r.2.2.1,r.2.2.2.1,r.2.2.2.2.1,r.2.2.2.2.2.1,r.2.2.2.2.2.2.1,r.2.2.2.2.2.2.2.1,v,r.2.2.2.2.2.2.2.2.2))) (.leaf (rSet (rSet r (i64.wrap (2*andI i64 n 3)) (u8.wrap (shrI u16 v 8))) (i64.wrap (i64.wrap (2*andI i64 n 3)+1)) (u8.wrap v)))
def Zr (r:TR) (n:Int) (v:Int):TR:=(Zgc r n v).val
def Zgd:Entry:=Zg ZqH ZqI (λ_=>none) (λa=>Zr a.1 a.2.1 a.2.2)
theorem Zms:Za prog 206 Zgd:=
 pureQ 127 [(205,ZHY)] [] ZqH ZqI ⟨ZAe,Tv⟩ Tryz.func206 Tryz.call206 trivial (t:=λa=>Zgc a.1 a.2.1 a.2.2)
abbrev ZNB:List Sh:=[Sh.one (R.int i64),Sh.agg ZeX]
abbrev ZFs:Rs:=Rs.one (Sh.one (R.int u16))
def ZNC (chip:Int) (r:TR):RT (Option (Int)):=
 .br (ZFr chip r.2.2.2.2.2.2.2.1) (.leaf (some (ZcS r.1 (ZS3 chip r.2.2.2.2.2.2.2.1)))) (.leaf none)
def rPSW (chip:Int) (r:TR):Int:=getO ZFs.dflt (ZNC chip r).val
def ZXH (chip:Int) (r:TR):Bool:=okB (ZNC chip r).val
def rPSWE:Entry:=Zg ZNB ZFs (λa=>some (ZXH a.1 a.2)) (λa=>rPSW a.1 a.2)
theorem ZXG:Za prog 171 rPSWE:=
 pureP 31 [(172,Zni),(221,ZVt)] [] ZNB ZFs ⟨Ziv,ZS2,Tv⟩ Tryz.func171 Tryz.call171 trivial (t:=λa=>ZNC a.1 a.2)
abbrev Zxd:List Sh:=[Sh.one (R.int i64),Sh.agg ZeX,Sh.one (R.int u16)]
abbrev Zxe:Rs:=Rs.one (Sh.agg ZeX)
def Zlc (chip:Int) (r:TR) (v:Int):RT TR:=
 .leaf ((u8.wrap (shrI u16 v 8),r.2.1,r.2.2.1,r.2.2.2.1,r.2.2.2.2.1,r.2.2.2.2.2.1,r.2.2.2.2.2.2.1,Zsx chip (u8.wrap v),r.2.2.2.2.2.2.2.2))
def Zge (chip:Int) (r:TR) (v:Int):TR:=(Zlc chip r v).val
def ZsB:Entry:=Zg Zxd Zxe (λ_=>none) (λa=>Zge a.1 a.2.1 a.2.2)
theorem ZHX:Za prog 207 ZsB:=
 pureQ 127 [(259,ZE0)] [] Zxd Zxe ⟨ZHV,Tv⟩ Tryz.func207 Tryz.call207 trivial (t:=λa=>Zlc a.1 a.2.1 a.2.2)
abbrev Z0f:List Sh:=[Sh.one (R.int i64),Sh.one (R.int i64),Sh.one (R.int u8),Sh.one (R.int u8),Sh.agg rcF7]
abbrev Z0g:Rs:=Rs.tup [Sh.one (R.int u8),Sh.agg rcF7]
def rDoT (chip:Int) (op:Int) (a:Int) (b:Int) (f:TF):RT (QT2):=
 let x1:=bif andI i64 op 7==0 then andI i64 op 7==0 else andI i64 op 7==1
 let x2:=bif andI i64 op 7==2 then andI i64 op 7==2 else bif andI i64 op 7==3 then andI i64 op 7==3 else andI i64 op 7==7
 let x3:Int:=bif x1 then bif andI i64 op 7==1 then (rSum a b f.2.2.2.2.2.2).1 else (rSum a b false).1 else bif x2 then bif andI i64 op 7==3 then (ZcH a b f.2.2.2.2.2.2).1 else (ZcH a b false).1 else bif andI i64 op 7==4 then bif rOn chip then andI u8 a b else andI u8 a b else bif andI i64 op 7==5 then xorI u8 a b else bif andI i64 op 7==6 then orI u8 a b else 0
 let x4:=rOf x3
 let x5:=x4.2
 let x6:=x5.2
 let x7:=x6.2.2
 let x8:=ZpS chip (x4.1,x5.1,x6.1,bif x1 then bif andI i64 op 7==1 then (rSum a b f.2.2.2.2.2.2).2.2.1 else (rSum a b false).2.2.1 else bif x2 then bif andI i64 op 7==3 then (ZcH a b f.2.2.2.2.2.2).2.2.1 else (ZcH a b false).2.2.1 else andI i64 op 7==4&&(rOn chip||andI u8 (orI u8 a b) 8 !=0),x7.1,x7.2.1,bif x1 then bif andI i64 op 7==1 then (rSum a b f.2.2.2.2.2.2).2.1 else (rSum a b false).2.1 else x2&&bif andI i64 op 7==3 then (ZcH a b f.2.2.2.2.2.2).2.1 else (ZcH a b false).2.1) (rMaj (decide (a>=128)) (bif x1 then decide (b>=128) else bif x2 then !decide (b>=128) else decide (b>=128)) (decide (x3>=128))) (bif x1 then bif andI i64 op 7==1 then (rSum a b f.2.2.2.2.2.2).2.2.2 else (rSum a b false).2.2.2 else x2&&bif andI i64 op 7==3 then (ZcH a b f.2.2.2.2.2.2).2.2.2 else (ZcH a b false).2.2.2)
 .br (andI i64 op 7==7) (.leaf ((a,x8))) (.leaf ((x3,x8)))
def rDo (chip:Int) (op:Int) (a:Int) (b:Int) (f:TF):QT2:=(rDoT chip op a b f).val
def rDoE:Entry:=Zg Z0f Z0g (λ_=>none) (λa=>rDo a.1 a.2.1 a.2.2.1 a.2.2.2.1 a.2.2.2.2)
theorem Z0e:Za prog 208 rDoE:=
 pureQ 1246707057321695066193919 [(146,rOnE),(260,ZSQ),(261,ZFO),(262,rOfE),(263,Zxn),(264,ZIf)] [] Z0f Z0g ⟨Zee,ZAc,ZtH,ZFu,Zlg,Zne,Tv⟩ Tryz.func208 Tryz.call208 trivial (t:=λa=>rDoT a.1 a.2.1 a.2.2.1 a.2.2.2.1 a.2.2.2.2)
abbrev ZVF:List Sh:=[Sh.one (R.int i64),Sh.one (R.int u8),Sh.agg rcF7]
abbrev ZVG:Rs:=Rs.tup [Sh.one (R.int u8),Sh.agg rcF7]
def ZXN (chip:Int) (v:Int) (f:TF):RT (QT2):=
 .leaf (((rSum v 1 false).1,ZpS chip ((rOf (rSum v 1 false).1).1,(rOf (rSum v 1 false).1).2.1,(rOf (rSum v 1 false).1).2.2.1,(rSum v 1 false).2.2.1,(rOf (rSum v 1 false).1).2.2.2.2.1,(rOf (rSum v 1 false).1).2.2.2.2.2.1,f.2.2.2.2.2.2) (rMaj (decide (v>=128)) false (decide ((rSum v 1 false).1>=128))) (rSum v 1 false).2.2.2))
def rInr (chip:Int) (v:Int) (f:TF):QT2:=(ZXN chip v f).val
def Z0b:Entry:=Zg ZVF ZVG (λ_=>none) (λa=>rInr a.1 a.2.1 a.2.2)
theorem ZXM:Za prog 218 Z0b:=
 pureQ 8191 [(260,ZSQ),(262,rOfE),(263,Zxn),(264,ZIf)] [] ZVF ZVG ⟨ZAc,ZFu,Zlg,Zne,Tv⟩ Tryz.func218 Tryz.call218 trivial (t:=λa=>ZXN a.1 a.2.1 a.2.2)
abbrev ZVM:List Sh:=[Sh.one (R.int i64),Sh.one (R.int u8),Sh.agg rcF7]
abbrev ZVN:Rs:=Rs.tup [Sh.one (R.int u8),Sh.agg rcF7]
def ZXW (chip:Int) (v:Int) (f:TF):RT (QT2):=
 .leaf (((ZcH v 1 false).1,ZpS chip ((rOf (ZcH v 1 false).1).1,(rOf (ZcH v 1 false).1).2.1,(rOf (ZcH v 1 false).1).2.2.1,(ZcH v 1 false).2.2.1,(rOf (ZcH v 1 false).1).2.2.2.2.1,(rOf (ZcH v 1 false).1).2.2.2.2.2.1,f.2.2.2.2.2.2) (rMaj (decide (v>=128)) true (decide ((ZcH v 1 false).1>=128))) (ZcH v 1 false).2.2.2))
def rDcr (chip:Int) (v:Int) (f:TF):QT2:=(ZXW chip v f).val
def Z0h:Entry:=Zg ZVM ZVN (λ_=>none) (λa=>rDcr a.1 a.2.1 a.2.2)
theorem ZXV:Za prog 219 Z0h:=
 pureQ 8191 [(261,ZFO),(262,rOfE),(263,Zxn),(264,ZIf)] [] ZVM ZVN ⟨ZtH,ZFu,Zlg,Zne,Tv⟩ Tryz.func219 Tryz.call219 trivial (t:=λa=>ZXW a.1 a.2.1 a.2.2)
abbrev ZVD:List Sh:=[Sh.one (R.int i64),Sh.one (R.int u16),Sh.agg rcF7]
abbrev ZVE:Rs:=Rs.tup [Sh.one (R.int u16),Sh.agg rcF7]
def ZXK (chip:Int) (v:Int) (f:TF):RT (QT2):=
 .leaf ((u16.wrap (v+1),f.1,f.2.1,bif rOn chip then v==65535 else f.2.2.1,f.2.2.2))
def rInx (chip:Int) (v:Int) (f:TF):QT2:=(ZXK chip v f).val
def ZXL:Entry:=Zg ZVD ZVE (λ_=>none) (λa=>rInx a.1 a.2.1 a.2.2)
theorem ZXJ:Za prog 209 ZXL:=
 pureQ 255 [(146,rOnE)] [] ZVD ZVE ⟨Zee,Tv⟩ Tryz.func209 Tryz.call209 trivial (t:=λa=>ZXK a.1 a.2.1 a.2.2)
abbrev ZVK:List Sh:=[Sh.one (R.int i64),Sh.one (R.int u16),Sh.agg rcF7]
abbrev ZVL:Rs:=Rs.tup [Sh.one (R.int u16),Sh.agg rcF7]
def ZXT (chip:Int) (v:Int) (f:TF):RT (QT2):=
 .leaf ((u16.wrap (v-1),f.1,f.2.1,bif rOn chip then v==0 else f.2.2.1,f.2.2.2))
def rDcx (chip:Int) (v:Int) (f:TF):QT2:=(ZXT chip v f).val
def ZXU:Entry:=Zg ZVK ZVL (λ_=>none) (λa=>rDcx a.1 a.2.1 a.2.2)
theorem ZXS:Za prog 210 ZXU:=
 pureQ 255 [(146,rOnE)] [] ZVK ZVL ⟨Zee,Tv⟩ Tryz.func210 Tryz.call210 trivial (t:=λa=>ZXT a.1 a.2.1 a.2.2)
abbrev ZVO:List Sh:=[Sh.one (R.int i64),Sh.one (R.int u16),Sh.one (R.int u16),Sh.agg rcF7]
abbrev ZVP:Rs:=Rs.tup [Sh.one (R.int u16),Sh.agg rcF7]
def ZXY (chip:Int) (a:Int) (b:Int) (f:TF):RT (QT2):=
 .leaf ((u16.wrap (a+b),f.1,f.2.1,f.2.2.1,f.2.2.2.1,f.2.2.2.2.1,bif rOn chip then decide (i64.wrap (i64.wrap (IntKind.i16.wrap a)+i64.wrap (IntKind.i16.wrap b))< -32768)||decide (i64.wrap (i64.wrap (IntKind.i16.wrap a)+i64.wrap (IntKind.i16.wrap b))>32767) else f.2.2.2.2.2.1,decide (i64.wrap (i64.wrap a+i64.wrap b)>65535)))
def rDad (chip:Int) (a:Int) (b:Int) (f:TF):QT2:=(ZXY chip a b f).val
def ZXZ:Entry:=Zg ZVO ZVP (λ_=>none) (λa=>rDad a.1 a.2.1 a.2.2.1 a.2.2.2)
theorem ZXX:Za prog 211 ZXZ:=
 pureQ 2047 [(146,rOnE)] [] ZVO ZVP ⟨Zee,Tv⟩ Tryz.func211 Tryz.call211 trivial (t:=λa=>ZXY a.1 a.2.1 a.2.2.1 a.2.2.2)
abbrev ZOg:List Sh:=[Sh.one (R.int u16),Sh.one (R.int u16)]
abbrev ZOi:Rs:=Rs.tup [Sh.one (R.int u16),Sh.agg rcF7]
def ZOh (a:Int) (b:Int):RT (QT2):=
 let x1:=ZcH (u8.wrap (shrI u16 a 8)) (u8.wrap (shrI u16 b 8)) (ZcH (u8.wrap a) (u8.wrap b) false).2.1
 let x2:=x1.1
 let x3:=x2==0
 let x4:=ZcS x2 (ZcH (u8.wrap a) (u8.wrap b) false).1
 let x5:=decide (x2>=128)
 let x6:=rMaj (decide (a>=32768)) (decide (b<32768)) x5
 let x7:=x1.2
 let x8:=x7.2
 let x9:=x8.1
 let x10:=Zmz x2
 let x11:=x8.2
 let x12:=x7.1
 .leaf ((bif x3 then x4 else x4,bif x3 then x5 else x5,x3&&(ZcH (u8.wrap a) (u8.wrap b) false).1==0,bif x3 then x6 else x6,bif x3 then x9 else x9,bif x3 then x10 else x10,bif x3 then x11 else x11,bif x3 then x12 else x12))
def Zxw (a:Int) (b:Int):QT2:=(ZOh a b).val
def ZOj:Entry:=Zg ZOg ZOi (λ_=>none) (λa=>Zxw a.1 a.2)
theorem ZTf:Za prog 214 ZOj:=
 pureQ 16383 [(172,Zni),(261,ZFO),(264,ZIf),(266,ZsJ)] [] ZOg ZOi ⟨Ziv,ZtH,Zne,ZqN,Tv⟩ Tryz.func214 Tryz.call214 trivial (t:=λa=>ZOh a.1 a.2)
abbrev ZVQ:List Sh:=[Sh.one (R.int i64),Sh.one (R.int u8),Sh.agg rcF7]
abbrev ZVR:Rs:=Rs.tup [Sh.one (R.int u8),Sh.agg rcF7]
def ZX1 (chip:Int) (a:Int) (f:TF):RT (QT2):=
 let x1:Int:=bif f.2.2.2.1||decide (andI u8 a 15>9) then 6 else 0
 let x2:=rSum a (bif f.2.2.2.2.2.2||decide (a>153) then u8.wrap (x1+96) else x1) false
 let x3:=x2.1
 let x4:=rOf x3
 let x5:=x4.2
 let x6:=x5.2
 let x7:=x2.2.2
 let x8:=x6.2.2
 .leaf ((x3,ZpS chip (x4.1,x5.1,x6.1,x7.1,x8.1,x8.2.1,f.2.2.2.2.2.2||decide (a>153)) (rMaj (decide (a>=128)) false (decide (x3>=128))) x7.2))
def rDaa (chip:Int) (a:Int) (f:TF):QT2:=(ZX1 chip a f).val
def ZX2:Entry:=Zg ZVQ ZVR (λ_=>none) (λa=>rDaa a.1 a.2.1 a.2.2)
theorem ZX0:Za prog 212 ZX2:=
 pureQ 32767 [(260,ZSQ),(262,rOfE),(263,Zxn),(264,ZIf)] [] ZVQ ZVR ⟨ZAc,ZFu,Zlg,Zne,Tv⟩ Tryz.func212 Tryz.call212 trivial (t:=λa=>ZX1 a.1 a.2.1 a.2.2)
abbrev ZNf:List Sh:=[Sh.one (R.int i64),Sh.one (R.int u8),Sh.one R.bool]
abbrev ZE8:Rs:=Rs.tup [Sh.one (R.int u8),Sh.one R.bool]
def ZNg (op:Int) (a:Int) (c:Bool):RT (Option (Int×Bool)):=
 .br (andI i64 op 3==0||(andI i64 op 3==1||(!andI i64 op 3==2||ZdL c 0))) (.br (andI i64 op 3==0) (.leaf (some ((orI u8 (shlI u8 a 1) (shrI u8 a 7),decide (a>=128))))) (.br (andI i64 op 3==1) (.leaf (some ((orI u8 (shrI u8 a 1) (shlI u8 a 7),andI u8 a 1==1)))) (.br (andI i64 op 3==2) (.leaf (some ((orI u8 (shlI u8 a 1) (rBit c 0),decide (a>=128))))) (.br (ZdL c 7) (.leaf (some ((orI u8 (shrI u8 a 1) (rBit c 7),andI u8 a 1==1)))) (.leaf none))))) (.leaf none)
def rRot (op:Int) (a:Int) (c:Bool):Int×Bool:=getO ZE8.dflt (ZNg op a c).val
def ZXC (op:Int) (a:Int) (c:Bool):Bool:=okB (ZNg op a c).val
def rRotE:Entry:=Zg ZNf ZE8 (λa=>some (ZXC a.1 a.2.1 a.2.2)) (λa=>rRot a.1 a.2.1 a.2.2)
theorem ZXB:Za prog 213 rRotE:=
 pureP 537396479 [(265,ZTi)] [] ZNf ZE8 ⟨ZBu,Tv⟩ Tryz.func213 Tryz.call213 trivial (t:=λa=>ZNg a.1 a.2.1 a.2.2)
abbrev ZOv:List Sh:=[Sh.one (R.int u16)]
abbrev ZOw:Rs:=Rs.tup [Sh.one (R.int u16),Sh.one R.bool]
def ZVV (v:Int):RT (Int×Bool):=
 .leaf ((orI u16 (shrI u16 v 1) (andI u16 v 32768),andI u16 v 1==1))
def ZtM (v:Int):Int×Bool:=(ZVV v).val
def ZOx:Entry:=Zg ZOv ZOw (λ_=>none) (λa=>ZtM a)
theorem ZTj:Za prog 215 ZOx:=
 pureQ 15 [] [] ZOv ZOw trivial Tryz.func215 Tryz.call215 trivial (t:=λa=>ZVV a)
abbrev ZAl:List Sh:=[Sh.one (R.int u16),Sh.one R.bool]
abbrev ZsF:Rs:=Rs.tup [Sh.one (R.int u16),Sh.one R.bool,Sh.one R.bool]
def Zxh (v:Int) (c:Bool):RT (Option (Int×Bool×Bool)):=
 .br (ZdL c 0) (.leaf (some ((orI u16 (shlI u16 v 1) (u16.wrap (rBit c 0)),decide (v>=32768),andI u16 (orI u16 (shlI u16 v 1) (u16.wrap (rBit c 0))) 32768 !=andI u16 v 32768)))) (.leaf none)
def Zxi (v:Int) (c:Bool):Int×Bool×Bool:=getO ZsF.dflt (Zxh v c).val
def ZNo (v:Int) (c:Bool):Bool:=okB (Zxh v c).val
def ZZ1:Entry:=Zg ZAl ZsF (λa=>some (ZNo a.1 a.2)) (λa=>Zxi a.1 a.2)
theorem ZSU:Za prog 216 ZZ1:=
 pureP 255 [(265,ZTi)] [] ZAl ZsF ⟨ZBu,Tv⟩ Tryz.func216 Tryz.call216 trivial (t:=λa=>Zxh a.1 a.2)
abbrev ZFS:List Sh:=[Sh.one R.bool,Sh.one (R.int i64)]
abbrev ZtK:Rs:=Rs.one (Sh.one (R.int u8))
def ZBv (b:Bool) (n:Int):RT (Option (Int)):=
 .br (decide (0<=n)) (.leaf (some (u8.wrap (shlI i64 (rOne b) n)))) (.leaf none)
def Zgj (b:Bool) (n:Int):Int:=getO ZtK.dflt (ZBv b n).val
def Zay (b:Bool) (n:Int):Bool:=okB (ZBv b n).val
def ZOt:Entry:=Zg ZFS ZtK (λa=>some (Zay a.1 a.2)) (λa=>Zgj a.1 a.2)
theorem ZOs:Za prog 217 ZOt:=
 pureP 31 [(267,ZS5)] [] ZFS ZtK ⟨ZAs,Tv⟩ Tryz.func217 Tryz.call217 trivial (t:=λa=>ZBv a.1 a.2)
abbrev ZNi:List Sh:=[Sh.agg ZF,Sh.agg (R.pair R.bool (R.pair R.bool rcF7))]
abbrev ZE9:Rs:=Rs.tup [Sh.one (R.int u8),Sh.agg ZF]
def ZNj (c:TC) (l:QT0):RT (Option (Int×TC)):=
 let x1:=bif c.2.2.2.2.2.2.2.2.2.2.1 then c.2.2.2.2.2.2.2.2.2.2.2.1 else c.2.2.1
 .br (!Zay l.2.2.2.1 7||(!Zay c.2.2.2.2.2.2.2.1 6||(!Zay l.2.2.2.2.2.2.1 5||(!Zay l.2.2.2.2.2.2.2.1 4||Zay x1 3)))) (.br (!Zay l.2.2.2.1 7||(!Zay c.2.2.2.2.2.2.2.1 6||(!Zay l.2.2.2.2.2.2.1 5||Zay l.2.2.2.2.2.2.2.1 4))) (.br (!Zay l.2.2.2.1 7||(!Zay c.2.2.2.2.2.2.2.1 6||Zay l.2.2.2.2.2.2.1 5)) (.br (!Zay l.2.2.2.1 7||Zay c.2.2.2.2.2.2.2.1 6) (.br (Zay l.2.2.2.1 7) (.leaf (some ((orI u8 (orI u8 (orI u8 (orI u8 (orI u8 (Zgj l.2.2.2.1 7) (Zgj c.2.2.2.2.2.2.2.1 6)) (Zgj l.2.2.2.2.2.2.1 5)) (Zgj l.2.2.2.2.2.2.2.1 4)) (Zgj x1 3)) (andI u8 c.2.2.2.2.2.1 7),c.1,c.2.1,c.2.2.1,c.2.2.2.1,c.2.2.2.2.1,c.2.2.2.2.2.1,c.2.2.2.2.2.2.1,c.2.2.2.2.2.2.2.1,c.2.2.2.2.2.2.2.2.1,c.2.2.2.2.2.2.2.2.2.1,false,false,c.2.2.2.2.2.2.2.2.2.2.2.2)))) (.leaf none)) (.leaf none)) (.leaf none)) (.leaf none)) (.leaf none)
def rRim (c:TC) (l:QT0):Int×TC:=getO ZE9.dflt (ZNj c l).val
def ZXE (c:TC) (l:QT0):Bool:=okB (ZNj c l).val
def rRimE:Entry:=Zg ZNi ZE9 (λa=>some (ZXE a.1 a.2)) (λa=>rRim a.1 a.2)
theorem ZXD:Za prog 159 rRimE:=
 pureP 255 [(217,ZOt)] [] ZNi ZE9 ⟨ZOs,Tv⟩ Tryz.func159 Tryz.call159 trivial (t:=λa=>ZNj a.1 a.2)
abbrev ZVl:List Sh:=[Sh.agg ZF,Sh.one (R.int u8)]
abbrev ZVm:Rs:=Rs.one (Sh.agg ZF)
def ZNa (c:TC) (a:Int):RT TC:=
 .leaf ((c.1,c.2.1,c.2.2.1,c.2.2.2.1,c.2.2.2.2.1,bif andI u8 a 8 !=0 then andI u8 a 7 else c.2.2.2.2.2.1,c.2.2.2.2.2.2.1,!andI u8 a 16 !=0&&c.2.2.2.2.2.2.2.1,c.2.2.2.2.2.2.2.2.1,c.2.2.2.2.2.2.2.2.2.1,c.2.2.2.2.2.2.2.2.2.2.1,c.2.2.2.2.2.2.2.2.2.2.2.1,bif andI u8 a 64 !=0 then andI u8 a 128 !=0 else c.2.2.2.2.2.2.2.2.2.2.2.2))
def rSim (c:TC) (a:Int):TC:=(ZNa c a).val
def ZZ0:Entry:=Zg ZVl ZVm (λ_=>none) (λa=>rSim a.1 a.2)
theorem ZXy:Za prog 160 ZZ0:=
 pureQ 31 [] [] ZVl ZVm trivial Tryz.func160 Tryz.call160 trivial (t:=λa=>ZNa a.1 a.2)
abbrev ZFD:List Sh:=[Sh.one (R.int i64),Sh.agg rcF7]
abbrev ZFE:Rs:=Rs.one (Sh.one R.bool)
def ZBe (c:Int) (f:TF):RT (Bool):=
 .br (c==0) (.leaf (!f.2.1)) (.br (c==1) (.leaf f.2.1) (.br (c==2) (.leaf (!f.2.2.2.2.2.2)) (.br (c==3) (.leaf f.2.2.2.2.2.2) (.br (c==4) (.leaf (!f.2.2.2.2.1)) (.br (c==5) (.leaf f.2.2.2.2.1) (.br (c==6) (.leaf (!f.1)) (.br (c==7) (.leaf f.1) (.br (c==8) (.leaf (!f.2.2.1)) (.br (c==9) (.leaf f.2.2.1) (.br (c==10) (.leaf f.2.2.2.2.2.1) (.leaf (c==11))))))))))))
def ZeC (c:Int) (f:TF):Bool:=(ZBe c f).val
def ZNY:Entry:=Zg ZFD ZFE (λ_=>none) (λa=>ZeC a.1 a.2)
theorem ZNX:Za prog 220 ZNY:=
 pureQ 2397219371124831 [] [] ZFD ZFE trivial Tryz.func220 Tryz.call220 trivial (t:=λa=>ZBe a.1 a.2)
abbrev ZwZ:List Sh:=[Sh.one (R.int i64)]
abbrev Zw0:Rs:=Rs.one (Sh.one (R.int u16))
def Zst (s:Int):RT (Int):=
 .br (s==1) (.leaf (36)) (.br (s==2) (.leaf (60)) (.br (s==3) (.leaf (52)) (.br (s==4) (.leaf (44)) (.leaf (0)))))
def Zi (s:Int):Int:=(Zst s).val
def ZEZ:Entry:=Zg ZwZ Zw0 (λ_=>none) (λa=>Zi a)
theorem ZHS:Za prog 152 ZEZ:=
 pureQ 1367 [] [] ZwZ Zw0 trivial Tryz.func152 Tryz.call152 trivial (t:=λa=>Zst a)
abbrev Znj:List Sh:=[Sh.one (R.int i64)]
abbrev Znk:Rs:=Rs.one (Sh.one R.bool)
def ZjF (s:Int):RT (Bool):=
 .leaf (decide (s>=1)&&decide (s<=4))
def Zc (s:Int):Bool:=(ZjF s).val
def ZgY:Entry:=Zg Znj Znk (λ_=>none) (λa=>Zc a)
theorem Zgi:Za prog 104 ZgY:=
 pureQ 7 [] [] Znj Znk trivial Tryz.func104 Tryz.call104 trivial (t:=λa=>ZjF a)
abbrev ZqE:List Sh:=[Sh.one (R.int u8)]
abbrev ZqF:Rs:=Rs.tup [Sh.agg (R.pair (R.int i64) (R.pair (R.int i64) (R.pair (R.int i64) (R.pair (R.int i64) (R.pair (R.int i64) (R.pair (R.int i64) (R.pair (R.int i64) (R.int i64)))))))),Sh.one R.bool]
def Zw9 (op:Int):RT (TI×Bool):=
 .br (op==8) (.leaf (((40,1,0,0,0,0,0,0),true))) (.br (op==16) (.leaf (((41,1,0,0,0,0,0,0),true))) (.br (op==24) (.leaf (((42,1,0,0,0,0,0,0),true))) (.br (op==32) (.leaf (((38,1,0,0,0,0,0,0),true))) (.br (op==40) (.leaf (((43,2,0,0,0,0,0,0),true))) (.br (op==48) (.leaf (((39,1,0,0,0,0,0,0),true))) (.br (op==56) (.leaf (((44,2,0,0,0,0,0,0),true))) (.br (op==203) (.leaf (((45,1,0,0,0,0,10,0),true))) (.br (op==217) (.leaf (((46,1,0,0,0,0,0,0),true))) (.br (op==221) (.leaf (((24,3,0,0,0,0,8,0),true))) (.br (op==237) (.leaf (((47,1,0,0,0,0,0,0),true))) (.br (op==253) (.leaf (((24,3,0,0,0,0,9,0),true))) (.leaf (((0,0,0,0,0,0,0,0),false))))))))))))))
def Zsz (op:Int):TI×Bool:=(Zw9 op).val
def Zxa:Entry:=Zg ZqE ZqF (λ_=>none) (λa=>Zsz a)
theorem ZAd:Za prog 173 Zxa:=
 pureQ 314146179375 [] [] ZqE ZqF trivial Tryz.func173 Tryz.call173 trivial (t:=λa=>Zw9 a)
abbrev ZNG:List Sh:=[Sh.one (R.int i64),Sh.one (R.int i64),Sh.one (R.int i64),Sh.one (R.int i64)]
abbrev ZAt:Rs:=Rs.one (Sh.agg (R.pair (R.int i64) (R.pair (R.int i64) (R.pair (R.int i64) (R.pair (R.int i64) (R.pair (R.int i64) (R.pair (R.int i64) (R.pair (R.int i64) (R.int i64)))))))))
def ZNH (y:Int) (z:Int) (p:Int) (q:Int):RT (Option TI):=
 let x1:=decide (0<=i64.wrap (y-4)/\i64.wrap (y-4)<4)
 .br (z==0) (.leaf (some ((1,1,0,0,0,0,0,0)))) (.br (z==1) (.br (q==0) (.leaf (some ((4,3,0,0,p,0,0,0)))) (.leaf (some ((18,1,0,0,p,0,0,0))))) (.br (!z==2||((bif y==0 then y==0 else y==2)||((bif y==1 then y==1 else y==3)||x1))) (.br (z==2) (.br (bif y==0 then y==0 else y==2) (.leaf (some ((10,1,0,0,p,0,0,0)))) (.br (bif y==1 then y==1 else y==3) (.leaf (some ((9,1,0,0,p,0,0,0)))) (.leaf (some ((bif i64.wrap (y-4)==0 then 8 else bif i64.wrap (y-4)== ↑(0+1) then 7 else bif i64.wrap (y-4)== ↑(0+1+1) then 6 else 5,3,0,0,0,0,0,0)))))) (.br (!z==3||decide (0<=q/\q<2)) (.br (z==3) (.leaf (some ((bif q==0 then 16 else 17,1,0,0,p,0,0,0)))) (.br (z==4) (.leaf (some ((14,1,y,0,0,0,0,0)))) (.br (z==5) (.leaf (some ((15,1,y,0,0,0,0,0)))) (.br (z==6) (.leaf (some ((3,2,y,0,0,0,0,0)))) (.br (decide (y<4)) (.leaf (some ((23,1,0,0,0,y,0,0)))) (.br (x1) (.leaf (some ((bif i64.wrap (y-4)==0 then 19 else bif i64.wrap (y-4)== ↑(0+1) then 20 else bif i64.wrap (y-4)== ↑(0+1+1) then 21 else 22,1,0,0,0,0,0,0)))) (.leaf none))))))) (.leaf none))) (.leaf none)))
def ZZ6 (y:Int) (z:Int) (p:Int) (q:Int):QT6:=getO ZAt.dflt (ZNH y z p q).val
def ZVx (y:Int) (z:Int) (p:Int) (q:Int):Bool:=okB (ZNH y z p q).val
def ZVw:Entry:=Zg ZNG ZAt (λa=>some (ZVx a.1 a.2.1 a.2.2.1 a.2.2.2)) (λa=>ZZ6 a.1 a.2.1 a.2.2.1 a.2.2.2)
theorem ZS6:Za prog 174 ZVw:=
 pureP 19211217472071167 [] [] ZNG ZAt trivial Tryz.func174 Tryz.call174 trivial (t:=λa=>ZNH a.1 a.2.1 a.2.2.1 a.2.2.2)
abbrev ZFt:List Sh:=[Sh.one (R.int i64),Sh.one (R.int i64),Sh.one (R.int i64),Sh.one (R.int i64)]
abbrev ZsL:Rs:=Rs.one (Sh.agg (R.pair (R.int i64) (R.pair (R.int i64) (R.pair (R.int i64) (R.pair (R.int i64) (R.pair (R.int i64) (R.pair (R.int i64) (R.pair (R.int i64) (R.int i64)))))))))
def ZAu (y:Int) (z:Int) (p:Int) (q:Int):RT (Option TI):=
 .br (z==0) (.leaf (some ((26,1,0,0,0,0,y,0)))) (.br (z==1) (.br (q==0) (.leaf (some ((31,1,0,0,p,0,0,0)))) (.br (y==5) (.leaf (some ((28,1,0,0,0,0,0,0)))) (.br (y==7) (.leaf (some ((29,1,0,0,0,0,0,0)))) (.leaf (some ((26,1,0,0,0,0,11,0))))))) (.br (z==2||(!z==3||((bif y==0 then y==0 else y==1)||(y==2||(y==3||decide (0<=i64.wrap (y-4)/\i64.wrap (y-4)<4)))))) (.br (z==2) (.leaf (some ((24,3,0,0,0,0,y,0)))) (.br (z==3) (.br (bif y==0 then y==0 else y==1) (.leaf (some ((24,3,0,0,0,0,11,0)))) (.br (y==2) (.leaf (some ((34,2,0,0,0,0,0,0)))) (.br (y==3) (.leaf (some ((33,2,0,0,0,0,0,0)))) (.leaf (some ((bif i64.wrap (y-4)==0 then 32 else bif i64.wrap (y-4)== ↑(0+1) then 11 else bif i64.wrap (y-4)== ↑(0+1+1) then 36 else 35,1,0,0,0,0,0,0))))))) (.br (z==4) (.leaf (some ((25,3,0,0,0,0,y,0)))) (.br (z==5) (.br (q==0) (.leaf (some ((30,1,0,0,p,0,0,0)))) (.leaf (some ((25,3,0,0,0,0,11,0))))) (.br (z==6) (.leaf (some ((13,2,0,0,0,y,0,0)))) (.leaf (some ((27,1,0,0,0,0,0,y))))))))) (.leaf none)))
def ZVy (y:Int) (z:Int) (p:Int) (q:Int):QT6:=getO ZsL.dflt (ZAu y z p q).val
def ZNK (y:Int) (z:Int) (p:Int) (q:Int):Bool:=okB (ZAu y z p q).val
def ZNJ:Entry:=Zg ZFt ZsL (λa=>some (ZNK a.1 a.2.1 a.2.2.1 a.2.2.2)) (λa=>ZVy a.1 a.2.1 a.2.2.1 a.2.2.2)
theorem ZNI:Za prog 175 ZNJ:=
 pureP 2324988294374376959 [] [] ZFt ZsL trivial Tryz.func175 Tryz.call175 trivial (t:=λa=>ZAu a.1 a.2.1 a.2.2.1 a.2.2.2)
abbrev Ziw:List Sh:=[Sh.one (R.int i64),Sh.one (R.int u8)]
abbrev Zix:Rs:=Rs.one (Sh.agg (R.pair (R.int i64) (R.pair (R.int i64) (R.pair (R.int i64) (R.pair (R.int i64) (R.pair (R.int i64) (R.pair (R.int i64) (R.pair (R.int i64) (R.int i64)))))))))
def Zfs (chip:Int) (op:Int):RT (Option TI):=
 .br ((Zsz op).2&&rOn chip) (.leaf (some (Zsz op).1)) (.br (!shrI u8 op 6==0||ZVx (i64.wrap (andI u8 (shrI u8 op 3) 7)) (i64.wrap (andI u8 op 7)) (shrI i64 (i64.wrap (andI u8 (shrI u8 op 3) 7)) 1) (andI i64 (i64.wrap (andI u8 (shrI u8 op 3) 7)) 1)) (.br (shrI u8 op 6==0) (.leaf (some (ZZ6 (i64.wrap (andI u8 (shrI u8 op 3) 7)) (i64.wrap (andI u8 op 7)) (shrI i64 (i64.wrap (andI u8 (shrI u8 op 3) 7)) 1) (andI i64 (i64.wrap (andI u8 (shrI u8 op 3) 7)) 1)))) (.br (shrI u8 op 6==1) (.br (op==118) (.leaf (some ((37,1,0,0,0,0,0,0)))) (.leaf (some ((2,1,i64.wrap (andI u8 (shrI u8 op 3) 7),i64.wrap (andI u8 op 7),0,0,0,0))))) (.br (shrI u8 op 6==2) (.leaf (some ((12,1,0,i64.wrap (andI u8 op 7),0,i64.wrap (andI u8 (shrI u8 op 3) 7),0,0)))) (.br (ZNK (i64.wrap (andI u8 (shrI u8 op 3) 7)) (i64.wrap (andI u8 op 7)) (shrI i64 (i64.wrap (andI u8 (shrI u8 op 3) 7)) 1) (andI i64 (i64.wrap (andI u8 (shrI u8 op 3) 7)) 1)) (.leaf (some (ZVy (i64.wrap (andI u8 (shrI u8 op 3) 7)) (i64.wrap (andI u8 op 7)) (shrI i64 (i64.wrap (andI u8 (shrI u8 op 3) 7)) 1) (andI i64 (i64.wrap (andI u8 (shrI u8 op 3) 7)) 1)))) (.leaf none))))) (.leaf none))
def Zb (chip:Int) (op:Int):QT6:=getO Zix.dflt (Zfs chip op).val
def Zlj (chip:Int) (op:Int):Bool:=okB (Zfs chip op).val
def ZTg:Entry:=Zg Ziw Zix (λa=>some (Zlj a.1 a.2)) (λa=>Zb a.1 a.2)
theorem ZIW:Za prog 107 ZTg:=
 pureP 70644158956031 [(146,rOnE),(173,Zxa),(174,ZVw),(175,ZNJ)] [] Ziw Zix ⟨Zee,ZAd,ZS6,ZNI,Tv⟩ Tryz.func107 Tryz.call107 trivial (t:=λa=>Zfs a.1 a.2)
end
end Go.Proofs.YtghoimllhpjkjaaGreat
