import Derived.Test.YtpnjbfjomebppaaGreatS3D
import Derived.Test.YtpnjbfjomebppaaGreatProg
open Go.Proofs.Tryz (prog)
open Go.IntKind (u8 u16 i64)
set_option linter.unusedSimpArgs false
open Go Go.S3 Go.Proofs
set_option linter.unusedVariables false
set_option maxRecDepth 100000
namespace Go.Proofs.YtpnjbfjomebppaaGreat
noncomputable section
abbrev Zy0:List Sh:=[So Ka]
abbrev Zof:Rs:=Rs.one (So R.bool)
def Zu2 (b:Int):RT (Option (Bool)):=
 let x1:=andI u8 (andI u8 b (u8.wrap (b-1))) (u8.wrap (andI u8 b (u8.wrap (b-1))-1))
 let x2:= !x1 !=0
 let x3:=andI u8 x1 (u8.wrap (x1-1))
 let x4:=x3 !=0
 let x5:=andI u8 x3 (u8.wrap (x3-1))
 let x6:= !x5 !=0
 let x7:=andI u8 x5 (u8.wrap (x5-1))
 let x8:=x7 !=0
 let x9:=andI u8 x7 (u8.wrap (x7-1))
 let x10:= !x9 !=0
 let x11:=andI u8 x9 (u8.wrap (x9-1))
 let x12:=x11 !=0
 let x13:=andI u8 x11 (u8.wrap (x11-1))
 let x14:= !x13 !=0
 .br (!b !=0||(!andI u8 b (u8.wrap (b-1)) !=0||(x2||(!x4||(x6||(!x8||(x10||(!x12||(x14|| !andI u8 x13 (u8.wrap (x13-1)) !=0))))))))) (Ls (!b !=0||andI u8 b (u8.wrap (b-1)) !=0&&(x2||x4&&(x6||x8&&(x10||x12&&x14))))) Ln
def Zu3 (b:Int):Bool:=getO Zof.Df (Zu2 b).val
def ZlP (b:Int):Bool:=okB (Zu2 b).val
def ZHm:En:=Zg Zy0 Zof (λa=>some (ZlP a)) (λa=>Zu3 a)
theorem ZKr:Za prog 387 ZHm:=
 Zn4 (P:=prog) (n:=15) (k:=10) (l:=[]) (ol:=[]) trivial Tryz.func387 rfl (by kernel_rfl) Tryz.call387 trivial (ts:=Zy0) (rs:=Zof) (t:=λa=>Zu2 a) (λa=>by kernel_rfl)
abbrev ZXA:List Sh:=[So R.bool,So R.bool,So R.bool]
def Z1W (a:Bool) (b:Bool) (c:Bool):RT (Bool):=
 .Lf (bif a then b||bif a then c||b&&c else b&&c else bif a then c||b&&c else b&&c)
def pMaj (a:Bool) (b:Bool) (c:Bool):Bool:=(Z1W a b c).val
def ZKB:En:=Zg ZXA Zof (λ_=>none) (λa=>pMaj a.1 a.2.1 a.2.2)
theorem ZoS:Za prog 357 ZKB:=
 pureQ 127 [] [] ZXA Zof trivial Tryz.func357 Tryz.call357 trivial (t:=λa=>Z1W a.1 a.2.1 a.2.2)
abbrev ZXx:List Sh:=[So R.bool]
abbrev ZXy:Rs:=Rs.one (So Kc)
def Z1U (b:Bool):RT (Int):=
 .br (b) (.Lf (1)) (.Lf (0))
def pOne (b:Bool):Int:=(Z1U b).val
def ZZN:En:=Zg ZXx ZXy (λ_=>none) (λa=>pOne a)
theorem ZQB:Za prog 384 ZZN:=
 pureQ 7 [] [] ZXx ZXy trivial Tryz.func384 Tryz.call384 trivial (t:=λa=>Z1U a)
abbrev ZyV:List Sh:=[So Kc]
def ZlN (n:Int):RT (Bool):=
 .Lf (decide (n< -128)||decide (n>127))
def Zn8 (n:Int):Bool:=(ZlN n).val
def ZuT:En:=Zg ZyV Zof (λ_=>none) (λa=>Zn8 a)
theorem ZrO:Za prog 385 ZuT:=
 pureQ 7 [] [] ZyV Zof trivial Tryz.func385 Tryz.call385 trivial (t:=λa=>ZlN a)
abbrev ZXt:List Sh:=[So Ka,So Ka,So R.bool]
abbrev ZXu:Rs:=Rs.tup [So Ka,So R.bool,So R.bool,So R.bool]
def ZZz (a:Int) (b:Int) (c:Bool):RT (QT19):=
 let x1:=i64.wrap (i64.wrap (i64.wrap a+i64.wrap b)+pOne c)
 .Lf ((u8.wrap x1,decide (x1>255),decide (i64.wrap (i64.wrap (i64.wrap (andI u8 a 15)+i64.wrap (andI u8 b 15))+pOne c)>15),Zn8 (i64.wrap (i64.wrap (i64.wrap (IntKind.i8.wrap a)+i64.wrap (IntKind.i8.wrap b))+pOne c))))
def pSum (a:Int) (b:Int) (c:Bool):QT19:=(ZZz a b c).val
def ZUU:En:=Zg ZXt ZXu (λ_=>none) (λa=>pSum a.1 a.2.1 a.2.2)
theorem ZCW:Za prog 350 ZUU:=
 pureQ 4095 [(384,ZZN),(385,ZuT)] [] ZXt ZXu ⟨ZQB,ZrO,Tv⟩ Tryz.func350 Tryz.call350 trivial (t:=λa=>ZZz a.1 a.2.1 a.2.2)
def ZRh (a:Int) (b:Int) (c:Bool):RT (QT19):=
 let x1:=i64.wrap (i64.wrap (i64.wrap a-i64.wrap b)-pOne c)
 .Lf ((u8.wrap x1,decide (x1<0),decide (i64.wrap (i64.wrap (i64.wrap (i64.wrap (i64.wrap (andI u8 a 15)+15)-i64.wrap (andI u8 b 15))+1)-pOne c)>15),Zn8 (i64.wrap (i64.wrap (i64.wrap (IntKind.i8.wrap a)-i64.wrap (IntKind.i8.wrap b))-pOne c))))
def Zh1 (a:Int) (b:Int) (c:Bool):QT19:=(ZRh a b c).val
def ZHE:En:=Zg ZXt ZXu (λ_=>none) (λa=>Zh1 a.1 a.2.1 a.2.2)
theorem ZvZ:Za prog 352 ZHE:=
 pureQ 4095 [(384,ZZN),(385,ZuT)] [] ZXt ZXu ⟨ZQB,ZrO,Tv⟩ Tryz.func352 Tryz.call352 trivial (t:=λa=>ZRh a.1 a.2.1 a.2.2)
abbrev ZDQ:List Sh:=[So Ka,So Ka]
abbrev ZDR:Rs:=Rs.one (So Kb)
def ZXE (h:Int) (l:Int):RT (Int):=
 .Lf (orI u16 (shlI u16 (u16.wrap h) 8) (u16.wrap l))
def ZQR (h:Int) (l:Int):Int:=(ZXE h l).val
def ZHv:En:=Zg ZDQ ZDR (λ_=>none) (λa=>ZQR a.1 a.2)
theorem ZlQ:Za prog 220 ZHv:=
 pureQ 31 [] [] ZDQ ZDR trivial Tryz.func220 Tryz.call220 trivial (t:=λa=>ZXE a.1 a.2)
abbrev ZXH:List Sh:=[So R.bool,So Kc]
abbrev ZRs:Rs:=Rs.one (So Ka)
def ZVo (b:Bool) (n:Int):RT (Option (Int)):=
 .br (!b||decide (0<=n)) (.br (b) (Ls (shlI u8 1 n)) (Ls (0))) Ln
def pBit (b:Bool) (n:Int):Int:=getO ZRs.Df (ZVo b n).val
def Zev (b:Bool) (n:Int):Bool:=okB (ZVo b n).val
def Z12:En:=Zg ZXH ZRs (λa=>some (Zev a.1 a.2)) (λa=>pBit a.1 a.2)
theorem Z0c:Za prog 386 Z12:=
 pureP 31 [] [] ZXH ZRs trivial Tryz.func386 Tryz.call386 trivial (t:=λa=>ZVo a.1 a.2)
abbrev ZQy:List Sh:=[So Kc,Sh.agg rcF7]
def Zy1 (chip:Int) (f:TF):RT (Option (Int)):=
 let x1:=orI u8 (orI u8 (orI u8 (orI u8 (pBit f.1 7) (pBit f.2.1 6)) (pBit f.2.2.2.1 4)) (pBit f.2.2.2.2.1 2)) (pBit f.2.2.2.2.2.2 0)
 .br (!Zev f.1 7||(!Zev f.2.1 6||(!Zev f.2.2.2.1 4||(!Zev f.2.2.2.2.1 2||Zev f.2.2.2.2.2.2 0)))) (.br (!Zev f.1 7||(!Zev f.2.1 6||(!Zev f.2.2.2.1 4||Zev f.2.2.2.2.1 2))) (.br (!Zev f.1 7||(!Zev f.2.1 6||Zev f.2.2.2.1 4)) (.br (!Zev f.1 7||Zev f.2.1 6) (.br (Zev f.1 7) (.br (!chip==2||(!Zev f.2.2.1 5||Zev f.2.2.2.2.2.1 1)) (.br (!chip==2||Zev f.2.2.1 5) (.br (chip==2) (Ls (orI u8 (orI u8 x1 (pBit f.2.2.1 5)) (pBit f.2.2.2.2.2.1 1))) (Ls (orI u8 x1 2))) Ln) Ln) Ln) Ln) Ln) Ln) Ln
def ZU5 (chip:Int) (f:TF):Int:=getO ZRs.Df (Zy1 chip f).val
def ZHn (chip:Int) (f:TF):Bool:=okB (Zy1 chip f).val
def ZXw:En:=Zg ZQy ZRs (λa=>some (ZHn a.1 a.2)) (λa=>ZU5 a.1 a.2)
theorem ZU4:Za prog 354 ZXw:=
 pureP 63 [(386,Z12)] [] ZQy ZRs ⟨Z0c,Tv⟩ Tryz.func354 Tryz.call354 trivial (t:=λa=>Zy1 a.1 a.2)
abbrev ZyT:List Sh:=[So Kc,So Ka]
abbrev ZyU:Rs:=Rs.one (Sh.agg rcF7)
def ZuR (chip:Int) (b:Int):RT TF:=
 .Lf ((andI u8 b 128 !=0,andI u8 b 64 !=0,chip==2&&andI u8 b 32 !=0,andI u8 b 16 !=0,andI u8 b 4 !=0,chip==2&&andI u8 b 2 !=0,andI u8 b 1 !=0))
def ZuS (chip:Int) (b:Int):TF:=(ZuR chip b).val
def ZHg:En:=Zg ZyT ZyU (λ_=>none) (λa=>ZuS a.1 a.2)
theorem ZKo:Za prog 363 ZHg:=
 pureQ 63 [] [] ZyT ZyU trivial Tryz.func363 Tryz.call363 trivial (t:=λa=>ZuR a.1 a.2)
def pOfT (r:Int):RT (Option TF):=
 .br (ZlP r) (Ls ((decide (r>=128),r==0,false,false,Zu3 r,false,false))) Ln
def pOf (r:Int):TF:=getO ZyU.Df (pOfT r).val
def pOfC (r:Int):Bool:=okB (pOfT r).val
def pOfE:En:=Zg Zy0 ZyU (λa=>some (pOfC a)) (λa=>pOf a)
theorem Zy2:Za prog 356 pOfE:=
 pureP 7 [(387,ZHm)] [] Zy0 ZyU ⟨ZKr,Tv⟩ Tryz.func356 Tryz.call356 trivial (t:=λa=>pOfT a)
def ZpK:En:=.tree (ZM (envX prog [] [] 141872468127 8) Tryz.f349)
theorem ZpJ:Za prog 349 ZpK:=Zad trivial Tryz.func349 rfl (by kernel_rfl) Tryz.call349 trivial
abbrev ZQZ:List Sh:=[Sh.agg ZeL,So Kc]
def ZZV (r:TR) (n:Int):RT (Int):=
 .br (andI i64 n 7==0) (.Lf r.2.1) (.br (andI i64 n 7==1) (.Lf r.2.2.1) (.br (andI i64 n 7==2) (.Lf r.2.2.2.1) (.br (andI i64 n 7==3) (.Lf r.2.2.2.2.1) (.br (andI i64 n 7==4) (.Lf r.2.2.2.2.2.1) (.br (andI i64 n 7==5) (.Lf r.2.2.2.2.2.2.1) (.br (andI i64 n 7==7) (.Lf r.1) (.Lf (0))))))))
def pGet (r:TR) (n:Int):Int:=(ZZV r n).val
def Z1Y:En:=Zg ZQZ ZRs (λ_=>none) (λa=>pGet a.1 a.2)
theorem ZQY:Za prog 281 Z1Y:=
 pureQ 63 [(349,ZpK)] [] ZQZ ZRs ⟨ZpJ,Tv⟩ Tryz.func281 Tryz.call281 trivial (t:=λa=>ZZV a.1 a.2)
abbrev ZQh:List Sh:=[Sh.agg ZeL,So Kc,So Ka]
abbrev ZQi:Rs:=Rs.one (Sh.agg ZeL)
def ZZC (r:TR) (n:Int) (v:Int):RT TR:=
 .br (andI i64 n 7==0) (.Lf ((r.1,v,r.2.2))) (.br (andI i64 n 7==1) (.Lf ((r.1,r.2.1,v,r.2.2.2))) (.br (andI i64 n 7==2) (.Lf ((r.1,r.2.1,r.2.2.1,v,r.2.2.2.2))) (.br (andI i64 n 7==3) (.Lf ((r.1,r.2.1,r.2.2.1,r.2.2.2.1,v,r.2.2.2.2.2))) (.br (andI i64 n 7==4) (.Lf ((r.1,r.2.1,r.2.2.1,r.2.2.2.1,r.2.2.2.2.1,v,r.2.2.2.2.2.2))) (.br (andI i64 n 7==5) (.Lf ((r.1,r.2.1,r.2.2.1,r.2.2.2.1,r.2.2.2.2.1,r.2.2.2.2.2.1,v,r.2.2.2.2.2.2.2))) (.br (andI i64 n 7==7) (.Lf ((v,r.2))) (.Lf (r))))))))
def pSet (r:TR) (n:Int) (v:Int):TR:=(ZZC r n v).val
def Z1R:En:=Zg ZQh ZQi (λ_=>none) (λa=>pSet a.1 a.2.1 a.2.2)
theorem ZQg:Za prog 290 Z1R:=
 pureQ 255 [(349,ZpK)] [] ZQh ZQi ⟨ZpJ,Tv⟩ Tryz.func290 Tryz.call290 trivial (t:=λa=>ZZC a.1 a.2.1 a.2.2)
def ZQv (r:TR) (n:Int):RT (Int):=
 .br (andI i64 n 3==3) (.Lf r.2.2.2.2.2.2.2.2.1) (.Lf (ZQR (pGet r (i64.wrap (2*andI i64 n 3))) (pGet r (i64.wrap (i64.wrap (2*andI i64 n 3)+1)))))
def ZZK (r:TR) (n:Int):Int:=(ZQv r n).val
def Z1T:En:=Zg ZQZ ZDR (λ_=>none) (λa=>ZZK a.1 a.2)
theorem ZU3:Za prog 280 Z1T:=
 pureQ 31 [(220,ZHv),(281,Z1Y)] [] ZQZ ZDR ⟨ZlQ,ZQY,Tv⟩ Tryz.func280 Tryz.call280 trivial (t:=λa=>ZQv a.1 a.2)
abbrev Zkc:List Sh:=[Sh.agg ZeL,So Kc,So Kb]
def Zn9 (r:TR) (n:Int) (v:Int):RT TR:=
 .br (andI i64 n 3==3) (.Lf ((r.1,r.2.1,r.2.2.1,r.2.2.2.1,r.2.2.2.2.1,r.2.2.2.2.2.1,r.2.2.2.2.2.2.1,r.2.2.2.2.2.2.2.1,v,r.2.2.2.2.2.2.2.2.2))) (.Lf (pSet (pSet r (i64.wrap (2*andI i64 n 3)) (u8.wrap (shrI u16 v 8))) (i64.wrap (i64.wrap (2*andI i64 n 3)+1)) (u8.wrap v)))
def ZuU (r:TR) (n:Int) (v:Int):TR:=(Zn9 r n v).val
def ZQj:En:=Zg Zkc ZQi (λ_=>none) (λa=>ZuU a.1 a.2.1 a.2.2)
theorem ZCX:Za prog 291 ZQj:=
 pureQ 127 [(290,Z1R)] [] Zkc ZQi ⟨ZQg,Tv⟩ Tryz.func291 Tryz.call291 trivial (t:=λa=>Zn9 a.1 a.2.1 a.2.2)
abbrev ZQz:List Sh:=[So Kc,Sh.agg ZeL]
def ZU6 (chip:Int) (r:TR):RT (Option (Int)):=
 .br (ZHn chip r.2.2.2.2.2.2.2.1) (Ls (ZQR r.1 (ZU5 chip r.2.2.2.2.2.2.2.1))) Ln
def pPSW (chip:Int) (r:TR):Int:=getO ZDR.Df (ZU6 chip r).val
def ZZM (chip:Int) (r:TR):Bool:=okB (ZU6 chip r).val
def pPSWE:En:=Zg ZQz ZDR (λa=>some (ZZM a.1 a.2)) (λa=>pPSW a.1 a.2)
theorem ZZL:Za prog 288 pPSWE:=
 pureP 31 [(220,ZHv),(354,ZXw)] [] ZQz ZDR ⟨ZlQ,ZU4,Tv⟩ Tryz.func288 Tryz.call288 trivial (t:=λa=>ZU6 a.1 a.2)
abbrev Zoa:List Sh:=[So Kc,Sh.agg ZeL,So Kb]
def ZuV (chip:Int) (r:TR) (v:Int):RT TR:=
 .Lf ((u8.wrap (shrI u16 v 8),r.2.1,r.2.2.1,r.2.2.2.1,r.2.2.2.2.1,r.2.2.2.2.2.1,r.2.2.2.2.2.2.1,ZuS chip (u8.wrap v),r.2.2.2.2.2.2.2.2))
def ZCZ (chip:Int) (r:TR) (v:Int):TR:=(ZuV chip r v).val
def ZUW:En:=Zg Zoa ZQi (λ_=>none) (λa=>ZCZ a.1 a.2.1 a.2.2)
theorem ZKp:Za prog 299 ZUW:=
 pureQ 127 [(363,ZHg)] [] Zoa ZQi ⟨ZKo,Tv⟩ Tryz.func299 Tryz.call299 trivial (t:=λa=>ZuV a.1 a.2.1 a.2.2)
abbrev ZHr:List Sh:=[So Kc,So Kc,So Ka,So Ka]
abbrev Zve:Rs:=Rs.tup [So Ka,Sh.agg rcF7]
def ZoT (chip:Int) (op:Int) (a:Int) (b:Int):RT (Option (QT2)):=
 let x1:Int:=bif op==4 then andI u8 a b else bif op==5 then xorI u8 a b else bif op==6 then orI u8 a b else 0
 let x2:=pOf x1
 let x3:=x2.2
 let x4:=x3.2
 .br (pOfC x1) (Ls ((x1,x2.1,x3.1,bif chip==2 then pMaj (decide (a>=128)) (decide (b>=128)) (decide (x1>=128)) else x4.1,op==4&&(chip==2||andI u8 (orI u8 a b) 8 !=0),x4.2.2))) Ln
def ZHs (chip:Int) (op:Int) (a:Int) (b:Int):QT2:=getO Zve.Df (ZoT chip op a b).val
def Zvf (chip:Int) (op:Int) (a:Int) (b:Int):Bool:=okB (ZoT chip op a b).val
def ZQM:En:=Zg ZHr Zve (λa=>some (Zvf a.1 a.2.1 a.2.2.1 a.2.2.2)) (λa=>ZHs a.1 a.2.1 a.2.2.1 a.2.2.2)
theorem ZQL:Za prog 355 ZQM:=
 pureP 8858394623 [(356,pOfE),(357,ZKB)] [] ZHr Zve ⟨Zy2,ZoS,Tv⟩ Tryz.func355 Tryz.call355 trivial (t:=λa=>ZoT a.1 a.2.1 a.2.2.1 a.2.2.2)
abbrev ZZ1:List Sh:=[So Kc,So Kc,So Ka,So Ka,Sh.agg rcF7]
def pDoT (chip:Int) (op:Int) (a:Int) (b:Int) (f:TF):RT (Option (QT2)):=
 let x1:=decide (andI i64 op 7>=4)&&decide (andI i64 op 7<=6)
 let x2:=f.2.2.2.2.2.2&&(andI i64 op 7==1||andI i64 op 7==3)
 let x3:=Zh1 a b x2
 let x4:=x3.1
 let x5:=pOf x4
 let x6:=x5.2
 let x7:=x6.2
 let x8:=x3.2
 let x9:=x8.2
 let x10:=x7.2.2
 let x11:TF:=(x5.1,x6.1,bif chip==2 then pMaj (decide (a>=128)) (decide (b<128)) (decide (x4>=128)) else x7.1,x9.1,x10.1,bif chip==2 then x9.2 else x10.2.1,x8.1)
 let x12:=pSum a b x2
 let x13:=x12.1
 let x14:=pOf x13
 let x15:=x14.2
 let x16:=x15.2
 let x17:=x12.2
 let x18:=x17.2
 let x19:=x16.2.2
 let x20:TF:=(x14.1,x15.1,bif chip==2 then pMaj (decide (a>=128)) (decide (b>=128)) (decide (x13>=128)) else x16.1,x18.1,x19.1,bif chip==2 then x18.2 else x19.2.1,x17.1)
 .br (!x1||Zvf chip (andI i64 op 7) a b) (.br (x1) (Ls (ZHs chip (andI i64 op 7) a b)) (.br (andI i64 op 7 !=0&&andI i64 op 7 !=1) (.br (pOfC x4) (.br (andI i64 op 7==7) (Ls ((a,x11))) (Ls ((x4,x11)))) Ln) (.br (pOfC x13) (.br (andI i64 op 7==7) (Ls ((a,x20))) (Ls ((x13,x20)))) Ln))) Ln
def pDo (chip:Int) (op:Int) (a:Int) (b:Int) (f:TF):QT2:=getO Zve.Df (pDoT chip op a b f).val
def pDoC (chip:Int) (op:Int) (a:Int) (b:Int) (f:TF):Bool:=okB (pDoT chip op a b f).val
def pDoE:En:=Zg ZZ1 Zve (λa=>some (pDoC a.1 a.2.1 a.2.2.1 a.2.2.2.1 a.2.2.2.2)) (λa=>pDo a.1 a.2.1 a.2.2.1 a.2.2.2.1 a.2.2.2.2)
theorem Z11:Za prog 292 pDoE:=
 pureP 1048575 [(350,ZUU),(352,ZHE),(355,ZQM),(356,pOfE),(357,ZKB)] [] ZZ1 Zve ⟨ZCW,ZvZ,ZQL,Zy2,ZoS,Tv⟩ Tryz.func292 Tryz.call292 trivial (t:=λa=>pDoT a.1 a.2.1 a.2.2.1 a.2.2.2.1 a.2.2.2.2)
abbrev ZyZ:List Sh:=[So Kc,So Ka,So Ka,So R.bool,So R.bool,So R.bool,Sh.agg rcF7]
def ZlO (chip:Int) (v:Int) (r:Int) (half:Bool) (over:Bool) (x:Bool) (f:TF):RT (Option TF):=
 .br (pOfC r) (Ls (((pOf r).1,(pOf r).2.1,bif chip==2 then pMaj (decide (v>=128)) x (decide (r>=128)) else (pOf r).2.2.1,half,(pOf r).2.2.2.2.1,bif chip==2 then over else (pOf r).2.2.2.2.2.1,f.2.2.2.2.2.2))) Ln
def Zoe (chip:Int) (v:Int) (r:Int) (half:Bool) (over:Bool) (x:Bool) (f:TF):TF:=getO ZyU.Df (ZlO chip v r half over x f).val
def Zi6 (chip:Int) (v:Int) (r:Int) (half:Bool) (over:Bool) (x:Bool) (f:TF):Bool:=okB (ZlO chip v r half over x f).val
def ZuW:En:=Zg ZyZ ZyU (λa=>some (Zi6 a.1 a.2.1 a.2.2.1 a.2.2.2.1 a.2.2.2.2.1 a.2.2.2.2.2.1 a.2.2.2.2.2.2)) (λa=>Zoe a.1 a.2.1 a.2.2.1 a.2.2.2.1 a.2.2.2.2.1 a.2.2.2.2.2.1 a.2.2.2.2.2.2)
theorem ZrP:Za prog 351 ZuW:=
 pureP 65535 [(356,pOfE),(357,ZKB)] [] ZyZ ZyU ⟨Zy2,ZoS,Tv⟩ Tryz.func351 Tryz.call351 trivial (t:=λa=>ZlO a.1 a.2.1 a.2.2.1 a.2.2.2.1 a.2.2.2.2.1 a.2.2.2.2.2.1 a.2.2.2.2.2.2)
abbrev ZQV:List Sh:=[So Kc,So Ka,Sh.agg rcF7]
def ZVb (chip:Int) (v:Int) (f:TF):RT (Option (QT2)):=
 .br (Zi6 chip v (pSum v 1 false).1 (pSum v 1 false).2.2.1 (pSum v 1 false).2.2.2 false f) (Ls (((pSum v 1 false).1,Zoe chip v (pSum v 1 false).1 (pSum v 1 false).2.2.1 (pSum v 1 false).2.2.2 false f))) Ln
def pInr (chip:Int) (v:Int) (f:TF):QT2:=getO Zve.Df (ZVb chip v f).val
def ZZT (chip:Int) (v:Int) (f:TF):Bool:=okB (ZVb chip v f).val
def pInrE:En:=Zg ZQV Zve (λa=>some (ZZT a.1 a.2.1 a.2.2)) (λa=>pInr a.1 a.2.1 a.2.2)
theorem ZZS:Za prog 282 pInrE:=
 pureP 4095 [(350,ZUU),(351,ZuW)] [] ZQV Zve ⟨ZCW,ZrP,Tv⟩ Tryz.func282 Tryz.call282 trivial (t:=λa=>ZVb a.1 a.2.1 a.2.2)
def ZVk (chip:Int) (v:Int) (f:TF):RT (Option (QT2)):=
 .br (Zi6 chip v (Zh1 v 1 false).1 (Zh1 v 1 false).2.2.1 (Zh1 v 1 false).2.2.2 true f) (Ls (((Zh1 v 1 false).1,Zoe chip v (Zh1 v 1 false).1 (Zh1 v 1 false).2.2.1 (Zh1 v 1 false).2.2.2 true f))) Ln
def pDcr (chip:Int) (v:Int) (f:TF):QT2:=getO Zve.Df (ZVk chip v f).val
def ZZ7 (chip:Int) (v:Int) (f:TF):Bool:=okB (ZVk chip v f).val
def pDcrE:En:=Zg ZQV Zve (λa=>some (ZZ7 a.1 a.2.1 a.2.2)) (λa=>pDcr a.1 a.2.1 a.2.2)
theorem ZZ6:Za prog 283 pDcrE:=
 pureP 4095 [(351,ZuW),(352,ZHE)] [] ZQV Zve ⟨ZrP,ZvZ,Tv⟩ Tryz.func283 Tryz.call283 trivial (t:=λa=>ZVk a.1 a.2.1 a.2.2)
abbrev ZQS:List Sh:=[So Kc,So Kb,Sh.agg rcF7]
abbrev ZQT:Rs:=Rs.tup [So Kb,Sh.agg rcF7]
def ZZR (chip:Int) (v:Int) (f:TF):RT (QT2):=
 .Lf ((u16.wrap (v+1),f.1,f.2.1,bif chip==2 then v==65535 else f.2.2.1,f.2.2.2))
def pInx (chip:Int) (v:Int) (f:TF):QT2:=(ZZR chip v f).val
def pInxE:En:=Zg ZQS ZQT (λ_=>none) (λa=>pInx a.1 a.2.1 a.2.2)
theorem ZZQ:Za prog 294 pInxE:=
 pureQ 255 [] [] ZQS ZQT trivial Tryz.func294 Tryz.call294 trivial (t:=λa=>ZZR a.1 a.2.1 a.2.2)
def ZZ5 (chip:Int) (v:Int) (f:TF):RT (QT2):=
 .Lf ((u16.wrap (v-1),f.1,f.2.1,bif chip==2 then v==0 else f.2.2.1,f.2.2.2))
def pDcx (chip:Int) (v:Int) (f:TF):QT2:=(ZZ5 chip v f).val
def pDcxE:En:=Zg ZQS ZQT (λ_=>none) (λa=>pDcx a.1 a.2.1 a.2.2)
theorem ZZ4:Za prog 295 pDcxE:=
 pureQ 255 [] [] ZQS ZQT trivial Tryz.func295 Tryz.call295 trivial (t:=λa=>ZZ5 a.1 a.2.1 a.2.2)
abbrev ZRn:List Sh:=[So Kc,So Kb,So Kb,Sh.agg rcF7]
def ZZ9 (chip:Int) (a:Int) (b:Int) (f:TF):RT (QT2):=
 .Lf ((u16.wrap (a+b),f.1,f.2.1,f.2.2.1,f.2.2.2.1,f.2.2.2.2.1,bif chip==2 then andI u16 (andI u16 (xorI u16 a (u16.wrap (a+b))) (xorI u16 b (u16.wrap (a+b)))) 32768 !=0 else f.2.2.2.2.2.1,decide (u16.wrap (a+b)<a)))
def pDad (chip:Int) (a:Int) (b:Int) (f:TF):QT2:=(ZZ9 chip a b f).val
def pDadE:En:=Zg ZRn ZQT (λ_=>none) (λa=>pDad a.1 a.2.1 a.2.2.1 a.2.2.2)
theorem ZZ8:Za prog 296 pDadE:=
 pureQ 2047 [] [] ZRn ZQT trivial Tryz.func296 Tryz.call296 trivial (t:=λa=>ZZ9 a.1 a.2.1 a.2.2.1 a.2.2.2)
abbrev ZD5:List Sh:=[So Kb,So Kb]
def ZHD (a:Int) (b:Int):RT (Option (QT2)):=
 let x1:=Zh1 (u8.wrap (shrI u16 a 8)) (u8.wrap (shrI u16 b 8)) (Zh1 (u8.wrap a) (u8.wrap b) false).2.1
 let x2:=x1.1
 let x3:=pOf x2
 let x4:=x1.2
 let x5:=x4.2
 .br (pOfC x2) (Ls ((ZQR x2 (Zh1 (u8.wrap a) (u8.wrap b) false).1,x3.1,x2==0&&(Zh1 (u8.wrap a) (u8.wrap b) false).1==0,pMaj (decide (a>=32768)) (decide (b<32768)) (decide (x2>=128)),x5.1,x3.2.2.2.2.1,x5.2,x4.1))) Ln
def ZZ0 (a:Int) (b:Int):QT2:=getO ZQT.Df (ZHD a b).val
def ZRe (a:Int) (b:Int):Bool:=okB (ZHD a b).val
def Z10:En:=Zg ZD5 ZQT (λa=>some (ZRe a.1 a.2)) (λa=>ZZ0 a.1 a.2)
theorem ZVg:Za prog 301 Z10:=
 pureP 32767 [(220,ZHv),(352,ZHE),(356,pOfE),(357,ZKB)] [] ZD5 ZQT ⟨ZlQ,ZvZ,Zy2,ZoS,Tv⟩ Tryz.func301 Tryz.call301 trivial (t:=λa=>ZHD a.1 a.2)
def ZVm (chip:Int) (a:Int) (f:TF):RT (Option (QT2)):=
 let x1:Int:=bif f.2.2.2.1||decide (andI u8 a 15>9) then 6 else 0
 let x2:=pSum a (bif f.2.2.2.2.2.2||decide (a>153) then u8.wrap (x1+96) else x1) false
 let x3:=x2.1
 let x4:=pOf x3
 let x5:=x4.2
 let x6:=x5.2
 let x7:=x2.2.2
 let x8:=x6.2.2
 .br (pOfC x3) (Ls ((x3,x4.1,x5.1,bif chip==2 then pMaj (decide (a>=128)) false (decide (x3>=128)) else x6.1,x7.1,x8.1,bif chip==2 then x7.2 else x8.2.1,f.2.2.2.2.2.2||decide (a>153)))) Ln
def pDaa (chip:Int) (a:Int) (f:TF):QT2:=getO Zve.Df (ZVm chip a f).val
def Z0b (chip:Int) (a:Int) (f:TF):Bool:=okB (ZVm chip a f).val
def pDaaE:En:=Zg ZQV Zve (λa=>some (Z0b a.1 a.2.1 a.2.2)) (λa=>pDaa a.1 a.2.1 a.2.2)
theorem Z0a:Za prog 297 pDaaE:=
 pureP 32767 [(350,ZUU),(356,pOfE),(357,ZKB)] [] ZQV Zve ⟨ZCW,Zy2,ZoS,Tv⟩ Tryz.func297 Tryz.call297 trivial (t:=λa=>ZVm a.1 a.2.1 a.2.2)
def Z1X (c:Bool):RT (Int):=
 .br (c) (.Lf (1)) (.Lf (0))
def pLow (c:Bool):Int:=(Z1X c).val
def ZKC:En:=Zg ZXx ZRs (λ_=>none) (λa=>pLow a)
theorem ZDP:Za prog 361 ZKC:=
 pureQ 7 [] [] ZXx ZRs trivial Tryz.func361 Tryz.call361 trivial (t:=λa=>Z1X a)
def ZgG:En:=.tree (ZM (envX prog [] [] 7 8) Tryz.f358)
theorem Zky:Za prog 358 ZgG:=Zad trivial Tryz.func358 rfl (by kernel_rfl) Tryz.call358 trivial
def ZgF:En:=.tree (ZM (envX prog [] [] 7 8) Tryz.f359)
theorem Zkx:Za prog 359 ZgF:=Zad trivial Tryz.func359 rfl (by kernel_rfl) Tryz.call359 trivial
def ZgE:En:=.tree (ZM (envX prog [(361,ZKC)] [] 15 8) Tryz.f360)
theorem Zkw:Za prog 360 ZgE:=Zad ⟨ZDP,Tv⟩ Tryz.func360 rfl (by kernel_rfl) Tryz.call360 trivial
def ZgD:En:=.tree (ZM (envX prog [(361,ZKC)] [] 15 8) Tryz.f362)
theorem Zkv:Za prog 362 ZgD:=Zad ⟨ZDP,Tv⟩ Tryz.func362 rfl (by kernel_rfl) Tryz.call362 trivial
abbrev ZQl:List Sh:=[So Kc,So Ka,So R.bool]
abbrev ZHj:Rs:=Rs.tup [So Ka,So R.bool]
def ZUY (op:Int) (a:Int) (c:Bool):RT (Option (Int×Bool)):=
 .br (andI i64 op 3==0||(andI i64 op 3== ↑(0+1)||(andI i64 op 3== ↑(0+1+1)||andI i64 op 3== ↑(0+1+1+1)))) (Ls ((bif andI i64 op 3==0 then orI u8 (shlI u8 a 1) (shrI u8 a 7) else bif andI i64 op 3== ↑(0+1) then orI u8 (shrI u8 a 1) (shlI u8 a 7) else bif andI i64 op 3== ↑(0+1+1) then orI u8 (shlI u8 a 1) (pLow c) else orI u8 (shrI u8 a 1) (shlI u8 (pLow c) 7),bif andI i64 op 3==0 then decide (a>=128) else bif andI i64 op 3== ↑(0+1) then andI u8 a 1==1 else bif andI i64 op 3== ↑(0+1+1) then decide (a>=128) else andI u8 a 1==1))) Ln
def pRot (op:Int) (a:Int) (c:Bool):Int×Bool:=getO ZHj.Df (ZUY op a c).val
def ZZE (op:Int) (a:Int) (c:Bool):Bool:=okB (ZUY op a c).val
def pRotE:En:=Zg ZQl ZHj (λa=>some (ZZE a.1 a.2.1 a.2.2)) (λa=>pRot a.1 a.2.1 a.2.2)
theorem ZZD:Za prog 298 pRotE:=
 pureP 511 [(358,ZgG),(359,ZgF),(360,ZgE),(362,ZgD)] [] ZQl ZHj ⟨Zky,Zkx,Zkw,Zkv,Tv⟩ Tryz.func298 Tryz.call298 trivial (t:=λa=>ZUY a.1 a.2.1 a.2.2)
abbrev ZD7:List Sh:=[So Kb]
abbrev ZD8:Rs:=Rs.tup [So Kb,So R.bool]
def ZXI (v:Int):RT (Int×Bool):=
 .Lf ((orI u16 (shrI u16 v 1) (andI u16 v 32768),andI u16 v 1==1))
def Z14 (v:Int):Int×Bool:=(ZXI v).val
def Z13:En:=Zg ZD7 ZD8 (λ_=>none) (λa=>Z14 a)
theorem ZVp:Za prog 302 Z13:=
 pureQ 15 [] [] ZD7 ZD8 trivial Tryz.func302 Tryz.call302 trivial (t:=λa=>ZXI a)
abbrev ZC3:List Sh:=[So Kb,So R.bool]
abbrev ZC4:Rs:=Rs.tup [So Kb,So R.bool,So R.bool]
def ZQt (v:Int) (c:Bool):RT (Int×Bool×Bool):=
 .Lf ((orI u16 (shlI u16 v 1) (u16.wrap (pLow c)),decide (v>=32768),andI u16 (xorI u16 (orI u16 (shlI u16 v 1) (u16.wrap (pLow c))) v) 32768 !=0))
def ZZJ (v:Int) (c:Bool):Int×Bool×Bool:=(ZQt v c).val
def Z1S:En:=Zg ZC3 ZC4 (λ_=>none) (λa=>ZZJ a.1 a.2)
theorem ZU2:Za prog 303 Z1S:=
 pureQ 127 [(361,ZKC)] [] ZC3 ZC4 ⟨ZDP,Tv⟩ Tryz.func303 Tryz.call303 trivial (t:=λa=>ZQt a.1 a.2)
def ZHi (b:Bool) (n:Int):RT (Option (Int)):=
 .br (!b||decide (0<=n)) (.br (b) (Ls (shlI u8 1 n)) (Ls (0))) Ln
def ZyY (b:Bool) (n:Int):Int:=getO ZRs.Df (ZHi b n).val
def ZcB (b:Bool) (n:Int):Bool:=okB (ZHi b n).val
def ZXv:En:=Zg ZXH ZRs (λa=>some (ZcB a.1 a.2)) (λa=>ZyY a.1 a.2)
theorem ZUX:Za prog 300 ZXv:=
 pureP 31 [] [] ZXH ZRs trivial Tryz.func300 Tryz.call300 trivial (t:=λa=>ZHi a.1 a.2)
abbrev ZQn:List Sh:=[Sh.agg Zr,Sh.agg (R.Pq R.bool (R.Pq R.bool rcF7))]
abbrev ZHk:Rs:=Rs.tup [So Ka,Sh.agg Zr]
def ZU0 (c:TC) (l:QT0):RT (Option (Int×TC)):=
 let x1:=bif c.2.2.2.2.2.2.2.2.2.2.1 then c.2.2.2.2.2.2.2.2.2.2.2.1 else c.2.2.1
 .br (!ZcB l.2.2.2.1 7||(!ZcB c.2.2.2.2.2.2.2.1 6||(!ZcB l.2.2.2.2.2.2.1 5||(!ZcB l.2.2.2.2.2.2.2.1 4||ZcB x1 3)))) (.br (!ZcB l.2.2.2.1 7||(!ZcB c.2.2.2.2.2.2.2.1 6||(!ZcB l.2.2.2.2.2.2.1 5||ZcB l.2.2.2.2.2.2.2.1 4))) (.br (!ZcB l.2.2.2.1 7||(!ZcB c.2.2.2.2.2.2.2.1 6||ZcB l.2.2.2.2.2.2.1 5)) (.br (!ZcB l.2.2.2.1 7||ZcB c.2.2.2.2.2.2.2.1 6) (.br (ZcB l.2.2.2.1 7) (Ls ((orI u8 (orI u8 (orI u8 (orI u8 (orI u8 (ZyY l.2.2.2.1 7) (ZyY c.2.2.2.2.2.2.2.1 6)) (ZyY l.2.2.2.2.2.2.1 5)) (ZyY l.2.2.2.2.2.2.2.1 4)) (ZyY x1 3)) (andI u8 c.2.2.2.2.2.1 7),c.1,c.2.1,c.2.2.1,c.2.2.2.1,c.2.2.2.2.1,c.2.2.2.2.2.1,c.2.2.2.2.2.2.1,c.2.2.2.2.2.2.2.1,c.2.2.2.2.2.2.2.2.1,c.2.2.2.2.2.2.2.2.2.1,false,false,c.2.2.2.2.2.2.2.2.2.2.2.2))) Ln) Ln) Ln) Ln) Ln
def pRim (c:TC) (l:QT0):Int×TC:=getO ZHk.Df (ZU0 c l).val
def ZZG (c:TC) (l:QT0):Bool:=okB (ZU0 c l).val
def pRimE:En:=Zg ZQn ZHk (λa=>some (ZZG a.1 a.2)) (λa=>pRim a.1 a.2)
theorem ZZF:Za prog 231 pRimE:=
 pureP 255 [(300,ZXv)] [] ZQn ZHk ⟨ZUX,Tv⟩ Tryz.func231 Tryz.call231 trivial (t:=λa=>ZU0 a.1 a.2)
abbrev ZQd:List Sh:=[Sh.agg Zr,So Ka]
abbrev ZQe:Rs:=Rs.one (Sh.agg Zr)
def ZZB (c:TC) (a:Int):RT TC:=
 .Lf ((c.1,c.2.1,c.2.2.1,c.2.2.2.1,c.2.2.2.2.1,bif andI u8 a 8 !=0 then andI u8 a 7 else c.2.2.2.2.2.1,c.2.2.2.2.2.2.1,!andI u8 a 16 !=0&&c.2.2.2.2.2.2.2.1,c.2.2.2.2.2.2.2.2.1,c.2.2.2.2.2.2.2.2.2.1,c.2.2.2.2.2.2.2.2.2.2.1,c.2.2.2.2.2.2.2.2.2.2.2.1,bif andI u8 a 64 !=0 then andI u8 a 128 !=0 else c.2.2.2.2.2.2.2.2.2.2.2.2))
def pSim (c:TC) (a:Int):TC:=(ZZB c a).val
def pSimE:En:=Zg ZQd ZQe (λ_=>none) (λa=>pSim a.1 a.2)
theorem ZZA:Za prog 232 pSimE:=
 pureQ 31 [] [] ZQd ZQe trivial Tryz.func232 Tryz.call232 trivial (t:=λa=>ZZB a.1 a.2)
def ZDS (c:Int) (f:TF):RT (Bool):=
 .br (bif c==0 then c==0 else c==1) (.Lf (f.2.1==(c==1))) (.br (bif c==2 then c==2 else c==3) (.Lf (f.2.2.2.2.2.2==(c==3))) (.br (bif c==4 then c==4 else c==5) (.Lf (f.2.2.2.2.1==(c==5))) (.br (bif c==6 then c==6 else c==7) (.Lf (f.1==(c==7))) (.br (bif c==8 then c==8 else c==9) (.Lf (f.2.2.1==(c==9))) (.br (c==10) (.Lf f.2.2.2.2.2.1) (.Lf (c==11)))))))
def ZQX (c:Int) (f:TF):Bool:=(ZDS c f).val
def ZZU:En:=Zg ZQy Zof (λ_=>none) (λa=>ZQX a.1 a.2)
theorem ZQW:Za prog 353 ZZU:=
 pureQ 70644700037215 [] [] ZQy Zof trivial Tryz.func353 Tryz.call353 trivial (t:=λa=>ZDS a.1 a.2)
def ZuQ (s:Int):RT (Int):=
 .br (s==1) (.Lf (36)) (.br (s==2) (.Lf (60)) (.br (s==3) (.Lf (52)) (.br (s==4) (.Lf (44)) (.Lf (0)))))
def ZCV (s:Int):Int:=(ZuQ s).val
def ZUT:En:=Zg ZyV ZDR (λ_=>none) (λa=>ZCV a)
theorem ZKn:Za prog 155 ZUT:=
 pureQ 1367 [] [] ZyV ZDR trivial Tryz.func155 Tryz.call155 trivial (t:=λa=>ZuQ a)
abbrev ZHu:Rs:=Rs.tup [Sh.agg (R.Pq Kc (R.Pq Kc (R.Pq Kc (R.Pq Kc (R.Pq Kc (R.Pq Kc (R.Pq Kc Kc))))))),So R.bool]
def ZQO (op:Int):RT (TI×Bool):=
 .br (op==8) (.Lf (((40,1,0,0,0,0,0,0),true))) (.br (op==16) (.Lf (((41,1,0,0,0,0,0,0),true))) (.br (op==24) (.Lf (((42,1,0,0,0,0,0,0),true))) (.br (op==32) (.Lf (((38,1,0,0,0,0,0,0),true))) (.br (op==40) (.Lf (((43,2,0,0,0,0,0,0),true))) (.br (op==48) (.Lf (((39,1,0,0,0,0,0,0),true))) (.br (op==56) (.Lf (((44,2,0,0,0,0,0,0),true))) (.br (op==203) (.Lf (((45,1,0,0,0,0,10,0),true))) (.br (op==217) (.Lf (((46,1,0,0,0,0,0,0),true))) (.br (op==221) (.Lf (((24,3,0,0,0,0,8,0),true))) (.br (op==237) (.Lf (((47,1,0,0,0,0,0,0),true))) (.br (op==253) (.Lf (((24,3,0,0,0,0,9,0),true))) (.Lf (((0,0,0,0,0,0,0,0),false))))))))))))))
def ZQQ (op:Int):TI×Bool:=(ZQO op).val
def ZQP:En:=Zg Zy0 ZHu (λ_=>none) (λa=>ZQQ a)
theorem ZQN:Za prog 223 ZQP:=
 pureQ 314146179375 [] [] Zy0 ZHu trivial Tryz.func223 Tryz.call223 trivial (t:=λa=>ZQO a)
def Zy4 (op:Int):RT (TI×Bool):=
 .br (bif op==0 then op==0 else bif op==8 then op==8 else bif op==16 then op==16 else bif op==24 then op==24 else bif op==32 then op==32 else bif op==40 then op==40 else bif op==48 then op==48 else op==56) (.Lf (((1,1,0,0,0,0,0,0),true))) (.br (bif op==195 then op==195 else op==203) (.Lf (((24,3,0,0,0,0,11,0),true))) (.br (bif op==201 then op==201 else op==217) (.Lf (((26,1,0,0,0,0,11,0),true))) (.br (bif op==205 then op==205 else bif op==221 then op==221 else bif op==237 then op==237 else op==253) (.Lf (((25,3,0,0,0,0,11,0),true))) (.Lf (((0,0,0,0,0,0,0,0),false))))))
def Zi7 (op:Int):TI×Bool:=(Zy4 op).val
def Zy5:En:=Zg Zy0 ZHu (λ_=>none) (λa=>Zi7 a)
theorem ZD4:Za prog 224 Zy5:=
 pureQ 8945711 [] [] Zy0 ZHu trivial Tryz.func224 Tryz.call224 trivial (t:=λa=>Zy4 a)
abbrev ZC9:Rs:=Rs.one (Sh.agg (R.Pq Kc (R.Pq Kc (R.Pq Kc (R.Pq Kc (R.Pq Kc (R.Pq Kc (R.Pq Kc Kc))))))))
def ZQD (op:Int):RT (Option TI):=
 let x1:QT28:=(0,0,i64.wrap (andI u8 (shrI u8 op 4) 3),0,0,0)
 let x2:QT21:=(1,x1)
 let x3:=decide (i64.wrap (andI u8 (shrI u8 op 3) 7)<4)&&andI u8 op 8 !=0
 let x4:=decide (0<=i64.wrap (i64.wrap (andI u8 (shrI u8 op 3) 7)-4)/\i64.wrap (i64.wrap (andI u8 (shrI u8 op 3) 7)-4)<4)
 let x5:=i64.wrap (i64.wrap (andI u8 (shrI u8 op 3) 7)-4)==0
 let x6:=i64.wrap (i64.wrap (andI u8 (shrI u8 op 3) 7)-4)== ↑(0+1)
 let x7:=i64.wrap (i64.wrap (andI u8 (shrI u8 op 3) 7)-4)== ↑(0+1+1)
 let x8:QT28:=(i64.wrap (andI u8 (shrI u8 op 3) 7),0,0,0,0,0)
 let x9:QT21:=(1,x8)
 .br (andI u8 op 7==1) (.br (andI u8 op 8 !=0) (Ls ((18,x2))) (Ls ((4,3,x1)))) (.br (!andI u8 op 7==2||(x3||(decide (i64.wrap (andI u8 (shrI u8 op 3) 7)<4)||x4))) (.br (andI u8 op 7==2) (.br (x3) (Ls ((9,x2))) (.br (decide (i64.wrap (andI u8 (shrI u8 op 3) 7)<4)) (Ls ((10,x2))) (Ls ((bif x5 then 8 else bif x6 then 7 else bif x7 then 6 else 5,3,0,0,0,0,0,0))))) (.br (andI u8 op 7==3) (.br (andI u8 op 8 !=0) (Ls ((17,x2))) (Ls ((16,x2)))) (.br (andI u8 op 7==4) (Ls ((14,x9))) (.br (andI u8 op 7==5) (Ls ((15,x9))) (.br (andI u8 op 7==6) (Ls ((3,2,x8))) (.br (decide (i64.wrap (andI u8 (shrI u8 op 3) 7)<4)) (Ls ((23,1,0,0,0,i64.wrap (andI u8 (shrI u8 op 3) 7),0,0))) (.br (x4) (Ls ((bif x5 then 19 else bif x6 then 20 else bif x7 then 21 else 22,1,0,0,0,0,0,0))) Ln))))))) Ln)
def ZZO (op:Int):QT6:=getO ZC9.Df (ZQD op).val
def ZQE (op:Int):Bool:=okB (ZQD op).val
def ZXz:En:=Zg Zy0 ZC9 (λa=>some (ZQE a)) (λa=>ZZO a)
theorem ZU8:Za prog 225 ZXz:=
 pureP 614758941389750335 [] [] Zy0 ZC9 trivial Tryz.func225 Tryz.call225 trivial (t:=λa=>ZQD a)
def ZDa (op:Int):RT (Option TI):=
 let x1:QT28:=(0,0,0,0,i64.wrap (andI u8 (shrI u8 op 3) 7),0)
 let x2:QT21:=(1,0,0,i64.wrap (andI u8 (shrI u8 op 4) 3),0,0,0)
 let x3:=andI u8 op 7==2||(!andI u8 op 7==3||(!decide (i64.wrap (andI u8 (shrI u8 op 3) 7)<4)||decide (0<=i64.wrap (i64.wrap (andI u8 (shrI u8 op 3) 7)-2)/\i64.wrap (i64.wrap (andI u8 (shrI u8 op 3) 7)-2)<2)))
 let x4:QT21:=(3,x1)
 .br (andI u8 op 7==0) (Ls ((26,1,x1))) (.br (andI u8 op 7==1) (.br (!andI u8 op 8 !=0) (Ls ((31,x2))) (.br (i64.wrap (andI u8 (shrI u8 op 3) 7)==5) (Ls ((28,1,0,0,0,0,0,0))) (Ls ((29,1,0,0,0,0,0,0))))) (.br (!x3||(andI u8 op 7==2||(!andI u8 op 7==3||(decide (i64.wrap (andI u8 (shrI u8 op 3) 7)<4)||decide (0<=i64.wrap (i64.wrap (andI u8 (shrI u8 op 3) 7)-4)/\i64.wrap (i64.wrap (andI u8 (shrI u8 op 3) 7)-4)<4))))) (.br (x3) (.br (andI u8 op 7==2) (Ls ((24,x4))) (.br (andI u8 op 7==3) (.br (decide (i64.wrap (andI u8 (shrI u8 op 3) 7)<4)) (Ls ((bif i64.wrap (i64.wrap (andI u8 (shrI u8 op 3) 7)-2)==0 then 34 else 33,2,0,0,0,0,0,0))) (Ls ((bif i64.wrap (i64.wrap (andI u8 (shrI u8 op 3) 7)-4)==0 then 32 else bif i64.wrap (i64.wrap (andI u8 (shrI u8 op 3) 7)-4)== ↑(0+1) then 11 else bif i64.wrap (i64.wrap (andI u8 (shrI u8 op 3) 7)-4)== ↑(0+1+1) then 36 else 35,1,0,0,0,0,0,0)))) (.br (andI u8 op 7==4) (Ls ((25,x4))) (.br (andI u8 op 7==5) (Ls ((30,x2))) (.br (andI u8 op 7==6) (Ls ((13,2,0,0,0,i64.wrap (andI u8 (shrI u8 op 3) 7),0,0))) (Ls ((27,1,0,0,0,0,0,i64.wrap (andI u8 (shrI u8 op 3) 7))))))))) Ln) Ln))
def ZQH (op:Int):QT6:=getO ZC9.Df (ZDa op).val
def ZDb (op:Int):Bool:=okB (ZDa op).val
def ZQG:En:=Zg Zy0 ZC9 (λa=>some (ZDb a)) (λa=>ZQH a)
theorem ZQF:Za prog 226 ZQG:=
 pureP 614741495173873727 [] [] Zy0 ZC9 trivial Tryz.func226 Tryz.call226 trivial (t:=λa=>ZDa a)
def Zfn (chip:Int) (op:Int):RT (Option TI):=
 let x1:QT6:=(37,1,0,0,0,0,0,0)
 let x2:QT6:=(2,1,i64.wrap (andI u8 (shrI u8 op 3) 7),i64.wrap (andI u8 op 7),0,0,0,0)
 let x3:QT6:=(12,1,0,i64.wrap (andI u8 op 7),0,i64.wrap (andI u8 (shrI u8 op 3) 7),0,0)
 .br (chip==2) (.br (ZQQ op).2 (Ls (ZQQ op).1) (.br (Zi7 op).2 (Ls (Zi7 op).1) (.br (!shrI u8 op 6==0||ZQE op) (.br (shrI u8 op 6==0) (Ls (ZZO op)) (.br (shrI u8 op 6==1) (.br (op==118) (Ls (x1)) (Ls (x2))) (.br (shrI u8 op 6==2) (Ls (x3)) (.br (ZDb op) (Ls (ZQH op)) Ln)))) Ln))) (.br (Zi7 op).2 (Ls (Zi7 op).1) (.br (!shrI u8 op 6==0||ZQE op) (.br (shrI u8 op 6==0) (Ls (ZZO op)) (.br (shrI u8 op 6==1) (.br (op==118) (Ls (x1)) (Ls (x2))) (.br (shrI u8 op 6==2) (Ls (x3)) (.br (ZDb op) (Ls (ZQH op)) Ln)))) Ln))
def ZoX (chip:Int) (op:Int):QT6:=getO ZC9.Df (Zfn chip op).val
def ZlR (chip:Int) (op:Int):Bool:=okB (Zfn chip op).val
def ZVi:En:=Zg ZyT ZC9 (λa=>some (ZlR a.1 a.2)) (λa=>ZoX a.1 a.2)
theorem ZLi:Za prog 154 ZVi:=
 pureP 17594467746303 [(223,ZQP),(224,Zy5),(225,ZXz),(226,ZQG)] [] ZyT ZC9 ⟨ZQN,ZD4,ZU8,ZQF,Tv⟩ Tryz.func154 Tryz.call154 trivial (t:=λa=>Zfn a.1 a.2)
def rOnT (chip:Int):RT (Bool):=
 .Lf (chip==2)
def rOn (chip:Int):Bool:=(rOnT chip).val
def rOnE:En:=Zg ZyV Zof (λ_=>none) (λa=>rOn a)
theorem ZdZ:Za prog 171 rOnE:=
 pureQ 7 [] [] ZyV Zof trivial Tryz.func171 Tryz.call171 trivial (t:=λa=>rOnT a)
def ZGC (b:Int):RT (Bool):=
 let x1:=i64.wrap (i64.wrap (i64.wrap (i64.wrap (0+1)+1)+1)+1)
 let x2:=i64.wrap (x1+1)
 let x3:=i64.wrap (x2+1)
 let x4:=bif andI u8 (shrI u8 b (i64.wrap (0+1))) 1==1 then !!andI u8 (shrI u8 b 0) 1==1 else !andI u8 (shrI u8 b 0) 1==1
 let x5:=bif andI u8 (shrI u8 b (i64.wrap (i64.wrap (0+1)+1))) 1==1 then !x4 else x4
 let x6:=bif andI u8 (shrI u8 b (i64.wrap (i64.wrap (i64.wrap (0+1)+1)+1))) 1==1 then !x5 else x5
 let x7:=bif andI u8 (shrI u8 b x1) 1==1 then !x6 else x6
 let x8:=bif andI u8 (shrI u8 b x2) 1==1 then !x7 else x7
 let x9:=bif andI u8 (shrI u8 b x3) 1==1 then !x8 else x8
 .Lf (bif andI u8 (shrI u8 b (i64.wrap (x3+1))) 1==1 then !x9 else x9)
def Zm8 (b:Int):Bool:=(ZGC b).val
def ZtC:En:=Zg Zy0 Zof (λ_=>none) (λa=>Zm8 a)
theorem Zrw:Za prog 375 ZtC:=
 ZHc (P:=prog) (n:=31) (k:=10) (l:=[]) (ol:=[]) trivial Tryz.func375 rfl (by kernel_rfl) Tryz.call375 trivial (ts:=Zy0) (rs:=Zof) (t:=λa=>ZGC a) (λa=>by kernel_rfl)
def Z1D (a:Bool) (b:Bool) (c:Bool):RT (Bool):=
 .Lf (bif a then b||bif a then c||b&&c else b&&c else bif a then c||b&&c else b&&c)
def rMaj (a:Bool) (b:Bool) (c:Bool):Bool:=(Z1D a b c).val
def ZJv:En:=Zg ZXA Zof (λ_=>none) (λa=>rMaj a.1 a.2.1 a.2.2)
theorem ZnM:Za prog 371 ZJv:=
 pureQ 127 [] [] ZXA Zof trivial Tryz.func371 Tryz.call371 trivial (t:=λa=>Z1D a.1 a.2.1 a.2.2)
def Z1w (b:Bool):RT (Int):=
 .br (b) (.Lf (1)) (.Lf (0))
def rOne (b:Bool):Int:=(Z1w b).val
def ZUv:En:=Zg ZXx ZXy (λ_=>none) (λa=>rOne a)
theorem ZBF:Za prog 376 ZUv:=
 pureQ 7 [] [] ZXx ZXy trivial Tryz.func376 Tryz.call376 trivial (t:=λa=>Z1w a)
def ZlB (n:Int):RT (Int):=
 .Lf (i64.wrap (IntKind.i8.wrap n))
def ZdY (n:Int):Int:=(ZlB n).val
def Zts:En:=Zg Zy0 ZXy (λ_=>none) (λa=>ZdY a)
theorem Zro:Za prog 389 Zts:=
 pureQ 7 [] [] Zy0 ZXy trivial Tryz.func389 Tryz.call389 trivial (t:=λa=>ZlB a)
def ZUf (a:Int) (b:Int) (c:Bool):RT (QT19):=
 let x1:=decide (i64.wrap (i64.wrap (ZdY a+ZdY b)+rOne c)< -128)
 let x2:=i64.wrap (i64.wrap (i64.wrap a+i64.wrap b)+rOne c)
 let x3:=u8.wrap x2
 let x4:=decide (x2>255)
 let x5:=decide (i64.wrap (i64.wrap (i64.wrap (andI u8 a 15)+i64.wrap (andI u8 b 15))+rOne c)>15)
 .Lf ((bif x1 then x3 else x3,bif x1 then x4 else x4,bif x1 then x5 else x5,x1||decide (i64.wrap (i64.wrap (ZdY a+ZdY b)+rOne c)>127)))
def rSum (a:Int) (b:Int) (c:Bool):QT19:=(ZUf a b c).val
def ZUg:En:=Zg ZXt ZXu (λ_=>none) (λa=>rSum a.1 a.2.1 a.2.2)
theorem ZBp:Za prog 367 ZUg:=
 pureQ 8191 [(376,ZUv),(389,Zts)] [] ZXt ZXu ⟨ZBF,Zro,Tv⟩ Tryz.func367 Tryz.call367 trivial (t:=λa=>ZUf a.1 a.2.1 a.2.2)
def ZGY (a:Int) (b:Int) (c:Bool):RT (QT19):=
 let x1:=decide (i64.wrap (i64.wrap (ZdY a-ZdY b)-rOne c)< -128)
 let x2:=i64.wrap (i64.wrap (i64.wrap a-i64.wrap b)-rOne c)
 let x3:=u8.wrap x2
 let x4:=decide (x2<0)
 let x5:=decide (i64.wrap (i64.wrap (i64.wrap (i64.wrap (andI u8 a 15)+i64.wrap (u8.wrap (15-andI u8 b 15)))+1)-rOne c)>15)
 .Lf ((bif x1 then x3 else x3,bif x1 then x4 else x4,bif x1 then x5 else x5,x1||decide (i64.wrap (i64.wrap (ZdY a-ZdY b)-rOne c)>127)))
def Zcn (a:Int) (b:Int) (c:Bool):QT19:=(ZGY a b c).val
def ZGZ:En:=Zg ZXt ZXu (λ_=>none) (λa=>Zcn a.1 a.2.1 a.2.2)
theorem Zuz:Za prog 368 ZGZ:=
 pureQ 8191 [(376,ZUv),(389,Zts)] [] ZXt ZXu ⟨ZBF,Zro,Tv⟩ Tryz.func368 Tryz.call368 trivial (t:=λa=>ZGY a.1 a.2.1 a.2.2)
def ZW1 (h:Int) (l:Int):RT (Int):=
 .Lf (orI u16 (shlI u16 (u16.wrap h) 8) (u16.wrap l))
def Zcx (h:Int) (l:Int):Int:=(ZW1 h l).val
def ZnQ:En:=Zg ZDQ ZDR (λ_=>none) (λa=>Zcx a.1 a.2)
theorem ZiR:Za prog 325 ZnQ:=
 pureQ 31 [] [] ZDQ ZDR trivial Tryz.func325 Tryz.call325 trivial (t:=λa=>ZW1 a.1 a.2)
def ZUI (b:Bool) (n:Int):RT (Option (Int)):=
 .br (!b||decide (0<=n)) (.br (b) (Ls (shlI u8 1 n)) (Ls (0))) Ln
def rBit (b:Bool) (n:Int):Int:=getO ZRs.Df (ZUI b n).val
def Zdw (b:Bool) (n:Int):Bool:=okB (ZUI b n).val
def ZUJ:En:=Zg ZXH ZRs (λa=>some (Zdw a.1 a.2)) (λa=>rBit a.1 a.2)
theorem ZCH:Za prog 374 ZUJ:=
 pureP 31 [] [] ZXH ZRs trivial Tryz.func374 Tryz.call374 trivial (t:=λa=>ZUI a.1 a.2)
def Zyt (chip:Int) (f:TF):RT (Option (Int)):=
 let x1:=orI u8 (orI u8 (orI u8 (orI u8 (rBit f.1 7) (rBit f.2.1 6)) (rBit f.2.2.2.1 4)) (rBit f.2.2.2.2.1 2)) (rBit f.2.2.2.2.2.2 0)
 .br (!Zdw f.1 7||(!Zdw f.2.1 6||(!Zdw f.2.2.2.1 4||(!Zdw f.2.2.2.2.1 2||Zdw f.2.2.2.2.2.2 0)))) (.br (!Zdw f.1 7||(!Zdw f.2.1 6||(!Zdw f.2.2.2.1 4||Zdw f.2.2.2.2.1 2))) (.br (!Zdw f.1 7||(!Zdw f.2.1 6||Zdw f.2.2.2.1 4)) (.br (!Zdw f.1 7||Zdw f.2.1 6) (.br (Zdw f.1 7) (.br (!rOn chip||(!Zdw f.2.2.1 5||Zdw f.2.2.2.2.2.1 1)) (.br (!rOn chip||Zdw f.2.2.1 5) (.br (rOn chip) (Ls (orI u8 (orI u8 x1 (rBit f.2.2.1 5)) (rBit f.2.2.2.2.2.1 1))) (Ls (orI u8 x1 2))) Ln) Ln) Ln) Ln) Ln) Ln) Ln
def ZUt (chip:Int) (f:TF):Int:=getO ZRs.Df (Zyt chip f).val
def ZGD (chip:Int) (f:TF):Bool:=okB (Zyt chip f).val
def ZWS:En:=Zg ZQy ZRs (λa=>some (ZGD a.1 a.2)) (λa=>ZUt a.1 a.2)
theorem ZUs:Za prog 377 ZWS:=
 pureP 63 [(171,rOnE),(374,ZUJ)] [] ZQy ZRs ⟨ZdZ,ZCH,Tv⟩ Tryz.func377 Tryz.call377 trivial (t:=λa=>Zyt a.1 a.2)
def Ztp (chip:Int) (b:Int):RT TF:=
 .Lf ((andI u8 b 128 !=0,andI u8 b 64 !=0,rOn chip&&andI u8 b 32 !=0,andI u8 b 16 !=0,andI u8 b 4 !=0,rOn chip&&andI u8 b 2 !=0,andI u8 b 1 !=0))
def Ztq (chip:Int) (b:Int):TF:=(Ztp chip b).val
def ZGd:En:=Zg ZyT ZyU (λ_=>none) (λa=>Ztq a.1 a.2)
theorem ZJb:Za prog 366 ZGd:=
 pureQ 63 [(171,rOnE)] [] ZyT ZyU ⟨ZdZ,Tv⟩ Tryz.func366 Tryz.call366 trivial (t:=λa=>Ztp a.1 a.2)
def rOfT (r:Int):RT TF:=
 .Lf ((decide (r>=128),r==0,false,false,Zm8 r,false,false))
def rOf (r:Int):TF:=(rOfT r).val
def rOfE:En:=Zg Zy0 ZyU (λ_=>none) (λa=>rOf a)
theorem ZGG:Za prog 369 rOfE:=
 pureQ 7 [(375,ZtC)] [] Zy0 ZyU ⟨Zrw,Tv⟩ Tryz.func369 Tryz.call369 trivial (t:=λa=>rOfT a)
abbrev ZOT:List Sh:=[So Kc,Sh.agg rcF7,So R.bool,So R.bool]
def Zry (chip:Int) (f:TF) (k:Bool) (v:Bool):RT TF:=
 .Lf ((f.1,f.2.1,rOn chip&&bif rOn chip then k else k,f.2.2.2.1,f.2.2.2.2.1,bif rOn chip then rOn chip&&v else rOn chip&&v,f.2.2.2.2.2.2))
def Zqs (chip:Int) (f:TF) (k:Bool) (v:Bool):TF:=(Zry chip f k v).val
def Zyu:En:=Zg ZOT ZyU (λ_=>none) (λa=>Zqs a.1 a.2.1 a.2.2.1 a.2.2.2)
theorem ZlF:Za prog 370 Zyu:=
 pureQ 511 [(171,rOnE)] [] ZOT ZyU ⟨ZdZ,Tv⟩ Tryz.func370 Tryz.call370 trivial (t:=λa=>Zry a.1 a.2.1 a.2.2.1 a.2.2.2)
def ZCs (r:TR) (n:Int):RT (Option (Int)):=
 .br (decide (0<=andI i64 n 7/\andI i64 n 7<8)) (Ls (bif andI i64 n 7==0 then r.2.1 else bif andI i64 n 7== ↑(0+1) then r.2.2.1 else bif andI i64 n 7== ↑(0+1+1) then r.2.2.2.1 else bif andI i64 n 7== ↑(0+1+1+1) then r.2.2.2.2.1 else bif andI i64 n 7== ↑(0+1+1+1+1) then r.2.2.2.2.2.1 else bif andI i64 n 7== ↑(0+1+1+1+1+1) then r.2.2.2.2.2.2.1 else bif andI i64 n 7== ↑(0+1+1+1+1+1+1) then 0 else r.1)) Ln
def rGet (r:TR) (n:Int):Int:=getO ZRs.Df (ZCs r n).val
def ZCu (r:TR) (n:Int):Bool:=okB (ZCs r n).val
def Z1F:En:=Zg ZQZ ZRs (λa=>some (ZCu a.1 a.2)) (λa=>rGet a.1 a.2)
theorem ZPg:Za prog 311 Z1F:=
 pureP 31 [] [] ZQZ ZRs trivial Tryz.func311 Tryz.call311 trivial (t:=λa=>ZCs a.1 a.2)
def ZYX (r:TR) (n:Int) (v:Int):RT TR:=
 .Lf ((bif andI i64 n 7==0 then r.1 else bif andI i64 n 7==1 then r.1 else bif andI i64 n 7==2 then r.1 else bif andI i64 n 7==3 then r.1 else bif andI i64 n 7==4 then r.1 else bif andI i64 n 7==5 then r.1 else bif andI i64 n 7==7 then v else r.1,bif andI i64 n 7==0 then v else r.2.1,bif andI i64 n 7==0 then r.2.2.1 else bif andI i64 n 7==1 then v else r.2.2.1,bif andI i64 n 7==0 then r.2.2.2.1 else bif andI i64 n 7==1 then r.2.2.2.1 else bif andI i64 n 7==2 then v else r.2.2.2.1,bif andI i64 n 7==0 then r.2.2.2.2.1 else bif andI i64 n 7==1 then r.2.2.2.2.1 else bif andI i64 n 7==2 then r.2.2.2.2.1 else bif andI i64 n 7==3 then v else r.2.2.2.2.1,bif andI i64 n 7==0 then r.2.2.2.2.2.1 else bif andI i64 n 7==1 then r.2.2.2.2.2.1 else bif andI i64 n 7==2 then r.2.2.2.2.2.1 else bif andI i64 n 7==3 then r.2.2.2.2.2.1 else bif andI i64 n 7==4 then v else r.2.2.2.2.2.1,bif andI i64 n 7==0 then r.2.2.2.2.2.2.1 else bif andI i64 n 7==1 then r.2.2.2.2.2.2.1 else bif andI i64 n 7==2 then r.2.2.2.2.2.2.1 else bif andI i64 n 7==3 then r.2.2.2.2.2.2.1 else bif andI i64 n 7==4 then r.2.2.2.2.2.2.1 else bif andI i64 n 7==5 then v else r.2.2.2.2.2.2.1,r.2.2.2.2.2.2.2))
def rSet (r:TR) (n:Int) (v:Int):TR:=(ZYX r n v).val
def ZJe:En:=Zg ZQh ZQi (λ_=>none) (λa=>rSet a.1 a.2.1 a.2.2)
theorem ZBr:Za prog 312 ZJe:=
 pureQ 9162596991 [] [] ZQh ZQi trivial Tryz.func312 Tryz.call312 trivial (t:=λa=>ZYX a.1 a.2.1 a.2.2)
def Zrx (r:TR) (n:Int):RT (Option (Int)):=
 .br (andI i64 n 3==3) (Ls r.2.2.2.2.2.2.2.2.1) (.br (!ZCu r (i64.wrap (2*andI i64 n 3))||ZCu r (i64.wrap (i64.wrap (2*andI i64 n 3)+1))) (.br (ZCu r (i64.wrap (2*andI i64 n 3))) (Ls (Zcx (rGet r (i64.wrap (2*andI i64 n 3))) (rGet r (i64.wrap (i64.wrap (2*andI i64 n 3)+1))))) Ln) Ln)
def Zab (r:TR) (n:Int):Int:=getO ZDR.Df (Zrx r n).val
def ZOO (r:TR) (n:Int):Bool:=okB (Zrx r n).val
def Z1v:En:=Zg ZQZ ZDR (λa=>some (ZOO a.1 a.2)) (λa=>Zab a.1 a.2)
theorem ZUr:Za prog 244 Z1v:=
 pureP 31 [(311,Z1F),(325,ZnQ)] [] ZQZ ZDR ⟨ZPg,ZiR,Tv⟩ Tryz.func244 Tryz.call244 trivial (t:=λa=>Zrx a.1 a.2)
def Zgf (r:TR) (n:Int) (v:Int):RT TR:=
 .br (andI i64 n 3==3) (.Lf ((r.1,r.2.1,r.2.2.1,r.2.2.2.1,r.2.2.2.2.1,r.2.2.2.2.2.1,r.2.2.2.2.2.2.1,r.2.2.2.2.2.2.2.1,v,r.2.2.2.2.2.2.2.2.2))) (.Lf (rSet (rSet r (i64.wrap (2*andI i64 n 3)) (u8.wrap (shrI u16 v 8))) (i64.wrap (i64.wrap (2*andI i64 n 3)+1)) (u8.wrap v)))
def Zl (r:TR) (n:Int) (v:Int):TR:=(Zgf r n v).val
def Zgg:En:=Zg Zkc ZQi (λ_=>none) (λa=>Zl a.1 a.2.1 a.2.2)
theorem Zm1:Za prog 313 Zgg:=
 pureQ 127 [(312,ZJe)] [] Zkc ZQi ⟨ZBr,Tv⟩ Tryz.func313 Tryz.call313 trivial (t:=λa=>Zgf a.1 a.2.1 a.2.2)
def ZOR (chip:Int) (r:TR):RT (Option (Int)):=
 .br (ZGD chip r.2.2.2.2.2.2.2.1) (Ls (Zcx r.1 (ZUt chip r.2.2.2.2.2.2.2.1))) Ln
def rPSW (chip:Int) (r:TR):Int:=getO ZDR.Df (ZOR chip r).val
def ZY5 (chip:Int) (r:TR):Bool:=okB (ZOR chip r).val
def rPSWE:En:=Zg ZQz ZDR (λa=>some (ZY5 a.1 a.2)) (λa=>rPSW a.1 a.2)
theorem ZY4:Za prog 332 rPSWE:=
 pureP 31 [(325,ZnQ),(377,ZWS)] [] ZQz ZDR ⟨ZiR,ZUs,Tv⟩ Tryz.func332 Tryz.call332 trivial (t:=λa=>ZOR a.1 a.2)
def ZlC (chip:Int) (r:TR) (v:Int):RT TR:=
 .Lf ((u8.wrap (shrI u16 v 8),r.2.1,r.2.2.1,r.2.2.2.1,r.2.2.2.2.1,r.2.2.2.2.2.1,r.2.2.2.2.2.2.1,Ztq chip (u8.wrap v),r.2.2.2.2.2.2.2.2))
def Zgh (chip:Int) (r:TR) (v:Int):TR:=(ZlC chip r v).val
def Ztt:En:=Zg Zoa ZQi (λ_=>none) (λa=>Zgh a.1 a.2.1 a.2.2)
theorem ZJd:Za prog 314 Ztt:=
 pureQ 127 [(366,ZGd)] [] Zoa ZQi ⟨ZJb,Tv⟩ Tryz.func314 Tryz.call314 trivial (t:=λa=>ZlC a.1 a.2.1 a.2.2)
def rDoT (chip:Int) (op:Int) (a:Int) (b:Int) (f:TF):RT (QT2):=
 let x1:=bif andI i64 op 7==0 then andI i64 op 7==0 else andI i64 op 7==1
 let x2:=bif andI i64 op 7==2 then andI i64 op 7==2 else bif andI i64 op 7==3 then andI i64 op 7==3 else andI i64 op 7==7
 let x3:Int:=bif x1 then bif andI i64 op 7==1 then (rSum a b f.2.2.2.2.2.2).1 else (rSum a b false).1 else bif x2 then bif andI i64 op 7==3 then (Zcn a b f.2.2.2.2.2.2).1 else (Zcn a b false).1 else bif andI i64 op 7==4 then bif rOn chip then andI u8 a b else andI u8 a b else bif andI i64 op 7==5 then xorI u8 a b else bif andI i64 op 7==6 then orI u8 a b else 0
 let x4:=rOf x3
 let x5:=x4.2
 let x6:=x5.2
 let x7:=x6.2.2
 let x8:=Zqs chip (x4.1,x5.1,x6.1,bif x1 then bif andI i64 op 7==1 then (rSum a b f.2.2.2.2.2.2).2.2.1 else (rSum a b false).2.2.1 else bif x2 then bif andI i64 op 7==3 then (Zcn a b f.2.2.2.2.2.2).2.2.1 else (Zcn a b false).2.2.1 else andI i64 op 7==4&&(rOn chip||andI u8 (orI u8 a b) 8 !=0),x7.1,x7.2.1,bif x1 then bif andI i64 op 7==1 then (rSum a b f.2.2.2.2.2.2).2.1 else (rSum a b false).2.1 else x2&&bif andI i64 op 7==3 then (Zcn a b f.2.2.2.2.2.2).2.1 else (Zcn a b false).2.1) (rMaj (decide (a>=128)) (bif x1 then decide (b>=128) else bif x2 then !decide (b>=128) else decide (b>=128)) (decide (x3>=128))) (bif x1 then bif andI i64 op 7==1 then (rSum a b f.2.2.2.2.2.2).2.2.2 else (rSum a b false).2.2.2 else x2&&bif andI i64 op 7==3 then (Zcn a b f.2.2.2.2.2.2).2.2.2 else (Zcn a b false).2.2.2)
 .br (andI i64 op 7==7) (.Lf ((a,x8))) (.Lf ((x3,x8)))
def rDo (chip:Int) (op:Int) (a:Int) (b:Int) (f:TF):QT2:=(rDoT chip op a b f).val
def rDoE:En:=Zg ZZ1 Zve (λ_=>none) (λa=>rDo a.1 a.2.1 a.2.2.1 a.2.2.2.1 a.2.2.2.2)
theorem Z1H:Za prog 315 rDoE:=
 pureQ 1246707057321695066193919 [(171,rOnE),(367,ZUg),(368,ZGZ),(369,rOfE),(370,Zyu),(371,ZJv)] [] ZZ1 Zve ⟨ZdZ,ZBp,Zuz,ZGG,ZlF,ZnM,Tv⟩ Tryz.func315 Tryz.call315 trivial (t:=λa=>rDoT a.1 a.2.1 a.2.2.1 a.2.2.2.1 a.2.2.2.2)
def ZZb (chip:Int) (v:Int) (f:TF):RT (QT2):=
 .Lf (((rSum v 1 false).1,Zqs chip ((rOf (rSum v 1 false).1).1,(rOf (rSum v 1 false).1).2.1,(rOf (rSum v 1 false).1).2.2.1,(rSum v 1 false).2.2.1,(rOf (rSum v 1 false).1).2.2.2.2.1,(rOf (rSum v 1 false).1).2.2.2.2.2.1,f.2.2.2.2.2.2) (rMaj (decide (v>=128)) false (decide ((rSum v 1 false).1>=128))) (rSum v 1 false).2.2.2))
def rInr (chip:Int) (v:Int) (f:TF):QT2:=(ZZb chip v f).val
def Z1E:En:=Zg ZQV Zve (λ_=>none) (λa=>rInr a.1 a.2.1 a.2.2)
theorem ZZa:Za prog 372 Z1E:=
 pureQ 8191 [(367,ZUg),(369,rOfE),(370,Zyu),(371,ZJv)] [] ZQV Zve ⟨ZBp,ZGG,ZlF,ZnM,Tv⟩ Tryz.func372 Tryz.call372 trivial (t:=λa=>ZZb a.1 a.2.1 a.2.2)
def ZZk (chip:Int) (v:Int) (f:TF):RT (QT2):=
 .Lf (((Zcn v 1 false).1,Zqs chip ((rOf (Zcn v 1 false).1).1,(rOf (Zcn v 1 false).1).2.1,(rOf (Zcn v 1 false).1).2.2.1,(Zcn v 1 false).2.2.1,(rOf (Zcn v 1 false).1).2.2.2.2.1,(rOf (Zcn v 1 false).1).2.2.2.2.2.1,f.2.2.2.2.2.2) (rMaj (decide (v>=128)) true (decide ((Zcn v 1 false).1>=128))) (Zcn v 1 false).2.2.2))
def rDcr (chip:Int) (v:Int) (f:TF):QT2:=(ZZk chip v f).val
def Z1K:En:=Zg ZQV Zve (λ_=>none) (λa=>rDcr a.1 a.2.1 a.2.2)
theorem ZZj:Za prog 373 Z1K:=
 pureQ 8191 [(368,ZGZ),(369,rOfE),(370,Zyu),(371,ZJv)] [] ZQV Zve ⟨Zuz,ZGG,ZlF,ZnM,Tv⟩ Tryz.func373 Tryz.call373 trivial (t:=λa=>ZZk a.1 a.2.1 a.2.2)
def ZY8 (chip:Int) (v:Int) (f:TF):RT (QT2):=
 .Lf ((u16.wrap (v+1),f.1,f.2.1,bif rOn chip then v==65535 else f.2.2.1,f.2.2.2))
def rInx (chip:Int) (v:Int) (f:TF):QT2:=(ZY8 chip v f).val
def ZY9:En:=Zg ZQS ZQT (λ_=>none) (λa=>rInx a.1 a.2.1 a.2.2)
theorem ZY7:Za prog 317 ZY9:=
 pureQ 255 [(171,rOnE)] [] ZQS ZQT ⟨ZdZ,Tv⟩ Tryz.func317 Tryz.call317 trivial (t:=λa=>ZY8 a.1 a.2.1 a.2.2)
def ZZh (chip:Int) (v:Int) (f:TF):RT (QT2):=
 .Lf ((u16.wrap (v-1),f.1,f.2.1,bif rOn chip then v==0 else f.2.2.1,f.2.2.2))
def rDcx (chip:Int) (v:Int) (f:TF):QT2:=(ZZh chip v f).val
def ZZi:En:=Zg ZQS ZQT (λ_=>none) (λa=>rDcx a.1 a.2.1 a.2.2)
theorem ZZg:Za prog 318 ZZi:=
 pureQ 255 [(171,rOnE)] [] ZQS ZQT ⟨ZdZ,Tv⟩ Tryz.func318 Tryz.call318 trivial (t:=λa=>ZZh a.1 a.2.1 a.2.2)
def ZZm (chip:Int) (a:Int) (b:Int) (f:TF):RT (QT2):=
 .Lf ((u16.wrap (a+b),f.1,f.2.1,f.2.2.1,f.2.2.2.1,f.2.2.2.2.1,bif rOn chip then decide (i64.wrap (i64.wrap (IntKind.i16.wrap a)+i64.wrap (IntKind.i16.wrap b))< -32768)||decide (i64.wrap (i64.wrap (IntKind.i16.wrap a)+i64.wrap (IntKind.i16.wrap b))>32767) else f.2.2.2.2.2.1,decide (i64.wrap (i64.wrap a+i64.wrap b)>65535)))
def rDad (chip:Int) (a:Int) (b:Int) (f:TF):QT2:=(ZZm chip a b f).val
def ZZn:En:=Zg ZRn ZQT (λ_=>none) (λa=>rDad a.1 a.2.1 a.2.2.1 a.2.2.2)
theorem ZZl:Za prog 319 ZZn:=
 pureQ 2047 [(171,rOnE)] [] ZRn ZQT ⟨ZdZ,Tv⟩ Tryz.func319 Tryz.call319 trivial (t:=λa=>ZZm a.1 a.2.1 a.2.2.1 a.2.2.2)
def ZPy (a:Int) (b:Int):RT (QT2):=
 let x1:=Zcn (u8.wrap (shrI u16 a 8)) (u8.wrap (shrI u16 b 8)) (Zcn (u8.wrap a) (u8.wrap b) false).2.1
 let x2:=x1.1
 let x3:=x2==0
 let x4:=Zcx x2 (Zcn (u8.wrap a) (u8.wrap b) false).1
 let x5:=decide (x2>=128)
 let x6:=rMaj (decide (a>=32768)) (decide (b<32768)) x5
 let x7:=x1.2
 let x8:=x7.2
 let x9:=x8.1
 let x10:=Zm8 x2
 let x11:=x8.2
 let x12:=x7.1
 .Lf ((bif x3 then x4 else x4,bif x3 then x5 else x5,x3&&(Zcn (u8.wrap a) (u8.wrap b) false).1==0,bif x3 then x6 else x6,bif x3 then x9 else x9,bif x3 then x10 else x10,bif x3 then x11 else x11,bif x3 then x12 else x12))
def ZyC (a:Int) (b:Int):QT2:=(ZPy a b).val
def ZPA:En:=Zg ZD5 ZQT (λ_=>none) (λa=>ZyC a.1 a.2)
theorem ZUG:Za prog 322 ZPA:=
 pureQ 16383 [(325,ZnQ),(368,ZGZ),(371,ZJv),(375,ZtC)] [] ZD5 ZQT ⟨ZiR,Zuz,ZnM,Zrw,Tv⟩ Tryz.func322 Tryz.call322 trivial (t:=λa=>ZPy a.1 a.2)
def ZZp (chip:Int) (a:Int) (f:TF):RT (QT2):=
 let x1:Int:=bif f.2.2.2.1||decide (andI u8 a 15>9) then 6 else 0
 let x2:=rSum a (bif f.2.2.2.2.2.2||decide (a>153) then u8.wrap (x1+96) else x1) false
 let x3:=x2.1
 let x4:=rOf x3
 let x5:=x4.2
 let x6:=x5.2
 let x7:=x2.2.2
 let x8:=x6.2.2
 .Lf ((x3,Zqs chip (x4.1,x5.1,x6.1,x7.1,x8.1,x8.2.1,f.2.2.2.2.2.2||decide (a>153)) (rMaj (decide (a>=128)) false (decide (x3>=128))) x7.2))
def rDaa (chip:Int) (a:Int) (f:TF):QT2:=(ZZp chip a f).val
def ZZq:En:=Zg ZQV Zve (λ_=>none) (λa=>rDaa a.1 a.2.1 a.2.2)
theorem ZZo:Za prog 320 ZZq:=
 pureQ 32767 [(367,ZUg),(369,rOfE),(370,Zyu),(371,ZJv)] [] ZQV Zve ⟨ZBp,ZGG,ZlF,ZnM,Tv⟩ Tryz.func320 Tryz.call320 trivial (t:=λa=>ZZp a.1 a.2.1 a.2.2)
def ZOu (op:Int) (a:Int) (c:Bool):RT (Option (Int×Bool)):=
 .br (andI i64 op 3==0||(andI i64 op 3==1||(!andI i64 op 3==2||Zdw c 0))) (.br (andI i64 op 3==0) (Ls ((orI u8 (shlI u8 a 1) (shrI u8 a 7),decide (a>=128)))) (.br (andI i64 op 3==1) (Ls ((orI u8 (shrI u8 a 1) (shlI u8 a 7),andI u8 a 1==1))) (.br (andI i64 op 3==2) (Ls ((orI u8 (shlI u8 a 1) (rBit c 0),decide (a>=128)))) (.br (Zdw c 7) (Ls ((orI u8 (shrI u8 a 1) (rBit c 7),andI u8 a 1==1))) Ln)))) Ln
def rRot (op:Int) (a:Int) (c:Bool):Int×Bool:=getO ZHj.Df (ZOu op a c).val
def ZY0 (op:Int) (a:Int) (c:Bool):Bool:=okB (ZOu op a c).val
def rRotE:En:=Zg ZQl ZHj (λa=>some (ZY0 a.1 a.2.1 a.2.2)) (λa=>rRot a.1 a.2.1 a.2.2)
theorem ZYZ:Za prog 321 rRotE:=
 pureP 537396479 [(374,ZUJ)] [] ZQl ZHj ⟨ZCH,Tv⟩ Tryz.func321 Tryz.call321 trivial (t:=λa=>ZOu a.1 a.2.1 a.2.2)
def ZXl (v:Int):RT (Int×Bool):=
 .Lf ((orI u16 (shrI u16 v 1) (andI u16 v 32768),andI u16 v 1==1))
def ZuE (v:Int):Int×Bool:=(ZXl v).val
def ZPO:En:=Zg ZD7 ZD8 (λ_=>none) (λa=>ZuE a)
theorem ZUK:Za prog 323 ZPO:=
 pureQ 15 [] [] ZD7 ZD8 trivial Tryz.func323 Tryz.call323 trivial (t:=λa=>ZXl a)
def Zyo (v:Int) (c:Bool):RT (Option (Int×Bool×Bool)):=
 .br (Zdw c 0) (Ls ((orI u16 (shlI u16 v 1) (u16.wrap (rBit c 0)),decide (v>=32768),andI u16 (orI u16 (shlI u16 v 1) (u16.wrap (rBit c 0))) 32768 !=andI u16 v 32768))) Ln
def Zyp (v:Int) (c:Bool):Int×Bool×Bool:=getO ZC4.Df (Zyo v c).val
def ZOC (v:Int) (c:Bool):Bool:=okB (Zyo v c).val
def Z1u:En:=Zg ZC3 ZC4 (λa=>some (ZOC a.1 a.2)) (λa=>Zyp a.1 a.2)
theorem ZUk:Za prog 324 Z1u:=
 pureP 255 [(374,ZUJ)] [] ZC3 ZC4 ⟨ZCH,Tv⟩ Tryz.func324 Tryz.call324 trivial (t:=λa=>Zyo a.1 a.2)
def ZCI (b:Bool) (n:Int):RT (Option (Int)):=
 .br (decide (0<=n)) (Ls (u8.wrap (shlI i64 (rOne b) n))) Ln
def Zgn (b:Bool) (n:Int):Int:=getO ZRs.Df (ZCI b n).val
def Zap (b:Bool) (n:Int):Bool:=okB (ZCI b n).val
def ZPK:En:=Zg ZXH ZRs (λa=>some (Zap a.1 a.2)) (λa=>Zgn a.1 a.2)
theorem ZPJ:Za prog 326 ZPK:=
 pureP 31 [(376,ZUv)] [] ZXH ZRs ⟨ZBF,Tv⟩ Tryz.func326 Tryz.call326 trivial (t:=λa=>ZCI a.1 a.2)
def ZOx (c:TC) (l:QT0):RT (Option (Int×TC)):=
 let x1:=bif c.2.2.2.2.2.2.2.2.2.2.1 then c.2.2.2.2.2.2.2.2.2.2.2.1 else c.2.2.1
 .br (!Zap l.2.2.2.1 7||(!Zap c.2.2.2.2.2.2.2.1 6||(!Zap l.2.2.2.2.2.2.1 5||(!Zap l.2.2.2.2.2.2.2.1 4||Zap x1 3)))) (.br (!Zap l.2.2.2.1 7||(!Zap c.2.2.2.2.2.2.2.1 6||(!Zap l.2.2.2.2.2.2.1 5||Zap l.2.2.2.2.2.2.2.1 4))) (.br (!Zap l.2.2.2.1 7||(!Zap c.2.2.2.2.2.2.2.1 6||Zap l.2.2.2.2.2.2.1 5)) (.br (!Zap l.2.2.2.1 7||Zap c.2.2.2.2.2.2.2.1 6) (.br (Zap l.2.2.2.1 7) (Ls ((orI u8 (orI u8 (orI u8 (orI u8 (orI u8 (Zgn l.2.2.2.1 7) (Zgn c.2.2.2.2.2.2.2.1 6)) (Zgn l.2.2.2.2.2.2.1 5)) (Zgn l.2.2.2.2.2.2.2.1 4)) (Zgn x1 3)) (andI u8 c.2.2.2.2.2.1 7),c.1,c.2.1,c.2.2.1,c.2.2.2.1,c.2.2.2.2.1,c.2.2.2.2.2.1,c.2.2.2.2.2.2.1,c.2.2.2.2.2.2.2.1,c.2.2.2.2.2.2.2.2.1,c.2.2.2.2.2.2.2.2.2.1,false,false,c.2.2.2.2.2.2.2.2.2.2.2.2))) Ln) Ln) Ln) Ln) Ln
def rRim (c:TC) (l:QT0):Int×TC:=getO ZHk.Df (ZOx c l).val
def ZY2 (c:TC) (l:QT0):Bool:=okB (ZOx c l).val
def rRimE:En:=Zg ZQn ZHk (λa=>some (ZY2 a.1 a.2)) (λa=>rRim a.1 a.2)
theorem ZY1:Za prog 245 rRimE:=
 pureP 255 [(326,ZPK)] [] ZQn ZHk ⟨ZPJ,Tv⟩ Tryz.func245 Tryz.call245 trivial (t:=λa=>ZOx a.1 a.2)
def ZOo (c:TC) (a:Int):RT TC:=
 .Lf ((c.1,c.2.1,c.2.2.1,c.2.2.2.1,c.2.2.2.2.1,bif andI u8 a 8 !=0 then andI u8 a 7 else c.2.2.2.2.2.1,c.2.2.2.2.2.2.1,!andI u8 a 16 !=0&&c.2.2.2.2.2.2.2.1,c.2.2.2.2.2.2.2.2.1,c.2.2.2.2.2.2.2.2.2.1,c.2.2.2.2.2.2.2.2.2.2.1,c.2.2.2.2.2.2.2.2.2.2.2.1,bif andI u8 a 64 !=0 then andI u8 a 128 !=0 else c.2.2.2.2.2.2.2.2.2.2.2.2))
def rSim (c:TC) (a:Int):TC:=(ZOo c a).val
def Z1t:En:=Zg ZQd ZQe (λ_=>none) (λa=>rSim a.1 a.2)
theorem ZYW:Za prog 246 Z1t:=
 pureQ 31 [] [] ZQd ZQe trivial Tryz.func246 Tryz.call246 trivial (t:=λa=>ZOo a.1 a.2)
def ZCr (c:Int) (f:TF):RT (Bool):=
 .br (c==0) (.Lf (!f.2.1)) (.br (c==1) (.Lf f.2.1) (.br (c==2) (.Lf (!f.2.2.2.2.2.2)) (.br (c==3) (.Lf f.2.2.2.2.2.2) (.br (c==4) (.Lf (!f.2.2.2.2.1)) (.br (c==5) (.Lf f.2.2.2.2.1) (.br (c==6) (.Lf (!f.1)) (.br (c==7) (.Lf f.1) (.br (c==8) (.Lf (!f.2.2.1)) (.br (c==9) (.Lf f.2.2.1) (.br (c==10) (.Lf f.2.2.2.2.2.1) (.Lf (c==11))))))))))))
def Zen (c:Int) (f:TF):Bool:=(ZCr c f).val
def ZPf:En:=Zg ZQy Zof (λ_=>none) (λa=>Zen a.1 a.2)
theorem ZPe:Za prog 365 ZPf:=
 pureQ 2397219371124831 [] [] ZQy Zof trivial Tryz.func365 Tryz.call365 trivial (t:=λa=>ZCr a.1 a.2)
def Ztm (s:Int):RT (Int):=
 .br (s==1) (.Lf (36)) (.br (s==2) (.Lf (60)) (.br (s==3) (.Lf (52)) (.br (s==4) (.Lf (44)) (.Lf (0)))))
def Zh (s:Int):Int:=(Ztm s).val
def ZGc:En:=Zg ZyV ZDR (λ_=>none) (λa=>Zh a)
theorem ZI8:Za prog 237 ZGc:=
 pureQ 1367 [] [] ZyV ZDR trivial Tryz.func237 Tryz.call237 trivial (t:=λa=>Ztm a)
def Zj6 (s:Int):RT (Bool):=
 .Lf (decide (s>=1)&&decide (s<=4))
def Zc (s:Int):Bool:=(Zj6 s).val
def Zg5:En:=Zg ZyV Zof (λ_=>none) (λa=>Zc a)
theorem Zgm:Za prog 236 Zg5:=
 pureQ 7 [] [] ZyV Zof trivial Tryz.func236 Tryz.call236 trivial (t:=λa=>Zj6 a)
def Zyg (op:Int):RT (TI×Bool):=
 .br (op==8) (.Lf (((40,1,0,0,0,0,0,0),true))) (.br (op==16) (.Lf (((41,1,0,0,0,0,0,0),true))) (.br (op==24) (.Lf (((42,1,0,0,0,0,0,0),true))) (.br (op==32) (.Lf (((38,1,0,0,0,0,0,0),true))) (.br (op==40) (.Lf (((43,2,0,0,0,0,0,0),true))) (.br (op==48) (.Lf (((39,1,0,0,0,0,0,0),true))) (.br (op==56) (.Lf (((44,2,0,0,0,0,0,0),true))) (.br (op==203) (.Lf (((45,1,0,0,0,0,10,0),true))) (.br (op==217) (.Lf (((46,1,0,0,0,0,0,0),true))) (.br (op==221) (.Lf (((24,3,0,0,0,0,8,0),true))) (.br (op==237) (.Lf (((47,1,0,0,0,0,0,0),true))) (.br (op==253) (.Lf (((24,3,0,0,0,0,9,0),true))) (.Lf (((0,0,0,0,0,0,0,0),false))))))))))))))
def Ztr (op:Int):TI×Bool:=(Zyg op).val
def Zyh:En:=Zg Zy0 ZHu (λ_=>none) (λa=>Ztr a)
theorem ZBq:Za prog 306 Zyh:=
 pureQ 314146179375 [] [] Zy0 ZHu trivial Tryz.func306 Tryz.call306 trivial (t:=λa=>Zyg a)
abbrev ZOV:List Sh:=[So Kc,So Kc,So Kc,So Kc]
def ZOW (y:Int) (z:Int) (p:Int) (q:Int):RT (Option TI):=
 let x1:=decide (0<=i64.wrap (y-4)/\i64.wrap (y-4)<4)
 .br (z==0) (Ls ((1,1,0,0,0,0,0,0))) (.br (z==1) (.br (q==0) (Ls ((4,3,0,0,p,0,0,0))) (Ls ((18,1,0,0,p,0,0,0)))) (.br (!z==2||((bif y==0 then y==0 else y==2)||((bif y==1 then y==1 else y==3)||x1))) (.br (z==2) (.br (bif y==0 then y==0 else y==2) (Ls ((10,1,0,0,p,0,0,0))) (.br (bif y==1 then y==1 else y==3) (Ls ((9,1,0,0,p,0,0,0))) (Ls ((bif i64.wrap (y-4)==0 then 8 else bif i64.wrap (y-4)== ↑(0+1) then 7 else bif i64.wrap (y-4)== ↑(0+1+1) then 6 else 5,3,0,0,0,0,0,0))))) (.br (!z==3||decide (0<=q/\q<2)) (.br (z==3) (Ls ((bif q==0 then 16 else 17,1,0,0,p,0,0,0))) (.br (z==4) (Ls ((14,1,y,0,0,0,0,0))) (.br (z==5) (Ls ((15,1,y,0,0,0,0,0))) (.br (z==6) (Ls ((3,2,y,0,0,0,0,0))) (.br (decide (y<4)) (Ls ((23,1,0,0,0,y,0,0))) (.br (x1) (Ls ((bif i64.wrap (y-4)==0 then 19 else bif i64.wrap (y-4)== ↑(0+1) then 20 else bif i64.wrap (y-4)== ↑(0+1+1) then 21 else 22,1,0,0,0,0,0,0))) Ln)))))) Ln)) Ln))
def Z1z (y:Int) (z:Int) (p:Int) (q:Int):QT6:=getO ZC9.Df (ZOW y z p q).val
def ZWW (y:Int) (z:Int) (p:Int) (q:Int):Bool:=okB (ZOW y z p q).val
def ZWV:En:=Zg ZOV ZC9 (λa=>some (ZWW a.1 a.2.1 a.2.2.1 a.2.2.2)) (λa=>Z1z a.1 a.2.1 a.2.2.1 a.2.2.2)
theorem ZUw:Za prog 307 ZWV:=
 pureP 19211217472071167 [] [] ZOV ZC9 trivial Tryz.func307 Tryz.call307 trivial (t:=λa=>ZOW a.1 a.2.1 a.2.2.1 a.2.2.2)
def ZBH (y:Int) (z:Int) (p:Int) (q:Int):RT (Option TI):=
 .br (z==0) (Ls ((26,1,0,0,0,0,y,0))) (.br (z==1) (.br (q==0) (Ls ((31,1,0,0,p,0,0,0))) (.br (y==5) (Ls ((28,1,0,0,0,0,0,0))) (.br (y==7) (Ls ((29,1,0,0,0,0,0,0))) (Ls ((26,1,0,0,0,0,11,0)))))) (.br (z==2||(!z==3||((bif y==0 then y==0 else y==1)||(y==2||(y==3||decide (0<=i64.wrap (y-4)/\i64.wrap (y-4)<4)))))) (.br (z==2) (Ls ((24,3,0,0,0,0,y,0))) (.br (z==3) (.br (bif y==0 then y==0 else y==1) (Ls ((24,3,0,0,0,0,11,0))) (.br (y==2) (Ls ((34,2,0,0,0,0,0,0))) (.br (y==3) (Ls ((33,2,0,0,0,0,0,0))) (Ls ((bif i64.wrap (y-4)==0 then 32 else bif i64.wrap (y-4)== ↑(0+1) then 11 else bif i64.wrap (y-4)== ↑(0+1+1) then 36 else 35,1,0,0,0,0,0,0)))))) (.br (z==4) (Ls ((25,3,0,0,0,0,y,0))) (.br (z==5) (.br (q==0) (Ls ((30,1,0,0,p,0,0,0))) (Ls ((25,3,0,0,0,0,11,0)))) (.br (z==6) (Ls ((13,2,0,0,0,y,0,0))) (Ls ((27,1,0,0,0,0,0,y)))))))) Ln))
def ZWX (y:Int) (z:Int) (p:Int) (q:Int):QT6:=getO ZC9.Df (ZBH y z p q).val
def ZOZ (y:Int) (z:Int) (p:Int) (q:Int):Bool:=okB (ZBH y z p q).val
def ZOY:En:=Zg ZOV ZC9 (λa=>some (ZOZ a.1 a.2.1 a.2.2.1 a.2.2.2)) (λa=>ZWX a.1 a.2.1 a.2.2.1 a.2.2.2)
theorem ZOX:Za prog 308 ZOY:=
 pureP 2324988294374376959 [] [] ZOV ZC9 trivial Tryz.func308 Tryz.call308 trivial (t:=λa=>ZBH a.1 a.2.1 a.2.2.1 a.2.2.2)
def Zfj (chip:Int) (op:Int):RT (Option TI):=
 .br ((Ztr op).2&&rOn chip) (Ls (Ztr op).1) (.br (!shrI u8 op 6==0||ZWW (i64.wrap (andI u8 (shrI u8 op 3) 7)) (i64.wrap (andI u8 op 7)) (shrI i64 (i64.wrap (andI u8 (shrI u8 op 3) 7)) 1) (andI i64 (i64.wrap (andI u8 (shrI u8 op 3) 7)) 1)) (.br (shrI u8 op 6==0) (Ls (Z1z (i64.wrap (andI u8 (shrI u8 op 3) 7)) (i64.wrap (andI u8 op 7)) (shrI i64 (i64.wrap (andI u8 (shrI u8 op 3) 7)) 1) (andI i64 (i64.wrap (andI u8 (shrI u8 op 3) 7)) 1))) (.br (shrI u8 op 6==1) (.br (op==118) (Ls ((37,1,0,0,0,0,0,0))) (Ls ((2,1,i64.wrap (andI u8 (shrI u8 op 3) 7),i64.wrap (andI u8 op 7),0,0,0,0)))) (.br (shrI u8 op 6==2) (Ls ((12,1,0,i64.wrap (andI u8 op 7),0,i64.wrap (andI u8 (shrI u8 op 3) 7),0,0))) (.br (ZOZ (i64.wrap (andI u8 (shrI u8 op 3) 7)) (i64.wrap (andI u8 op 7)) (shrI i64 (i64.wrap (andI u8 (shrI u8 op 3) 7)) 1) (andI i64 (i64.wrap (andI u8 (shrI u8 op 3) 7)) 1)) (Ls (ZWX (i64.wrap (andI u8 (shrI u8 op 3) 7)) (i64.wrap (andI u8 op 7)) (shrI i64 (i64.wrap (andI u8 (shrI u8 op 3) 7)) 1) (andI i64 (i64.wrap (andI u8 (shrI u8 op 3) 7)) 1))) Ln)))) Ln)
def Zb (chip:Int) (op:Int):QT6:=getO ZC9.Df (Zfj chip op).val
def ZlI (chip:Int) (op:Int):Bool:=okB (Zfj chip op).val
def ZUH:En:=Zg ZyT ZC9 (λa=>some (ZlI a.1 a.2)) (λa=>Zb a.1 a.2)
theorem ZKc:Za prog 238 ZUH:=
 pureP 70644158956031 [(171,rOnE),(306,Zyh),(307,ZWV),(308,ZOY)] [] ZyT ZC9 ⟨ZdZ,ZBq,ZUw,ZOX,Tv⟩ Tryz.func238 Tryz.call238 trivial (t:=λa=>Zfj a.1 a.2)
