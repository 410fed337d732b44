import Derived.Test.YtpnjbfjomebppaaGreatS3D
import Derived.Test.YtpnjbfjomebppaaGreatProg
open Go.Proofs.Tryz (prog)
open Go.IntKind (u8 u16 i64)
set_option linter.unusedSimpArgs false
open Go Go.S3 Go.Proofs
set_option linter.unusedVariables false
set_option maxRecDepth 100000
namespace Go.Proofs.YtpnjbfjomebppaaGreat
noncomputable section
abbrev Zxg:List Sh:=[So Ka]
abbrev ZnL:Rs:=Rs.one (So R.bool)
def Ztd (b:Int):RT (Option (Bool)):=
 let x1:=andI u8 (andI u8 b (u8.wrap (b-1))) (u8.wrap (andI u8 b (u8.wrap (b-1))-1))
 let x2:= !x1 !=0
 let x3:=andI u8 x1 (u8.wrap (x1-1))
 let x4:=x3 !=0
 let x5:=andI u8 x3 (u8.wrap (x3-1))
 let x6:= !x5 !=0
 let x7:=andI u8 x5 (u8.wrap (x5-1))
 let x8:=x7 !=0
 let x9:=andI u8 x7 (u8.wrap (x7-1))
 let x10:= !x9 !=0
 let x11:=andI u8 x9 (u8.wrap (x9-1))
 let x12:=x11 !=0
 let x13:=andI u8 x11 (u8.wrap (x11-1))
 let x14:= !x13 !=0
 .br (!b !=0||(!andI u8 b (u8.wrap (b-1)) !=0||(x2||(!x4||(x6||(!x8||(x10||(!x12||(x14|| !andI u8 x13 (u8.wrap (x13-1)) !=0))))))))) (Ls (!b !=0||andI u8 b (u8.wrap (b-1)) !=0&&(x2||x4&&(x6||x8&&(x10||x12&&x14))))) Ln
def Zte (b:Int):Bool:=getO ZnL.Df (Ztd b).val
def ZlT (b:Int):Bool:=okB (Ztd b).val
def ZEv:En:=Zh Zxg ZnL (λa=>some (ZlT a)) (λa=>Zte a)
theorem ZGM:Zb prog 387 ZEv:=
 Znd (P:=prog) (n:=15) (k:=10) (l:=[]) (ol:=[]) trivial Tryz.func387 rfl (by kernel_rfl) Tryz.call387 trivial (ts:=Zxg) (rs:=ZnL) (t:=λa=>Ztd a) (λa=>by kernel_rfl)
abbrev ZTh:List Sh:=[So R.bool,So R.bool,So R.bool]
def ZX8 (a:Bool) (b:Bool) (c:Bool):RT (Bool):=
 .Lf (bif a then b||bif a then c||b&&c else b&&c else bif a then c||b&&c else b&&c)
def pMaj (a:Bool) (b:Bool) (c:Bool):Bool:=(ZX8 a b c).val
def ZGW:En:=Zh ZTh ZnL (λ_=>none) (λa=>pMaj a.1 a.2.1 a.2.2)
theorem Zop:Zb prog 357 ZGW:=
 pureQ 127 [] [] _ _ trivial Tryz.func357 Tryz.call357 trivial
abbrev ZTe:List Sh:=[So R.bool]
abbrev ZTf:Rs:=Rs.one (So Kc)
def ZX6 (b:Bool):RT (Int):=
 .br (b) (.Lf (1)) (.Lf (0))
def pOne (b:Bool):Int:=(ZX6 b).val
def ZVw:En:=Zh ZTe ZTf (λ_=>none) (λa=>pOne a)
theorem ZLX:Zb prog 384 ZVw:=
 pureQ 7 [] [] _ _ trivial Tryz.func384 Tryz.call384 trivial
abbrev Zw8:List Sh:=[So Kc]
def ZlQ (n:Int):RT (Bool):=
 .Lf (decide (n< -128)||decide (n>127))
def ZnD (n:Int):Bool:=(ZlQ n).val
def Zs1:En:=Zh Zw8 ZnL (λ_=>none) (λa=>ZnD a)
theorem Zq1:Zb prog 385 Zs1:=
 pureQ 7 [] [] _ _ trivial Tryz.func385 Tryz.call385 trivial
abbrev ZTa:List Sh:=[So Ka,So Ka,So R.bool]
abbrev ZTb:Rs:=Rs.tup [So Ka,So R.bool,So R.bool,So R.bool]
def ZVg (a:Int) (b:Int) (c:Bool):RT (QT21):=
 let x1:=i64.wrap (i64.wrap (i64.wrap a+i64.wrap b)+pOne c)
 .Lf ((u8.wrap x1,decide (x1>255),decide (i64.wrap (i64.wrap (i64.wrap (andI u8 a 15)+i64.wrap (andI u8 b 15))+pOne c)>15),ZnD (i64.wrap (i64.wrap (i64.wrap (IntKind.i8.wrap a)+i64.wrap (IntKind.i8.wrap b))+pOne c))))
def pSum (a:Int) (b:Int) (c:Bool):QT21:=(ZVg a b c).val
def ZQP:En:=Zh ZTa ZTb (λ_=>none) (λa=>pSum a.1 a.2.1 a.2.2)
theorem ZAf:Zb prog 350 ZQP:=
 pureQ 4095 [(384,ZVw),(385,Zs1)] [] _ _ ⟨ZLX,Zq1,Tv⟩ Tryz.func350 Tryz.call350 trivial
def ZMK (a:Int) (b:Int) (c:Bool):RT (QT21):=
 let x1:=i64.wrap (i64.wrap (i64.wrap a-i64.wrap b)-pOne c)
 .Lf ((u8.wrap x1,decide (x1<0),decide (i64.wrap (i64.wrap (i64.wrap (i64.wrap (i64.wrap (andI u8 a 15)+15)-i64.wrap (andI u8 b 15))+1)-pOne c)>15),ZnD (i64.wrap (i64.wrap (i64.wrap (IntKind.i8.wrap a)-i64.wrap (IntKind.i8.wrap b))-pOne c))))
def Zh4 (a:Int) (b:Int) (c:Bool):QT21:=(ZMK a b c).val
def ZEQ:En:=Zh ZTa ZTb (λ_=>none) (λa=>Zh4 a.1 a.2.1 a.2.2)
theorem Zud:Zb prog 352 ZEQ:=
 pureQ 4095 [(384,ZVw),(385,Zs1)] [] _ _ ⟨ZLX,Zq1,Tv⟩ Tryz.func352 Tryz.call352 trivial
abbrev ZBh:List Sh:=[So Ka,So Ka]
abbrev ZBi:Rs:=Rs.one (So Kb)
def ZTl (h:Int) (l:Int):RT (Int):=
 .Lf (orI u16 (shlI u16 (u16.wrap h) 8) (u16.wrap l))
def ZMh (h:Int) (l:Int):Int:=(ZTl h l).val
def ZEE:En:=Zh ZBh ZBi (λ_=>none) (λa=>ZMh a.1 a.2)
theorem ZlU:Zb prog 220 ZEE:=
 pureQ 31 [] [] _ _ trivial Tryz.func220 Tryz.call220 trivial
abbrev ZTp:List Sh:=[So R.bool,So Kc]
abbrev ZMZ:Rs:=Rs.one (So Ka)
def ZRn (b:Bool) (n:Int):RT (Option (Int)):=
 .br (!b||decide (0<=n)) (.br (b) (Ls (shlI u8 1 n)) (Ls (0))) Ln
def pBit (b:Bool) (n:Int):Int:=getO ZMZ.Df (ZRn b n).val
def ZeT (b:Bool) (n:Int):Bool:=okB (ZRn b n).val
def ZYd:En:=Zh ZTp ZMZ (λa=>some (ZeT a.1 a.2)) (λa=>pBit a.1 a.2)
theorem ZVY:Zb prog 386 ZYd:=
 pureP 31 [] [] _ _ trivial Tryz.func386 Tryz.call386 trivial
abbrev ZLU:List Sh:=[So Kc,Sh.agg rcF7]
def Zxh (chip:Int) (f:TF):RT (Option (Int)):=
 let x1:=orI u8 (orI u8 (orI u8 (orI u8 (pBit f.1 7) (pBit f.2.1 6)) (pBit f.2.2.2.1 4)) (pBit f.2.2.2.2.1 2)) (pBit f.2.2.2.2.2.2 0)
 .br (!ZeT f.1 7||(!ZeT f.2.1 6||(!ZeT f.2.2.2.1 4||(!ZeT f.2.2.2.2.1 2||ZeT f.2.2.2.2.2.2 0)))) (.br (!ZeT f.1 7||(!ZeT f.2.1 6||(!ZeT f.2.2.2.1 4||ZeT f.2.2.2.2.1 2))) (.br (!ZeT f.1 7||(!ZeT f.2.1 6||ZeT f.2.2.2.1 4)) (.br (!ZeT f.1 7||ZeT f.2.1 6) (.br (ZeT f.1 7) (.br (!chip==2||(!ZeT f.2.2.1 5||ZeT f.2.2.2.2.2.1 1)) (.br (!chip==2||ZeT f.2.2.1 5) (.br (chip==2) (Ls (orI u8 (orI u8 x1 (pBit f.2.2.1 5)) (pBit f.2.2.2.2.2.1 1))) (Ls (orI u8 x1 2))) Ln) Ln) Ln) Ln) Ln) Ln) Ln
def ZQ2 (chip:Int) (f:TF):Int:=getO ZMZ.Df (Zxh chip f).val
def ZEw (chip:Int) (f:TF):Bool:=okB (Zxh chip f).val
def ZTd:En:=Zh ZLU ZMZ (λa=>some (ZEw a.1 a.2)) (λa=>ZQ2 a.1 a.2)
theorem ZQ1:Zb prog 354 ZTd:=
 pureP 63 [(386,ZYd)] [] _ _ ⟨ZVY,Tv⟩ Tryz.func354 Tryz.call354 trivial
abbrev Zw6:List Sh:=[So Kc,So Ka]
abbrev Zw7:Rs:=Rs.one (Sh.agg rcF7)
def ZsY (chip:Int) (b:Int):RT TF:=
 .Lf ((andI u8 b 128 !=0,andI u8 b 64 !=0,chip==2&&andI u8 b 32 !=0,andI u8 b 16 !=0,andI u8 b 4 !=0,chip==2&&andI u8 b 2 !=0,andI u8 b 1 !=0))
def ZsZ (chip:Int) (b:Int):TF:=(ZsY chip b).val
def ZEk:En:=Zh Zw6 Zw7 (λ_=>none) (λa=>ZsZ a.1 a.2)
theorem ZGH:Zb prog 363 ZEk:=
 pureQ 63 [] [] _ _ trivial Tryz.func363 Tryz.call363 trivial
def pOfT (r:Int):RT (Option TF):=
 .br (ZlT r) (Ls ((decide (r>=128),r==0,false,false,Zte r,false,false))) Ln
def pOf (r:Int):TF:=getO Zw7.Df (pOfT r).val
def pOfC (r:Int):Bool:=okB (pOfT r).val
def pOfE:En:=Zh Zxg Zw7 (λa=>some (pOfC a)) (λa=>pOf a)
theorem Zxi:Zb prog 356 pOfE:=
 pureP 7 [(387,ZEv)] [] _ _ ⟨ZGM,Tv⟩ Tryz.func356 Tryz.call356 trivial
def Zpg:En:=.tree (Zz (envX prog [] [] 141872468127 8) Tryz.f349)
theorem Zpf:Zb prog 349 Zpg:=Z6 trivial Tryz.func349 rfl (by kernel_rfl) Tryz.call349 trivial
abbrev ZMs:List Sh:=[Sh.agg ZmY,So Kc]
def ZVH (r:TR) (n:Int):RT (Int):=
 .br (andI i64 n 7==0) (.Lf r.2.1) (.br (andI i64 n 7==1) (.Lf r.2.2.1) (.br (andI i64 n 7==2) (.Lf r.2.2.2.1) (.br (andI i64 n 7==3) (.Lf r.2.2.2.2.1) (.br (andI i64 n 7==4) (.Lf r.2.2.2.2.2.1) (.br (andI i64 n 7==5) (.Lf r.2.2.2.2.2.2.1) (.br (andI i64 n 7==7) (.Lf r.1) (.Lf (0))))))))
def pGet (r:TR) (n:Int):Int:=(ZVH r n).val
def ZYa:En:=Zh ZMs ZMZ (λ_=>none) (λa=>pGet a.1 a.2)
theorem ZMr:Zb prog 281 ZYa:=
 pureQ 63 [(349,Zpg)] [] _ _ ⟨Zpf,Tv⟩ Tryz.func281 Tryz.call281 trivial
abbrev ZLw:List Sh:=[Sh.agg ZmY,So Kc,So Ka]
abbrev ZLx:Rs:=Rs.one (Sh.agg ZmY)
def ZVj (r:TR) (n:Int) (v:Int):RT TR:=
 .br (andI i64 n 7==0) (.Lf ((r.1,v,r.2.2))) (.br (andI i64 n 7==1) (.Lf ((r.1,r.2.1,v,r.2.2.2))) (.br (andI i64 n 7==2) (.Lf ((r.1,r.2.1,r.2.2.1,v,r.2.2.2.2))) (.br (andI i64 n 7==3) (.Lf ((r.1,r.2.1,r.2.2.1,r.2.2.2.1,v,r.2.2.2.2.2))) (.br (andI i64 n 7==4) (.Lf ((r.1,r.2.1,r.2.2.1,r.2.2.2.1,r.2.2.2.2.1,v,r.2.2.2.2.2.2))) (.br (andI i64 n 7==5) (.Lf ((r.1,r.2.1,r.2.2.1,r.2.2.2.1,r.2.2.2.2.1,r.2.2.2.2.2.1,v,r.2.2.2.2.2.2.2))) (.br (andI i64 n 7==7) (.Lf ((v,r.2))) (.Lf (r))))))))
def pSet (r:TR) (n:Int) (v:Int):TR:=(ZVj r n v).val
def ZX2:En:=Zh ZLw ZLx (λ_=>none) (λa=>pSet a.1 a.2.1 a.2.2)
theorem ZLv:Zb prog 290 ZX2:=
 pureQ 255 [(349,Zpg)] [] _ _ ⟨Zpf,Tv⟩ Tryz.func290 Tryz.call290 trivial
def ZLR (r:TR) (n:Int):RT (Int):=
 .br (andI i64 n 3==3) (.Lf r.2.2.2.2.2.2.2.2.1) (.Lf (ZMh (pGet r (i64.wrap (2*andI i64 n 3))) (pGet r (i64.wrap (i64.wrap (2*andI i64 n 3)+1)))))
def ZVt (r:TR) (n:Int):Int:=(ZLR r n).val
def ZX5:En:=Zh ZMs ZBi (λ_=>none) (λa=>ZVt a.1 a.2)
theorem ZQ0:Zb prog 280 ZX5:=
 pureQ 31 [(220,ZEE),(281,ZYa)] [] _ _ ⟨ZlU,ZMr,Tv⟩ Tryz.func280 Tryz.call280 trivial
abbrev Zke:List Sh:=[Sh.agg ZmY,So Kc,So Kb]
def ZnE (r:TR) (n:Int) (v:Int):RT TR:=
 .br (andI i64 n 3==3) (.Lf ((r.1,r.2.1,r.2.2.1,r.2.2.2.1,r.2.2.2.2.1,r.2.2.2.2.2.1,r.2.2.2.2.2.2.1,r.2.2.2.2.2.2.2.1,v,r.2.2.2.2.2.2.2.2.2))) (.Lf (pSet (pSet r (i64.wrap (2*andI i64 n 3)) (u8.wrap (shrI u16 v 8))) (i64.wrap (i64.wrap (2*andI i64 n 3)+1)) (u8.wrap v)))
def Zs2 (r:TR) (n:Int) (v:Int):TR:=(ZnE r n v).val
def ZLy:En:=Zh Zke ZLx (λ_=>none) (λa=>Zs2 a.1 a.2.1 a.2.2)
theorem ZAi:Zb prog 291 ZLy:=
 pureQ 127 [(290,ZX2)] [] _ _ ⟨ZLv,Tv⟩ Tryz.func291 Tryz.call291 trivial
abbrev ZLV:List Sh:=[So Kc,Sh.agg ZmY]
def ZQ3 (chip:Int) (r:TR):RT (Option (Int)):=
 .br (ZEw chip r.2.2.2.2.2.2.2.1) (Ls (ZMh r.1 (ZQ2 chip r.2.2.2.2.2.2.2.1))) Ln
def pPSW (chip:Int) (r:TR):Int:=getO ZBi.Df (ZQ3 chip r).val
def ZVv (chip:Int) (r:TR):Bool:=okB (ZQ3 chip r).val
def pPSWE:En:=Zh ZLV ZBi (λa=>some (ZVv a.1 a.2)) (λa=>pPSW a.1 a.2)
theorem ZVu:Zb prog 288 pPSWE:=
 pureP 31 [(220,ZEE),(354,ZTd)] [] _ _ ⟨ZlU,ZQ1,Tv⟩ Tryz.func288 Tryz.call288 trivial
abbrev ZnF:List Sh:=[So Kc,Sh.agg ZmY,So Kb]
def Zs3 (chip:Int) (r:TR) (v:Int):RT TR:=
 .Lf ((u8.wrap (shrI u16 v 8),r.2.1,r.2.2.1,r.2.2.2.1,r.2.2.2.2.1,r.2.2.2.2.2.1,r.2.2.2.2.2.2.1,ZsZ chip (u8.wrap v),r.2.2.2.2.2.2.2.2))
def ZAk (chip:Int) (r:TR) (v:Int):TR:=(Zs3 chip r v).val
def ZQS:En:=Zh ZnF ZLx (λ_=>none) (λa=>ZAk a.1 a.2.1 a.2.2)
theorem ZGJ:Zb prog 299 ZQS:=
 pureQ 127 [(363,ZEk)] [] _ _ ⟨ZGH,Tv⟩ Tryz.func299 Tryz.call299 trivial
abbrev ZEz:List Sh:=[So Kc,So Kc,So Ka,So Ka]
abbrev Ztp:Rs:=Rs.tup [So Ka,Sh.agg rcF7]
def Zoq (chip:Int) (op:Int) (a:Int) (b:Int):RT (Option (QT2)):=
 let x1:Int:=bif op==4 then andI u8 a b else bif op==5 then xorI u8 a b else bif op==6 then orI u8 a b else 0
 let x2:=pOf x1
 let x3:=x2.2
 let x4:=x3.2
 .br (pOfC x1) (Ls ((x1,x2.1,x3.1,bif chip==2 then pMaj (decide (a>=128)) (decide (b>=128)) (decide (x1>=128)) else x4.1,op==4&&(chip==2||andI u8 (orI u8 a b) 8 !=0),x4.2.2))) Ln
def ZEA (chip:Int) (op:Int) (a:Int) (b:Int):QT2:=getO Ztp.Df (Zoq chip op a b).val
def Ztq (chip:Int) (op:Int) (a:Int) (b:Int):Bool:=okB (Zoq chip op a b).val
def ZMa:En:=Zh ZEz Ztp (λa=>some (Ztq a.1 a.2.1 a.2.2.1 a.2.2.2)) (λa=>ZEA a.1 a.2.1 a.2.2.1 a.2.2.2)
theorem ZL9:Zb prog 355 ZMa:=
 pureP 8858394623 [(356,pOfE),(357,ZGW)] [] _ _ ⟨Zxi,Zop,Tv⟩ Tryz.func355 Tryz.call355 trivial
abbrev ZVM:List Sh:=[So Kc,So Kc,So Ka,So Ka,Sh.agg rcF7]
def pDoT (chip:Int) (op:Int) (a:Int) (b:Int) (f:TF):RT (Option (QT2)):=
 let x1:=decide (andI i64 op 7>=4)&&decide (andI i64 op 7<=6)
 let x2:=f.2.2.2.2.2.2&&(andI i64 op 7==1||andI i64 op 7==3)
 let x3:=Zh4 a b x2
 let x4:=x3.1
 let x5:=pOf x4
 let x6:=x5.2
 let x7:=x6.2
 let x8:=x3.2
 let x9:=x8.2
 let x10:=x7.2.2
 let x11:TF:=(x5.1,x6.1,bif chip==2 then pMaj (decide (a>=128)) (decide (b<128)) (decide (x4>=128)) else x7.1,x9.1,x10.1,bif chip==2 then x9.2 else x10.2.1,x8.1)
 let x12:=pSum a b x2
 let x13:=x12.1
 let x14:=pOf x13
 let x15:=x14.2
 let x16:=x15.2
 let x17:=x12.2
 let x18:=x17.2
 let x19:=x16.2.2
 let x20:TF:=(x14.1,x15.1,bif chip==2 then pMaj (decide (a>=128)) (decide (b>=128)) (decide (x13>=128)) else x16.1,x18.1,x19.1,bif chip==2 then x18.2 else x19.2.1,x17.1)
 .br (!x1||Ztq chip (andI i64 op 7) a b) (.br (x1) (Ls (ZEA chip (andI i64 op 7) a b)) (.br (andI i64 op 7 !=0&&andI i64 op 7 !=1) (.br (pOfC x4) (.br (andI i64 op 7==7) (Ls ((a,x11))) (Ls ((x4,x11)))) Ln) (.br (pOfC x13) (.br (andI i64 op 7==7) (Ls ((a,x20))) (Ls ((x13,x20)))) Ln))) Ln
def pDo (chip:Int) (op:Int) (a:Int) (b:Int) (f:TF):QT2:=getO Ztp.Df (pDoT chip op a b f).val
def pDoC (chip:Int) (op:Int) (a:Int) (b:Int) (f:TF):Bool:=okB (pDoT chip op a b f).val
def pDoE:En:=Zh ZVM Ztp (λa=>some (pDoC a.1 a.2.1 a.2.2.1 a.2.2.2.1 a.2.2.2.2)) (λa=>pDo a.1 a.2.1 a.2.2.1 a.2.2.2.1 a.2.2.2.2)
theorem ZYc:Zb prog 292 pDoE:=
 pureP 1048575 [(350,ZQP),(352,ZEQ),(355,ZMa),(356,pOfE),(357,ZGW)] [] _ _ ⟨ZAf,Zud,ZL9,Zxi,Zop,Tv⟩ Tryz.func292 Tryz.call292 trivial
abbrev Zxe:List Sh:=[So Kc,So Ka,So Ka,So R.bool,So R.bool,So R.bool,Sh.agg rcF7]
def ZlR (chip:Int) (v:Int) (r:Int) (half:Bool) (over:Bool) (x:Bool) (f:TF):RT (Option TF):=
 .br (pOfC r) (Ls (((pOf r).1,(pOf r).2.1,bif chip==2 then pMaj (decide (v>=128)) x (decide (r>=128)) else (pOf r).2.2.1,half,(pOf r).2.2.2.2.1,bif chip==2 then over else (pOf r).2.2.2.2.2.1,f.2.2.2.2.2.2))) Ln
def ZnJ (chip:Int) (v:Int) (r:Int) (half:Bool) (over:Bool) (x:Bool) (f:TF):TF:=getO Zw7.Df (ZlR chip v r half over x f).val
def Zi2 (chip:Int) (v:Int) (r:Int) (half:Bool) (over:Bool) (x:Bool) (f:TF):Bool:=okB (ZlR chip v r half over x f).val
def Zs5:En:=Zh Zxe Zw7 (λa=>some (Zi2 a.1 a.2.1 a.2.2.1 a.2.2.2.1 a.2.2.2.2.1 a.2.2.2.2.2.1 a.2.2.2.2.2.2)) (λa=>ZnJ a.1 a.2.1 a.2.2.1 a.2.2.2.1 a.2.2.2.2.1 a.2.2.2.2.2.1 a.2.2.2.2.2.2)
theorem Zq2:Zb prog 351 Zs5:=
 pureP 65535 [(356,pOfE),(357,ZGW)] [] _ _ ⟨Zxi,Zop,Tv⟩ Tryz.func351 Tryz.call351 trivial
abbrev ZMl:List Sh:=[So Kc,So Ka,Sh.agg rcF7]
def ZRa (chip:Int) (v:Int) (f:TF):RT (Option (QT2)):=
 .br (Zi2 chip v (pSum v 1 false).1 (pSum v 1 false).2.2.1 (pSum v 1 false).2.2.2 false f) (Ls (((pSum v 1 false).1,ZnJ chip v (pSum v 1 false).1 (pSum v 1 false).2.2.1 (pSum v 1 false).2.2.2 false f))) Ln
def pInr (chip:Int) (v:Int) (f:TF):QT2:=getO Ztp.Df (ZRa chip v f).val
def ZVF (chip:Int) (v:Int) (f:TF):Bool:=okB (ZRa chip v f).val
def pInrE:En:=Zh ZMl Ztp (λa=>some (ZVF a.1 a.2.1 a.2.2)) (λa=>pInr a.1 a.2.1 a.2.2)
theorem ZVE:Zb prog 282 pInrE:=
 pureP 4095 [(350,ZQP),(351,Zs5)] [] _ _ ⟨ZAf,Zq2,Tv⟩ Tryz.func282 Tryz.call282 trivial
def ZRj (chip:Int) (v:Int) (f:TF):RT (Option (QT2)):=
 .br (Zi2 chip v (Zh4 v 1 false).1 (Zh4 v 1 false).2.2.1 (Zh4 v 1 false).2.2.2 true f) (Ls (((Zh4 v 1 false).1,ZnJ chip v (Zh4 v 1 false).1 (Zh4 v 1 false).2.2.1 (Zh4 v 1 false).2.2.2 true f))) Ln
def pDcr (chip:Int) (v:Int) (f:TF):QT2:=getO Ztp.Df (ZRj chip v f).val
def ZVS (chip:Int) (v:Int) (f:TF):Bool:=okB (ZRj chip v f).val
def pDcrE:En:=Zh ZMl Ztp (λa=>some (ZVS a.1 a.2.1 a.2.2)) (λa=>pDcr a.1 a.2.1 a.2.2)
theorem ZVR:Zb prog 283 pDcrE:=
 pureP 4095 [(351,Zs5),(352,ZEQ)] [] _ _ ⟨Zq2,Zud,Tv⟩ Tryz.func283 Tryz.call283 trivial
abbrev ZMi:List Sh:=[So Kc,So Kb,Sh.agg rcF7]
abbrev ZMj:Rs:=Rs.tup [So Kb,Sh.agg rcF7]
def ZVD (chip:Int) (v:Int) (f:TF):RT (QT2):=
 .Lf ((u16.wrap (v+1),f.1,f.2.1,bif chip==2 then v==65535 else f.2.2.1,f.2.2.2))
def pInx (chip:Int) (v:Int) (f:TF):QT2:=(ZVD chip v f).val
def pInxE:En:=Zh ZMi ZMj (λ_=>none) (λa=>pInx a.1 a.2.1 a.2.2)
theorem ZVC:Zb prog 294 pInxE:=
 pureQ 255 [] [] _ _ trivial Tryz.func294 Tryz.call294 trivial
def ZVQ (chip:Int) (v:Int) (f:TF):RT (QT2):=
 .Lf ((u16.wrap (v-1),f.1,f.2.1,bif chip==2 then v==0 else f.2.2.1,f.2.2.2))
def pDcx (chip:Int) (v:Int) (f:TF):QT2:=(ZVQ chip v f).val
def pDcxE:En:=Zh ZMi ZMj (λ_=>none) (λa=>pDcx a.1 a.2.1 a.2.2)
theorem ZVP:Zb prog 295 pDcxE:=
 pureQ 255 [] [] _ _ trivial Tryz.func295 Tryz.call295 trivial
abbrev ZMQ:List Sh:=[So Kc,So Kb,So Kb,Sh.agg rcF7]
def ZVU (chip:Int) (a:Int) (b:Int) (f:TF):RT (QT2):=
 .Lf ((u16.wrap (a+b),f.1,f.2.1,f.2.2.1,f.2.2.2.1,f.2.2.2.2.1,bif chip==2 then andI u16 (andI u16 (xorI u16 a (u16.wrap (a+b))) (xorI u16 b (u16.wrap (a+b)))) 32768 !=0 else f.2.2.2.2.2.1,decide (u16.wrap (a+b)<a)))
def pDad (chip:Int) (a:Int) (b:Int) (f:TF):QT2:=(ZVU chip a b f).val
def pDadE:En:=Zh ZMQ ZMj (λ_=>none) (λa=>pDad a.1 a.2.1 a.2.2.1 a.2.2.2)
theorem ZVT:Zb prog 296 pDadE:=
 pureQ 2047 [] [] _ _ trivial Tryz.func296 Tryz.call296 trivial
abbrev ZBw:List Sh:=[So Kb,So Kb]
def ZEP (a:Int) (b:Int):RT (Option (QT2)):=
 let x1:=Zh4 (u8.wrap (shrI u16 a 8)) (u8.wrap (shrI u16 b 8)) (Zh4 (u8.wrap a) (u8.wrap b) false).2.1
 let x2:=x1.1
 let x3:=pOf x2
 let x4:=x1.2
 let x5:=x4.2
 .br (pOfC x2) (Ls ((ZMh x2 (Zh4 (u8.wrap a) (u8.wrap b) false).1,x3.1,x2==0&&(Zh4 (u8.wrap a) (u8.wrap b) false).1==0,pMaj (decide (a>=32768)) (decide (b<32768)) (decide (x2>=128)),x5.1,x3.2.2.2.2.1,x5.2,x4.1))) Ln
def ZVL (a:Int) (b:Int):QT2:=getO ZMj.Df (ZEP a b).val
def ZMH (a:Int) (b:Int):Bool:=okB (ZEP a b).val
def ZYb:En:=Zh ZBw ZMj (λa=>some (ZMH a.1 a.2)) (λa=>ZVL a.1 a.2)
theorem ZRf:Zb prog 301 ZYb:=
 pureP 32767 [(220,ZEE),(352,ZEQ),(356,pOfE),(357,ZGW)] [] _ _ ⟨ZlU,Zud,Zxi,Zop,Tv⟩ Tryz.func301 Tryz.call301 trivial
def ZRl (chip:Int) (a:Int) (f:TF):RT (Option (QT2)):=
 let x1:Int:=bif f.2.2.2.1||decide (andI u8 a 15>9) then 6 else 0
 let x2:=pSum a (bif f.2.2.2.2.2.2||decide (a>153) then u8.wrap (x1+96) else x1) false
 let x3:=x2.1
 let x4:=pOf x3
 let x5:=x4.2
 let x6:=x5.2
 let x7:=x2.2.2
 let x8:=x6.2.2
 .br (pOfC x3) (Ls ((x3,x4.1,x5.1,bif chip==2 then pMaj (decide (a>=128)) false (decide (x3>=128)) else x6.1,x7.1,x8.1,bif chip==2 then x7.2 else x8.2.1,f.2.2.2.2.2.2||decide (a>153)))) Ln
def pDaa (chip:Int) (a:Int) (f:TF):QT2:=getO Ztp.Df (ZRl chip a f).val
def ZVW (chip:Int) (a:Int) (f:TF):Bool:=okB (ZRl chip a f).val
def pDaaE:En:=Zh ZMl Ztp (λa=>some (ZVW a.1 a.2.1 a.2.2)) (λa=>pDaa a.1 a.2.1 a.2.2)
theorem ZVV:Zb prog 297 pDaaE:=
 pureP 32767 [(350,ZQP),(356,pOfE),(357,ZGW)] [] _ _ ⟨ZAf,Zxi,Zop,Tv⟩ Tryz.func297 Tryz.call297 trivial
def ZX9 (c:Bool):RT (Int):=
 .br (c) (.Lf (1)) (.Lf (0))
def pLow (c:Bool):Int:=(ZX9 c).val
def ZGX:En:=Zh ZTe ZMZ (λ_=>none) (λa=>pLow a)
theorem ZBd:Zb prog 361 ZGX:=
 pureQ 7 [] [] _ _ trivial Tryz.func361 Tryz.call361 trivial
def ZgG:En:=.tree (Zz (envX prog [] [] 7 8) Tryz.f358)
theorem ZkE:Zb prog 358 ZgG:=Z6 trivial Tryz.func358 rfl (by kernel_rfl) Tryz.call358 trivial
def ZgF:En:=.tree (Zz (envX prog [] [] 7 8) Tryz.f359)
theorem ZkD:Zb prog 359 ZgF:=Z6 trivial Tryz.func359 rfl (by kernel_rfl) Tryz.call359 trivial
def ZgE:En:=.tree (Zz (envX prog [(361,ZGX)] [] 15 8) Tryz.f360)
theorem ZkC:Zb prog 360 ZgE:=Z6 ⟨ZBd,Tv⟩ Tryz.func360 rfl (by kernel_rfl) Tryz.call360 trivial
def ZgD:En:=.tree (Zz (envX prog [(361,ZGX)] [] 15 8) Tryz.f362)
theorem ZkB:Zb prog 362 ZgD:=Z6 ⟨ZBd,Tv⟩ Tryz.func362 rfl (by kernel_rfl) Tryz.call362 trivial
abbrev ZLB:List Sh:=[So Kc,So Ka,So R.bool]
abbrev ZEr:Rs:=Rs.tup [So Ka,So R.bool]
def ZQU (op:Int) (a:Int) (c:Bool):RT (Option (Int×Bool)):=
 .br (andI i64 op 3==0||(andI i64 op 3== ↑(0+1)||(andI i64 op 3== ↑(0+1+1)||andI i64 op 3== ↑(0+1+1+1)))) (Ls ((bif andI i64 op 3==0 then orI u8 (shlI u8 a 1) (shrI u8 a 7) else bif andI i64 op 3== ↑(0+1) then orI u8 (shrI u8 a 1) (shlI u8 a 7) else bif andI i64 op 3== ↑(0+1+1) then orI u8 (shlI u8 a 1) (pLow c) else orI u8 (shrI u8 a 1) (shlI u8 (pLow c) 7),bif andI i64 op 3==0 then decide (a>=128) else bif andI i64 op 3== ↑(0+1) then andI u8 a 1==1 else bif andI i64 op 3== ↑(0+1+1) then decide (a>=128) else andI u8 a 1==1))) Ln
def pRot (op:Int) (a:Int) (c:Bool):Int×Bool:=getO ZEr.Df (ZQU op a c).val
def ZVl (op:Int) (a:Int) (c:Bool):Bool:=okB (ZQU op a c).val
def pRotE:En:=Zh ZLB ZEr (λa=>some (ZVl a.1 a.2.1 a.2.2)) (λa=>pRot a.1 a.2.1 a.2.2)
theorem ZVk:Zb prog 298 pRotE:=
 pureP 511 [(358,ZgG),(359,ZgF),(360,ZgE),(362,ZgD)] [] _ _ ⟨ZkE,ZkD,ZkC,ZkB,Tv⟩ Tryz.func298 Tryz.call298 trivial
abbrev ZBz:List Sh:=[So Kb]
abbrev ZBA:Rs:=Rs.tup [So Kb,So R.bool]
def ZTq (v:Int):RT (Int×Bool):=
 .Lf ((orI u16 (shrI u16 v 1) (andI u16 v 32768),andI u16 v 1==1))
def ZYf (v:Int):Int×Bool:=(ZTq v).val
def ZYe:En:=Zh ZBz ZBA (λ_=>none) (λa=>ZYf a)
theorem ZRo:Zb prog 302 ZYe:=
 pureQ 15 [] [] _ _ trivial Tryz.func302 Tryz.call302 trivial
abbrev ZAp:List Sh:=[So Kb,So R.bool]
abbrev ZAq:Rs:=Rs.tup [So Kb,So R.bool,So R.bool]
def ZLL (v:Int) (c:Bool):RT (Int×Bool×Bool):=
 .Lf ((orI u16 (shlI u16 v 1) (u16.wrap (pLow c)),decide (v>=32768),andI u16 (xorI u16 (orI u16 (shlI u16 v 1) (u16.wrap (pLow c))) v) 32768 !=0))
def ZVr (v:Int) (c:Bool):Int×Bool×Bool:=(ZLL v c).val
def ZX3:En:=Zh ZAp ZAq (λ_=>none) (λa=>ZVr a.1 a.2)
theorem ZQY:Zb prog 303 ZX3:=
 pureQ 127 [(361,ZGX)] [] _ _ ⟨ZBd,Tv⟩ Tryz.func303 Tryz.call303 trivial
def ZEq (b:Bool) (n:Int):RT (Option (Int)):=
 .br (!b||decide (0<=n)) (.br (b) (Ls (shlI u8 1 n)) (Ls (0))) Ln
def Zxd (b:Bool) (n:Int):Int:=getO ZMZ.Df (ZEq b n).val
def Zc5 (b:Bool) (n:Int):Bool:=okB (ZEq b n).val
def ZTc:En:=Zh ZTp ZMZ (λa=>some (Zc5 a.1 a.2)) (λa=>Zxd a.1 a.2)
theorem ZQT:Zb prog 300 ZTc:=
 pureP 31 [] [] _ _ trivial Tryz.func300 Tryz.call300 trivial
abbrev ZLD:List Sh:=[Sh.agg Zat,Sh.agg (R.Pq R.bool (R.Pq R.bool rcF7))]
abbrev ZEs:Rs:=Rs.tup [So Ka,Sh.agg Zat]
def ZQW (c:TC) (l:QT1):RT (Option (Int×TC)):=
 let x1:=bif c.2.2.2.2.2.2.2.2.2.2.1 then c.2.2.2.2.2.2.2.2.2.2.2.1 else c.2.2.1
 .br (!Zc5 l.2.2.2.1 7||(!Zc5 c.2.2.2.2.2.2.2.1 6||(!Zc5 l.2.2.2.2.2.2.1 5||(!Zc5 l.2.2.2.2.2.2.2.1 4||Zc5 x1 3)))) (.br (!Zc5 l.2.2.2.1 7||(!Zc5 c.2.2.2.2.2.2.2.1 6||(!Zc5 l.2.2.2.2.2.2.1 5||Zc5 l.2.2.2.2.2.2.2.1 4))) (.br (!Zc5 l.2.2.2.1 7||(!Zc5 c.2.2.2.2.2.2.2.1 6||Zc5 l.2.2.2.2.2.2.1 5)) (.br (!Zc5 l.2.2.2.1 7||Zc5 c.2.2.2.2.2.2.2.1 6) (.br (Zc5 l.2.2.2.1 7) (Ls ((orI u8 (orI u8 (orI u8 (orI u8 (orI u8 (Zxd l.2.2.2.1 7) (Zxd c.2.2.2.2.2.2.2.1 6)) (Zxd l.2.2.2.2.2.2.1 5)) (Zxd l.2.2.2.2.2.2.2.1 4)) (Zxd x1 3)) (andI u8 c.2.2.2.2.2.1 7),c.1,c.2.1,c.2.2.1,c.2.2.2.1,c.2.2.2.2.1,c.2.2.2.2.2.1,c.2.2.2.2.2.2.1,c.2.2.2.2.2.2.2.1,c.2.2.2.2.2.2.2.2.1,c.2.2.2.2.2.2.2.2.2.1,false,false,c.2.2.2.2.2.2.2.2.2.2.2.2))) Ln) Ln) Ln) Ln) Ln
def pRim (c:TC) (l:QT1):Int×TC:=getO ZEs.Df (ZQW c l).val
def ZVn (c:TC) (l:QT1):Bool:=okB (ZQW c l).val
def pRimE:En:=Zh ZLD ZEs (λa=>some (ZVn a.1 a.2)) (λa=>pRim a.1 a.2)
theorem ZVm:Zb prog 231 pRimE:=
 pureP 255 [(300,ZTc)] [] _ _ ⟨ZQT,Tv⟩ Tryz.func231 Tryz.call231 trivial
abbrev ZLs:List Sh:=[Sh.agg Zat,So Ka]
abbrev ZLt:Rs:=Rs.one (Sh.agg Zat)
def ZVi (c:TC) (a:Int):RT TC:=
 .Lf ((c.1,c.2.1,c.2.2.1,c.2.2.2.1,c.2.2.2.2.1,bif andI u8 a 8 !=0 then andI u8 a 7 else c.2.2.2.2.2.1,c.2.2.2.2.2.2.1,!andI u8 a 16 !=0&&c.2.2.2.2.2.2.2.1,c.2.2.2.2.2.2.2.2.1,c.2.2.2.2.2.2.2.2.2.1,c.2.2.2.2.2.2.2.2.2.2.1,c.2.2.2.2.2.2.2.2.2.2.2.1,bif andI u8 a 64 !=0 then andI u8 a 128 !=0 else c.2.2.2.2.2.2.2.2.2.2.2.2))
def pSim (c:TC) (a:Int):TC:=(ZVi c a).val
def pSimE:En:=Zh ZLs ZLt (λ_=>none) (λa=>pSim a.1 a.2)
theorem ZVh:Zb prog 232 pSimE:=
 pureQ 31 [] [] _ _ trivial Tryz.func232 Tryz.call232 trivial
def ZBj (c:Int) (f:TF):RT (Bool):=
 .br (bif c==0 then c==0 else c==1) (.Lf (f.2.1==(c==1))) (.br (bif c==2 then c==2 else c==3) (.Lf (f.2.2.2.2.2.2==(c==3))) (.br (bif c==4 then c==4 else c==5) (.Lf (f.2.2.2.2.1==(c==5))) (.br (bif c==6 then c==6 else c==7) (.Lf (f.1==(c==7))) (.br (bif c==8 then c==8 else c==9) (.Lf (f.2.2.1==(c==9))) (.br (c==10) (.Lf f.2.2.2.2.2.1) (.Lf (c==11)))))))
def ZMq (c:Int) (f:TF):Bool:=(ZBj c f).val
def ZVG:En:=Zh ZLU ZnL (λ_=>none) (λa=>ZMq a.1 a.2)
theorem ZMp:Zb prog 353 ZVG:=
 pureQ 70644700037215 [] [] _ _ trivial Tryz.func353 Tryz.call353 trivial
def ZsX (s:Int):RT (Int):=
 .br (s==1) (.Lf (36)) (.br (s==2) (.Lf (60)) (.br (s==3) (.Lf (52)) (.br (s==4) (.Lf (44)) (.Lf (0)))))
def ZAd (s:Int):Int:=(ZsX s).val
def ZQN:En:=Zh Zw8 ZBi (λ_=>none) (λa=>ZAd a)
theorem ZGE:Zb prog 155 ZQN:=
 pureQ 1367 [] [] _ _ trivial Tryz.func155 Tryz.call155 trivial
abbrev ZEC:Rs:=Rs.tup [Sh.agg (R.Pq Kc (R.Pq Kc (R.Pq Kc (R.Pq Kc (R.Pq Kc (R.Pq Kc (R.Pq Kc Kc))))))),So R.bool]
def ZMc (op:Int):RT (TI×Bool):=
 .br (op==8) (.Lf (((40,1,0,0,0,0,0,0),true))) (.br (op==16) (.Lf (((41,1,0,0,0,0,0,0),true))) (.br (op==24) (.Lf (((42,1,0,0,0,0,0,0),true))) (.br (op==32) (.Lf (((38,1,0,0,0,0,0,0),true))) (.br (op==40) (.Lf (((43,2,0,0,0,0,0,0),true))) (.br (op==48) (.Lf (((39,1,0,0,0,0,0,0),true))) (.br (op==56) (.Lf (((44,2,0,0,0,0,0,0),true))) (.br (op==203) (.Lf (((45,1,0,0,0,0,10,0),true))) (.br (op==217) (.Lf (((46,1,0,0,0,0,0,0),true))) (.br (op==221) (.Lf (((24,3,0,0,0,0,8,0),true))) (.br (op==237) (.Lf (((47,1,0,0,0,0,0,0),true))) (.br (op==253) (.Lf (((24,3,0,0,0,0,9,0),true))) (.Lf (((0,0,0,0,0,0,0,0),false))))))))))))))
def ZMe (op:Int):TI×Bool:=(ZMc op).val
def ZMd:En:=Zh Zxg ZEC (λ_=>none) (λa=>ZMe a)
theorem ZMb:Zb prog 223 ZMd:=
 pureQ 314146179375 [] [] _ _ trivial Tryz.func223 Tryz.call223 trivial
def Zxm (op:Int):RT (TI×Bool):=
 .br (bif op==0 then op==0 else bif op==8 then op==8 else bif op==16 then op==16 else bif op==24 then op==24 else bif op==32 then op==32 else bif op==40 then op==40 else bif op==48 then op==48 else op==56) (.Lf (((1,1,0,0,0,0,0,0),true))) (.br (bif op==195 then op==195 else op==203) (.Lf (((24,3,0,0,0,0,11,0),true))) (.br (bif op==201 then op==201 else op==217) (.Lf (((26,1,0,0,0,0,11,0),true))) (.br (bif op==205 then op==205 else bif op==221 then op==221 else bif op==237 then op==237 else op==253) (.Lf (((25,3,0,0,0,0,11,0),true))) (.Lf (((0,0,0,0,0,0,0,0),false))))))
def Zi5 (op:Int):TI×Bool:=(Zxm op).val
def Zxn:En:=Zh Zxg ZEC (λ_=>none) (λa=>Zi5 a)
theorem ZBv:Zb prog 224 Zxn:=
 pureQ 8945711 [] [] _ _ trivial Tryz.func224 Tryz.call224 trivial
abbrev ZAx:Rs:=Rs.one (Sh.agg (R.Pq Kc (R.Pq Kc (R.Pq Kc (R.Pq Kc (R.Pq Kc (R.Pq Kc (R.Pq Kc Kc))))))))
def ZLZ (op:Int):RT (Option TI):=
 let x1:QT29:=(0,0,i64.wrap (andI u8 (shrI u8 op 4) 3),0,0,0)
 let x2:QT24:=(1,x1)
 let x3:=decide (i64.wrap (andI u8 (shrI u8 op 3) 7)<4)&&andI u8 op 8 !=0
 let x4:=decide (0<=i64.wrap (i64.wrap (andI u8 (shrI u8 op 3) 7)-4)/\i64.wrap (i64.wrap (andI u8 (shrI u8 op 3) 7)-4)<4)
 let x5:=i64.wrap (i64.wrap (andI u8 (shrI u8 op 3) 7)-4)==0
 let x6:=i64.wrap (i64.wrap (andI u8 (shrI u8 op 3) 7)-4)== ↑(0+1)
 let x7:=i64.wrap (i64.wrap (andI u8 (shrI u8 op 3) 7)-4)== ↑(0+1+1)
 let x8:QT29:=(i64.wrap (andI u8 (shrI u8 op 3) 7),0,0,0,0,0)
 let x9:QT24:=(1,x8)
 .br (andI u8 op 7==1) (.br (andI u8 op 8 !=0) (Ls ((18,x2))) (Ls ((4,3,x1)))) (.br (!andI u8 op 7==2||(x3||(decide (i64.wrap (andI u8 (shrI u8 op 3) 7)<4)||x4))) (.br (andI u8 op 7==2) (.br (x3) (Ls ((9,x2))) (.br (decide (i64.wrap (andI u8 (shrI u8 op 3) 7)<4)) (Ls ((10,x2))) (Ls ((bif x5 then 8 else bif x6 then 7 else bif x7 then 6 else 5,3,0,0,0,0,0,0))))) (.br (andI u8 op 7==3) (.br (andI u8 op 8 !=0) (Ls ((17,x2))) (Ls ((16,x2)))) (.br (andI u8 op 7==4) (Ls ((14,x9))) (.br (andI u8 op 7==5) (Ls ((15,x9))) (.br (andI u8 op 7==6) (Ls ((3,2,x8))) (.br (decide (i64.wrap (andI u8 (shrI u8 op 3) 7)<4)) (Ls ((23,1,0,0,0,i64.wrap (andI u8 (shrI u8 op 3) 7),0,0))) (.br (x4) (Ls ((bif x5 then 19 else bif x6 then 20 else bif x7 then 21 else 22,1,0,0,0,0,0,0))) Ln))))))) Ln)
def ZVx (op:Int):QT6:=getO ZAx.Df (ZLZ op).val
def ZL0 (op:Int):Bool:=okB (ZLZ op).val
def ZTg:En:=Zh Zxg ZAx (λa=>some (ZL0 a)) (λa=>ZVx a)
theorem ZQ5:Zb prog 225 ZTg:=
 pureP 614758941389750335 [] [] _ _ trivial Tryz.func225 Tryz.call225 trivial
def ZAy (op:Int):RT (Option TI):=
 let x1:QT29:=(0,0,0,0,i64.wrap (andI u8 (shrI u8 op 3) 7),0)
 let x2:QT24:=(1,0,0,i64.wrap (andI u8 (shrI u8 op 4) 3),0,0,0)
 let x3:=andI u8 op 7==2||(!andI u8 op 7==3||(!decide (i64.wrap (andI u8 (shrI u8 op 3) 7)<4)||decide (0<=i64.wrap (i64.wrap (andI u8 (shrI u8 op 3) 7)-2)/\i64.wrap (i64.wrap (andI u8 (shrI u8 op 3) 7)-2)<2)))
 let x4:QT24:=(3,x1)
 .br (andI u8 op 7==0) (Ls ((26,1,x1))) (.br (andI u8 op 7==1) (.br (!andI u8 op 8 !=0) (Ls ((31,x2))) (.br (i64.wrap (andI u8 (shrI u8 op 3) 7)==5) (Ls ((28,1,0,0,0,0,0,0))) (Ls ((29,1,0,0,0,0,0,0))))) (.br (!x3||(andI u8 op 7==2||(!andI u8 op 7==3||(decide (i64.wrap (andI u8 (shrI u8 op 3) 7)<4)||decide (0<=i64.wrap (i64.wrap (andI u8 (shrI u8 op 3) 7)-4)/\i64.wrap (i64.wrap (andI u8 (shrI u8 op 3) 7)-4)<4))))) (.br (x3) (.br (andI u8 op 7==2) (Ls ((24,x4))) (.br (andI u8 op 7==3) (.br (decide (i64.wrap (andI u8 (shrI u8 op 3) 7)<4)) (Ls ((bif i64.wrap (i64.wrap (andI u8 (shrI u8 op 3) 7)-2)==0 then 34 else 33,2,0,0,0,0,0,0))) (Ls ((bif i64.wrap (i64.wrap (andI u8 (shrI u8 op 3) 7)-4)==0 then 32 else bif i64.wrap (i64.wrap (andI u8 (shrI u8 op 3) 7)-4)== ↑(0+1) then 11 else bif i64.wrap (i64.wrap (andI u8 (shrI u8 op 3) 7)-4)== ↑(0+1+1) then 36 else 35,1,0,0,0,0,0,0)))) (.br (andI u8 op 7==4) (Ls ((25,x4))) (.br (andI u8 op 7==5) (Ls ((30,x2))) (.br (andI u8 op 7==6) (Ls ((13,2,0,0,0,i64.wrap (andI u8 (shrI u8 op 3) 7),0,0))) (Ls ((27,1,0,0,0,0,0,i64.wrap (andI u8 (shrI u8 op 3) 7))))))))) Ln) Ln))
def ZL3 (op:Int):QT6:=getO ZAx.Df (ZAy op).val
def ZAz (op:Int):Bool:=okB (ZAy op).val
def ZL2:En:=Zh Zxg ZAx (λa=>some (ZAz a)) (λa=>ZL3 a)
theorem ZL1:Zb prog 226 ZL2:=
 pureP 614741495173873727 [] [] _ _ trivial Tryz.func226 Tryz.call226 trivial
def ZfE (chip:Int) (op:Int):RT (Option TI):=
 let x1:QT6:=(37,1,0,0,0,0,0,0)
 let x2:QT6:=(2,1,i64.wrap (andI u8 (shrI u8 op 3) 7),i64.wrap (andI u8 op 7),0,0,0,0)
 let x3:QT6:=(12,1,0,i64.wrap (andI u8 op 7),0,i64.wrap (andI u8 (shrI u8 op 3) 7),0,0)
 .br (chip==2) (.br (ZMe op).2 (Ls (ZMe op).1) (.br (Zi5 op).2 (Ls (Zi5 op).1) (.br (!shrI u8 op 6==0||ZL0 op) (.br (shrI u8 op 6==0) (Ls (ZVx op)) (.br (shrI u8 op 6==1) (.br (op==118) (Ls (x1)) (Ls (x2))) (.br (shrI u8 op 6==2) (Ls (x3)) (.br (ZAz op) (Ls (ZL3 op)) Ln)))) Ln))) (.br (Zi5 op).2 (Ls (Zi5 op).1) (.br (!shrI u8 op 6==0||ZL0 op) (.br (shrI u8 op 6==0) (Ls (ZVx op)) (.br (shrI u8 op 6==1) (.br (op==118) (Ls (x1)) (Ls (x2))) (.br (shrI u8 op 6==2) (Ls (x3)) (.br (ZAz op) (Ls (ZL3 op)) Ln)))) Ln))
def Zox (chip:Int) (op:Int):QT6:=getO ZAx.Df (ZfE chip op).val
def ZlW (chip:Int) (op:Int):Bool:=okB (ZfE chip op).val
def ZRh:En:=Zh Zw6 ZAx (λa=>some (ZlW a.1 a.2)) (λa=>Zox a.1 a.2)
theorem ZHE:Zb prog 154 ZRh:=
 pureP 17594467746303 [(223,ZMd),(224,Zxn),(225,ZTg),(226,ZL2)] [] _ _ ⟨ZMb,ZBv,ZQ5,ZL1,Tv⟩ Tryz.func154 Tryz.call154 trivial
def rOnT (chip:Int):RT (Bool):=
 .Lf (chip==2)
def rOn (chip:Int):Bool:=(rOnT chip).val
def ZQi (b:Int):RT (Bool):=
 let x1:=i64.wrap (i64.wrap (i64.wrap (i64.wrap (0+1)+1)+1)+1)
 let x2:=i64.wrap (x1+1)
 let x3:=i64.wrap (x2+1)
 let x4:=bif andI u8 (shrI u8 b (i64.wrap (0+1))) 1==1 then !!andI u8 (shrI u8 b 0) 1==1 else !andI u8 (shrI u8 b 0) 1==1
 let x5:=bif andI u8 (shrI u8 b (i64.wrap (i64.wrap (0+1)+1))) 1==1 then !x4 else x4
 let x6:=bif andI u8 (shrI u8 b (i64.wrap (i64.wrap (i64.wrap (0+1)+1)+1))) 1==1 then !x5 else x5
 let x7:=bif andI u8 (shrI u8 b x1) 1==1 then !x6 else x6
 let x8:=bif andI u8 (shrI u8 b x2) 1==1 then !x7 else x7
 let x9:=bif andI u8 (shrI u8 b x3) 1==1 then !x8 else x8
 .Lf (bif andI u8 (shrI u8 b (i64.wrap (x3+1))) 1==1 then !x9 else x9)
def Zso (b:Int):Bool:=(ZQi b).val
def rMajT (a:Bool) (b:Bool) (c:Bool):RT (Bool):=
 .Lf (bif a then b||bif a then c||b&&c else b&&c else bif a then c||b&&c else b&&c)
def rMaj (a:Bool) (b:Bool) (c:Bool):Bool:=(rMajT a b c).val
def rOneT (b:Bool):RT (Int):=
 .br (b) (.Lf (1)) (.Lf (0))
def rOne (b:Bool):Int:=(rOneT b).val
def Zsl (n:Int):RT (Int):=
 .Lf (i64.wrap (IntKind.i8.wrap n))
def ZeR (n:Int):Int:=(Zsl n).val
def ZUP (a:Int) (b:Int) (c:Bool):RT (QT21):=
 let x1:=decide (i64.wrap (i64.wrap (ZeR a+ZeR b)+rOne c)< -128)
 let x2:=i64.wrap (i64.wrap (i64.wrap a+i64.wrap b)+rOne c)
 let x3:=u8.wrap x2
 let x4:=decide (x2>255)
 let x5:=decide (i64.wrap (i64.wrap (i64.wrap (andI u8 a 15)+i64.wrap (andI u8 b 15))+rOne c)>15)
 .Lf ((bif x1 then x3 else x3,bif x1 then x4 else x4,bif x1 then x5 else x5,x1||decide (i64.wrap (i64.wrap (ZeR a+ZeR b)+rOne c)>127)))
def rSum (a:Int) (b:Int) (c:Bool):QT21:=(ZUP a b c).val
def ZKz (a:Int) (b:Int) (c:Bool):RT (QT21):=
 let x1:=decide (i64.wrap (i64.wrap (ZeR a-ZeR b)-rOne c)< -128)
 let x2:=i64.wrap (i64.wrap (i64.wrap a-i64.wrap b)-rOne c)
 let x3:=u8.wrap x2
 let x4:=decide (x2<0)
 let x5:=decide (i64.wrap (i64.wrap (i64.wrap (i64.wrap (andI u8 a 15)+i64.wrap (u8.wrap (15-andI u8 b 15)))+1)-rOne c)>15)
 .Lf ((bif x1 then x3 else x3,bif x1 then x4 else x4,bif x1 then x5 else x5,x1||decide (i64.wrap (i64.wrap (ZeR a-ZeR b)-rOne c)>127)))
def Zc2 (a:Int) (b:Int) (c:Bool):QT21:=(ZKz a b c).val
def ZXH (h:Int) (l:Int):RT (Int):=
 .Lf (orI u16 (shlI u16 (u16.wrap h) 8) (u16.wrap l))
def ZfB (h:Int) (l:Int):Int:=(ZXH h l).val
def ZU1 (b:Bool) (n:Int):RT (Option (Int)):=
 .br (!b||decide (0<=n)) (.br (b) (Ls (shlI u8 1 n)) (Ls (0))) Ln
def rBit (b:Bool) (n:Int):Int:=getO ZMZ.Df (ZU1 b n).val
def Zeg (b:Bool) (n:Int):Bool:=okB (ZU1 b n).val
def ZDC (chip:Int) (f:TF):RT (Option (Int)):=
 let x1:=orI u8 (orI u8 (orI u8 (orI u8 (rBit f.1 7) (rBit f.2.1 6)) (rBit f.2.2.2.1 4)) (rBit f.2.2.2.2.1 2)) (rBit f.2.2.2.2.2.2 0)
 .br (!Zeg f.1 7||(!Zeg f.2.1 6||(!Zeg f.2.2.2.1 4||(!Zeg f.2.2.2.2.1 2||Zeg f.2.2.2.2.2.2 0)))) (.br (!Zeg f.1 7||(!Zeg f.2.1 6||(!Zeg f.2.2.2.1 4||Zeg f.2.2.2.2.1 2))) (.br (!Zeg f.1 7||(!Zeg f.2.1 6||Zeg f.2.2.2.1 4)) (.br (!Zeg f.1 7||Zeg f.2.1 6) (.br (Zeg f.1 7) (.br (!rOn chip||(!Zeg f.2.2.1 5||Zeg f.2.2.2.2.2.1 1)) (.br (!rOn chip||Zeg f.2.2.1 5) (.br (rOn chip) (Ls (orI u8 (orI u8 x1 (rBit f.2.2.1 5)) (rBit f.2.2.2.2.2.1 1))) (Ls (orI u8 x1 2))) Ln) Ln) Ln) Ln) Ln) Ln) Ln
def ZUU (chip:Int) (f:TF):Int:=getO ZMZ.Df (ZDC chip f).val
def ZKl (chip:Int) (f:TF):Bool:=okB (ZDC chip f).val
def ZDq (chip:Int) (b:Int):RT TF:=
 .Lf ((andI u8 b 128 !=0,andI u8 b 64 !=0,rOn chip&&andI u8 b 32 !=0,andI u8 b 16 !=0,andI u8 b 4 !=0,rOn chip&&andI u8 b 2 !=0,andI u8 b 1 !=0))
def Zzv (chip:Int) (b:Int):TF:=(ZDq chip b).val
def rOfT (r:Int):RT TF:=
 .Lf ((decide (r>=128),r==0,false,false,Zso r,false,false))
def rOf (r:Int):TF:=(rOfT r).val
def Zv3 (chip:Int) (f:TF) (k:Bool) (v:Bool):RT TF:=
 .Lf ((f.1,f.2.1,rOn chip&&bif rOn chip then k else k,f.2.2.2.1,f.2.2.2.2.1,bif rOn chip then rOn chip&&v else rOn chip&&v,f.2.2.2.2.2.2))
def Zsp (chip:Int) (f:TF) (k:Bool) (v:Bool):TF:=(Zv3 chip f k v).val
def ZQm (r:TR) (n:Int):RT (Option (Int)):=
 .br (decide (0<=andI i64 n 7/\andI i64 n 7<8)) (Ls (bif andI i64 n 7==0 then r.2.1 else bif andI i64 n 7== ↑(0+1) then r.2.2.1 else bif andI i64 n 7== ↑(0+1+1) then r.2.2.2.1 else bif andI i64 n 7== ↑(0+1+1+1) then r.2.2.2.2.1 else bif andI i64 n 7== ↑(0+1+1+1+1) then r.2.2.2.2.2.1 else bif andI i64 n 7== ↑(0+1+1+1+1+1) then r.2.2.2.2.2.2.1 else bif andI i64 n 7== ↑(0+1+1+1+1+1+1) then 0 else r.1)) Ln
def rGet (r:TR) (n:Int):Int:=getO ZMZ.Df (ZQm r n).val
def ZKw (r:TR) (n:Int):Bool:=okB (ZQm r n).val
def ZXx (r:TR) (n:Int) (v:Int):RT TR:=
 .Lf ((bif andI i64 n 7==0 then r.1 else bif andI i64 n 7==1 then r.1 else bif andI i64 n 7==2 then r.1 else bif andI i64 n 7==3 then r.1 else bif andI i64 n 7==4 then r.1 else bif andI i64 n 7==5 then r.1 else bif andI i64 n 7==7 then v else r.1,bif andI i64 n 7==0 then v else r.2.1,bif andI i64 n 7==0 then r.2.2.1 else bif andI i64 n 7==1 then v else r.2.2.1,bif andI i64 n 7==0 then r.2.2.2.1 else bif andI i64 n 7==1 then r.2.2.2.1 else bif andI i64 n 7==2 then v else r.2.2.2.1,bif andI i64 n 7==0 then r.2.2.2.2.1 else bif andI i64 n 7==1 then r.2.2.2.2.1 else bif andI i64 n 7==2 then r.2.2.2.2.1 else bif andI i64 n 7==3 then v else r.2.2.2.2.1,bif andI i64 n 7==0 then r.2.2.2.2.2.1 else bif andI i64 n 7==1 then r.2.2.2.2.2.1 else bif andI i64 n 7==2 then r.2.2.2.2.2.1 else bif andI i64 n 7==3 then r.2.2.2.2.2.1 else bif andI i64 n 7==4 then v else r.2.2.2.2.2.1,bif andI i64 n 7==0 then r.2.2.2.2.2.2.1 else bif andI i64 n 7==1 then r.2.2.2.2.2.2.1 else bif andI i64 n 7==2 then r.2.2.2.2.2.2.1 else bif andI i64 n 7==3 then r.2.2.2.2.2.2.1 else bif andI i64 n 7==4 then r.2.2.2.2.2.2.1 else bif andI i64 n 7==5 then v else r.2.2.2.2.2.2.1,r.2.2.2.2.2.2.2))
def rSet (r:TR) (n:Int) (v:Int):TR:=(ZXx r n v).val
def ZSW (r:TR) (n:Int):RT (Option (Int)):=
 .br (andI i64 n 3==3) (Ls r.2.2.2.2.2.2.2.2.1) (.br (!ZKw r (i64.wrap (2*andI i64 n 3))||ZKw r (i64.wrap (i64.wrap (2*andI i64 n 3)+1))) (.br (ZKw r (i64.wrap (2*andI i64 n 3))) (Ls (ZfB (rGet r (i64.wrap (2*andI i64 n 3))) (rGet r (i64.wrap (i64.wrap (2*andI i64 n 3)+1))))) Ln) Ln)
def ZbG (r:TR) (n:Int):Int:=getO ZBi.Df (ZSW r n).val
def Zv0 (r:TR) (n:Int) (v:Int):RT TR:=
 .br (andI i64 n 3==3) (.Lf ((r.1,r.2.1,r.2.2.1,r.2.2.2.1,r.2.2.2.2.1,r.2.2.2.2.2.1,r.2.2.2.2.2.2.1,r.2.2.2.2.2.2.2.1,v,r.2.2.2.2.2.2.2.2.2))) (.Lf (rSet (rSet r (i64.wrap (2*andI i64 n 3)) (u8.wrap (shrI u16 v 8))) (i64.wrap (i64.wrap (2*andI i64 n 3)+1)) (u8.wrap v)))
def ZY (r:TR) (n:Int) (v:Int):TR:=(Zv0 r n v).val
def ZXC (chip:Int) (r:TR):RT (Option (Int)):=
 .br (ZKl chip r.2.2.2.2.2.2.2.1) (Ls (ZfB r.1 (ZUU chip r.2.2.2.2.2.2.2.1))) Ln
def rPSW (chip:Int) (r:TR):Int:=getO ZBi.Df (ZXC chip r).val
def ZDt (chip:Int) (r:TR) (v:Int):RT TR:=
 .Lf ((u8.wrap (shrI u16 v 8),r.2.1,r.2.2.1,r.2.2.2.1,r.2.2.2.2.1,r.2.2.2.2.2.1,r.2.2.2.2.2.2.1,Zzv chip (u8.wrap v),r.2.2.2.2.2.2.2.2))
def Zm2 (chip:Int) (r:TR) (v:Int):TR:=(ZDt chip r v).val
def rDoT (chip:Int) (op:Int) (a:Int) (b:Int) (f:TF):RT (QT2):=
 let x1:=bif andI i64 op 7==0 then andI i64 op 7==0 else andI i64 op 7==1
 let x2:=bif andI i64 op 7==2 then andI i64 op 7==2 else bif andI i64 op 7==3 then andI i64 op 7==3 else andI i64 op 7==7
 let x3:Int:=bif x1 then bif andI i64 op 7==1 then (rSum a b f.2.2.2.2.2.2).1 else (rSum a b false).1 else bif x2 then bif andI i64 op 7==3 then (Zc2 a b f.2.2.2.2.2.2).1 else (Zc2 a b false).1 else bif andI i64 op 7==4 then bif rOn chip then andI u8 a b else andI u8 a b else bif andI i64 op 7==5 then xorI u8 a b else bif andI i64 op 7==6 then orI u8 a b else 0
 let x4:=rOf x3
 let x5:=x4.2
 let x6:=x5.2
 let x7:=x6.2.2
 let x8:=Zsp chip (x4.1,x5.1,x6.1,bif x1 then bif andI i64 op 7==1 then (rSum a b f.2.2.2.2.2.2).2.2.1 else (rSum a b false).2.2.1 else bif x2 then bif andI i64 op 7==3 then (Zc2 a b f.2.2.2.2.2.2).2.2.1 else (Zc2 a b false).2.2.1 else andI i64 op 7==4&&(rOn chip||andI u8 (orI u8 a b) 8 !=0),x7.1,x7.2.1,bif x1 then bif andI i64 op 7==1 then (rSum a b f.2.2.2.2.2.2).2.1 else (rSum a b false).2.1 else x2&&bif andI i64 op 7==3 then (Zc2 a b f.2.2.2.2.2.2).2.1 else (Zc2 a b false).2.1) (rMaj (decide (a>=128)) (bif x1 then decide (b>=128) else bif x2 then !decide (b>=128) else decide (b>=128)) (decide (x3>=128))) (bif x1 then bif andI i64 op 7==1 then (rSum a b f.2.2.2.2.2.2).2.2.2 else (rSum a b false).2.2.2 else x2&&bif andI i64 op 7==3 then (Zc2 a b f.2.2.2.2.2.2).2.2.2 else (Zc2 a b false).2.2.2)
 .br (andI i64 op 7==7) (.Lf ((a,x8))) (.Lf ((x3,x8)))
def rDo (chip:Int) (op:Int) (a:Int) (b:Int) (f:TF):QT2:=(rDoT chip op a b f).val
def ZXJ (chip:Int) (v:Int) (f:TF):RT (QT2):=
 .Lf (((rSum v 1 false).1,Zsp chip ((rOf (rSum v 1 false).1).1,(rOf (rSum v 1 false).1).2.1,(rOf (rSum v 1 false).1).2.2.1,(rSum v 1 false).2.2.1,(rOf (rSum v 1 false).1).2.2.2.2.1,(rOf (rSum v 1 false).1).2.2.2.2.2.1,f.2.2.2.2.2.2) (rMaj (decide (v>=128)) false (decide ((rSum v 1 false).1>=128))) (rSum v 1 false).2.2.2))
def rInr (chip:Int) (v:Int) (f:TF):QT2:=(ZXJ chip v f).val
def ZXN (chip:Int) (v:Int) (f:TF):RT (QT2):=
 .Lf (((Zc2 v 1 false).1,Zsp chip ((rOf (Zc2 v 1 false).1).1,(rOf (Zc2 v 1 false).1).2.1,(rOf (Zc2 v 1 false).1).2.2.1,(Zc2 v 1 false).2.2.1,(rOf (Zc2 v 1 false).1).2.2.2.2.1,(rOf (Zc2 v 1 false).1).2.2.2.2.2.1,f.2.2.2.2.2.2) (rMaj (decide (v>=128)) true (decide ((Zc2 v 1 false).1>=128))) (Zc2 v 1 false).2.2.2))
def rDcr (chip:Int) (v:Int) (f:TF):QT2:=(ZXN chip v f).val
def ZXI (chip:Int) (v:Int) (f:TF):RT (QT2):=
 .Lf ((u16.wrap (v+1),f.1,f.2.1,bif rOn chip then v==65535 else f.2.2.1,f.2.2.2))
def rInx (chip:Int) (v:Int) (f:TF):QT2:=(ZXI chip v f).val
def ZXM (chip:Int) (v:Int) (f:TF):RT (QT2):=
 .Lf ((u16.wrap (v-1),f.1,f.2.1,bif rOn chip then v==0 else f.2.2.1,f.2.2.2))
def rDcx (chip:Int) (v:Int) (f:TF):QT2:=(ZXM chip v f).val
def ZXO (chip:Int) (a:Int) (b:Int) (f:TF):RT (QT2):=
 .Lf ((u16.wrap (a+b),f.1,f.2.1,f.2.2.1,f.2.2.2.1,f.2.2.2.2.1,bif rOn chip then decide (i64.wrap (i64.wrap (IntKind.i16.wrap a)+i64.wrap (IntKind.i16.wrap b))< -32768)||decide (i64.wrap (i64.wrap (IntKind.i16.wrap a)+i64.wrap (IntKind.i16.wrap b))>32767) else f.2.2.2.2.2.1,decide (i64.wrap (i64.wrap a+i64.wrap b)>65535)))
def rDad (chip:Int) (a:Int) (b:Int) (f:TF):QT2:=(ZXO chip a b f).val
def ZSZ (a:Int) (b:Int):RT (QT2):=
 let x1:=Zc2 (u8.wrap (shrI u16 a 8)) (u8.wrap (shrI u16 b 8)) (Zc2 (u8.wrap a) (u8.wrap b) false).2.1
 let x2:=x1.1
 let x3:=x2==0
 let x4:=ZfB x2 (Zc2 (u8.wrap a) (u8.wrap b) false).1
 let x5:=decide (x2>=128)
 let x6:=rMaj (decide (a>=32768)) (decide (b<32768)) x5
 let x7:=x1.2
 let x8:=x7.2
 let x9:=x8.1
 let x10:=Zso x2
 let x11:=x8.2
 let x12:=x7.1
 .Lf ((bif x3 then x4 else x4,bif x3 then x5 else x5,x3&&(Zc2 (u8.wrap a) (u8.wrap b) false).1==0,bif x3 then x6 else x6,bif x3 then x9 else x9,bif x3 then x10 else x10,bif x3 then x11 else x11,bif x3 then x12 else x12))
def ZKy (a:Int) (b:Int):QT2:=(ZSZ a b).val
def ZXP (chip:Int) (a:Int) (f:TF):RT (QT2):=
 let x1:Int:=bif f.2.2.2.1||decide (andI u8 a 15>9) then 6 else 0
 let x2:=rSum a (bif f.2.2.2.2.2.2||decide (a>153) then u8.wrap (x1+96) else x1) false
 let x3:=x2.1
 let x4:=rOf x3
 let x5:=x4.2
 let x6:=x5.2
 let x7:=x2.2.2
 let x8:=x6.2.2
 .Lf ((x3,Zsp chip (x4.1,x5.1,x6.1,x7.1,x8.1,x8.2.1,f.2.2.2.2.2.2||decide (a>153)) (rMaj (decide (a>=128)) false (decide (x3>=128))) x7.2))
def rDaa (chip:Int) (a:Int) (f:TF):QT2:=(ZXP chip a f).val
def ZXy (op:Int) (a:Int) (c:Bool):RT (Option (Int×Bool)):=
 .br (andI i64 op 3==0||(andI i64 op 3==1||(!andI i64 op 3==2||Zeg c 0))) (.br (andI i64 op 3==0) (Ls ((orI u8 (shlI u8 a 1) (shrI u8 a 7),decide (a>=128)))) (.br (andI i64 op 3==1) (Ls ((orI u8 (shrI u8 a 1) (shlI u8 a 7),andI u8 a 1==1))) (.br (andI i64 op 3==2) (Ls ((orI u8 (shlI u8 a 1) (rBit c 0),decide (a>=128)))) (.br (Zeg c 7) (Ls ((orI u8 (shrI u8 a 1) (rBit c 7),andI u8 a 1==1))) Ln)))) Ln
def rRot (op:Int) (a:Int) (c:Bool):Int×Bool:=getO ZEr.Df (ZXy op a c).val
def ZXR (v:Int):RT (Int×Bool):=
 .Lf ((orI u16 (shrI u16 v 1) (andI u16 v 32768),andI u16 v 1==1))
def ZQq (v:Int):Int×Bool:=(ZXR v).val
def ZSV (v:Int) (c:Bool):RT (Option (Int×Bool×Bool)):=
 .br (Zeg c 0) (Ls ((orI u16 (shlI u16 v 1) (u16.wrap (rBit c 0)),decide (v>=32768),andI u16 (orI u16 (shlI u16 v 1) (u16.wrap (rBit c 0))) 32768 !=andI u16 v 32768))) Ln
def ZKf (v:Int) (c:Bool):Int×Bool×Bool:=getO ZAq.Df (ZSV v c).val
def ZKC (b:Bool) (n:Int):RT (Option (Int)):=
 .br (decide (0<=n)) (Ls (u8.wrap (shlI i64 (rOne b) n))) Ln
def ZhD (b:Bool) (n:Int):Int:=getO ZMZ.Df (ZKC b n).val
def ZaC (b:Bool) (n:Int):Bool:=okB (ZKC b n).val
def ZQe (c:TC) (l:QT1):RT (Option (Int×TC)):=
 let x1:=bif c.2.2.2.2.2.2.2.2.2.2.1 then c.2.2.2.2.2.2.2.2.2.2.2.1 else c.2.2.1
 .br (!ZaC l.2.2.2.1 7||(!ZaC c.2.2.2.2.2.2.2.1 6||(!ZaC l.2.2.2.2.2.2.1 5||(!ZaC l.2.2.2.2.2.2.2.1 4||ZaC x1 3)))) (.br (!ZaC l.2.2.2.1 7||(!ZaC c.2.2.2.2.2.2.2.1 6||(!ZaC l.2.2.2.2.2.2.1 5||ZaC l.2.2.2.2.2.2.2.1 4))) (.br (!ZaC l.2.2.2.1 7||(!ZaC c.2.2.2.2.2.2.2.1 6||ZaC l.2.2.2.2.2.2.1 5)) (.br (!ZaC l.2.2.2.1 7||ZaC c.2.2.2.2.2.2.2.1 6) (.br (ZaC l.2.2.2.1 7) (Ls ((orI u8 (orI u8 (orI u8 (orI u8 (orI u8 (ZhD l.2.2.2.1 7) (ZhD c.2.2.2.2.2.2.2.1 6)) (ZhD l.2.2.2.2.2.2.1 5)) (ZhD l.2.2.2.2.2.2.2.1 4)) (ZhD x1 3)) (andI u8 c.2.2.2.2.2.1 7),c.1,c.2.1,c.2.2.1,c.2.2.2.1,c.2.2.2.2.1,c.2.2.2.2.2.1,c.2.2.2.2.2.2.1,c.2.2.2.2.2.2.2.1,c.2.2.2.2.2.2.2.2.1,c.2.2.2.2.2.2.2.2.2.1,false,false,c.2.2.2.2.2.2.2.2.2.2.2.2))) Ln) Ln) Ln) Ln) Ln
def rRim (c:TC) (l:QT1):Int×TC:=getO ZEs.Df (ZQe c l).val
def ZXB (c:TC) (l:QT1):Bool:=okB (ZQe c l).val
def ZUQ (c:TC) (a:Int):RT TC:=
 .Lf ((c.1,c.2.1,c.2.2.1,c.2.2.2.1,c.2.2.2.2.1,bif andI u8 a 8 !=0 then andI u8 a 7 else c.2.2.2.2.2.1,c.2.2.2.2.2.2.1,!andI u8 a 16 !=0&&c.2.2.2.2.2.2.2.1,c.2.2.2.2.2.2.2.2.1,c.2.2.2.2.2.2.2.2.2.1,c.2.2.2.2.2.2.2.2.2.2.1,c.2.2.2.2.2.2.2.2.2.2.2.1,bif andI u8 a 64 !=0 then andI u8 a 128 !=0 else c.2.2.2.2.2.2.2.2.2.2.2.2))
def rSim (c:TC) (a:Int):TC:=(ZUQ c a).val
def ZKs (c:Int) (f:TF):RT (Bool):=
 .br (c==0) (.Lf (!f.2.1)) (.br (c==1) (.Lf f.2.1) (.br (c==2) (.Lf (!f.2.2.2.2.2.2)) (.br (c==3) (.Lf f.2.2.2.2.2.2) (.br (c==4) (.Lf (!f.2.2.2.2.1)) (.br (c==5) (.Lf f.2.2.2.2.1) (.br (c==6) (.Lf (!f.1)) (.br (c==7) (.Lf f.1) (.br (c==8) (.Lf (!f.2.2.1)) (.br (c==9) (.Lf f.2.2.1) (.br (c==10) (.Lf f.2.2.2.2.2.1) (.Lf (c==11))))))))))))
def ZfX (c:Int) (f:TF):Bool:=(ZKs c f).val
def ZDp (s:Int):RT (Int):=
 .br (s==1) (.Lf (36)) (.br (s==2) (.Lf (60)) (.br (s==3) (.Lf (52)) (.br (s==4) (.Lf (44)) (.Lf (0)))))
def Zx (s:Int):Int:=(ZDp s).val
def ZqK (s:Int):RT (Bool):=
 .Lf (decide (s>=1)&&decide (s<=4))
def Zd (s:Int):Bool:=(ZqK s).val
def ZKe (op:Int):RT (TI×Bool):=
 .br (op==8) (.Lf (((40,1,0,0,0,0,0,0),true))) (.br (op==16) (.Lf (((41,1,0,0,0,0,0,0),true))) (.br (op==24) (.Lf (((42,1,0,0,0,0,0,0),true))) (.br (op==32) (.Lf (((38,1,0,0,0,0,0,0),true))) (.br (op==40) (.Lf (((43,2,0,0,0,0,0,0),true))) (.br (op==48) (.Lf (((39,1,0,0,0,0,0,0),true))) (.br (op==56) (.Lf (((44,2,0,0,0,0,0,0),true))) (.br (op==203) (.Lf (((45,1,0,0,0,0,10,0),true))) (.br (op==217) (.Lf (((46,1,0,0,0,0,0,0),true))) (.br (op==221) (.Lf (((24,3,0,0,0,0,8,0),true))) (.br (op==237) (.Lf (((47,1,0,0,0,0,0,0),true))) (.br (op==253) (.Lf (((24,3,0,0,0,0,9,0),true))) (.Lf (((0,0,0,0,0,0,0,0),false))))))))))))))
def ZDs (op:Int):TI×Bool:=(ZKe op).val
def ZSX (y:Int) (z:Int) (p:Int) (q:Int):RT (Option TI):=
 let x1:=decide (0<=i64.wrap (y-4)/\i64.wrap (y-4)<4)
 .br (z==0) (Ls ((1,1,0,0,0,0,0,0))) (.br (z==1) (.br (q==0) (Ls ((4,3,0,0,p,0,0,0))) (Ls ((18,1,0,0,p,0,0,0)))) (.br (!z==2||((bif y==0 then y==0 else y==2)||((bif y==1 then y==1 else y==3)||x1))) (.br (z==2) (.br (bif y==0 then y==0 else y==2) (Ls ((10,1,0,0,p,0,0,0))) (.br (bif y==1 then y==1 else y==3) (Ls ((9,1,0,0,p,0,0,0))) (Ls ((bif i64.wrap (y-4)==0 then 8 else bif i64.wrap (y-4)== ↑(0+1) then 7 else bif i64.wrap (y-4)== ↑(0+1+1) then 6 else 5,3,0,0,0,0,0,0))))) (.br (!z==3||decide (0<=q/\q<2)) (.br (z==3) (Ls ((bif q==0 then 16 else 17,1,0,0,p,0,0,0))) (.br (z==4) (Ls ((14,1,y,0,0,0,0,0))) (.br (z==5) (Ls ((15,1,y,0,0,0,0,0))) (.br (z==6) (Ls ((3,2,y,0,0,0,0,0))) (.br (decide (y<4)) (Ls ((23,1,0,0,0,y,0,0))) (.br (x1) (Ls ((bif i64.wrap (y-4)==0 then 19 else bif i64.wrap (y-4)== ↑(0+1) then 20 else bif i64.wrap (y-4)== ↑(0+1+1) then 21 else 22,1,0,0,0,0,0,0))) Ln)))))) Ln)) Ln))
def rOlow (y:Int) (z:Int) (p:Int) (q:Int):QT6:=getO ZAx.Df (ZSX y z p q).val
def ZXE (y:Int) (z:Int) (p:Int) (q:Int):Bool:=okB (ZSX y z p q).val
def ZKm (y:Int) (z:Int) (p:Int) (q:Int):RT (Option TI):=
 .br (z==0) (Ls ((26,1,0,0,0,0,y,0))) (.br (z==1) (.br (q==0) (Ls ((31,1,0,0,p,0,0,0))) (.br (y==5) (Ls ((28,1,0,0,0,0,0,0))) (.br (y==7) (Ls ((29,1,0,0,0,0,0,0))) (Ls ((26,1,0,0,0,0,11,0)))))) (.br (z==2||(!z==3||((bif y==0 then y==0 else y==1)||(y==2||(y==3||decide (0<=i64.wrap (y-4)/\i64.wrap (y-4)<4)))))) (.br (z==2) (Ls ((24,3,0,0,0,0,y,0))) (.br (z==3) (.br (bif y==0 then y==0 else y==1) (Ls ((24,3,0,0,0,0,11,0))) (.br (y==2) (Ls ((34,2,0,0,0,0,0,0))) (.br (y==3) (Ls ((33,2,0,0,0,0,0,0))) (Ls ((bif i64.wrap (y-4)==0 then 32 else bif i64.wrap (y-4)== ↑(0+1) then 11 else bif i64.wrap (y-4)== ↑(0+1+1) then 36 else 35,1,0,0,0,0,0,0)))))) (.br (z==4) (Ls ((25,3,0,0,0,0,y,0))) (.br (z==5) (.br (q==0) (Ls ((30,1,0,0,p,0,0,0))) (Ls ((25,3,0,0,0,0,11,0)))) (.br (z==6) (Ls ((13,2,0,0,0,y,0,0))) (Ls ((27,1,0,0,0,0,0,y)))))))) Ln))
def ZXF (y:Int) (z:Int) (p:Int) (q:Int):QT6:=getO ZAx.Df (ZKm y z p q).val
def ZUW (y:Int) (z:Int) (p:Int) (q:Int):Bool:=okB (ZKm y z p q).val
def Zg8 (chip:Int) (op:Int):RT (Option TI):=
 .br ((ZDs op).2&&rOn chip) (Ls (ZDs op).1) (.br (!shrI u8 op 6==0||ZXE (i64.wrap (andI u8 (shrI u8 op 3) 7)) (i64.wrap (andI u8 op 7)) (shrI i64 (i64.wrap (andI u8 (shrI u8 op 3) 7)) 1) (andI i64 (i64.wrap (andI u8 (shrI u8 op 3) 7)) 1)) (.br (shrI u8 op 6==0) (Ls (rOlow (i64.wrap (andI u8 (shrI u8 op 3) 7)) (i64.wrap (andI u8 op 7)) (shrI i64 (i64.wrap (andI u8 (shrI u8 op 3) 7)) 1) (andI i64 (i64.wrap (andI u8 (shrI u8 op 3) 7)) 1))) (.br (shrI u8 op 6==1) (.br (op==118) (Ls ((37,1,0,0,0,0,0,0))) (Ls ((2,1,i64.wrap (andI u8 (shrI u8 op 3) 7),i64.wrap (andI u8 op 7),0,0,0,0)))) (.br (shrI u8 op 6==2) (Ls ((12,1,0,i64.wrap (andI u8 op 7),0,i64.wrap (andI u8 (shrI u8 op 3) 7),0,0))) (.br (ZUW (i64.wrap (andI u8 (shrI u8 op 3) 7)) (i64.wrap (andI u8 op 7)) (shrI i64 (i64.wrap (andI u8 (shrI u8 op 3) 7)) 1) (andI i64 (i64.wrap (andI u8 (shrI u8 op 3) 7)) 1)) (Ls (ZXF (i64.wrap (andI u8 (shrI u8 op 3) 7)) (i64.wrap (andI u8 op 7)) (shrI i64 (i64.wrap (andI u8 (shrI u8 op 3) 7)) 1) (andI i64 (i64.wrap (andI u8 (shrI u8 op 3) 7)) 1))) Ln)))) Ln)
def Zc (chip:Int) (op:Int):QT6:=getO ZAx.Df (Zg8 chip op).val
def Zsv (chip:Int) (op:Int):Bool:=okB (Zg8 chip op).val
theorem Zw0 (b:Int) (h:inR .u8 b):ZlT b=true/\Zte b=Zso b:=by have h1:=ZfS (λb=>ZlT b&&(Zte b==Zso b)) (by kernel_rfl) b h;simpa using h1
theorem ZxU (a b c:Bool):pMaj a b c=rMaj a b c:=by cases a<;>cases b<;>cases c<;>rfl
theorem ZTu (a:Bool):pOne a=rOne a:=by cases a<;>rfl
theorem ZJx (a b:Int) (c:Bool):pSum a b c=rSum a b c:=by simp only[pSum,ZVg,rSum,ZUP,RT.val,Yax,ZnD,ZlQ,ZeR,Zsl,ZTu]
theorem ZCv (a b:Int) (c:Bool):Zh4 a b c=Zc2 a b c:=by
 have h1:=ZYV a;have h2:=ZYV b;have e:IntKind.wrap .i64 (IntKind.wrap .i64 (IntKind.wrap .i64 (IntKind.wrap .i64 (andI .u8 a 15)+15)-IntKind.wrap .i64 (andI .u8 b 15))+1)=IntKind.wrap .i64 (IntKind.wrap .i64 (IntKind.wrap .i64 (andI .u8 a 15)+IntKind.wrap .i64 (IntKind.wrap .u8 (15-andI .u8 b 15)))+1):=by rw[ZyP];rw[wrap_i64 (andI .u8 a 15) (by omega) (by omega),wrap_i64 (andI .u8 b 15) (by omega) (by omega),wrap_i64 ((15-andI .u8 b 15)%256) (by omega) (by omega),wrap_i64 (andI .u8 a 15+15) (by omega) (by omega)];congr 1;rw[wrap_i64 _ (by omega) (by omega),wrap_i64 _ (by omega) (by omega)];omega
 simp only[Zh4,ZMK,Zc2,ZKz,RT.val,Yax,ZnD,ZlQ,ZeR,Zsl,ZTu,e]
theorem ZuB (a b:Int):ZMh a b=ZfB a b:=rfl
theorem ZPa (b:Bool) (n:Int) (h:0<=n):ZeT b n=true/\pBit b n=bif b then shlI .u8 1 n else 0:=by cases b<;>simp[ZeT,pBit,ZRn,RT.val,h,okB,getO]
theorem Zgk (b:Bool) (n:Int) (h:0<=n):Zeg b n=true/\rBit b n=bif b then shlI .u8 1 n else 0:=by cases b<;>simp[Zeg,rBit,ZU1,RT.val,h,okB,getO]
theorem Zbw (chip:Int):rOn chip=(chip==2):=rfl
theorem ZX1 (chip:Int) (f):ZEw chip f=true:=by cases h:chip==2<;>simp[ZEw,Zxh,RT.val,ZPa,okB,h]
theorem ZUF (chip:Int) (f):ZKl chip f=true:=by cases h:chip==2<;>simp[ZKl,ZDC,RT.val,Zgk,Zbw,okB,h]
theorem ZVf (chip:Int) (f):ZQ2 chip f=ZUU chip f:=by simp only[ZQ2,Zxh,ZUU,ZDC,RT.val,ZPa,Zgk,Zbw];cases chip==2<;>simp[ZPa,Zgk,getO]
theorem of_C (r:Int) (h:inR .u8 r):pOfC r=true:=by simp[pOfC,pOfT,RT.val,Zw0 r h,okB]
theorem of_eq (r:Int) (h:inR .u8 r):pOf r=rOf r:=by simp[pOf,pOfT,rOf,rOfT,RT.val,Zw0 r h,getO]
theorem get_C (r) (n:Int):ZKw r n=true:=by
 have:=and7 n;have h:decide (0<=andI .i64 n 7/\andI .i64 n 7<8)=true:=by simp;omega
 simp only[ZKw,ZQm,RT.val,h,Ya,okB]
theorem ZOF {m:Int} (h:0<=m/\m<=7):m=0\/m=1\/m=2\/m=3\/m=4\/m=5\/m=6\/m=7:=by omega
theorem ZLk (r) (n:Int):pGet r n=rGet r n:=by
 have h7:=and7 n;have h:decide (0<=andI .i64 n 7/\andI .i64 n 7<8)=true:=by simp;omega
 simp only[pGet,ZVH,rGet,ZQm,RT.val,h,Ya,getO];generalize andI .i64 n 7=m at*;rcases ZOF h7 with rfl|rfl|rfl|rfl|rfl|rfl|rfl|rfl<;>rfl
theorem ZKO (r) (n v:Int):pSet r n v=rSet r n v:=by have h7:=and7 n;simp only[pSet,ZVj,rSet,ZXx,RT.val,Ya,getO];generalize andI .i64 n 7=m at*;rcases ZOF h7 with rfl|rfl|rfl|rfl|rfl|rfl|rfl|rfl<;>rfl
theorem ZQu (r) (n:Int):ZVt r n=ZbG r n:=by simp only[ZVt,ZLR,ZbG,ZSW,RT.val,ZLk,get_C,ZuB];cases andI .i64 n 3==3<;>simp[okB,getO]
theorem ZzN (r) (n v:Int):Zs2 r n v=ZY r n v:=by simp only[Zs2,ZnE,ZY,Zv0,RT.val,ZKO]
theorem ZKY (chip:Int) (r):ZVv chip r=true/\pPSW chip r=rPSW chip r:=by simp[ZVv,pPSW,ZQ3,rPSW,ZXC,RT.val,ZX1,ZUF,ZVf,ZuB,okB,getO]
theorem ZIU (chip:Int) (b:Int):ZsZ chip b=Zzv chip b:=by simp only[ZsZ,ZsY,Zzv,ZDq,RT.val,Zbw]
theorem ZGs (chip:Int) (r) (v:Int):ZAk chip r v=Zm2 chip r v:=by simp only[ZAk,Zs3,Zm2,ZDt,RT.val,ZIU]
theorem ZRU (c:Int) (f):ZMq c f=ZfX c f:=by
 simp only[ZMq,ZBj,ZfX,ZKs,RT.val];by_cases h:0<=c/\c<=11
 ·have:c=0\/c=1\/c=2\/c=3\/c=4\/c=5\/c=6\/c=7\/c=8\/c=9\/c=10\/c=11:=by omega
  rcases this with rfl|rfl|rfl|rfl|rfl|rfl|rfl|rfl|rfl|rfl|rfl|rfl<;>simp
 ·have e:∀k:Int,0<=k->k<=11->(c==k)=false:=λk h1 h2=>by simp;omega
  simp[e]
theorem ZvD (a b:Int) (c:Bool):inR .u8 (rSum a b c).1:=by simp only[rSum,ZUP,RT.val,Yax];exact Zar _ _
theorem ZpF (a b:Int) (c:Bool):inR .u8 (Zc2 a b c).1:=by simp only[Zc2,ZKz,RT.val,Yax];exact Zar _ _
theorem ZkR (a b:Int):inR .u8 (andI .u8 a b)/\inR .u8 (orI .u8 a b)/\inR .u8 (xorI .u8 a b):=Zhk _ _ _
theorem ZvW (chip v r:Int) (half over x:Bool) (f) (h:inR .u8 r):Zi2 chip v r half over x f=true/\
  ZnJ chip v r half over x f=Zsp chip ((rOf r).1,(rOf r).2.1,(rOf r).2.2.1,half,(rOf r).2.2.2.2.1,(rOf r).2.2.2.2.2.1,f.2.2.2.2.2.2) (rMaj (decide (v>=128)) x (decide (r>=128))) over:=by cases hc:chip==2<;>simp[Zi2,ZnJ,ZlR,Zsp,Zv3,RT.val,of_C r h,of_eq r h,okB,getO,Zbw,hc,ZxU,rOf,rOfT]
theorem ZLh (chip v:Int) (f):ZVF chip v f=true/\pInr chip v f=rInr chip v f:=by have h:=ZvW chip v (rSum v 1 false).1 (rSum v 1 false).2.2.1 (rSum v 1 false).2.2.2 false f (ZvD _ _ _);simp only[ZVF,pInr,ZRa,rInr,ZXJ,RT.val,ZJx,h.1,h.2,Ya,okB,getO,and_self]
theorem ZLm (chip v:Int) (f):ZVS chip v f=true/\pDcr chip v f=rDcr chip v f:=by have h:=ZvW chip v (Zc2 v 1 false).1 (Zc2 v 1 false).2.2.1 (Zc2 v 1 false).2.2.2 true f (ZpF _ _ _);simp only[ZVS,pDcr,ZRj,rDcr,ZXN,RT.val,ZCv,h.1,h.2,Ya,okB,getO,and_self]
theorem ZVa (chip v:Int) (f):pInx chip v f=rInx chip v f:=by simp only[pInx,ZVD,rInx,ZXI,RT.val,Zbw]
theorem ZVd (chip v:Int) (f):pDcx chip v f=rDcx chip v f:=by simp only[pDcx,ZVQ,rDcx,ZXM,RT.val,Zbw]
theorem ZLn (chip a:Int) (f):ZVW chip a f=true/\pDaa chip a f=rDaa chip a f:=by
 have h:=λx=>of_C _ (ZvD a x false)
 have h2:=λx=>of_eq _ (ZvD a x false)
 cases hc:chip==2<;>simp[ZVW,pDaa,ZRl,rDaa,ZXP,Zsp,Zv3,RT.val,ZJx,h,h2,okB,getO,Zbw,hc,ZxU,rOf,rOfT]
theorem ZEh (a b:Int):ZMH a b=true/\ZVL a b=ZKy a b:=by
 have h:=λx y z=>of_C _ (ZpF x y z)
 have h2:=λx y z=>of_eq _ (ZpF x y z)
 simp[ZMH,ZVL,ZEP,ZKy,ZSZ,RT.val,ZCv,h,h2,okB,getO,ZxU,ZuB,rOf,rOfT,Yax]
theorem ZQJ (v:Int):ZYf v=ZQq v:=rfl
theorem ZTy (c:Bool):pLow c=bif c then 1 else 0:=by cases c<;>rfl
theorem ZKQ (op a:Int) (c:Bool):ZVl op a c=true/\pRot op a c=rRot op a c:=by
 have h3:=and3 op;simp only[ZVl,pRot,ZQU,rRot,ZXy,RT.val,ZTy,(Zgk c 0 (by decide)).1,(Zgk c 0 (by decide)).2,(Zgk c 7 (by decide)).1,(Zgk c 7 (by decide)).2];generalize andI .i64 op 3=m at*;have:m=0\/m=1\/m=2\/m=3:=by omega
 rcases this with rfl|rfl|rfl|rfl<;>cases c<;>exact⟨rfl,rfl⟩
theorem ZQs (v:Int) (c:Bool) (h:inR .u16 v):ZVr v c=ZKf v c:=by
 have hb:=Zgk c 0 (by decide);have e:IntKind.wrap .u16 (bif c then 1 else 0)=IntKind.wrap .u16 (bif c then shlI .u8 1 0 else 0):=by cases c<;>rfl
 have hr:∀x,inR .u16 (orI .u16 x (IntKind.wrap .u16 (bif c then shlI .u8 1 0 else 0))):=λx=>(Zhk _ _ _).2.1
 simp only[ZVr,ZLL,ZKf,ZSV,RT.val,ZTy,hb.1,hb.2,Ya,getO,e];rw[Zrw _ (Zhk _ _ _).2.2,ZJt _ _ (hr _) h,ZCE _ (hr _),ZCE _ h];cases tb (orI .u16 (shlI .u16 v 1) (IntKind.wrap .u16 (bif c then shlI .u8 1 0 else 0)))<;>cases tb v<;>rfl
theorem ZVe (chip a b:Int) (f) (ha:inR .u16 a) (hb:inR .u16 b):pDad chip a b f=rDad chip a b f:=by
 have hr:inR .u16 (IntKind.wrap .u16 (a+b)):=Zar _ _;have ha':=Zh9.1 ha;have hb':=Zh9.1 hb;simp only[pDad,ZVU,rDad,ZXO,RT.val,Zbw];rw[Zrw _ (Zhk _ _ _).1,ZSN _ _ (Zhk _ _ _).2.2 (Zhk _ _ _).2.2,ZJt _ _ ha hr,ZJt _ _ hb hr];have e1:decide (IntKind.wrap .u16 (a+b)<a)=decide (IntKind.wrap .i64 (IntKind.wrap .i64 a+IntKind.wrap .i64 b)>65535):=by rw[Zrx,wrap_i64 a (by omega) (by omega),wrap_i64 b (by omega) (by omega),wrap_i64 (a+b) (by omega) (by omega)];simp only[decide_eq_decide];omega
 have e2:(((tb a)^^(tb (IntKind.wrap .u16 (a+b))))&&((tb b)^^(tb (IntKind.wrap .u16 (a+b)))))=(decide (IntKind.wrap .i64 (IntKind.wrap .i64 (IntKind.wrap .i16 a)+IntKind.wrap .i64 (IntKind.wrap .i16 b))< -32768)||decide (IntKind.wrap .i64 (IntKind.wrap .i64 (IntKind.wrap .i16 a)+IntKind.wrap .i64 (IntKind.wrap .i16 b))>32767)):=by
  have ia:=ZCG a;have ib:=ZCG b;have hia: -32768<=IntKind.wrap .i16 a/\IntKind.wrap .i16 a<=32767:=by rw[ia];split<;>omega
  have hib: -32768<=IntKind.wrap .i16 b/\IntKind.wrap .i16 b<=32767:=by rw[ib];split<;>omega
  rw[wrap_i64 (IntKind.wrap .i16 a) (by omega) (by omega),wrap_i64 (IntKind.wrap .i16 b) (by omega) (by omega),wrap_i64 (IntKind.wrap .i16 a+IntKind.wrap .i16 b) (by omega) (by omega)];rw[ia,ib,Zrx];unfold tb;by_cases h1:a>=32768<;>by_cases h2:b>=32768<;>by_cases h3:(a+b)%65536>=32768<;>simp[h1,h2,h3]<;>(try split)<;>(try split)<;>omega
 rw[e1,e2]
theorem ZKR (c l):ZVn c l=true/\pRim c l=rRim c l/\ZXB c l=true:=by
 have h:∀b n,0<=n->Zc5 b n=true/\Zxd b n=bif b then shlI .u8 1 n else 0:=λb n h=>by cases b<;>simp[Zc5,Zxd,ZEq,RT.val,h,okB,getO]
 have h3:∀b,ZaC b 3=true/\ZhD b 3=bif b then shlI .u8 1 3 else 0:=λb=>by cases b<;>exact⟨rfl,rfl⟩
 have h4:∀b,ZaC b 4=true/\ZhD b 4=bif b then shlI .u8 1 4 else 0:=λb=>by cases b<;>exact⟨rfl,rfl⟩
 have h5:∀b,ZaC b 5=true/\ZhD b 5=bif b then shlI .u8 1 5 else 0:=λb=>by cases b<;>exact⟨rfl,rfl⟩
 have h6:∀b,ZaC b 6=true/\ZhD b 6=bif b then shlI .u8 1 6 else 0:=λb=>by cases b<;>exact⟨rfl,rfl⟩
 have h7:∀b,ZaC b 7=true/\ZhD b 7=bif b then shlI .u8 1 7 else 0:=λb=>by cases b<;>exact⟨rfl,rfl⟩
 simp[ZVn,pRim,ZQW,ZXB,rRim,ZQe,RT.val,h,h3,h4,h5,h6,h7,okB,getO]
theorem ZU3 (c) (a:Int):pSim c a=rSim c a:=by simp only[pSim,ZVi,rSim,ZUQ,RT.val]
theorem ZGo (s:Int):ZAd s=Zx s:=by simp only[ZAd,ZsX,Zx,ZDp,RT.val]
theorem ZKZ (chip op a b:Int):Ztq chip op a b=true/\∀f,(andI .i64 op 7=op)->4<=op->op<=6->ZEA chip op a b=rDo chip op a b f:=by
 have h:=λx y=>of_C _ (ZkR x y).1
 have h':=λx y=>of_C _ (ZkR x y).2.1
 have h'':=λx y=>of_C _ (ZkR x y).2.2
 have g:=λx y=>of_eq _ (ZkR x y).1
 have g':=λx y=>of_eq _ (ZkR x y).2.1
 have g'':=λx y=>of_eq _ (ZkR x y).2.2
 have h0:=of_C 0 (by rw[ZhI];omega);constructor
 ·cases h4:op==4<;>cases h5:op==5<;>cases h6:op==6<;>simp[Ztq,Zoq,RT.val,h,h',h'',h0,okB,h4,h5,h6]
 ·intro f e h4 h6;have:op=4\/op=5\/op=6:=by omega
  rcases this with rfl|rfl|rfl<;>cases hc:chip==2<;>simp[ZEA,Zoq,rDo,rDoT,RT.val,h,h',h'',g,g',g'',getO,e,Zbw,hc,Zsp,Zv3,rOf,rOfT,ZxU]
theorem ZS7 (chip op a b:Int) (f):pDoC chip op a b f=true/\pDo chip op a b f=rDo chip op a b f:=by
 have h7:=and7 op;have hs:=λx=>of_C _ (ZvD a b x)
 have hs2:=λx=>of_eq _ (ZvD a b x)
 have hd:=λx=>of_C _ (ZpF a b x)
 have hd2:=λx=>of_eq _ (ZpF a b x)
 have hl:=ZKZ chip (andI .i64 op 7) a b;have hlt:decide (b<128)= !decide (128<=b):=by
  by_cases h:b<128
  ·have:¬128<=b:=by omega
   simp[h,this]
  ·have:128<=b:=by omega
   simp[h,this]
 have hr:rDo chip (andI .i64 op 7) a b f=rDo chip op a b f:=by
  have:andI .i64 (andI .i64 op 7) 7=andI .i64 op 7:=by generalize andI .i64 op 7=m at*;rcases ZOF h7 with rfl|rfl|rfl|rfl|rfl|rfl|rfl|rfl<;>rfl
  simp only[rDo,rDoT,this]
 have he:andI .i64 (andI .i64 op 7) 7=andI .i64 op 7:=by generalize andI .i64 op 7=m at*;rcases ZOF h7 with rfl|rfl|rfl|rfl|rfl|rfl|rfl|rfl<;>rfl
 rw[<-hr];have hl2:=hl.2 f he;have hl1:=hl.1;clear hl hr;simp only[pDoC,pDo,pDoT,RT.val];generalize andI .i64 op 7=m at*;rcases ZOF h7 with rfl|rfl|rfl|rfl|rfl|rfl|rfl|rfl
 case inr.inr.inr.inr.inl=>simp[hl1,hl2,okB,getO]
 case inr.inr.inr.inr.inr.inl=>simp[hl1,hl2,okB,getO]
 case inr.inr.inr.inr.inr.inr.inl=>simp[hl1,hl2,okB,getO]
 all_goals cases hc:chip==2<;>simp[rDo,rDoT,RT.val,ZJx,ZCv,hs,hs2,hd,hd2,okB,getO,he,Zbw,hc,Zsp,Zv3,rOf,rOfT,ZxU,hlt]
theorem ZLl (chip op:Int) (h:chip≠2):(ZfE chip op).val=(ZfE 0 op).val:=by
 have h1:(chip==2)=false:=by simpa using h
 have h0:((0:Int)==2)=false:=rfl;simp only[ZfE,RT.val,h1,h0]
theorem ZmX (chip op:Int) (h:chip≠2):(Zg8 chip op).val=(Zg8 0 op).val:=by
 have h1:rOn chip=false:=by simpa [Zbw] using h
 have h0:rOn 0=false:=rfl;simp only[Zg8,RT.val,h1,h0]
def decT (chip op:Int):Bool:=okB (ZfE chip op).val&&okB (Zg8 chip op).val&&(Zox chip op==Zc chip op)
theorem dec_ok (chip op:Int) (h:inR .u8 op):ZlW chip op=true/\Zox chip op=Zc chip op/\Zsv chip op=true:=by
 have fin:∀c,decT c op=true->ZlW c op=true/\Zox c op=Zc c op/\Zsv c op=true:=by intro c hc;simp only[decT,Yc,Yaw] at hc;exact⟨hc.1.1,hc.2,hc.1.2⟩
 by_cases hc:chip=2
 ·subst hc;exact fin 2 (ZfS (decT 2) (by kernel_rfl) op h)
 ·have:=fin 0 (ZfS (decT 0) (by kernel_rfl) op h);unfold ZlW Zox Zc Zsv at this|-;rw[ZLl chip op hc,ZmX chip op hc];exact this
def Ztu:En:=Zh ZBh ZBi (λ_=>none) (λa=>ZfB a.1 a.2)
theorem Zxj:Zb prog 220 Ztu:=ZlU.tot (λa h=>by simp) (λa h=>ZuB _ _)
def ZTm:En:=Zh ZMs ZMZ (λ_=>none) (λa=>rGet a.1 a.2)
theorem ZRb:Zb prog 281 ZTm:=ZMr.tot (λa h=>by simp) (λa h=>ZLk _ _)
def Zxa:En:=Zh ZLw ZLx (λ_=>none) (λa=>rSet a.1 a.2.1 a.2.2)
theorem ZEn:Zb prog 290 Zxa:=ZLv.tot (λa h=>by simp) (λa h=>ZKO _ _ _)
def ZLT:En:=Zh ZMs ZBi (λ_=>none) (λa=>ZbG a.1 a.2)
theorem ZLS:Zb prog 280 ZLT:=ZQ0.tot (λa h=>by simp) (λa h=>ZQu _ _)
def Zce:En:=Zh Zke ZLx (λ_=>none) (λa=>ZY a.1 a.2.1 a.2.2)
theorem ZeJ:Zb prog 291 Zce:=ZAi.tot (λa h=>by simp) (λa h=>ZzN _ _ _)
def ZLW:En:=Zh ZLV ZBi (λ_=>none) (λa=>rPSW a.1 a.2)
theorem ZQ4:Zb prog 288 ZLW:=ZVu.tot (λa h=>by have h1:=(ZKY a.1 a.2).1;simp[h1]) (λa h=>(ZKY _ _).2)
def ZnH:En:=Zh ZnF ZLx (λ_=>none) (λa=>Zm2 a.1 a.2.1 a.2.2)
theorem ZAj:Zb prog 299 ZnH:=ZGJ.tot (λa h=>by simp) (λa h=>ZGs _ _ _)
def ZVO:En:=Zh ZVM Ztp (λ_=>none) (λa=>rDo a.1 a.2.1 a.2.2.1 a.2.2.2.1 a.2.2.2.2)
theorem ZVN:Zb prog 292 ZVO:=ZYc.tot (λa h=>by have h1:=(ZS7 a.1 a.2.1 a.2.2.1 a.2.2.2.1 a.2.2.2.2).1;simp[h1]) (λa h=>(ZS7 _ _ _ _ _).2)
def ZEH:En:=Zh ZMl Ztp (λ_=>none) (λa=>rInr a.1 a.2.1 a.2.2)
theorem ZEG:Zb prog 282 ZEH:=ZVE.tot (λa h=>by have h1:=(ZLh a.1 a.2.1 a.2.2).1;simp[h1]) (λa h=>(ZLh _ _ _).2)
def ZEU:En:=Zh ZMl Ztp (λ_=>none) (λa=>rDcr a.1 a.2.1 a.2.2)
theorem ZET:Zb prog 283 ZEU:=ZVR.tot (λa h=>by have h1:=(ZLm a.1 a.2.1 a.2.2).1;simp[h1]) (λa h=>(ZLm _ _ _).2)
def ZMk:En:=Zh ZMi ZMj (λ_=>none) (λa=>rInx a.1 a.2.1 a.2.2)
theorem ZQ9:Zb prog 294 ZMk:=ZVC.tot (λa h=>by simp) (λa h=>ZVa _ _ _)
def ZMO:En:=Zh ZMi ZMj (λ_=>none) (λa=>rDcx a.1 a.2.1 a.2.2)
theorem ZRi:Zb prog 295 ZMO:=ZVP.tot (λa h=>by simp) (λa h=>ZVd _ _ _)
def ZMU:En:=Zh ZMl Ztp (λ_=>none) (λa=>rDaa a.1 a.2.1 a.2.2)
theorem ZRm:Zb prog 297 ZMU:=ZVV.tot (λa h=>by have h1:=(ZLn a.1 a.2.1 a.2.2).1;simp[h1]) (λa h=>(ZLn _ _ _).2)
def ZMS:En:=Zh ZMQ ZMj (λ_=>none) (λa=>rDad a.1 a.2.1 a.2.2.1 a.2.2.2)
theorem ZRk:Zb prog 296 ZMS:=ZVT.tot (λa h=>by simp) (λa h=>ZVe _ _ _ _ h.2.1 h.2.2.1)
def ZBx:En:=Zh ZBw ZMj (λ_=>none) (λa=>ZKy a.1 a.2)
theorem ZMI:Zb prog 301 ZBx:=ZRf.tot (λa h=>by have h1:=(ZEh a.1 a.2).1;simp[h1]) (λa h=>(ZEh _ _).2)
def ZBB:En:=Zh ZBz ZBA (λ_=>none) (λa=>ZQq a)
theorem ZM1:Zb prog 302 ZBB:=ZRo.tot (λa h=>by simp) (λa h=>ZQJ _)
def ZLC:En:=Zh ZLB ZEr (λ_=>none) (λa=>rRot a.1 a.2.1 a.2.2)
theorem ZQV:Zb prog 298 ZLC:=ZVk.tot (λa h=>by have h1:=(ZKQ a.1 a.2.1 a.2.2).1;simp[h1]) (λa h=>(ZKQ _ _ _).2)
def ZAr:En:=Zh ZAp ZAq (λ_=>none) (λa=>ZKf a.1 a.2)
theorem ZLM:Zb prog 303 ZAr:=ZQY.tot (λa h=>by simp) (λa h=>ZQs _ _ h.1)
def ZLE:En:=Zh ZLD ZEs (λ_=>none) (λa=>rRim a.1 a.2)
theorem ZQX:Zb prog 231 ZLE:=ZVm.tot (λa h=>by have h1:=(ZKR a.1 a.2).1;simp[h1]) (λa h=>(ZKR _ _).2.1)
def ZLu:En:=Zh ZLs ZLt (λ_=>none) (λa=>rSim a.1 a.2)
theorem ZQR:Zb prog 232 ZLu:=ZVh.tot (λa h=>by simp) (λa h=>ZU3 _ _)
def ZEK:En:=Zh ZLU ZnL (λ_=>none) (λa=>ZfX a.1 a.2)
theorem ZG0:Zb prog 353 ZEK:=ZMp.tot (λa h=>by simp) (λa h=>ZRU _ _)
def Zw3:En:=Zh Zw8 ZBi (λ_=>none) (λa=>Zx a)
theorem ZAc:Zb prog 155 Zw3:=ZGE.tot (λa h=>by simp) (λa h=>ZGo _)
def Zxo:En:=Zh Zw6 ZAx (λ_=>none) (λa=>Zc a.1 a.2)
theorem Zow:Zb prog 154 Zxo:=ZHE.tot (λa h=>by have h1:=(dec_ok a.1 a.2 h.2).1;simp[h1]) (λa h=>(dec_ok a.1 a.2 h.2).2.1)
abbrev ZYA:R:=R.Pq (.int .i64) (R.Pq (.int .i64) (R.Pq (.int .i64) (R.Pq (.int .i64) (R.Pq (.int .i64) (R.Pq (.int .i64) (.int .i64))))))
def Zxp (k:Int):En:=pinE Zw6 ZYA (λa=>Zc a.1 a.2) k
theorem ZER (k:Int):Zb Tryz.prog 154 (Zxp k):=ZVb Zow k
def pcOf (c:TC):Int:=c.2.1.2.2.2.2.2.2.2.2.2
def spOf (c:TC):Int:=c.2.1.2.2.2.2.2.2.2.2.1
def rgx (r:TR) (f:TF) (sp pc:Int):TR:=(r.1,r.2.1,r.2.2.1,r.2.2.2.1,r.2.2.2.2.1,r.2.2.2.2.2.1,r.2.2.2.2.2.2.1,f,sp,pc)
def fin3 (g:List Int) (l:List TY):RT (Option (TY×Bool)):=.br (decide (iN (Le g)>=iN (Le l))) (Ls (((0,0,0,0),false))) (.br (Zf (iN (Le g)) (Le l)) (Ls ((R.get RY l (iN (Le g)),true))) Ln)
