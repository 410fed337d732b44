import Derived.Test.YtpnjbfjomebppaaGreatS3D
import Derived.Test.YtpnjbfjomebppaaGreatProg
open Go.Proofs.Tryz (prog)
open Go.IntKind (u8 u16 i64)
set_option linter.unusedSimpArgs false
open Go Go.S3 Go.Proofs
set_option linter.unusedVariables false
set_option maxRecDepth 100000
namespace Go.Proofs.YtpnjbfjomebppaaGreat
noncomputable section
abbrev ZxM:List Sh:=[So Ka]
abbrev ZnX:Rs:=Rs.one (So R.bool)
def ZtB (b:Int):RT (Option (Bool)):=
 let x1:=andI u8 (andI u8 b (u8.wrap (b-1))) (u8.wrap (andI u8 b (u8.wrap (b-1))-1))
 let x2:= !x1 !=0
 let x3:=andI u8 x1 (u8.wrap (x1-1))
 let x4:=x3 !=0
 let x5:=andI u8 x3 (u8.wrap (x3-1))
 let x6:= !x5 !=0
 let x7:=andI u8 x5 (u8.wrap (x5-1))
 let x8:=x7 !=0
 let x9:=andI u8 x7 (u8.wrap (x7-1))
 let x10:= !x9 !=0
 let x11:=andI u8 x9 (u8.wrap (x9-1))
 let x12:=x11 !=0
 let x13:=andI u8 x11 (u8.wrap (x11-1))
 let x14:= !x13 !=0
 .br (!b !=0||(!andI u8 b (u8.wrap (b-1)) !=0||(x2||(!x4||(x6||(!x8||(x10||(!x12||(x14|| !andI u8 x13 (u8.wrap (x13-1)) !=0))))))))) (Ls (!b !=0||andI u8 b (u8.wrap (b-1)) !=0&&(x2||x4&&(x6||x8&&(x10||x12&&x14))))) Ln
def ZtC (b:Int):Bool:=getO ZnX.Df (ZtB b).val
def Zl5 (b:Int):Bool:=okB (ZtB b).val
def ZEP:En:=Zi ZxM ZnX (λa=>some (Zl5 a)) (λa=>ZtC a)
theorem ZHa:Zb prog 387 ZEP:=
 Znp (P:=prog) (n:=15) (k:=10) (l:=[]) (ol:=[]) trivial Tryz.func387 rfl (by kernel_rfl) Tryz.call387 trivial (ts:=ZxM) (rs:=ZnX) (t:=λa=>ZtB a) (λa=>by kernel_rfl)
abbrev ZTu:List Sh:=[So R.bool,So R.bool,So R.bool]
def ZYa (a:Bool) (b:Bool) (c:Bool):RT (Bool):=
 .Lf (bif a then b||bif a then c||b&&c else b&&c else bif a then c||b&&c else b&&c)
def pMaj (a:Bool) (b:Bool) (c:Bool):Bool:=(ZYa a b c).val
def ZHk:En:=Zi ZTu ZnX (λ_=>none) (λa=>pMaj a.1 a.2.1 a.2.2)
theorem ZoA:Zb prog 357 ZHk:=
 pureQ 127 [] [] _ _ trivial Tryz.func357 Tryz.call357 trivial
abbrev ZTr:List Sh:=[So R.bool]
abbrev ZTs:Rs:=Rs.one (So Kc)
def ZX8 (b:Bool):RT (Int):=
 .br (b) (.Lf (1)) (.Lf (0))
def pOne (b:Bool):Int:=(ZX8 b).val
def ZVF:En:=Zi ZTr ZTs (λ_=>none) (λa=>pOne a)
theorem ZMk:Zb prog 384 ZVF:=
 pureQ 7 [] [] _ _ trivial Tryz.func384 Tryz.call384 trivial
abbrev ZxE:List Sh:=[So Kc]
def Zl2 (n:Int):RT (Bool):=
 .Lf (decide (n< -128)||decide (n>127))
def ZnP (n:Int):Bool:=(Zl2 n).val
def Zto:En:=Zi ZxE ZnX (λ_=>none) (λa=>ZnP a)
theorem Zrb:Zb prog 385 Zto:=
 pureQ 7 [] [] _ _ trivial Tryz.func385 Tryz.call385 trivial
abbrev ZTm:List Sh:=[So Ka,So Ka,So R.bool]
abbrev ZTn:Rs:=Rs.tup [So Ka,So R.bool,So R.bool,So R.bool]
def ZVp (a:Int) (b:Int) (c:Bool):RT (QT25):=
 let x1:=i64.wrap (i64.wrap (i64.wrap a+i64.wrap b)+pOne c)
 .Lf ((u8.wrap x1,decide (x1>255),decide (i64.wrap (i64.wrap (i64.wrap (andI u8 a 15)+i64.wrap (andI u8 b 15))+pOne c)>15),ZnP (i64.wrap (i64.wrap (i64.wrap (IntKind.i8.wrap a)+i64.wrap (IntKind.i8.wrap b))+pOne c))))
def pSum (a:Int) (b:Int) (c:Bool):QT25:=(ZVp a b c).val
def ZQ2:En:=Zi ZTm ZTn (λ_=>none) (λa=>pSum a.1 a.2.1 a.2.2)
theorem ZAC:Zb prog 350 ZQ2:=
 pureQ 4095 [(384,ZVF),(385,Zto)] [] _ _ ⟨ZMk,Zrb,Tv⟩ Tryz.func350 Tryz.call350 trivial
def ZM6 (a:Int) (b:Int) (c:Bool):RT (QT25):=
 let x1:=i64.wrap (i64.wrap (i64.wrap a-i64.wrap b)-pOne c)
 .Lf ((u8.wrap x1,decide (x1<0),decide (i64.wrap (i64.wrap (i64.wrap (i64.wrap (i64.wrap (andI u8 a 15)+15)-i64.wrap (andI u8 b 15))+1)-pOne c)>15),ZnP (i64.wrap (i64.wrap (i64.wrap (IntKind.i8.wrap a)-i64.wrap (IntKind.i8.wrap b))-pOne c))))
def Zis (a:Int) (b:Int) (c:Bool):QT25:=(ZM6 a b c).val
def ZFb:En:=Zi ZTm ZTn (λ_=>none) (λa=>Zis a.1 a.2.1 a.2.2)
theorem ZuC:Zb prog 352 ZFb:=
 pureQ 4095 [(384,ZVF),(385,Zto)] [] _ _ ⟨ZMk,Zrb,Tv⟩ Tryz.func352 Tryz.call352 trivial
abbrev ZBE:List Sh:=[So Ka,So Ka]
abbrev ZBF:Rs:=Rs.one (So Kb)
def ZTy (h:Int) (l:Int):RT (Int):=
 .Lf (orI u16 (shlI u16 (u16.wrap h) 8) (u16.wrap l))
def ZME (h:Int) (l:Int):Int:=(ZTy h l).val
def ZEY:En:=Zi ZBE ZBF (λ_=>none) (λa=>ZME a.1 a.2)
theorem Zl6:Zb prog 220 ZEY:=
 pureQ 31 [] [] _ _ trivial Tryz.func220 Tryz.call220 trivial
abbrev ZTC:List Sh:=[So R.bool,So Kc]
abbrev ZNl:Rs:=Rs.one (So Ka)
def ZRA (b:Bool) (n:Int):RT (Option (Int)):=
 .br (!b||decide (0<=n)) (.br (b) (Ls (shlI u8 1 n)) (Ls (0))) Ln
def pBit (b:Bool) (n:Int):Int:=getO ZNl.Df (ZRA b n).val
def Ze5 (b:Bool) (n:Int):Bool:=okB (ZRA b n).val
def ZYf:En:=Zi ZTC ZNl (λa=>some (Ze5 a.1 a.2)) (λa=>pBit a.1 a.2)
theorem ZV9:Zb prog 386 ZYf:=
 pureP 31 [] [] _ _ trivial Tryz.func386 Tryz.call386 trivial
abbrev ZMh:List Sh:=[So Kc,Sh.agg rcF7]
def ZxN (chip:Int) (f:TF):RT (Option (Int)):=
 let x1:=orI u8 (orI u8 (orI u8 (orI u8 (pBit f.1 7) (pBit f.2.1 6)) (pBit f.2.2.2.1 4)) (pBit f.2.2.2.2.1 2)) (pBit f.2.2.2.2.2.2 0)
 .br (!Ze5 f.1 7||(!Ze5 f.2.1 6||(!Ze5 f.2.2.2.1 4||(!Ze5 f.2.2.2.2.1 2||Ze5 f.2.2.2.2.2.2 0)))) (.br (!Ze5 f.1 7||(!Ze5 f.2.1 6||(!Ze5 f.2.2.2.1 4||Ze5 f.2.2.2.2.1 2))) (.br (!Ze5 f.1 7||(!Ze5 f.2.1 6||Ze5 f.2.2.2.1 4)) (.br (!Ze5 f.1 7||Ze5 f.2.1 6) (.br (Ze5 f.1 7) (.br (!chip==2||(!Ze5 f.2.2.1 5||Ze5 f.2.2.2.2.2.1 1)) (.br (!chip==2||Ze5 f.2.2.1 5) (.br (chip==2) (Ls (orI u8 (orI u8 x1 (pBit f.2.2.1 5)) (pBit f.2.2.2.2.2.1 1))) (Ls (orI u8 x1 2))) Ln) Ln) Ln) Ln) Ln) Ln) Ln
def ZRg (chip:Int) (f:TF):Int:=getO ZNl.Df (ZxN chip f).val
def ZEQ (chip:Int) (f:TF):Bool:=okB (ZxN chip f).val
def ZTq:En:=Zi ZMh ZNl (λa=>some (ZEQ a.1 a.2)) (λa=>ZRg a.1 a.2)
theorem ZRf:Zb prog 354 ZTq:=
 pureP 63 [(386,ZYf)] [] _ _ ⟨ZV9,Tv⟩ Tryz.func354 Tryz.call354 trivial
abbrev ZxC:List Sh:=[So Kc,So Ka]
abbrev ZxD:Rs:=Rs.one (Sh.agg rcF7)
def Ztl (chip:Int) (b:Int):RT TF:=
 .Lf ((andI u8 b 128 !=0,andI u8 b 64 !=0,chip==2&&andI u8 b 32 !=0,andI u8 b 16 !=0,andI u8 b 4 !=0,chip==2&&andI u8 b 2 !=0,andI u8 b 1 !=0))
def Ztm (chip:Int) (b:Int):TF:=(Ztl chip b).val
def ZEG:En:=Zi ZxC ZxD (λ_=>none) (λa=>Ztm a.1 a.2)
theorem ZG6:Zb prog 363 ZEG:=
 pureQ 63 [] [] _ _ trivial Tryz.func363 Tryz.call363 trivial
def pOfT (r:Int):RT (Option TF):=
 .br (Zl5 r) (Ls ((decide (r>=128),r==0,false,false,ZtC r,false,false))) Ln
def pOf (r:Int):TF:=getO ZxD.Df (pOfT r).val
def pOfC (r:Int):Bool:=okB (pOfT r).val
def pOfE:En:=Zi ZxM ZxD (λa=>some (pOfC a)) (λa=>pOf a)
theorem ZxO:Zb prog 356 pOfE:=
 pureP 7 [(387,ZEP)] [] _ _ ⟨ZHa,Tv⟩ Tryz.func356 Tryz.call356 trivial
def Zpr:En:=.tree (ZA (envX prog [] [] 141872468127 8) Tryz.f349)
theorem Zpq:Zb prog 349 Zpr:=Z6 trivial Tryz.func349 rfl (by kernel_rfl) Tryz.call349 trivial
abbrev ZMP:List Sh:=[Sh.agg Zm6,So Kc]
def ZVQ (r:TR) (n:Int):RT (Int):=
 .br (andI i64 n 7==0) (.Lf r.2.1) (.br (andI i64 n 7==1) (.Lf r.2.2.1) (.br (andI i64 n 7==2) (.Lf r.2.2.2.1) (.br (andI i64 n 7==3) (.Lf r.2.2.2.2.1) (.br (andI i64 n 7==4) (.Lf r.2.2.2.2.2.1) (.br (andI i64 n 7==5) (.Lf r.2.2.2.2.2.2.1) (.br (andI i64 n 7==7) (.Lf r.1) (.Lf (0))))))))
def pGet (r:TR) (n:Int):Int:=(ZVQ r n).val
def ZYc:En:=Zi ZMP ZNl (λ_=>none) (λa=>pGet a.1 a.2)
theorem ZMO:Zb prog 281 ZYc:=
 pureQ 63 [(349,Zpr)] [] _ _ ⟨Zpq,Tv⟩ Tryz.func281 Tryz.call281 trivial
abbrev ZLS:List Sh:=[Sh.agg Zm6,So Kc,So Ka]
abbrev ZLT:Rs:=Rs.one (Sh.agg Zm6)
def ZVs (r:TR) (n:Int) (v:Int):RT TR:=
 .br (andI i64 n 7==0) (.Lf ((r.1,v,r.2.2))) (.br (andI i64 n 7==1) (.Lf ((r.1,r.2.1,v,r.2.2.2))) (.br (andI i64 n 7==2) (.Lf ((r.1,r.2.1,r.2.2.1,v,r.2.2.2.2))) (.br (andI i64 n 7==3) (.Lf ((r.1,r.2.1,r.2.2.1,r.2.2.2.1,v,r.2.2.2.2.2))) (.br (andI i64 n 7==4) (.Lf ((r.1,r.2.1,r.2.2.1,r.2.2.2.1,r.2.2.2.2.1,v,r.2.2.2.2.2.2))) (.br (andI i64 n 7==5) (.Lf ((r.1,r.2.1,r.2.2.1,r.2.2.2.1,r.2.2.2.2.1,r.2.2.2.2.2.1,v,r.2.2.2.2.2.2.2))) (.br (andI i64 n 7==7) (.Lf ((v,r.2))) (.Lf (r))))))))
def pSet (r:TR) (n:Int) (v:Int):TR:=(ZVs r n v).val
def ZX4:En:=Zi ZLS ZLT (λ_=>none) (λa=>pSet a.1 a.2.1 a.2.2)
theorem ZLR:Zb prog 290 ZX4:=
 pureQ 255 [(349,Zpr)] [] _ _ ⟨Zpq,Tv⟩ Tryz.func290 Tryz.call290 trivial
def ZMe (r:TR) (n:Int):RT (Int):=
 .br (andI i64 n 3==3) (.Lf r.2.2.2.2.2.2.2.2.1) (.Lf (ZME (pGet r (i64.wrap (2*andI i64 n 3))) (pGet r (i64.wrap (i64.wrap (2*andI i64 n 3)+1)))))
def ZVC (r:TR) (n:Int):Int:=(ZMe r n).val
def ZX7:En:=Zi ZMP ZBF (λ_=>none) (λa=>ZVC a.1 a.2)
theorem ZRe:Zb prog 280 ZX7:=
 pureQ 31 [(220,ZEY),(281,ZYc)] [] _ _ ⟨Zl6,ZMO,Tv⟩ Tryz.func280 Tryz.call280 trivial
abbrev Zkw:List Sh:=[Sh.agg Zm6,So Kc,So Kb]
def ZnQ (r:TR) (n:Int) (v:Int):RT TR:=
 .br (andI i64 n 3==3) (.Lf ((r.1,r.2.1,r.2.2.1,r.2.2.2.1,r.2.2.2.2.1,r.2.2.2.2.2.1,r.2.2.2.2.2.2.1,r.2.2.2.2.2.2.2.1,v,r.2.2.2.2.2.2.2.2.2))) (.Lf (pSet (pSet r (i64.wrap (2*andI i64 n 3)) (u8.wrap (shrI u16 v 8))) (i64.wrap (i64.wrap (2*andI i64 n 3)+1)) (u8.wrap v)))
def Ztp (r:TR) (n:Int) (v:Int):TR:=(ZnQ r n v).val
def ZLU:En:=Zi Zkw ZLT (λ_=>none) (λa=>Ztp a.1 a.2.1 a.2.2)
theorem ZAF:Zb prog 291 ZLU:=
 pureQ 127 [(290,ZX4)] [] _ _ ⟨ZLR,Tv⟩ Tryz.func291 Tryz.call291 trivial
abbrev ZMi:List Sh:=[So Kc,Sh.agg Zm6]
def ZRh (chip:Int) (r:TR):RT (Option (Int)):=
 .br (ZEQ chip r.2.2.2.2.2.2.2.1) (Ls (ZME r.1 (ZRg chip r.2.2.2.2.2.2.2.1))) Ln
def pPSW (chip:Int) (r:TR):Int:=getO ZBF.Df (ZRh chip r).val
def ZVE (chip:Int) (r:TR):Bool:=okB (ZRh chip r).val
def pPSWE:En:=Zi ZMi ZBF (λa=>some (ZVE a.1 a.2)) (λa=>pPSW a.1 a.2)
theorem ZVD:Zb prog 288 pPSWE:=
 pureP 31 [(220,ZEY),(354,ZTq)] [] _ _ ⟨Zl6,ZRf,Tv⟩ Tryz.func288 Tryz.call288 trivial
abbrev ZnR:List Sh:=[So Kc,Sh.agg Zm6,So Kb]
def Ztq (chip:Int) (r:TR) (v:Int):RT TR:=
 .Lf ((u8.wrap (shrI u16 v 8),r.2.1,r.2.2.1,r.2.2.2.1,r.2.2.2.2.1,r.2.2.2.2.2.1,r.2.2.2.2.2.2.1,Ztm chip (u8.wrap v),r.2.2.2.2.2.2.2.2))
def ZAH (chip:Int) (r:TR) (v:Int):TR:=(Ztq chip r v).val
def ZQ5:En:=Zi ZnR ZLT (λ_=>none) (λa=>ZAH a.1 a.2.1 a.2.2)
theorem ZG8:Zb prog 299 ZQ5:=
 pureQ 127 [(363,ZEG)] [] _ _ ⟨ZG6,Tv⟩ Tryz.func299 Tryz.call299 trivial
abbrev ZET:List Sh:=[So Kc,So Kc,So Ka,So Ka]
abbrev ZtO:Rs:=Rs.tup [So Ka,Sh.agg rcF7]
def ZoB (chip:Int) (op:Int) (a:Int) (b:Int):RT (Option (QT2)):=
 let x1:Int:=bif op==4 then andI u8 a b else bif op==5 then xorI u8 a b else bif op==6 then orI u8 a b else 0
 let x2:=pOf x1
 let x3:=x2.2
 let x4:=x3.2
 .br (pOfC x1) (Ls ((x1,x2.1,x3.1,bif chip==2 then pMaj (decide (a>=128)) (decide (b>=128)) (decide (x1>=128)) else x4.1,op==4&&(chip==2||andI u8 (orI u8 a b) 8 !=0),x4.2.2))) Ln
def ZEU (chip:Int) (op:Int) (a:Int) (b:Int):QT2:=getO ZtO.Df (ZoB chip op a b).val
def ZtP (chip:Int) (op:Int) (a:Int) (b:Int):Bool:=okB (ZoB chip op a b).val
def ZMx:En:=Zi ZET ZtO (λa=>some (ZtP a.1 a.2.1 a.2.2.1 a.2.2.2)) (λa=>ZEU a.1 a.2.1 a.2.2.1 a.2.2.2)
theorem ZMw:Zb prog 355 ZMx:=
 pureP 8858394623 [(356,pOfE),(357,ZHk)] [] _ _ ⟨ZxO,ZoA,Tv⟩ Tryz.func355 Tryz.call355 trivial
abbrev ZVX:List Sh:=[So Kc,So Kc,So Ka,So Ka,Sh.agg rcF7]
def pDoT (chip:Int) (op:Int) (a:Int) (b:Int) (f:TF):RT (Option (QT2)):=
 let x1:=decide (andI i64 op 7>=4)&&decide (andI i64 op 7<=6)
 let x2:=f.2.2.2.2.2.2&&(andI i64 op 7==1||andI i64 op 7==3)
 let x3:=Zis a b x2
 let x4:=x3.1
 let x5:=pOf x4
 let x6:=x5.2
 let x7:=x6.2
 let x8:=x3.2
 let x9:=x8.2
 let x10:=x7.2.2
 let x11:TF:=(x5.1,x6.1,bif chip==2 then pMaj (decide (a>=128)) (decide (b<128)) (decide (x4>=128)) else x7.1,x9.1,x10.1,bif chip==2 then x9.2 else x10.2.1,x8.1)
 let x12:=pSum a b x2
 let x13:=x12.1
 let x14:=pOf x13
 let x15:=x14.2
 let x16:=x15.2
 let x17:=x12.2
 let x18:=x17.2
 let x19:=x16.2.2
 let x20:TF:=(x14.1,x15.1,bif chip==2 then pMaj (decide (a>=128)) (decide (b>=128)) (decide (x13>=128)) else x16.1,x18.1,x19.1,bif chip==2 then x18.2 else x19.2.1,x17.1)
 .br (!x1||ZtP chip (andI i64 op 7) a b) (.br (x1) (Ls (ZEU chip (andI i64 op 7) a b)) (.br (andI i64 op 7 !=0&&andI i64 op 7 !=1) (.br (pOfC x4) (.br (andI i64 op 7==7) (Ls ((a,x11))) (Ls ((x4,x11)))) Ln) (.br (pOfC x13) (.br (andI i64 op 7==7) (Ls ((a,x20))) (Ls ((x13,x20)))) Ln))) Ln
def pDo (chip:Int) (op:Int) (a:Int) (b:Int) (f:TF):QT2:=getO ZtO.Df (pDoT chip op a b f).val
def pDoC (chip:Int) (op:Int) (a:Int) (b:Int) (f:TF):Bool:=okB (pDoT chip op a b f).val
def pDoE:En:=Zi ZVX ZtO (λa=>some (pDoC a.1 a.2.1 a.2.2.1 a.2.2.2.1 a.2.2.2.2)) (λa=>pDo a.1 a.2.1 a.2.2.1 a.2.2.2.1 a.2.2.2.2)
theorem ZYe:Zb prog 292 pDoE:=
 pureP 1048575 [(350,ZQ2),(352,ZFb),(355,ZMx),(356,pOfE),(357,ZHk)] [] _ _ ⟨ZAC,ZuC,ZMw,ZxO,ZoA,Tv⟩ Tryz.func292 Tryz.call292 trivial
abbrev ZxK:List Sh:=[So Kc,So Ka,So Ka,So R.bool,So R.bool,So R.bool,Sh.agg rcF7]
def Zl3 (chip:Int) (v:Int) (r:Int) (half:Bool) (over:Bool) (x:Bool) (f:TF):RT (Option TF):=
 .br (pOfC r) (Ls (((pOf r).1,(pOf r).2.1,bif chip==2 then pMaj (decide (v>=128)) x (decide (r>=128)) else (pOf r).2.2.1,half,(pOf r).2.2.2.2.1,bif chip==2 then over else (pOf r).2.2.2.2.2.1,f.2.2.2.2.2.2))) Ln
def ZnV (chip:Int) (v:Int) (r:Int) (half:Bool) (over:Bool) (x:Bool) (f:TF):TF:=getO ZxD.Df (Zl3 chip v r half over x f).val
def Zjs (chip:Int) (v:Int) (r:Int) (half:Bool) (over:Bool) (x:Bool) (f:TF):Bool:=okB (Zl3 chip v r half over x f).val
def Zts:En:=Zi ZxK ZxD (λa=>some (Zjs a.1 a.2.1 a.2.2.1 a.2.2.2.1 a.2.2.2.2.1 a.2.2.2.2.2.1 a.2.2.2.2.2.2)) (λa=>ZnV a.1 a.2.1 a.2.2.1 a.2.2.2.1 a.2.2.2.2.1 a.2.2.2.2.2.1 a.2.2.2.2.2.2)
theorem Zrc:Zb prog 351 Zts:=
 pureP 65535 [(356,pOfE),(357,ZHk)] [] _ _ ⟨ZxO,ZoA,Tv⟩ Tryz.func351 Tryz.call351 trivial
abbrev ZMI:List Sh:=[So Kc,So Ka,Sh.agg rcF7]
def ZRo (chip:Int) (v:Int) (f:TF):RT (Option (QT2)):=
 .br (Zjs chip v (pSum v 1 false).1 (pSum v 1 false).2.2.1 (pSum v 1 false).2.2.2 false f) (Ls (((pSum v 1 false).1,ZnV chip v (pSum v 1 false).1 (pSum v 1 false).2.2.1 (pSum v 1 false).2.2.2 false f))) Ln
def pInr (chip:Int) (v:Int) (f:TF):QT2:=getO ZtO.Df (ZRo chip v f).val
def ZVO (chip:Int) (v:Int) (f:TF):Bool:=okB (ZRo chip v f).val
def pInrE:En:=Zi ZMI ZtO (λa=>some (ZVO a.1 a.2.1 a.2.2)) (λa=>pInr a.1 a.2.1 a.2.2)
theorem ZVN:Zb prog 282 pInrE:=
 pureP 4095 [(350,ZQ2),(351,Zts)] [] _ _ ⟨ZAC,Zrc,Tv⟩ Tryz.func282 Tryz.call282 trivial
def ZRw (chip:Int) (v:Int) (f:TF):RT (Option (QT2)):=
 .br (Zjs chip v (Zis v 1 false).1 (Zis v 1 false).2.2.1 (Zis v 1 false).2.2.2 true f) (Ls (((Zis v 1 false).1,ZnV chip v (Zis v 1 false).1 (Zis v 1 false).2.2.1 (Zis v 1 false).2.2.2 true f))) Ln
def pDcr (chip:Int) (v:Int) (f:TF):QT2:=getO ZtO.Df (ZRw chip v f).val
def ZV3 (chip:Int) (v:Int) (f:TF):Bool:=okB (ZRw chip v f).val
def pDcrE:En:=Zi ZMI ZtO (λa=>some (ZV3 a.1 a.2.1 a.2.2)) (λa=>pDcr a.1 a.2.1 a.2.2)
theorem ZV2:Zb prog 283 pDcrE:=
 pureP 4095 [(351,Zts),(352,ZFb)] [] _ _ ⟨Zrc,ZuC,Tv⟩ Tryz.func283 Tryz.call283 trivial
abbrev ZMF:List Sh:=[So Kc,So Kb,Sh.agg rcF7]
abbrev ZMG:Rs:=Rs.tup [So Kb,Sh.agg rcF7]
def ZVM (chip:Int) (v:Int) (f:TF):RT (QT2):=
 .Lf ((u16.wrap (v+1),f.1,f.2.1,bif chip==2 then v==65535 else f.2.2.1,f.2.2.2))
def pInx (chip:Int) (v:Int) (f:TF):QT2:=(ZVM chip v f).val
def pInxE:En:=Zi ZMF ZMG (λ_=>none) (λa=>pInx a.1 a.2.1 a.2.2)
theorem ZVL:Zb prog 294 pInxE:=
 pureQ 255 [] [] _ _ trivial Tryz.func294 Tryz.call294 trivial
def ZV1 (chip:Int) (v:Int) (f:TF):RT (QT2):=
 .Lf ((u16.wrap (v-1),f.1,f.2.1,bif chip==2 then v==0 else f.2.2.1,f.2.2.2))
def pDcx (chip:Int) (v:Int) (f:TF):QT2:=(ZV1 chip v f).val
def pDcxE:En:=Zi ZMF ZMG (λ_=>none) (λa=>pDcx a.1 a.2.1 a.2.2)
theorem ZV0:Zb prog 295 pDcxE:=
 pureQ 255 [] [] _ _ trivial Tryz.func295 Tryz.call295 trivial
abbrev ZNc:List Sh:=[So Kc,So Kb,So Kb,Sh.agg rcF7]
def ZV5 (chip:Int) (a:Int) (b:Int) (f:TF):RT (QT2):=
 .Lf ((u16.wrap (a+b),f.1,f.2.1,f.2.2.1,f.2.2.2.1,f.2.2.2.2.1,bif chip==2 then andI u16 (andI u16 (xorI u16 a (u16.wrap (a+b))) (xorI u16 b (u16.wrap (a+b)))) 32768 !=0 else f.2.2.2.2.2.1,decide (u16.wrap (a+b)<a)))
def pDad (chip:Int) (a:Int) (b:Int) (f:TF):QT2:=(ZV5 chip a b f).val
def pDadE:En:=Zi ZNc ZMG (λ_=>none) (λa=>pDad a.1 a.2.1 a.2.2.1 a.2.2.2)
theorem ZV4:Zb prog 296 pDadE:=
 pureQ 2047 [] [] _ _ trivial Tryz.func296 Tryz.call296 trivial
abbrev ZBT:List Sh:=[So Kb,So Kb]
def ZFa (a:Int) (b:Int):RT (Option (QT2)):=
 let x1:=Zis (u8.wrap (shrI u16 a 8)) (u8.wrap (shrI u16 b 8)) (Zis (u8.wrap a) (u8.wrap b) false).2.1
 let x2:=x1.1
 let x3:=pOf x2
 let x4:=x1.2
 let x5:=x4.2
 .br (pOfC x2) (Ls ((ZME x2 (Zis (u8.wrap a) (u8.wrap b) false).1,x3.1,x2==0&&(Zis (u8.wrap a) (u8.wrap b) false).1==0,pMaj (decide (a>=32768)) (decide (b<32768)) (decide (x2>=128)),x5.1,x3.2.2.2.2.1,x5.2,x4.1))) Ln
def ZVW (a:Int) (b:Int):QT2:=getO ZMG.Df (ZFa a b).val
def ZM3 (a:Int) (b:Int):Bool:=okB (ZFa a b).val
def ZYd:En:=Zi ZBT ZMG (λa=>some (ZM3 a.1 a.2)) (λa=>ZVW a.1 a.2)
theorem ZRs:Zb prog 301 ZYd:=
 pureP 32767 [(220,ZEY),(352,ZFb),(356,pOfE),(357,ZHk)] [] _ _ ⟨Zl6,ZuC,ZxO,ZoA,Tv⟩ Tryz.func301 Tryz.call301 trivial
def ZRy (chip:Int) (a:Int) (f:TF):RT (Option (QT2)):=
 let x1:Int:=bif f.2.2.2.1||decide (andI u8 a 15>9) then 6 else 0
 let x2:=pSum a (bif f.2.2.2.2.2.2||decide (a>153) then u8.wrap (x1+96) else x1) false
 let x3:=x2.1
 let x4:=pOf x3
 let x5:=x4.2
 let x6:=x5.2
 let x7:=x2.2.2
 let x8:=x6.2.2
 .br (pOfC x3) (Ls ((x3,x4.1,x5.1,bif chip==2 then pMaj (decide (a>=128)) false (decide (x3>=128)) else x6.1,x7.1,x8.1,bif chip==2 then x7.2 else x8.2.1,f.2.2.2.2.2.2||decide (a>153)))) Ln
def pDaa (chip:Int) (a:Int) (f:TF):QT2:=getO ZtO.Df (ZRy chip a f).val
def ZV7 (chip:Int) (a:Int) (f:TF):Bool:=okB (ZRy chip a f).val
def pDaaE:En:=Zi ZMI ZtO (λa=>some (ZV7 a.1 a.2.1 a.2.2)) (λa=>pDaa a.1 a.2.1 a.2.2)
theorem ZV6:Zb prog 297 pDaaE:=
 pureP 32767 [(350,ZQ2),(356,pOfE),(357,ZHk)] [] _ _ ⟨ZAC,ZxO,ZoA,Tv⟩ Tryz.func297 Tryz.call297 trivial
def ZYb (c:Bool):RT (Int):=
 .br (c) (.Lf (1)) (.Lf (0))
def pLow (c:Bool):Int:=(ZYb c).val
def ZHl:En:=Zi ZTr ZNl (λ_=>none) (λa=>pLow a)
theorem ZBA:Zb prog 361 ZHl:=
 pureQ 7 [] [] _ _ trivial Tryz.func361 Tryz.call361 trivial
def Zha:En:=.tree (ZA (envX prog [] [] 7 8) Tryz.f358)
theorem ZkU:Zb prog 358 Zha:=Z6 trivial Tryz.func358 rfl (by kernel_rfl) Tryz.call358 trivial
def Zg9:En:=.tree (ZA (envX prog [] [] 7 8) Tryz.f359)
theorem ZkT:Zb prog 359 Zg9:=Z6 trivial Tryz.func359 rfl (by kernel_rfl) Tryz.call359 trivial
def Zg8:En:=.tree (ZA (envX prog [(361,ZHl)] [] 15 8) Tryz.f360)
theorem ZkS:Zb prog 360 Zg8:=Z6 ⟨ZBA,Tv⟩ Tryz.func360 rfl (by kernel_rfl) Tryz.call360 trivial
def Zg7:En:=.tree (ZA (envX prog [(361,ZHl)] [] 15 8) Tryz.f362)
theorem ZkR:Zb prog 362 Zg7:=Z6 ⟨ZBA,Tv⟩ Tryz.func362 rfl (by kernel_rfl) Tryz.call362 trivial
abbrev ZLX:List Sh:=[So Kc,So Ka,So R.bool]
abbrev ZEN:Rs:=Rs.tup [So Ka,So R.bool]
def ZQ7 (op:Int) (a:Int) (c:Bool):RT (Option (Int×Bool)):=
 .br (andI i64 op 3==0||(andI i64 op 3== ↑(0+1)||(andI i64 op 3== ↑(0+1+1)||andI i64 op 3== ↑(0+1+1+1)))) (Ls ((bif andI i64 op 3==0 then orI u8 (shlI u8 a 1) (shrI u8 a 7) else bif andI i64 op 3== ↑(0+1) then orI u8 (shrI u8 a 1) (shlI u8 a 7) else bif andI i64 op 3== ↑(0+1+1) then orI u8 (shlI u8 a 1) (pLow c) else orI u8 (shrI u8 a 1) (shlI u8 (pLow c) 7),bif andI i64 op 3==0 then decide (a>=128) else bif andI i64 op 3== ↑(0+1) then andI u8 a 1==1 else bif andI i64 op 3== ↑(0+1+1) then decide (a>=128) else andI u8 a 1==1))) Ln
def pRot (op:Int) (a:Int) (c:Bool):Int×Bool:=getO ZEN.Df (ZQ7 op a c).val
def ZVu (op:Int) (a:Int) (c:Bool):Bool:=okB (ZQ7 op a c).val
def pRotE:En:=Zi ZLX ZEN (λa=>some (ZVu a.1 a.2.1 a.2.2)) (λa=>pRot a.1 a.2.1 a.2.2)
theorem ZVt:Zb prog 298 pRotE:=
 pureP 511 [(358,Zha),(359,Zg9),(360,Zg8),(362,Zg7)] [] _ _ ⟨ZkU,ZkT,ZkS,ZkR,Tv⟩ Tryz.func298 Tryz.call298 trivial
abbrev ZBW:List Sh:=[So Kb]
abbrev ZBX:Rs:=Rs.tup [So Kb,So R.bool]
def ZTD (v:Int):RT (Int×Bool):=
 .Lf ((orI u16 (shrI u16 v 1) (andI u16 v 32768),andI u16 v 1==1))
def ZYh (v:Int):Int×Bool:=(ZTD v).val
def ZYg:En:=Zi ZBW ZBX (λ_=>none) (λa=>ZYh a)
theorem ZRB:Zb prog 302 ZYg:=
 pureQ 15 [] [] _ _ trivial Tryz.func302 Tryz.call302 trivial
abbrev ZAM:List Sh:=[So Kb,So R.bool]
abbrev ZAN:Rs:=Rs.tup [So Kb,So R.bool,So R.bool]
def ZL7 (v:Int) (c:Bool):RT (Int×Bool×Bool):=
 .Lf ((orI u16 (shlI u16 v 1) (u16.wrap (pLow c)),decide (v>=32768),andI u16 (xorI u16 (orI u16 (shlI u16 v 1) (u16.wrap (pLow c))) v) 32768 !=0))
def ZVA (v:Int) (c:Bool):Int×Bool×Bool:=(ZL7 v c).val
def ZX5:En:=Zi ZAM ZAN (λ_=>none) (λa=>ZVA a.1 a.2)
theorem ZRb:Zb prog 303 ZX5:=
 pureQ 127 [(361,ZHl)] [] _ _ ⟨ZBA,Tv⟩ Tryz.func303 Tryz.call303 trivial
def ZEM (b:Bool) (n:Int):RT (Option (Int)):=
 .br (!b||decide (0<=n)) (.br (b) (Ls (shlI u8 1 n)) (Ls (0))) Ln
def ZxJ (b:Bool) (n:Int):Int:=getO ZNl.Df (ZEM b n).val
def Zc4 (b:Bool) (n:Int):Bool:=okB (ZEM b n).val
def ZTo:En:=Zi ZTC ZNl (λa=>some (Zc4 a.1 a.2)) (λa=>ZxJ a.1 a.2)
theorem ZQ6:Zb prog 300 ZTo:=
 pureP 31 [] [] _ _ trivial Tryz.func300 Tryz.call300 trivial
abbrev ZLZ:List Sh:=[Sh.agg Z8,Sh.agg (R.Pq R.bool (R.Pq R.bool rcF7))]
abbrev ZEO:Rs:=Rs.tup [So Ka,Sh.agg Z8]
def ZQ9 (c:TC) (l:QT1):RT (Option (Int×TC)):=
 let x1:=bif c.2.2.2.2.2.2.2.2.2.2.1 then c.2.2.2.2.2.2.2.2.2.2.2.1 else c.2.2.1
 .br (!Zc4 l.2.2.2.1 7||(!Zc4 c.2.2.2.2.2.2.2.1 6||(!Zc4 l.2.2.2.2.2.2.1 5||(!Zc4 l.2.2.2.2.2.2.2.1 4||Zc4 x1 3)))) (.br (!Zc4 l.2.2.2.1 7||(!Zc4 c.2.2.2.2.2.2.2.1 6||(!Zc4 l.2.2.2.2.2.2.1 5||Zc4 l.2.2.2.2.2.2.2.1 4))) (.br (!Zc4 l.2.2.2.1 7||(!Zc4 c.2.2.2.2.2.2.2.1 6||Zc4 l.2.2.2.2.2.2.1 5)) (.br (!Zc4 l.2.2.2.1 7||Zc4 c.2.2.2.2.2.2.2.1 6) (.br (Zc4 l.2.2.2.1 7) (Ls ((orI u8 (orI u8 (orI u8 (orI u8 (orI u8 (ZxJ l.2.2.2.1 7) (ZxJ c.2.2.2.2.2.2.2.1 6)) (ZxJ l.2.2.2.2.2.2.1 5)) (ZxJ l.2.2.2.2.2.2.2.1 4)) (ZxJ x1 3)) (andI u8 c.2.2.2.2.2.1 7),c.1,c.2.1,c.2.2.1,c.2.2.2.1,c.2.2.2.2.1,c.2.2.2.2.2.1,c.2.2.2.2.2.2.1,c.2.2.2.2.2.2.2.1,c.2.2.2.2.2.2.2.2.1,c.2.2.2.2.2.2.2.2.2.1,false,false,c.2.2.2.2.2.2.2.2.2.2.2.2))) Ln) Ln) Ln) Ln) Ln
def pRim (c:TC) (l:QT1):Int×TC:=getO ZEO.Df (ZQ9 c l).val
def ZVw (c:TC) (l:QT1):Bool:=okB (ZQ9 c l).val
def pRimE:En:=Zi ZLZ ZEO (λa=>some (ZVw a.1 a.2)) (λa=>pRim a.1 a.2)
theorem ZVv:Zb prog 231 pRimE:=
 pureP 255 [(300,ZTo)] [] _ _ ⟨ZQ6,Tv⟩ Tryz.func231 Tryz.call231 trivial
abbrev ZLO:List Sh:=[Sh.agg Z8,So Ka]
abbrev ZLP:Rs:=Rs.one (Sh.agg Z8)
def ZVr (c:TC) (a:Int):RT TC:=
 .Lf ((c.1,c.2.1,c.2.2.1,c.2.2.2.1,c.2.2.2.2.1,bif andI u8 a 8 !=0 then andI u8 a 7 else c.2.2.2.2.2.1,c.2.2.2.2.2.2.1,!andI u8 a 16 !=0&&c.2.2.2.2.2.2.2.1,c.2.2.2.2.2.2.2.2.1,c.2.2.2.2.2.2.2.2.2.1,c.2.2.2.2.2.2.2.2.2.2.1,c.2.2.2.2.2.2.2.2.2.2.2.1,bif andI u8 a 64 !=0 then andI u8 a 128 !=0 else c.2.2.2.2.2.2.2.2.2.2.2.2))
def pSim (c:TC) (a:Int):TC:=(ZVr c a).val
def pSimE:En:=Zi ZLO ZLP (λ_=>none) (λa=>pSim a.1 a.2)
theorem ZVq:Zb prog 232 pSimE:=
 pureQ 31 [] [] _ _ trivial Tryz.func232 Tryz.call232 trivial
def ZBG (c:Int) (f:TF):RT (Bool):=
 .br (bif c==0 then c==0 else c==1) (.Lf (f.2.1==(c==1))) (.br (bif c==2 then c==2 else c==3) (.Lf (f.2.2.2.2.2.2==(c==3))) (.br (bif c==4 then c==4 else c==5) (.Lf (f.2.2.2.2.1==(c==5))) (.br (bif c==6 then c==6 else c==7) (.Lf (f.1==(c==7))) (.br (bif c==8 then c==8 else c==9) (.Lf (f.2.2.1==(c==9))) (.br (c==10) (.Lf f.2.2.2.2.2.1) (.Lf (c==11)))))))
def ZMN (c:Int) (f:TF):Bool:=(ZBG c f).val
def ZVP:En:=Zi ZMh ZnX (λ_=>none) (λa=>ZMN a.1 a.2)
theorem ZMM:Zb prog 353 ZVP:=
 pureQ 70644700037215 [] [] _ _ trivial Tryz.func353 Tryz.call353 trivial
def Ztk (s:Int):RT (Int):=
 .br (s==1) (.Lf (36)) (.br (s==2) (.Lf (60)) (.br (s==3) (.Lf (52)) (.br (s==4) (.Lf (44)) (.Lf (0)))))
def ZAA (s:Int):Int:=(Ztk s).val
def ZQ0:En:=Zi ZxE ZBF (λ_=>none) (λa=>ZAA a)
theorem ZG3:Zb prog 155 ZQ0:=
 pureQ 1367 [] [] _ _ trivial Tryz.func155 Tryz.call155 trivial
abbrev ZEW:Rs:=Rs.tup [Sh.agg (R.Pq Kc (R.Pq Kc (R.Pq Kc (R.Pq Kc (R.Pq Kc (R.Pq Kc (R.Pq Kc Kc))))))),So R.bool]
def ZMz (op:Int):RT (TI×Bool):=
 .br (op==8) (.Lf (((40,1,0,0,0,0,0,0),true))) (.br (op==16) (.Lf (((41,1,0,0,0,0,0,0),true))) (.br (op==24) (.Lf (((42,1,0,0,0,0,0,0),true))) (.br (op==32) (.Lf (((38,1,0,0,0,0,0,0),true))) (.br (op==40) (.Lf (((43,2,0,0,0,0,0,0),true))) (.br (op==48) (.Lf (((39,1,0,0,0,0,0,0),true))) (.br (op==56) (.Lf (((44,2,0,0,0,0,0,0),true))) (.br (op==203) (.Lf (((45,1,0,0,0,0,10,0),true))) (.br (op==217) (.Lf (((46,1,0,0,0,0,0,0),true))) (.br (op==221) (.Lf (((24,3,0,0,0,0,8,0),true))) (.br (op==237) (.Lf (((47,1,0,0,0,0,0,0),true))) (.br (op==253) (.Lf (((24,3,0,0,0,0,9,0),true))) (.Lf (((0,0,0,0,0,0,0,0),false))))))))))))))
def ZMB (op:Int):TI×Bool:=(ZMz op).val
def ZMA:En:=Zi ZxM ZEW (λ_=>none) (λa=>ZMB a)
theorem ZMy:Zb prog 223 ZMA:=
 pureQ 314146179375 [] [] _ _ trivial Tryz.func223 Tryz.call223 trivial
def ZxT (op:Int):RT (TI×Bool):=
 .br (bif op==0 then op==0 else bif op==8 then op==8 else bif op==16 then op==16 else bif op==24 then op==24 else bif op==32 then op==32 else bif op==40 then op==40 else bif op==48 then op==48 else op==56) (.Lf (((1,1,0,0,0,0,0,0),true))) (.br (bif op==195 then op==195 else op==203) (.Lf (((24,3,0,0,0,0,11,0),true))) (.br (bif op==201 then op==201 else op==217) (.Lf (((26,1,0,0,0,0,11,0),true))) (.br (bif op==205 then op==205 else bif op==221 then op==221 else bif op==237 then op==237 else op==253) (.Lf (((25,3,0,0,0,0,11,0),true))) (.Lf (((0,0,0,0,0,0,0,0),false))))))
def Zjt (op:Int):TI×Bool:=(ZxT op).val
def ZxU:En:=Zi ZxM ZEW (λ_=>none) (λa=>Zjt a)
theorem ZBS:Zb prog 224 ZxU:=
 pureQ 8945711 [] [] _ _ trivial Tryz.func224 Tryz.call224 trivial
abbrev ZAU:Rs:=Rs.one (Sh.agg (R.Pq Kc (R.Pq Kc (R.Pq Kc (R.Pq Kc (R.Pq Kc (R.Pq Kc (R.Pq Kc Kc))))))))
def ZMm (op:Int):RT (Option TI):=
 let x1:QT33:=(0,0,i64.wrap (andI u8 (shrI u8 op 4) 3),0,0,0)
 let x2:QT28:=(1,x1)
 let x3:=decide (i64.wrap (andI u8 (shrI u8 op 3) 7)<4)&&andI u8 op 8 !=0
 let x4:=decide (0<=i64.wrap (i64.wrap (andI u8 (shrI u8 op 3) 7)-4)/\i64.wrap (i64.wrap (andI u8 (shrI u8 op 3) 7)-4)<4)
 let x5:=i64.wrap (i64.wrap (andI u8 (shrI u8 op 3) 7)-4)==0
 let x6:=i64.wrap (i64.wrap (andI u8 (shrI u8 op 3) 7)-4)== ↑(0+1)
 let x7:=i64.wrap (i64.wrap (andI u8 (shrI u8 op 3) 7)-4)== ↑(0+1+1)
 let x8:QT33:=(i64.wrap (andI u8 (shrI u8 op 3) 7),0,0,0,0,0)
 let x9:QT28:=(1,x8)
 .br (andI u8 op 7==1) (.br (andI u8 op 8 !=0) (Ls ((18,x2))) (Ls ((4,3,x1)))) (.br (!andI u8 op 7==2||(x3||(decide (i64.wrap (andI u8 (shrI u8 op 3) 7)<4)||x4))) (.br (andI u8 op 7==2) (.br (x3) (Ls ((9,x2))) (.br (decide (i64.wrap (andI u8 (shrI u8 op 3) 7)<4)) (Ls ((10,x2))) (Ls ((bif x5 then 8 else bif x6 then 7 else bif x7 then 6 else 5,3,0,0,0,0,0,0))))) (.br (andI u8 op 7==3) (.br (andI u8 op 8 !=0) (Ls ((17,x2))) (Ls ((16,x2)))) (.br (andI u8 op 7==4) (Ls ((14,x9))) (.br (andI u8 op 7==5) (Ls ((15,x9))) (.br (andI u8 op 7==6) (Ls ((3,2,x8))) (.br (decide (i64.wrap (andI u8 (shrI u8 op 3) 7)<4)) (Ls ((23,1,0,0,0,i64.wrap (andI u8 (shrI u8 op 3) 7),0,0))) (.br (x4) (Ls ((bif x5 then 19 else bif x6 then 20 else bif x7 then 21 else 22,1,0,0,0,0,0,0))) Ln))))))) Ln)
def ZVG (op:Int):QT6:=getO ZAU.Df (ZMm op).val
def ZMn (op:Int):Bool:=okB (ZMm op).val
def ZTt:En:=Zi ZxM ZAU (λa=>some (ZMn a)) (λa=>ZVG a)
theorem ZRj:Zb prog 225 ZTt:=
 pureP 614758941389750335 [] [] _ _ trivial Tryz.func225 Tryz.call225 trivial
def ZAV (op:Int):RT (Option TI):=
 let x1:QT33:=(0,0,0,0,i64.wrap (andI u8 (shrI u8 op 3) 7),0)
 let x2:QT28:=(1,0,0,i64.wrap (andI u8 (shrI u8 op 4) 3),0,0,0)
 let x3:=andI u8 op 7==2||(!andI u8 op 7==3||(!decide (i64.wrap (andI u8 (shrI u8 op 3) 7)<4)||decide (0<=i64.wrap (i64.wrap (andI u8 (shrI u8 op 3) 7)-2)/\i64.wrap (i64.wrap (andI u8 (shrI u8 op 3) 7)-2)<2)))
 let x4:QT28:=(3,x1)
 .br (andI u8 op 7==0) (Ls ((26,1,x1))) (.br (andI u8 op 7==1) (.br (!andI u8 op 8 !=0) (Ls ((31,x2))) (.br (i64.wrap (andI u8 (shrI u8 op 3) 7)==5) (Ls ((28,1,0,0,0,0,0,0))) (Ls ((29,1,0,0,0,0,0,0))))) (.br (!x3||(andI u8 op 7==2||(!andI u8 op 7==3||(decide (i64.wrap (andI u8 (shrI u8 op 3) 7)<4)||decide (0<=i64.wrap (i64.wrap (andI u8 (shrI u8 op 3) 7)-4)/\i64.wrap (i64.wrap (andI u8 (shrI u8 op 3) 7)-4)<4))))) (.br (x3) (.br (andI u8 op 7==2) (Ls ((24,x4))) (.br (andI u8 op 7==3) (.br (decide (i64.wrap (andI u8 (shrI u8 op 3) 7)<4)) (Ls ((bif i64.wrap (i64.wrap (andI u8 (shrI u8 op 3) 7)-2)==0 then 34 else 33,2,0,0,0,0,0,0))) (Ls ((bif i64.wrap (i64.wrap (andI u8 (shrI u8 op 3) 7)-4)==0 then 32 else bif i64.wrap (i64.wrap (andI u8 (shrI u8 op 3) 7)-4)== ↑(0+1) then 11 else bif i64.wrap (i64.wrap (andI u8 (shrI u8 op 3) 7)-4)== ↑(0+1+1) then 36 else 35,1,0,0,0,0,0,0)))) (.br (andI u8 op 7==4) (Ls ((25,x4))) (.br (andI u8 op 7==5) (Ls ((30,x2))) (.br (andI u8 op 7==6) (Ls ((13,2,0,0,0,i64.wrap (andI u8 (shrI u8 op 3) 7),0,0))) (Ls ((27,1,0,0,0,0,0,i64.wrap (andI u8 (shrI u8 op 3) 7))))))))) Ln) Ln))
def ZMq (op:Int):QT6:=getO ZAU.Df (ZAV op).val
def ZAW (op:Int):Bool:=okB (ZAV op).val
def ZMp:En:=Zi ZxM ZAU (λa=>some (ZAW a)) (λa=>ZMq a)
theorem ZMo:Zb prog 226 ZMp:=
 pureP 614741495173873727 [] [] _ _ trivial Tryz.func226 Tryz.call226 trivial
def ZfU (chip:Int) (op:Int):RT (Option TI):=
 let x1:QT6:=(37,1,0,0,0,0,0,0)
 let x2:QT6:=(2,1,i64.wrap (andI u8 (shrI u8 op 3) 7),i64.wrap (andI u8 op 7),0,0,0,0)
 let x3:QT6:=(12,1,0,i64.wrap (andI u8 op 7),0,i64.wrap (andI u8 (shrI u8 op 3) 7),0,0)
 .br (chip==2) (.br (ZMB op).2 (Ls (ZMB op).1) (.br (Zjt op).2 (Ls (Zjt op).1) (.br (!shrI u8 op 6==0||ZMn op) (.br (shrI u8 op 6==0) (Ls (ZVG op)) (.br (shrI u8 op 6==1) (.br (op==118) (Ls (x1)) (Ls (x2))) (.br (shrI u8 op 6==2) (Ls (x3)) (.br (ZAW op) (Ls (ZMq op)) Ln)))) Ln))) (.br (Zjt op).2 (Ls (Zjt op).1) (.br (!shrI u8 op 6==0||ZMn op) (.br (shrI u8 op 6==0) (Ls (ZVG op)) (.br (shrI u8 op 6==1) (.br (op==118) (Ls (x1)) (Ls (x2))) (.br (shrI u8 op 6==2) (Ls (x3)) (.br (ZAW op) (Ls (ZMq op)) Ln)))) Ln))
def ZoI (chip:Int) (op:Int):QT6:=getO ZAU.Df (ZfU chip op).val
def Zl7 (chip:Int) (op:Int):Bool:=okB (ZfU chip op).val
def ZRu:En:=Zi ZxC ZAU (λa=>some (Zl7 a.1 a.2)) (λa=>ZoI a.1 a.2)
theorem ZH3:Zb prog 154 ZRu:=
 pureP 17594467746303 [(223,ZMA),(224,ZxU),(225,ZTt),(226,ZMp)] [] _ _ ⟨ZMy,ZBS,ZRj,ZMo,Tv⟩ Tryz.func154 Tryz.call154 trivial
def rOnT (chip:Int):RT (Bool):=
 .Lf (chip==2)
def rOn (chip:Int):Bool:=(rOnT chip).val
def ZQv (b:Int):RT (Bool):=
 let x1:=i64.wrap (i64.wrap (i64.wrap (i64.wrap (0+1)+1)+1)+1)
 let x2:=i64.wrap (x1+1)
 let x3:=i64.wrap (x2+1)
 let x4:=bif andI u8 (shrI u8 b (i64.wrap (0+1))) 1==1 then !!andI u8 (shrI u8 b 0) 1==1 else !andI u8 (shrI u8 b 0) 1==1
 let x5:=bif andI u8 (shrI u8 b (i64.wrap (i64.wrap (0+1)+1))) 1==1 then !x4 else x4
 let x6:=bif andI u8 (shrI u8 b (i64.wrap (i64.wrap (i64.wrap (0+1)+1)+1))) 1==1 then !x5 else x5
 let x7:=bif andI u8 (shrI u8 b x1) 1==1 then !x6 else x6
 let x8:=bif andI u8 (shrI u8 b x2) 1==1 then !x7 else x7
 let x9:=bif andI u8 (shrI u8 b x3) 1==1 then !x8 else x8
 .Lf (bif andI u8 (shrI u8 b (i64.wrap (x3+1))) 1==1 then !x9 else x9)
def ZsJ (b:Int):Bool:=(ZQv b).val
def rMajT (a:Bool) (b:Bool) (c:Bool):RT (Bool):=
 .Lf (bif a then b||bif a then c||b&&c else b&&c else bif a then c||b&&c else b&&c)
def rMaj (a:Bool) (b:Bool) (c:Bool):Bool:=(rMajT a b c).val
def rOneT (b:Bool):RT (Int):=
 .br (b) (.Lf (1)) (.Lf (0))
def rOne (b:Bool):Int:=(rOneT b).val
def ZsF (n:Int):RT (Int):=
 .Lf (i64.wrap (IntKind.i8.wrap n))
def Ze4 (n:Int):Int:=(ZsF n).val
def ZUX (a:Int) (b:Int) (c:Bool):RT (QT25):=
 let x1:=decide (i64.wrap (i64.wrap (Ze4 a+Ze4 b)+rOne c)< -128)
 let x2:=i64.wrap (i64.wrap (i64.wrap a+i64.wrap b)+rOne c)
 let x3:=u8.wrap x2
 let x4:=decide (x2>255)
 let x5:=decide (i64.wrap (i64.wrap (i64.wrap (andI u8 a 15)+i64.wrap (andI u8 b 15))+rOne c)>15)
 .Lf ((bif x1 then x3 else x3,bif x1 then x4 else x4,bif x1 then x5 else x5,x1||decide (i64.wrap (i64.wrap (Ze4 a+Ze4 b)+rOne c)>127)))
def rSum (a:Int) (b:Int) (c:Bool):QT25:=(ZUX a b c).val
def ZKV (a:Int) (b:Int) (c:Bool):RT (QT25):=
 let x1:=decide (i64.wrap (i64.wrap (Ze4 a-Ze4 b)-rOne c)< -128)
 let x2:=i64.wrap (i64.wrap (i64.wrap a-i64.wrap b)-rOne c)
 let x3:=u8.wrap x2
 let x4:=decide (x2<0)
 let x5:=decide (i64.wrap (i64.wrap (i64.wrap (i64.wrap (andI u8 a 15)+i64.wrap (u8.wrap (15-andI u8 b 15)))+1)-rOne c)>15)
 .Lf ((bif x1 then x3 else x3,bif x1 then x4 else x4,bif x1 then x5 else x5,x1||decide (i64.wrap (i64.wrap (Ze4 a-Ze4 b)-rOne c)>127)))
def Zc1 (a:Int) (b:Int) (c:Bool):QT25:=(ZKV a b c).val
def ZXJ (h:Int) (l:Int):RT (Int):=
 .Lf (orI u16 (shlI u16 (u16.wrap h) 8) (u16.wrap l))
def ZfR (h:Int) (l:Int):Int:=(ZXJ h l).val
def ZU9 (b:Bool) (n:Int):RT (Option (Int)):=
 .br (!b||decide (0<=n)) (.br (b) (Ls (shlI u8 1 n)) (Ls (0))) Ln
def rBit (b:Bool) (n:Int):Int:=getO ZNl.Df (ZU9 b n).val
def Zek (b:Bool) (n:Int):Bool:=okB (ZU9 b n).val
def ZDY (chip:Int) (f:TF):RT (Option (Int)):=
 let x1:=orI u8 (orI u8 (orI u8 (orI u8 (rBit f.1 7) (rBit f.2.1 6)) (rBit f.2.2.2.1 4)) (rBit f.2.2.2.2.1 2)) (rBit f.2.2.2.2.2.2 0)
 .br (!Zek f.1 7||(!Zek f.2.1 6||(!Zek f.2.2.2.1 4||(!Zek f.2.2.2.2.1 2||Zek f.2.2.2.2.2.2 0)))) (.br (!Zek f.1 7||(!Zek f.2.1 6||(!Zek f.2.2.2.1 4||Zek f.2.2.2.2.1 2))) (.br (!Zek f.1 7||(!Zek f.2.1 6||Zek f.2.2.2.1 4)) (.br (!Zek f.1 7||Zek f.2.1 6) (.br (Zek f.1 7) (.br (!rOn chip||(!Zek f.2.2.1 5||Zek f.2.2.2.2.2.1 1)) (.br (!rOn chip||Zek f.2.2.1 5) (.br (rOn chip) (Ls (orI u8 (orI u8 x1 (rBit f.2.2.1 5)) (rBit f.2.2.2.2.2.1 1))) (Ls (orI u8 x1 2))) Ln) Ln) Ln) Ln) Ln) Ln) Ln
def ZU2 (chip:Int) (f:TF):Int:=getO ZNl.Df (ZDY chip f).val
def ZKJ (chip:Int) (f:TF):Bool:=okB (ZDY chip f).val
def ZDM (chip:Int) (b:Int):RT TF:=
 .Lf ((andI u8 b 128 !=0,andI u8 b 64 !=0,rOn chip&&andI u8 b 32 !=0,andI u8 b 16 !=0,andI u8 b 4 !=0,rOn chip&&andI u8 b 2 !=0,andI u8 b 1 !=0))
def ZzW (chip:Int) (b:Int):TF:=(ZDM chip b).val
def rOfT (r:Int):RT TF:=
 .Lf ((decide (r>=128),r==0,false,false,ZsJ r,false,false))
def rOf (r:Int):TF:=(rOfT r).val
def Zwz (chip:Int) (f:TF) (k:Bool) (v:Bool):RT TF:=
 .Lf ((f.1,f.2.1,rOn chip&&bif rOn chip then k else k,f.2.2.2.1,f.2.2.2.2.1,bif rOn chip then rOn chip&&v else rOn chip&&v,f.2.2.2.2.2.2))
def ZsK (chip:Int) (f:TF) (k:Bool) (v:Bool):TF:=(Zwz chip f k v).val
def ZQz (r:TR) (n:Int):RT (Option (Int)):=
 .br (decide (0<=andI i64 n 7/\andI i64 n 7<8)) (Ls (bif andI i64 n 7==0 then r.2.1 else bif andI i64 n 7== ↑(0+1) then r.2.2.1 else bif andI i64 n 7== ↑(0+1+1) then r.2.2.2.1 else bif andI i64 n 7== ↑(0+1+1+1) then r.2.2.2.2.1 else bif andI i64 n 7== ↑(0+1+1+1+1) then r.2.2.2.2.2.1 else bif andI i64 n 7== ↑(0+1+1+1+1+1) then r.2.2.2.2.2.2.1 else bif andI i64 n 7== ↑(0+1+1+1+1+1+1) then 0 else r.1)) Ln
def rGet (r:TR) (n:Int):Int:=getO ZNl.Df (ZQz r n).val
def ZKS (r:TR) (n:Int):Bool:=okB (ZQz r n).val
def ZXz (r:TR) (n:Int) (v:Int):RT TR:=
 .Lf ((bif andI i64 n 7==0 then r.1 else bif andI i64 n 7==1 then r.1 else bif andI i64 n 7==2 then r.1 else bif andI i64 n 7==3 then r.1 else bif andI i64 n 7==4 then r.1 else bif andI i64 n 7==5 then r.1 else bif andI i64 n 7==7 then v else r.1,bif andI i64 n 7==0 then v else r.2.1,bif andI i64 n 7==0 then r.2.2.1 else bif andI i64 n 7==1 then v else r.2.2.1,bif andI i64 n 7==0 then r.2.2.2.1 else bif andI i64 n 7==1 then r.2.2.2.1 else bif andI i64 n 7==2 then v else r.2.2.2.1,bif andI i64 n 7==0 then r.2.2.2.2.1 else bif andI i64 n 7==1 then r.2.2.2.2.1 else bif andI i64 n 7==2 then r.2.2.2.2.1 else bif andI i64 n 7==3 then v else r.2.2.2.2.1,bif andI i64 n 7==0 then r.2.2.2.2.2.1 else bif andI i64 n 7==1 then r.2.2.2.2.2.1 else bif andI i64 n 7==2 then r.2.2.2.2.2.1 else bif andI i64 n 7==3 then r.2.2.2.2.2.1 else bif andI i64 n 7==4 then v else r.2.2.2.2.2.1,bif andI i64 n 7==0 then r.2.2.2.2.2.2.1 else bif andI i64 n 7==1 then r.2.2.2.2.2.2.1 else bif andI i64 n 7==2 then r.2.2.2.2.2.2.1 else bif andI i64 n 7==3 then r.2.2.2.2.2.2.1 else bif andI i64 n 7==4 then r.2.2.2.2.2.2.1 else bif andI i64 n 7==5 then v else r.2.2.2.2.2.2.1,r.2.2.2.2.2.2.2))
def rSet (r:TR) (n:Int) (v:Int):TR:=(ZXz r n v).val
def ZS7 (r:TR) (n:Int):RT (Option (Int)):=
 .br (andI i64 n 3==3) (Ls r.2.2.2.2.2.2.2.2.1) (.br (!ZKS r (i64.wrap (2*andI i64 n 3))||ZKS r (i64.wrap (i64.wrap (2*andI i64 n 3)+1))) (.br (ZKS r (i64.wrap (2*andI i64 n 3))) (Ls (ZfR (rGet r (i64.wrap (2*andI i64 n 3))) (rGet r (i64.wrap (i64.wrap (2*andI i64 n 3)+1))))) Ln) Ln)
def ZbM (r:TR) (n:Int):Int:=getO ZBF.Df (ZS7 r n).val
def Zwv (r:TR) (n:Int) (v:Int):RT TR:=
 .br (andI i64 n 3==3) (.Lf ((r.1,r.2.1,r.2.2.1,r.2.2.2.1,r.2.2.2.2.1,r.2.2.2.2.2.1,r.2.2.2.2.2.2.1,r.2.2.2.2.2.2.2.1,v,r.2.2.2.2.2.2.2.2.2))) (.Lf (rSet (rSet r (i64.wrap (2*andI i64 n 3)) (u8.wrap (shrI u16 v 8))) (i64.wrap (i64.wrap (2*andI i64 n 3)+1)) (u8.wrap v)))
def Z0 (r:TR) (n:Int) (v:Int):TR:=(Zwv r n v).val
def ZXE (chip:Int) (r:TR):RT (Option (Int)):=
 .br (ZKJ chip r.2.2.2.2.2.2.2.1) (Ls (ZfR r.1 (ZU2 chip r.2.2.2.2.2.2.2.1))) Ln
def rPSW (chip:Int) (r:TR):Int:=getO ZBF.Df (ZXE chip r).val
def ZDP (chip:Int) (r:TR) (v:Int):RT TR:=
 .Lf ((u8.wrap (shrI u16 v 8),r.2.1,r.2.2.1,r.2.2.2.1,r.2.2.2.2.1,r.2.2.2.2.2.1,r.2.2.2.2.2.2.1,ZzW chip (u8.wrap v),r.2.2.2.2.2.2.2.2))
def Zna (chip:Int) (r:TR) (v:Int):TR:=(ZDP chip r v).val
def rDoT (chip:Int) (op:Int) (a:Int) (b:Int) (f:TF):RT (QT2):=
 let x1:=bif andI i64 op 7==0 then andI i64 op 7==0 else andI i64 op 7==1
 let x2:=bif andI i64 op 7==2 then andI i64 op 7==2 else bif andI i64 op 7==3 then andI i64 op 7==3 else andI i64 op 7==7
 let x3:Int:=bif x1 then bif andI i64 op 7==1 then (rSum a b f.2.2.2.2.2.2).1 else (rSum a b false).1 else bif x2 then bif andI i64 op 7==3 then (Zc1 a b f.2.2.2.2.2.2).1 else (Zc1 a b false).1 else bif andI i64 op 7==4 then bif rOn chip then andI u8 a b else andI u8 a b else bif andI i64 op 7==5 then xorI u8 a b else bif andI i64 op 7==6 then orI u8 a b else 0
 let x4:=rOf x3
 let x5:=x4.2
 let x6:=x5.2
 let x7:=x6.2.2
 let x8:=ZsK chip (x4.1,x5.1,x6.1,bif x1 then bif andI i64 op 7==1 then (rSum a b f.2.2.2.2.2.2).2.2.1 else (rSum a b false).2.2.1 else bif x2 then bif andI i64 op 7==3 then (Zc1 a b f.2.2.2.2.2.2).2.2.1 else (Zc1 a b false).2.2.1 else andI i64 op 7==4&&(rOn chip||andI u8 (orI u8 a b) 8 !=0),x7.1,x7.2.1,bif x1 then bif andI i64 op 7==1 then (rSum a b f.2.2.2.2.2.2).2.1 else (rSum a b false).2.1 else x2&&bif andI i64 op 7==3 then (Zc1 a b f.2.2.2.2.2.2).2.1 else (Zc1 a b false).2.1) (rMaj (decide (a>=128)) (bif x1 then decide (b>=128) else bif x2 then !decide (b>=128) else decide (b>=128)) (decide (x3>=128))) (bif x1 then bif andI i64 op 7==1 then (rSum a b f.2.2.2.2.2.2).2.2.2 else (rSum a b false).2.2.2 else x2&&bif andI i64 op 7==3 then (Zc1 a b f.2.2.2.2.2.2).2.2.2 else (Zc1 a b false).2.2.2)
 .br (andI i64 op 7==7) (.Lf ((a,x8))) (.Lf ((x3,x8)))
def rDo (chip:Int) (op:Int) (a:Int) (b:Int) (f:TF):QT2:=(rDoT chip op a b f).val
def ZXL (chip:Int) (v:Int) (f:TF):RT (QT2):=
 .Lf (((rSum v 1 false).1,ZsK chip ((rOf (rSum v 1 false).1).1,(rOf (rSum v 1 false).1).2.1,(rOf (rSum v 1 false).1).2.2.1,(rSum v 1 false).2.2.1,(rOf (rSum v 1 false).1).2.2.2.2.1,(rOf (rSum v 1 false).1).2.2.2.2.2.1,f.2.2.2.2.2.2) (rMaj (decide (v>=128)) false (decide ((rSum v 1 false).1>=128))) (rSum v 1 false).2.2.2))
def rInr (chip:Int) (v:Int) (f:TF):QT2:=(ZXL chip v f).val
def ZXP (chip:Int) (v:Int) (f:TF):RT (QT2):=
 .Lf (((Zc1 v 1 false).1,ZsK chip ((rOf (Zc1 v 1 false).1).1,(rOf (Zc1 v 1 false).1).2.1,(rOf (Zc1 v 1 false).1).2.2.1,(Zc1 v 1 false).2.2.1,(rOf (Zc1 v 1 false).1).2.2.2.2.1,(rOf (Zc1 v 1 false).1).2.2.2.2.2.1,f.2.2.2.2.2.2) (rMaj (decide (v>=128)) true (decide ((Zc1 v 1 false).1>=128))) (Zc1 v 1 false).2.2.2))
def rDcr (chip:Int) (v:Int) (f:TF):QT2:=(ZXP chip v f).val
def ZXK (chip:Int) (v:Int) (f:TF):RT (QT2):=
 .Lf ((u16.wrap (v+1),f.1,f.2.1,bif rOn chip then v==65535 else f.2.2.1,f.2.2.2))
def rInx (chip:Int) (v:Int) (f:TF):QT2:=(ZXK chip v f).val
def ZXO (chip:Int) (v:Int) (f:TF):RT (QT2):=
 .Lf ((u16.wrap (v-1),f.1,f.2.1,bif rOn chip then v==0 else f.2.2.1,f.2.2.2))
def rDcx (chip:Int) (v:Int) (f:TF):QT2:=(ZXO chip v f).val
def ZXQ (chip:Int) (a:Int) (b:Int) (f:TF):RT (QT2):=
 .Lf ((u16.wrap (a+b),f.1,f.2.1,f.2.2.1,f.2.2.2.1,f.2.2.2.2.1,bif rOn chip then decide (i64.wrap (i64.wrap (IntKind.i16.wrap a)+i64.wrap (IntKind.i16.wrap b))< -32768)||decide (i64.wrap (i64.wrap (IntKind.i16.wrap a)+i64.wrap (IntKind.i16.wrap b))>32767) else f.2.2.2.2.2.1,decide (i64.wrap (i64.wrap a+i64.wrap b)>65535)))
def rDad (chip:Int) (a:Int) (b:Int) (f:TF):QT2:=(ZXQ chip a b f).val
def ZTa (a:Int) (b:Int):RT (QT2):=
 let x1:=Zc1 (u8.wrap (shrI u16 a 8)) (u8.wrap (shrI u16 b 8)) (Zc1 (u8.wrap a) (u8.wrap b) false).2.1
 let x2:=x1.1
 let x3:=x2==0
 let x4:=ZfR x2 (Zc1 (u8.wrap a) (u8.wrap b) false).1
 let x5:=decide (x2>=128)
 let x6:=rMaj (decide (a>=32768)) (decide (b<32768)) x5
 let x7:=x1.2
 let x8:=x7.2
 let x9:=x8.1
 let x10:=ZsJ x2
 let x11:=x8.2
 let x12:=x7.1
 .Lf ((bif x3 then x4 else x4,bif x3 then x5 else x5,x3&&(Zc1 (u8.wrap a) (u8.wrap b) false).1==0,bif x3 then x6 else x6,bif x3 then x9 else x9,bif x3 then x10 else x10,bif x3 then x11 else x11,bif x3 then x12 else x12))
def ZKU (a:Int) (b:Int):QT2:=(ZTa a b).val
def ZXR (chip:Int) (a:Int) (f:TF):RT (QT2):=
 let x1:Int:=bif f.2.2.2.1||decide (andI u8 a 15>9) then 6 else 0
 let x2:=rSum a (bif f.2.2.2.2.2.2||decide (a>153) then u8.wrap (x1+96) else x1) false
 let x3:=x2.1
 let x4:=rOf x3
 let x5:=x4.2
 let x6:=x5.2
 let x7:=x2.2.2
 let x8:=x6.2.2
 .Lf ((x3,ZsK chip (x4.1,x5.1,x6.1,x7.1,x8.1,x8.2.1,f.2.2.2.2.2.2||decide (a>153)) (rMaj (decide (a>=128)) false (decide (x3>=128))) x7.2))
def rDaa (chip:Int) (a:Int) (f:TF):QT2:=(ZXR chip a f).val
def ZXA (op:Int) (a:Int) (c:Bool):RT (Option (Int×Bool)):=
 .br (andI i64 op 3==0||(andI i64 op 3==1||(!andI i64 op 3==2||Zek c 0))) (.br (andI i64 op 3==0) (Ls ((orI u8 (shlI u8 a 1) (shrI u8 a 7),decide (a>=128)))) (.br (andI i64 op 3==1) (Ls ((orI u8 (shrI u8 a 1) (shlI u8 a 7),andI u8 a 1==1))) (.br (andI i64 op 3==2) (Ls ((orI u8 (shlI u8 a 1) (rBit c 0),decide (a>=128)))) (.br (Zek c 7) (Ls ((orI u8 (shrI u8 a 1) (rBit c 7),andI u8 a 1==1))) Ln)))) Ln
def rRot (op:Int) (a:Int) (c:Bool):Int×Bool:=getO ZEN.Df (ZXA op a c).val
def ZXT (v:Int):RT (Int×Bool):=
 .Lf ((orI u16 (shrI u16 v 1) (andI u16 v 32768),andI u16 v 1==1))
def ZQD (v:Int):Int×Bool:=(ZXT v).val
def ZS6 (v:Int) (c:Bool):RT (Option (Int×Bool×Bool)):=
 .br (Zek c 0) (Ls ((orI u16 (shlI u16 v 1) (u16.wrap (rBit c 0)),decide (v>=32768),andI u16 (orI u16 (shlI u16 v 1) (u16.wrap (rBit c 0))) 32768 !=andI u16 v 32768))) Ln
def ZKD (v:Int) (c:Bool):Int×Bool×Bool:=getO ZAN.Df (ZS6 v c).val
def ZKX (b:Bool) (n:Int):RT (Option (Int)):=
 .br (decide (0<=n)) (Ls (u8.wrap (shlI i64 (rOne b) n))) Ln
def Zh3 (b:Bool) (n:Int):Int:=getO ZNl.Df (ZKX b n).val
def ZaC (b:Bool) (n:Int):Bool:=okB (ZKX b n).val
def ZQr (c:TC) (l:QT1):RT (Option (Int×TC)):=
 let x1:=bif c.2.2.2.2.2.2.2.2.2.2.1 then c.2.2.2.2.2.2.2.2.2.2.2.1 else c.2.2.1
 .br (!ZaC l.2.2.2.1 7||(!ZaC c.2.2.2.2.2.2.2.1 6||(!ZaC l.2.2.2.2.2.2.1 5||(!ZaC l.2.2.2.2.2.2.2.1 4||ZaC x1 3)))) (.br (!ZaC l.2.2.2.1 7||(!ZaC c.2.2.2.2.2.2.2.1 6||(!ZaC l.2.2.2.2.2.2.1 5||ZaC l.2.2.2.2.2.2.2.1 4))) (.br (!ZaC l.2.2.2.1 7||(!ZaC c.2.2.2.2.2.2.2.1 6||ZaC l.2.2.2.2.2.2.1 5)) (.br (!ZaC l.2.2.2.1 7||ZaC c.2.2.2.2.2.2.2.1 6) (.br (ZaC l.2.2.2.1 7) (Ls ((orI u8 (orI u8 (orI u8 (orI u8 (orI u8 (Zh3 l.2.2.2.1 7) (Zh3 c.2.2.2.2.2.2.2.1 6)) (Zh3 l.2.2.2.2.2.2.1 5)) (Zh3 l.2.2.2.2.2.2.2.1 4)) (Zh3 x1 3)) (andI u8 c.2.2.2.2.2.1 7),c.1,c.2.1,c.2.2.1,c.2.2.2.1,c.2.2.2.2.1,c.2.2.2.2.2.1,c.2.2.2.2.2.2.1,c.2.2.2.2.2.2.2.1,c.2.2.2.2.2.2.2.2.1,c.2.2.2.2.2.2.2.2.2.1,false,false,c.2.2.2.2.2.2.2.2.2.2.2.2))) Ln) Ln) Ln) Ln) Ln
def rRim (c:TC) (l:QT1):Int×TC:=getO ZEO.Df (ZQr c l).val
def ZXD (c:TC) (l:QT1):Bool:=okB (ZQr c l).val
def ZUY (c:TC) (a:Int):RT TC:=
 .Lf ((c.1,c.2.1,c.2.2.1,c.2.2.2.1,c.2.2.2.2.1,bif andI u8 a 8 !=0 then andI u8 a 7 else c.2.2.2.2.2.1,c.2.2.2.2.2.2.1,!andI u8 a 16 !=0&&c.2.2.2.2.2.2.2.1,c.2.2.2.2.2.2.2.2.1,c.2.2.2.2.2.2.2.2.2.1,c.2.2.2.2.2.2.2.2.2.2.1,c.2.2.2.2.2.2.2.2.2.2.2.1,bif andI u8 a 64 !=0 then andI u8 a 128 !=0 else c.2.2.2.2.2.2.2.2.2.2.2.2))
def rSim (c:TC) (a:Int):TC:=(ZUY c a).val
def ZKQ (c:Int) (f:TF):RT (Bool):=
 .br (c==0) (.Lf (!f.2.1)) (.br (c==1) (.Lf f.2.1) (.br (c==2) (.Lf (!f.2.2.2.2.2.2)) (.br (c==3) (.Lf f.2.2.2.2.2.2) (.br (c==4) (.Lf (!f.2.2.2.2.1)) (.br (c==5) (.Lf f.2.2.2.2.1) (.br (c==6) (.Lf (!f.1)) (.br (c==7) (.Lf f.1) (.br (c==8) (.Lf (!f.2.2.1)) (.br (c==9) (.Lf f.2.2.1) (.br (c==10) (.Lf f.2.2.2.2.2.1) (.Lf (c==11))))))))))))
def Zgj (c:Int) (f:TF):Bool:=(ZKQ c f).val
def ZDL (s:Int):RT (Int):=
 .br (s==1) (.Lf (36)) (.br (s==2) (.Lf (60)) (.br (s==3) (.Lf (52)) (.br (s==4) (.Lf (44)) (.Lf (0)))))
def Zx (s:Int):Int:=(ZDL s).val
def ZqT (s:Int):RT (Bool):=
 .Lf (decide (s>=1)&&decide (s<=4))
def Zd (s:Int):Bool:=(ZqT s).val
def ZKC (op:Int):RT (TI×Bool):=
 .br (op==8) (.Lf (((40,1,0,0,0,0,0,0),true))) (.br (op==16) (.Lf (((41,1,0,0,0,0,0,0),true))) (.br (op==24) (.Lf (((42,1,0,0,0,0,0,0),true))) (.br (op==32) (.Lf (((38,1,0,0,0,0,0,0),true))) (.br (op==40) (.Lf (((43,2,0,0,0,0,0,0),true))) (.br (op==48) (.Lf (((39,1,0,0,0,0,0,0),true))) (.br (op==56) (.Lf (((44,2,0,0,0,0,0,0),true))) (.br (op==203) (.Lf (((45,1,0,0,0,0,10,0),true))) (.br (op==217) (.Lf (((46,1,0,0,0,0,0,0),true))) (.br (op==221) (.Lf (((24,3,0,0,0,0,8,0),true))) (.br (op==237) (.Lf (((47,1,0,0,0,0,0,0),true))) (.br (op==253) (.Lf (((24,3,0,0,0,0,9,0),true))) (.Lf (((0,0,0,0,0,0,0,0),false))))))))))))))
def ZDO (op:Int):TI×Bool:=(ZKC op).val
def ZS8 (y:Int) (z:Int) (p:Int) (q:Int):RT (Option TI):=
 let x1:=decide (0<=i64.wrap (y-4)/\i64.wrap (y-4)<4)
 .br (z==0) (Ls ((1,1,0,0,0,0,0,0))) (.br (z==1) (.br (q==0) (Ls ((4,3,0,0,p,0,0,0))) (Ls ((18,1,0,0,p,0,0,0)))) (.br (!z==2||((bif y==0 then y==0 else y==2)||((bif y==1 then y==1 else y==3)||x1))) (.br (z==2) (.br (bif y==0 then y==0 else y==2) (Ls ((10,1,0,0,p,0,0,0))) (.br (bif y==1 then y==1 else y==3) (Ls ((9,1,0,0,p,0,0,0))) (Ls ((bif i64.wrap (y-4)==0 then 8 else bif i64.wrap (y-4)== ↑(0+1) then 7 else bif i64.wrap (y-4)== ↑(0+1+1) then 6 else 5,3,0,0,0,0,0,0))))) (.br (!z==3||decide (0<=q/\q<2)) (.br (z==3) (Ls ((bif q==0 then 16 else 17,1,0,0,p,0,0,0))) (.br (z==4) (Ls ((14,1,y,0,0,0,0,0))) (.br (z==5) (Ls ((15,1,y,0,0,0,0,0))) (.br (z==6) (Ls ((3,2,y,0,0,0,0,0))) (.br (decide (y<4)) (Ls ((23,1,0,0,0,y,0,0))) (.br (x1) (Ls ((bif i64.wrap (y-4)==0 then 19 else bif i64.wrap (y-4)== ↑(0+1) then 20 else bif i64.wrap (y-4)== ↑(0+1+1) then 21 else 22,1,0,0,0,0,0,0))) Ln)))))) Ln)) Ln))
def rOlow (y:Int) (z:Int) (p:Int) (q:Int):QT6:=getO ZAU.Df (ZS8 y z p q).val
def ZXG (y:Int) (z:Int) (p:Int) (q:Int):Bool:=okB (ZS8 y z p q).val
def ZKK (y:Int) (z:Int) (p:Int) (q:Int):RT (Option TI):=
 .br (z==0) (Ls ((26,1,0,0,0,0,y,0))) (.br (z==1) (.br (q==0) (Ls ((31,1,0,0,p,0,0,0))) (.br (y==5) (Ls ((28,1,0,0,0,0,0,0))) (.br (y==7) (Ls ((29,1,0,0,0,0,0,0))) (Ls ((26,1,0,0,0,0,11,0)))))) (.br (z==2||(!z==3||((bif y==0 then y==0 else y==1)||(y==2||(y==3||decide (0<=i64.wrap (y-4)/\i64.wrap (y-4)<4)))))) (.br (z==2) (Ls ((24,3,0,0,0,0,y,0))) (.br (z==3) (.br (bif y==0 then y==0 else y==1) (Ls ((24,3,0,0,0,0,11,0))) (.br (y==2) (Ls ((34,2,0,0,0,0,0,0))) (.br (y==3) (Ls ((33,2,0,0,0,0,0,0))) (Ls ((bif i64.wrap (y-4)==0 then 32 else bif i64.wrap (y-4)== ↑(0+1) then 11 else bif i64.wrap (y-4)== ↑(0+1+1) then 36 else 35,1,0,0,0,0,0,0)))))) (.br (z==4) (Ls ((25,3,0,0,0,0,y,0))) (.br (z==5) (.br (q==0) (Ls ((30,1,0,0,p,0,0,0))) (Ls ((25,3,0,0,0,0,11,0)))) (.br (z==6) (Ls ((13,2,0,0,0,y,0,0))) (Ls ((27,1,0,0,0,0,0,y)))))))) Ln))
def ZXH (y:Int) (z:Int) (p:Int) (q:Int):QT6:=getO ZAU.Df (ZKK y z p q).val
def ZU4 (y:Int) (z:Int) (p:Int) (q:Int):Bool:=okB (ZKK y z p q).val
def Zhz (chip:Int) (op:Int):RT (Option TI):=
 .br ((ZDO op).2&&rOn chip) (Ls (ZDO op).1) (.br (!shrI u8 op 6==0||ZXG (i64.wrap (andI u8 (shrI u8 op 3) 7)) (i64.wrap (andI u8 op 7)) (shrI i64 (i64.wrap (andI u8 (shrI u8 op 3) 7)) 1) (andI i64 (i64.wrap (andI u8 (shrI u8 op 3) 7)) 1)) (.br (shrI u8 op 6==0) (Ls (rOlow (i64.wrap (andI u8 (shrI u8 op 3) 7)) (i64.wrap (andI u8 op 7)) (shrI i64 (i64.wrap (andI u8 (shrI u8 op 3) 7)) 1) (andI i64 (i64.wrap (andI u8 (shrI u8 op 3) 7)) 1))) (.br (shrI u8 op 6==1) (.br (op==118) (Ls ((37,1,0,0,0,0,0,0))) (Ls ((2,1,i64.wrap (andI u8 (shrI u8 op 3) 7),i64.wrap (andI u8 op 7),0,0,0,0)))) (.br (shrI u8 op 6==2) (Ls ((12,1,0,i64.wrap (andI u8 op 7),0,i64.wrap (andI u8 (shrI u8 op 3) 7),0,0))) (.br (ZU4 (i64.wrap (andI u8 (shrI u8 op 3) 7)) (i64.wrap (andI u8 op 7)) (shrI i64 (i64.wrap (andI u8 (shrI u8 op 3) 7)) 1) (andI i64 (i64.wrap (andI u8 (shrI u8 op 3) 7)) 1)) (Ls (ZXH (i64.wrap (andI u8 (shrI u8 op 3) 7)) (i64.wrap (andI u8 op 7)) (shrI i64 (i64.wrap (andI u8 (shrI u8 op 3) 7)) 1) (andI i64 (i64.wrap (andI u8 (shrI u8 op 3) 7)) 1))) Ln)))) Ln)
def Zc (chip:Int) (op:Int):QT6:=getO ZAU.Df (Zhz chip op).val
def ZsR (chip:Int) (op:Int):Bool:=okB (Zhz chip op).val
theorem Zxw (b:Int) (h:inR .u8 b):Zl5 b=true/\ZtC b=ZsJ b:=by have h1:=Zgd (λb=>Zl5 b&&(ZtC b==ZsJ b)) (by kernel_rfl) b h;simpa using h1
theorem Zyr (a b c:Bool):pMaj a b c=rMaj a b c:=by cases a<;>cases b<;>cases c<;>rfl
theorem ZTF (a:Bool):pOne a=rOne a:=by cases a<;>rfl
theorem ZJV (a b:Int) (c:Bool):pSum a b c=rSum a b c:=by simp only[pSum,ZVp,rSum,ZUX,RT.val,Yaw,ZnP,Zl2,Ze4,ZsF,ZTF]
theorem ZCX (a b:Int) (c:Bool):Zis a b c=Zc1 a b c:=by
 have h1:=ZYP a;have h2:=ZYP b;have e:IntKind.wrap .i64 (IntKind.wrap .i64 (IntKind.wrap .i64 (IntKind.wrap .i64 (andI .u8 a 15)+15)-IntKind.wrap .i64 (andI .u8 b 15))+1)=IntKind.wrap .i64 (IntKind.wrap .i64 (IntKind.wrap .i64 (andI .u8 a 15)+IntKind.wrap .i64 (IntKind.wrap .u8 (15-andI .u8 b 15)))+1):=by rw[Zj9];rw[wrap_i64 (andI .u8 a 15) (by omega) (by omega),wrap_i64 (andI .u8 b 15) (by omega) (by omega),wrap_i64 ((15-andI .u8 b 15)%256) (by omega) (by omega),wrap_i64 (andI .u8 a 15+15) (by omega) (by omega)];congr 1;rw[wrap_i64 _ (by omega) (by omega),wrap_i64 _ (by omega) (by omega)];omega
 simp only[Zis,ZM6,Zc1,ZKV,RT.val,Yaw,ZnP,Zl2,Ze4,ZsF,ZTF,e]
theorem Zu5 (a b:Int):ZME a b=ZfR a b:=rfl
theorem ZPv (b:Bool) (n:Int) (h:0<=n):Ze5 b n=true/\pBit b n=bif b then shlI .u8 1 n else 0:=by cases b<;>simp[Ze5,pBit,ZRA,RT.val,h,okB,getO]
theorem ZgN (b:Bool) (n:Int) (h:0<=n):Zek b n=true/\rBit b n=bif b then shlI .u8 1 n else 0:=by cases b<;>simp[Zek,rBit,ZU9,RT.val,h,okB,getO]
theorem ZbC (chip:Int):rOn chip=(chip==2):=rfl
theorem ZX3 (chip:Int) (f):ZEQ chip f=true:=by cases h:chip==2<;>simp[ZEQ,ZxN,RT.val,ZPv,okB,h]
theorem ZUO (chip:Int) (f):ZKJ chip f=true:=by cases h:chip==2<;>simp[ZKJ,ZDY,RT.val,ZgN,ZbC,okB,h]
theorem ZVo (chip:Int) (f):ZRg chip f=ZU2 chip f:=by simp only[ZRg,ZxN,ZU2,ZDY,RT.val,ZPv,ZgN,ZbC];cases chip==2<;>simp[ZPv,ZgN,getO]
theorem of_C (r:Int) (h:inR .u8 r):pOfC r=true:=by simp[pOfC,pOfT,RT.val,Zxw r h,okB]
theorem of_eq (r:Int) (h:inR .u8 r):pOf r=rOf r:=by simp[pOf,pOfT,rOf,rOfT,RT.val,Zxw r h,getO]
theorem get_C (r) (n:Int):ZKS r n=true:=by
 have:=and7 n;have h:decide (0<=andI .i64 n 7/\andI .i64 n 7<8)=true:=by simp;omega
 simp only[ZKS,ZQz,RT.val,h,Ya,okB]
theorem ZO3 {m:Int} (h:0<=m/\m<=7):m=0\/m=1\/m=2\/m=3\/m=4\/m=5\/m=6\/m=7:=by omega
theorem ZLF (r) (n:Int):pGet r n=rGet r n:=by
 have h7:=and7 n;have h:decide (0<=andI .i64 n 7/\andI .i64 n 7<8)=true:=by simp;omega
 simp only[pGet,ZVQ,rGet,ZQz,RT.val,h,Ya,getO];generalize andI .i64 n 7=m at*;rcases ZO3 h7 with rfl|rfl|rfl|rfl|rfl|rfl|rfl|rfl<;>rfl
theorem ZK9 (r) (n v:Int):pSet r n v=rSet r n v:=by have h7:=and7 n;simp only[pSet,ZVs,rSet,ZXz,RT.val,Ya,getO];generalize andI .i64 n 7=m at*;rcases ZO3 h7 with rfl|rfl|rfl|rfl|rfl|rfl|rfl|rfl<;>rfl
theorem ZQH (r) (n:Int):ZVC r n=ZbM r n:=by simp only[ZVC,ZMe,ZbM,ZS7,RT.val,ZLF,get_C,Zu5];cases andI .i64 n 3==3<;>simp[okB,getO]
theorem ZAc (r) (n v:Int):Ztp r n v=Z0 r n v:=by simp only[Ztp,ZnQ,Z0,Zwv,RT.val,ZK9]
theorem ZLj (chip:Int) (r):ZVE chip r=true/\pPSW chip r=rPSW chip r:=by simp[ZVE,pPSW,ZRh,rPSW,ZXE,RT.val,ZX3,ZUO,ZVo,Zu5,okB,getO]
theorem ZJj (chip:Int) (b:Int):Ztm chip b=ZzW chip b:=by simp only[Ztm,Ztl,ZzW,ZDM,RT.val,ZbC]
theorem ZGR (chip:Int) (r) (v:Int):ZAH chip r v=Zna chip r v:=by simp only[ZAH,Ztq,Zna,ZDP,RT.val,ZJj]
theorem ZSd (c:Int) (f):ZMN c f=Zgj c f:=by
 simp only[ZMN,ZBG,Zgj,ZKQ,RT.val];by_cases h:0<=c/\c<=11
 ·have:c=0\/c=1\/c=2\/c=3\/c=4\/c=5\/c=6\/c=7\/c=8\/c=9\/c=10\/c=11:=by omega
  rcases this with rfl|rfl|rfl|rfl|rfl|rfl|rfl|rfl|rfl|rfl|rfl|rfl<;>simp
 ·have e:∀k:Int,0<=k->k<=11->(c==k)=false:=λk h1 h2=>by simp;omega
  simp[e]
theorem Zv9 (a b:Int) (c:Bool):inR .u8 (rSum a b c).1:=by simp only[rSum,ZUX,RT.val,Yaw];exact Zar _ _
theorem ZpO (a b:Int) (c:Bool):inR .u8 (Zc1 a b c).1:=by simp only[Zc1,ZKV,RT.val,Yaw];exact Zar _ _
theorem Zk8 (a b:Int):inR .u8 (andI .u8 a b)/\inR .u8 (orI .u8 a b)/\inR .u8 (xorI .u8 a b):=Zf1 _ _ _
theorem Zwr (chip v r:Int) (half over x:Bool) (f) (h:inR .u8 r):Zjs chip v r half over x f=true/\
  ZnV chip v r half over x f=ZsK chip ((rOf r).1,(rOf r).2.1,(rOf r).2.2.1,half,(rOf r).2.2.2.2.1,(rOf r).2.2.2.2.2.1,f.2.2.2.2.2.2) (rMaj (decide (v>=128)) x (decide (r>=128))) over:=by cases hc:chip==2<;>simp[Zjs,ZnV,Zl3,ZsK,Zwz,RT.val,of_C r h,of_eq r h,okB,getO,ZbC,hc,Zyr,rOf,rOfT]
theorem ZLD (chip v:Int) (f):ZVO chip v f=true/\pInr chip v f=rInr chip v f:=by have h:=Zwr chip v (rSum v 1 false).1 (rSum v 1 false).2.2.1 (rSum v 1 false).2.2.2 false f (Zv9 _ _ _);simp only[ZVO,pInr,ZRo,rInr,ZXL,RT.val,ZJV,h.1,h.2,Ya,okB,getO,and_self]
theorem ZLH (chip v:Int) (f):ZV3 chip v f=true/\pDcr chip v f=rDcr chip v f:=by have h:=Zwr chip v (Zc1 v 1 false).1 (Zc1 v 1 false).2.2.1 (Zc1 v 1 false).2.2.2 true f (ZpO _ _ _);simp only[ZV3,pDcr,ZRw,rDcr,ZXP,RT.val,ZCX,h.1,h.2,Ya,okB,getO,and_self]
theorem ZVj (chip v:Int) (f):pInx chip v f=rInx chip v f:=by simp only[pInx,ZVM,rInx,ZXK,RT.val,ZbC]
theorem ZVm (chip v:Int) (f):pDcx chip v f=rDcx chip v f:=by simp only[pDcx,ZV1,rDcx,ZXO,RT.val,ZbC]
theorem ZLI (chip a:Int) (f):ZV7 chip a f=true/\pDaa chip a f=rDaa chip a f:=by
 have h:=λx=>of_C _ (Zv9 a x false)
 have h2:=λx=>of_eq _ (Zv9 a x false)
 cases hc:chip==2<;>simp[ZV7,pDaa,ZRy,rDaa,ZXR,ZsK,Zwz,RT.val,ZJV,h,h2,okB,getO,ZbC,hc,Zyr,rOf,rOfT]
theorem ZEC (a b:Int):ZM3 a b=true/\ZVW a b=ZKU a b:=by
 have h:=λx y z=>of_C _ (ZpO x y z)
 have h2:=λx y z=>of_eq _ (ZpO x y z)
 simp[ZM3,ZVW,ZFa,ZKU,ZTa,RT.val,ZCX,h,h2,okB,getO,Zyr,Zu5,rOf,rOfT,Yaw]
theorem ZQW (v:Int):ZYh v=ZQD v:=rfl
theorem ZTJ (c:Bool):pLow c=bif c then 1 else 0:=by cases c<;>rfl
theorem ZLb (op a:Int) (c:Bool):ZVu op a c=true/\pRot op a c=rRot op a c:=by
 have h3:=and3 op;simp only[ZVu,pRot,ZQ7,rRot,ZXA,RT.val,ZTJ,(ZgN c 0 (by decide)).1,(ZgN c 0 (by decide)).2,(ZgN c 7 (by decide)).1,(ZgN c 7 (by decide)).2];generalize andI .i64 op 3=m at*;have:m=0\/m=1\/m=2\/m=3:=by omega
 rcases this with rfl|rfl|rfl|rfl<;>cases c<;>exact⟨rfl,rfl⟩
theorem ZQF (v:Int) (c:Bool) (h:inR .u16 v):ZVA v c=ZKD v c:=by
 have hb:=ZgN c 0 (by decide);have e:IntKind.wrap .u16 (bif c then 1 else 0)=IntKind.wrap .u16 (bif c then shlI .u8 1 0 else 0):=by cases c<;>rfl
 have hr:∀x,inR .u16 (orI .u16 x (IntKind.wrap .u16 (bif c then shlI .u8 1 0 else 0))):=λx=>(Zf1 _ _ _).2.1
 simp only[ZVA,ZL7,ZKD,ZS6,RT.val,ZTJ,hb.1,hb.2,Ya,getO,e];rw[ZrM _ (Zf1 _ _ _).2.2,ZJR _ _ (hr _) h,ZC5 _ (hr _),ZC5 _ h];cases tb (orI .u16 (shlI .u16 v 1) (IntKind.wrap .u16 (bif c then shlI .u8 1 0 else 0)))<;>cases tb v<;>rfl
theorem ZVn (chip a b:Int) (f) (ha:inR .u16 a) (hb:inR .u16 b):pDad chip a b f=rDad chip a b f:=by
 have hr:inR .u16 (IntKind.wrap .u16 (a+b)):=Zar _ _;have ha':=Zf0.1 ha;have hb':=Zf0.1 hb;simp only[pDad,ZV5,rDad,ZXQ,RT.val,ZbC];rw[ZrM _ (Zf1 _ _ _).1,ZSY _ _ (Zf1 _ _ _).2.2 (Zf1 _ _ _).2.2,ZJR _ _ ha hr,ZJR _ _ hb hr];have e1:decide (IntKind.wrap .u16 (a+b)<a)=decide (IntKind.wrap .i64 (IntKind.wrap .i64 a+IntKind.wrap .i64 b)>65535):=by rw[ZaW,wrap_i64 a (by omega) (by omega),wrap_i64 b (by omega) (by omega),wrap_i64 (a+b) (by omega) (by omega)];simp only[decide_eq_decide];omega
 have e2:(((tb a)^^(tb (IntKind.wrap .u16 (a+b))))&&((tb b)^^(tb (IntKind.wrap .u16 (a+b)))))=(decide (IntKind.wrap .i64 (IntKind.wrap .i64 (IntKind.wrap .i16 a)+IntKind.wrap .i64 (IntKind.wrap .i16 b))< -32768)||decide (IntKind.wrap .i64 (IntKind.wrap .i64 (IntKind.wrap .i16 a)+IntKind.wrap .i64 (IntKind.wrap .i16 b))>32767)):=by
  have ia:=ZC8 a;have ib:=ZC8 b;have hia: -32768<=IntKind.wrap .i16 a/\IntKind.wrap .i16 a<=32767:=by rw[ia];split<;>omega
  have hib: -32768<=IntKind.wrap .i16 b/\IntKind.wrap .i16 b<=32767:=by rw[ib];split<;>omega
  rw[wrap_i64 (IntKind.wrap .i16 a) (by omega) (by omega),wrap_i64 (IntKind.wrap .i16 b) (by omega) (by omega),wrap_i64 (IntKind.wrap .i16 a+IntKind.wrap .i16 b) (by omega) (by omega)];rw[ia,ib,ZaW];unfold tb;by_cases h1:a>=32768<;>by_cases h2:b>=32768<;>by_cases h3:(a+b)%65536>=32768<;>simp[h1,h2,h3]<;>(try split)<;>(try split)<;>omega
 rw[e1,e2]
theorem ZLc (c l):ZVw c l=true/\pRim c l=rRim c l/\ZXD c l=true:=by
 have h:∀b n,0<=n->Zc4 b n=true/\ZxJ b n=bif b then shlI .u8 1 n else 0:=λb n h=>by cases b<;>simp[Zc4,ZxJ,ZEM,RT.val,h,okB,getO]
 have h3:∀b,ZaC b 3=true/\Zh3 b 3=bif b then shlI .u8 1 3 else 0:=λb=>by cases b<;>exact⟨rfl,rfl⟩
 have h4:∀b,ZaC b 4=true/\Zh3 b 4=bif b then shlI .u8 1 4 else 0:=λb=>by cases b<;>exact⟨rfl,rfl⟩
 have h5:∀b,ZaC b 5=true/\Zh3 b 5=bif b then shlI .u8 1 5 else 0:=λb=>by cases b<;>exact⟨rfl,rfl⟩
 have h6:∀b,ZaC b 6=true/\Zh3 b 6=bif b then shlI .u8 1 6 else 0:=λb=>by cases b<;>exact⟨rfl,rfl⟩
 have h7:∀b,ZaC b 7=true/\Zh3 b 7=bif b then shlI .u8 1 7 else 0:=λb=>by cases b<;>exact⟨rfl,rfl⟩
 simp[ZVw,pRim,ZQ9,ZXD,rRim,ZQr,RT.val,h,h3,h4,h5,h6,h7,okB,getO]
theorem ZVb (c) (a:Int):pSim c a=rSim c a:=by simp only[pSim,ZVr,rSim,ZUY,RT.val]
theorem ZGN (s:Int):ZAA s=Zx s:=by simp only[ZAA,Ztk,Zx,ZDL,RT.val]
theorem ZLk (chip op a b:Int):ZtP chip op a b=true/\∀f,(andI .i64 op 7=op)->4<=op->op<=6->ZEU chip op a b=rDo chip op a b f:=by
 have h:=λx y=>of_C _ (Zk8 x y).1
 have h':=λx y=>of_C _ (Zk8 x y).2.1
 have h'':=λx y=>of_C _ (Zk8 x y).2.2
 have g:=λx y=>of_eq _ (Zk8 x y).1
 have g':=λx y=>of_eq _ (Zk8 x y).2.1
 have g'':=λx y=>of_eq _ (Zk8 x y).2.2
 have h0:=of_C 0 (by rw[Zhb];omega);constructor
 ·cases h4:op==4<;>cases h5:op==5<;>cases h6:op==6<;>simp[ZtP,ZoB,RT.val,h,h',h'',h0,okB,h4,h5,h6]
 ·intro f e h4 h6;have:op=4\/op=5\/op=6:=by omega
  rcases this with rfl|rfl|rfl<;>cases hc:chip==2<;>simp[ZEU,ZoB,rDo,rDoT,RT.val,h,h',h'',g,g',g'',getO,e,ZbC,hc,ZsK,Zwz,rOf,rOfT,Zyr]
theorem ZTj (chip op a b:Int) (f):pDoC chip op a b f=true/\pDo chip op a b f=rDo chip op a b f:=by
 have h7:=and7 op;have hs:=λx=>of_C _ (Zv9 a b x)
 have hs2:=λx=>of_eq _ (Zv9 a b x)
 have hd:=λx=>of_C _ (ZpO a b x)
 have hd2:=λx=>of_eq _ (ZpO a b x)
 have hl:=ZLk chip (andI .i64 op 7) a b;have hlt:decide (b<128)= !decide (128<=b):=by
  by_cases h:b<128
  ·have:¬128<=b:=by omega
   simp[h,this]
  ·have:128<=b:=by omega
   simp[h,this]
 have hr:rDo chip (andI .i64 op 7) a b f=rDo chip op a b f:=by
  have:andI .i64 (andI .i64 op 7) 7=andI .i64 op 7:=by generalize andI .i64 op 7=m at*;rcases ZO3 h7 with rfl|rfl|rfl|rfl|rfl|rfl|rfl|rfl<;>rfl
  simp only[rDo,rDoT,this]
 have he:andI .i64 (andI .i64 op 7) 7=andI .i64 op 7:=by generalize andI .i64 op 7=m at*;rcases ZO3 h7 with rfl|rfl|rfl|rfl|rfl|rfl|rfl|rfl<;>rfl
 rw[<-hr];have hl2:=hl.2 f he;have hl1:=hl.1;clear hl hr;simp only[pDoC,pDo,pDoT,RT.val];generalize andI .i64 op 7=m at*;rcases ZO3 h7 with rfl|rfl|rfl|rfl|rfl|rfl|rfl|rfl
 case inr.inr.inr.inr.inl=>simp[hl1,hl2,okB,getO]
 case inr.inr.inr.inr.inr.inl=>simp[hl1,hl2,okB,getO]
 case inr.inr.inr.inr.inr.inr.inl=>simp[hl1,hl2,okB,getO]
 all_goals cases hc:chip==2<;>simp[rDo,rDoT,RT.val,ZJV,ZCX,hs,hs2,hd,hd2,okB,getO,he,ZbC,hc,ZsK,Zwz,rOf,rOfT,Zyr,hlt]
theorem ZLG (chip op:Int) (h:chip≠2):(ZfU chip op).val=(ZfU 0 op).val:=by
 have h1:(chip==2)=false:=by simpa using h
 have h0:((0:Int)==2)=false:=rfl;simp only[ZfU,RT.val,h1,h0]
theorem Zm5 (chip op:Int) (h:chip≠2):(Zhz chip op).val=(Zhz 0 op).val:=by
 have h1:rOn chip=false:=by simpa [ZbC] using h
 have h0:rOn 0=false:=rfl;simp only[Zhz,RT.val,h1,h0]
def decT (chip op:Int):Bool:=okB (ZfU chip op).val&&okB (Zhz chip op).val&&(ZoI chip op==Zc chip op)
theorem dec_ok (chip op:Int) (h:inR .u8 op):Zl7 chip op=true/\ZoI chip op=Zc chip op/\ZsR chip op=true:=by
 have fin:∀c,decT c op=true->Zl7 c op=true/\ZoI c op=Zc c op/\ZsR c op=true:=by intro c hc;simp only[decT,Yc,Yaj] at hc;exact⟨hc.1.1,hc.2,hc.1.2⟩
 by_cases hc:chip=2
 ·subst hc;exact fin 2 (Zgd (decT 2) (by kernel_rfl) op h)
 ·have:=fin 0 (Zgd (decT 0) (by kernel_rfl) op h);unfold Zl7 ZoI Zc ZsR at this|-;rw[ZLG chip op hc,Zm5 chip op hc];exact this
def ZtT:En:=Zi ZBE ZBF (λ_=>none) (λa=>ZfR a.1 a.2)
theorem ZxQ:Zb prog 220 ZtT:=Zl6.tot (λa h=>by simp) (λa h=>Zu5 _ _)
def ZTz:En:=Zi ZMP ZNl (λ_=>none) (λa=>rGet a.1 a.2)
theorem ZRp:Zb prog 281 ZTz:=ZMO.tot (λa h=>by simp) (λa h=>ZLF _ _)
def ZxG:En:=Zi ZLS ZLT (λ_=>none) (λa=>rSet a.1 a.2.1 a.2.2)
theorem ZEJ:Zb prog 290 ZxG:=ZLR.tot (λa h=>by simp) (λa h=>ZK9 _ _ _)
def ZMg:En:=Zi ZMP ZBF (λ_=>none) (λa=>ZbM a.1 a.2)
theorem ZMf:Zb prog 280 ZMg:=ZRe.tot (λa h=>by simp) (λa h=>ZQH _ _)
def Zck:En:=Zi Zkw ZLT (λ_=>none) (λa=>Z0 a.1 a.2.1 a.2.2)
theorem ZeU:Zb prog 291 Zck:=ZAF.tot (λa h=>by simp) (λa h=>ZAc _ _ _)
def ZMj:En:=Zi ZMi ZBF (λ_=>none) (λa=>rPSW a.1 a.2)
theorem ZRi:Zb prog 288 ZMj:=ZVD.tot (λa h=>by have h1:=(ZLj a.1 a.2).1;simp[h1]) (λa h=>(ZLj _ _).2)
def ZnT:En:=Zi ZnR ZLT (λ_=>none) (λa=>Zna a.1 a.2.1 a.2.2)
theorem ZAG:Zb prog 299 ZnT:=ZG8.tot (λa h=>by simp) (λa h=>ZGR _ _ _)
def ZVZ:En:=Zi ZVX ZtO (λ_=>none) (λa=>rDo a.1 a.2.1 a.2.2.1 a.2.2.2.1 a.2.2.2.2)
theorem ZVY:Zb prog 292 ZVZ:=ZYe.tot (λa h=>by have h1:=(ZTj a.1 a.2.1 a.2.2.1 a.2.2.2.1 a.2.2.2.2).1;simp[h1]) (λa h=>(ZTj _ _ _ _ _).2)
def ZE1:En:=Zi ZMI ZtO (λ_=>none) (λa=>rInr a.1 a.2.1 a.2.2)
theorem ZE0:Zb prog 282 ZE1:=ZVN.tot (λa h=>by have h1:=(ZLD a.1 a.2.1 a.2.2).1;simp[h1]) (λa h=>(ZLD _ _ _).2)
def ZFf:En:=Zi ZMI ZtO (λ_=>none) (λa=>rDcr a.1 a.2.1 a.2.2)
theorem ZFe:Zb prog 283 ZFf:=ZV2.tot (λa h=>by have h1:=(ZLH a.1 a.2.1 a.2.2).1;simp[h1]) (λa h=>(ZLH _ _ _).2)
def ZMH:En:=Zi ZMF ZMG (λ_=>none) (λa=>rInx a.1 a.2.1 a.2.2)
theorem ZRn:Zb prog 294 ZMH:=ZVL.tot (λa h=>by simp) (λa h=>ZVj _ _ _)
def ZNa:En:=Zi ZMF ZMG (λ_=>none) (λa=>rDcx a.1 a.2.1 a.2.2)
theorem ZRv:Zb prog 295 ZNa:=ZV0.tot (λa h=>by simp) (λa h=>ZVm _ _ _)
def ZNg:En:=Zi ZMI ZtO (λ_=>none) (λa=>rDaa a.1 a.2.1 a.2.2)
theorem ZRz:Zb prog 297 ZNg:=ZV6.tot (λa h=>by have h1:=(ZLI a.1 a.2.1 a.2.2).1;simp[h1]) (λa h=>(ZLI _ _ _).2)
def ZNe:En:=Zi ZNc ZMG (λ_=>none) (λa=>rDad a.1 a.2.1 a.2.2.1 a.2.2.2)
theorem ZRx:Zb prog 296 ZNe:=ZV4.tot (λa h=>by simp) (λa h=>ZVn _ _ _ _ h.2.1 h.2.2.1)
def ZBU:En:=Zi ZBT ZMG (λ_=>none) (λa=>ZKU a.1 a.2)
theorem ZM4:Zb prog 301 ZBU:=ZRs.tot (λa h=>by have h1:=(ZEC a.1 a.2).1;simp[h1]) (λa h=>(ZEC _ _).2)
def ZBY:En:=Zi ZBW ZBX (λ_=>none) (λa=>ZQD a)
theorem ZNn:Zb prog 302 ZBY:=ZRB.tot (λa h=>by simp) (λa h=>ZQW _)
def ZLY:En:=Zi ZLX ZEN (λ_=>none) (λa=>rRot a.1 a.2.1 a.2.2)
theorem ZQ8:Zb prog 298 ZLY:=ZVt.tot (λa h=>by have h1:=(ZLb a.1 a.2.1 a.2.2).1;simp[h1]) (λa h=>(ZLb _ _ _).2)
def ZAO:En:=Zi ZAM ZAN (λ_=>none) (λa=>ZKD a.1 a.2)
theorem ZL8:Zb prog 303 ZAO:=ZRb.tot (λa h=>by simp) (λa h=>ZQF _ _ h.1)
def ZL0:En:=Zi ZLZ ZEO (λ_=>none) (λa=>rRim a.1 a.2)
theorem ZRa:Zb prog 231 ZL0:=ZVv.tot (λa h=>by have h1:=(ZLc a.1 a.2).1;simp[h1]) (λa h=>(ZLc _ _).2.1)
def ZLQ:En:=Zi ZLO ZLP (λ_=>none) (λa=>rSim a.1 a.2)
theorem ZQ4:Zb prog 232 ZLQ:=ZVq.tot (λa h=>by simp) (λa h=>ZVb _ _)
def ZE4:En:=Zi ZMh ZnX (λ_=>none) (λa=>Zgj a.1 a.2)
theorem ZHo:Zb prog 353 ZE4:=ZMM.tot (λa h=>by simp) (λa h=>ZSd _ _)
def Zxz:En:=Zi ZxE ZBF (λ_=>none) (λa=>Zx a)
theorem ZAz:Zb prog 155 Zxz:=ZG3.tot (λa h=>by simp) (λa h=>ZGN _)
def ZxV:En:=Zi ZxC ZAU (λ_=>none) (λa=>Zc a.1 a.2)
theorem ZoH:Zb prog 154 ZxV:=ZH3.tot (λa h=>by have h1:=(dec_ok a.1 a.2 h.2).1;simp[h1]) (λa h=>(dec_ok a.1 a.2 h.2).2.1)
abbrev ZYz:R:=R.Pq (.int .i64) (R.Pq (.int .i64) (R.Pq (.int .i64) (R.Pq (.int .i64) (R.Pq (.int .i64) (R.Pq (.int .i64) (.int .i64))))))
def ZxW (k:Int):En:=pinE ZxC ZYz (λa=>Zc a.1 a.2) k
theorem ZFc (k:Int):Zb Tryz.prog 154 (ZxW k):=ZVk ZoH k
def pcOf (c:TC):Int:=c.2.1.2.2.2.2.2.2.2.2.2
def spOf (c:TC):Int:=c.2.1.2.2.2.2.2.2.2.2.1
def rgx (r:TR) (f:TF) (sp pc:Int):TR:=(r.1,r.2.1,r.2.2.1,r.2.2.2.1,r.2.2.2.2.1,r.2.2.2.2.2.1,r.2.2.2.2.2.2.1,f,sp,pc)
def fin3 (g:List Int) (l:List TY):RT (Option (TY×Bool)):=.br (decide (iN (Le g)>=iN (Le l))) (Ls (((0,0,0,0),false))) (.br (Zg (iN (Le g)) (Le l)) (Ls ((R.get RY l (iN (Le g)),true))) Ln)
