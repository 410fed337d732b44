import Derived.Test.YtpnjbfjomebppaaGreatS3D
import Derived.Test.YtpnjbfjomebppaaGreatProg
open Go.Proofs.Tryz (prog)
open Go.IntKind (u8 u16 i64)
set_option linter.unusedSimpArgs false
open Go Go.S3 Go.Proofs
set_option linter.unusedVariables false
set_option maxRecDepth 100000
namespace Go.Proofs.YtpnjbfjomebppaaGreat
noncomputable section
abbrev Zx1:List Sh:=[So Ka]
abbrev Zn6:Rs:=Rs.one (So R.bool)
def ZtJ (b:Int):RT (Option (Bool)):=
 let x1:=andI u8 (andI u8 b (u8.wrap (b-1))) (u8.wrap (andI u8 b (u8.wrap (b-1))-1))
 let x2:= !x1 !=0
 let x3:=andI u8 x1 (u8.wrap (x1-1))
 let x4:=x3 !=0
 let x5:=andI u8 x3 (u8.wrap (x3-1))
 let x6:= !x5 !=0
 let x7:=andI u8 x5 (u8.wrap (x5-1))
 let x8:=x7 !=0
 let x9:=andI u8 x7 (u8.wrap (x7-1))
 let x10:= !x9 !=0
 let x11:=andI u8 x9 (u8.wrap (x9-1))
 let x12:=x11 !=0
 let x13:=andI u8 x11 (u8.wrap (x11-1))
 let x14:= !x13 !=0
 .br (!b !=0||(!andI u8 b (u8.wrap (b-1)) !=0||(x2||(!x4||(x6||(!x8||(x10||(!x12||(x14|| !andI u8 x13 (u8.wrap (x13-1)) !=0))))))))) (Ls (!b !=0||andI u8 b (u8.wrap (b-1)) !=0&&(x2||x4&&(x6||x8&&(x10||x12&&x14))))) Ln
def ZtK (b:Int):Bool:=getO Zn6.Df (ZtJ b).val
def Zmd (b:Int):Bool:=okB (ZtJ b).val
def ZFh:En:=Zi Zx1 Zn6 (λa=>some (Zmd a)) (λa=>ZtK a)
theorem ZHw:Zb prog 387 ZFh:=
 Znz (P:=prog) (n:=15) (k:=10) (l:=[]) (ol:=[]) trivial Tryz.func387 rfl (by kernel_rfl) Tryz.call387 trivial (ts:=Zx1) (rs:=Zn6) (t:=λa=>ZtJ a) (λa=>by kernel_rfl)
abbrev ZUf:List Sh:=[So R.bool,So R.bool,So R.bool]
def ZY2 (a:Bool) (b:Bool) (c:Bool):RT (Bool):=
 .Lf (bif a then b||bif a then c||b&&c else b&&c else bif a then c||b&&c else b&&c)
def pMaj (a:Bool) (b:Bool) (c:Bool):Bool:=(ZY2 a b c).val
def ZHG:En:=Zi ZUf Zn6 (λ_=>none) (λa=>pMaj a.1 a.2.1 a.2.2)
theorem ZoJ:Zb prog 357 ZHG:=
 pureQ 127 [] [] _ _ trivial Tryz.func357 Tryz.call357 trivial
abbrev ZUc:List Sh:=[So R.bool]
abbrev ZUd:Rs:=Rs.one (So Kc)
def ZY0 (b:Bool):RT (Int):=
 .br (b) (.Lf (1)) (.Lf (0))
def pOne (b:Bool):Int:=(ZY0 b).val
def ZWv:En:=Zi ZUc ZUd (λ_=>none) (λa=>pOne a)
theorem ZM2:Zb prog 384 ZWv:=
 pureQ 7 [] [] _ _ trivial Tryz.func384 Tryz.call384 trivial
abbrev ZxT:List Sh:=[So Kc]
def Zma (n:Int):RT (Bool):=
 .Lf (decide (n< -128)||decide (n>127))
def ZnY (n:Int):Bool:=(Zma n).val
def Zty:En:=Zi ZxT Zn6 (λ_=>none) (λa=>ZnY a)
theorem Zro:Zb prog 385 Zty:=
 pureQ 7 [] [] _ _ trivial Tryz.func385 Tryz.call385 trivial
abbrev ZT7:List Sh:=[So Ka,So Ka,So R.bool]
abbrev ZT8:Rs:=Rs.tup [So Ka,So R.bool,So R.bool,So R.bool]
def ZWf (a:Int) (b:Int) (c:Bool):RT (QT25):=
 let x1:=i64.wrap (i64.wrap (i64.wrap a+i64.wrap b)+pOne c)
 .Lf ((u8.wrap x1,decide (x1>255),decide (i64.wrap (i64.wrap (i64.wrap (andI u8 a 15)+i64.wrap (andI u8 b 15))+pOne c)>15),ZnY (i64.wrap (i64.wrap (i64.wrap (IntKind.i8.wrap a)+i64.wrap (IntKind.i8.wrap b))+pOne c))))
def pSum (a:Int) (b:Int) (c:Bool):QT25:=(ZWf a b c).val
def ZRT:En:=Zi ZT7 ZT8 (λ_=>none) (λa=>pSum a.1 a.2.1 a.2.2)
theorem ZAZ:Zb prog 350 ZRT:=
 pureQ 4095 [(384,ZWv),(385,Zty)] [] _ _ ⟨ZM2,Zro,Tv⟩ Tryz.func350 Tryz.call350 trivial
def ZNO (a:Int) (b:Int) (c:Bool):RT (QT25):=
 let x1:=i64.wrap (i64.wrap (i64.wrap a-i64.wrap b)-pOne c)
 .Lf ((u8.wrap x1,decide (x1<0),decide (i64.wrap (i64.wrap (i64.wrap (i64.wrap (i64.wrap (andI u8 a 15)+15)-i64.wrap (andI u8 b 15))+1)-pOne c)>15),ZnY (i64.wrap (i64.wrap (i64.wrap (IntKind.i8.wrap a)-i64.wrap (IntKind.i8.wrap b))-pOne c))))
def Ziq (a:Int) (b:Int) (c:Bool):QT25:=(ZNO a b c).val
def ZFC:En:=Zi ZT7 ZT8 (λ_=>none) (λa=>Ziq a.1 a.2.1 a.2.2)
theorem ZuK:Zb prog 352 ZFC:=
 pureQ 4095 [(384,ZWv),(385,Zty)] [] _ _ ⟨ZM2,Zro,Tv⟩ Tryz.func352 Tryz.call352 trivial
abbrev ZB1:List Sh:=[So Ka,So Ka]
abbrev ZB2:Rs:=Rs.one (So Kb)
def ZUj (h:Int) (l:Int):RT (Int):=
 .Lf (orI u16 (shlI u16 (u16.wrap h) 8) (u16.wrap l))
def ZNm (h:Int) (l:Int):Int:=(ZUj h l).val
def ZFq:En:=Zi ZB1 ZB2 (λ_=>none) (λa=>ZNm a.1 a.2)
theorem Zme:Zb prog 220 ZFq:=
 pureQ 31 [] [] _ _ trivial Tryz.func220 Tryz.call220 trivial
abbrev ZUn:List Sh:=[So R.bool,So Kc]
abbrev ZN3:Rs:=Rs.one (So Ka)
def ZSr (b:Bool) (n:Int):RT (Option (Int)):=
 .br (!b||decide (0<=n)) (.br (b) (Ls (shlI u8 1 n)) (Ls (0))) Ln
def pBit (b:Bool) (n:Int):Int:=getO ZN3.Df (ZSr b n).val
def Ze5 (b:Bool) (n:Int):Bool:=okB (ZSr b n).val
def ZY7:En:=Zi ZUn ZN3 (λa=>some (Ze5 a.1 a.2)) (λa=>pBit a.1 a.2)
theorem ZWX:Zb prog 386 ZY7:=
 pureP 31 [] [] _ _ trivial Tryz.func386 Tryz.call386 trivial
abbrev ZMZ:List Sh:=[So Kc,Sh.agg rcF7]
def Zx2 (chip:Int) (f:TF):RT (Option (Int)):=
 let x1:=orI u8 (orI u8 (orI u8 (orI u8 (pBit f.1 7) (pBit f.2.1 6)) (pBit f.2.2.2.1 4)) (pBit f.2.2.2.2.1 2)) (pBit f.2.2.2.2.2.2 0)
 .br (!Ze5 f.1 7||(!Ze5 f.2.1 6||(!Ze5 f.2.2.2.1 4||(!Ze5 f.2.2.2.2.1 2||Ze5 f.2.2.2.2.2.2 0)))) (.br (!Ze5 f.1 7||(!Ze5 f.2.1 6||(!Ze5 f.2.2.2.1 4||Ze5 f.2.2.2.2.1 2))) (.br (!Ze5 f.1 7||(!Ze5 f.2.1 6||Ze5 f.2.2.2.1 4)) (.br (!Ze5 f.1 7||Ze5 f.2.1 6) (.br (Ze5 f.1 7) (.br (!chip==2||(!Ze5 f.2.2.1 5||Ze5 f.2.2.2.2.2.1 1)) (.br (!chip==2||Ze5 f.2.2.1 5) (.br (chip==2) (Ls (orI u8 (orI u8 x1 (pBit f.2.2.1 5)) (pBit f.2.2.2.2.2.1 1))) (Ls (orI u8 x1 2))) Ln) Ln) Ln) Ln) Ln) Ln) Ln
def ZR7 (chip:Int) (f:TF):Int:=getO ZN3.Df (Zx2 chip f).val
def ZFi (chip:Int) (f:TF):Bool:=okB (Zx2 chip f).val
def ZUb:En:=Zi ZMZ ZN3 (λa=>some (ZFi a.1 a.2)) (λa=>ZR7 a.1 a.2)
theorem ZR6:Zb prog 354 ZUb:=
 pureP 63 [(386,ZY7)] [] _ _ ⟨ZWX,Tv⟩ Tryz.func354 Tryz.call354 trivial
abbrev ZxR:List Sh:=[So Kc,So Ka]
abbrev ZxS:Rs:=Rs.one (Sh.agg rcF7)
def Ztv (chip:Int) (b:Int):RT TF:=
 .Lf ((andI u8 b 128 !=0,andI u8 b 64 !=0,chip==2&&andI u8 b 32 !=0,andI u8 b 16 !=0,andI u8 b 4 !=0,chip==2&&andI u8 b 2 !=0,andI u8 b 1 !=0))
def Ztw (chip:Int) (b:Int):TF:=(Ztv chip b).val
def ZE8:En:=Zi ZxR ZxS (λ_=>none) (λa=>Ztw a.1 a.2)
theorem ZHt:Zb prog 363 ZE8:=
 pureQ 63 [] [] _ _ trivial Tryz.func363 Tryz.call363 trivial
def pOfT (r:Int):RT (Option TF):=
 .br (Zmd r) (Ls ((decide (r>=128),r==0,false,false,ZtK r,false,false))) Ln
def pOf (r:Int):TF:=getO ZxS.Df (pOfT r).val
def pOfC (r:Int):Bool:=okB (pOfT r).val
def pOfE:En:=Zi Zx1 ZxS (λa=>some (pOfC a)) (λa=>pOf a)
theorem Zx3:Zb prog 356 pOfE:=
 pureP 7 [(387,ZFh)] [] _ _ ⟨ZHw,Tv⟩ Tryz.func356 Tryz.call356 trivial
def ZpE:En:=.tree (Zx (envX prog [] [] 141872468127 8) Tryz.f349)
theorem ZpD:Zb prog 349 ZpE:=Z5 trivial Tryz.func349 rfl (by kernel_rfl) Tryz.call349 trivial
abbrev ZNx:List Sh:=[Sh.agg Znj,So Kc]
def ZWG (r:TR) (n:Int):RT (Int):=
 .br (andI i64 n 7==0) (.Lf r.2.1) (.br (andI i64 n 7==1) (.Lf r.2.2.1) (.br (andI i64 n 7==2) (.Lf r.2.2.2.1) (.br (andI i64 n 7==3) (.Lf r.2.2.2.2.1) (.br (andI i64 n 7==4) (.Lf r.2.2.2.2.2.1) (.br (andI i64 n 7==5) (.Lf r.2.2.2.2.2.2.1) (.br (andI i64 n 7==7) (.Lf r.1) (.Lf (0))))))))
def pGet (r:TR) (n:Int):Int:=(ZWG r n).val
def ZY4:En:=Zi ZNx ZN3 (λ_=>none) (λa=>pGet a.1 a.2)
theorem ZNw:Zb prog 281 ZY4:=
 pureQ 63 [(349,ZpE)] [] _ _ ⟨ZpD,Tv⟩ Tryz.func281 Tryz.call281 trivial
abbrev ZMA:List Sh:=[Sh.agg Znj,So Kc,So Ka]
abbrev ZMB:Rs:=Rs.one (Sh.agg Znj)
def ZWi (r:TR) (n:Int) (v:Int):RT TR:=
 .br (andI i64 n 7==0) (.Lf ((r.1,v,r.2.2))) (.br (andI i64 n 7==1) (.Lf ((r.1,r.2.1,v,r.2.2.2))) (.br (andI i64 n 7==2) (.Lf ((r.1,r.2.1,r.2.2.1,v,r.2.2.2.2))) (.br (andI i64 n 7==3) (.Lf ((r.1,r.2.1,r.2.2.1,r.2.2.2.1,v,r.2.2.2.2.2))) (.br (andI i64 n 7==4) (.Lf ((r.1,r.2.1,r.2.2.1,r.2.2.2.1,r.2.2.2.2.1,v,r.2.2.2.2.2.2))) (.br (andI i64 n 7==5) (.Lf ((r.1,r.2.1,r.2.2.1,r.2.2.2.1,r.2.2.2.2.1,r.2.2.2.2.2.1,v,r.2.2.2.2.2.2.2))) (.br (andI i64 n 7==7) (.Lf ((v,r.2))) (.Lf (r))))))))
def pSet (r:TR) (n:Int) (v:Int):TR:=(ZWi r n v).val
def ZYW:En:=Zi ZMA ZMB (λ_=>none) (λa=>pSet a.1 a.2.1 a.2.2)
theorem ZMz:Zb prog 290 ZYW:=
 pureQ 255 [(349,ZpE)] [] _ _ ⟨ZpD,Tv⟩ Tryz.func290 Tryz.call290 trivial
def ZMW (r:TR) (n:Int):RT (Int):=
 .br (andI i64 n 3==3) (.Lf r.2.2.2.2.2.2.2.2.1) (.Lf (ZNm (pGet r (i64.wrap (2*andI i64 n 3))) (pGet r (i64.wrap (i64.wrap (2*andI i64 n 3)+1)))))
def ZWs (r:TR) (n:Int):Int:=(ZMW r n).val
def ZYZ:En:=Zi ZNx ZB2 (λ_=>none) (λa=>ZWs a.1 a.2)
theorem ZR5:Zb prog 280 ZYZ:=
 pureQ 31 [(220,ZFq),(281,ZY4)] [] _ _ ⟨Zme,ZNw,Tv⟩ Tryz.func280 Tryz.call280 trivial
abbrev Zkz:List Sh:=[Sh.agg Znj,So Kc,So Kb]
def ZnZ (r:TR) (n:Int) (v:Int):RT TR:=
 .br (andI i64 n 3==3) (.Lf ((r.1,r.2.1,r.2.2.1,r.2.2.2.1,r.2.2.2.2.1,r.2.2.2.2.2.1,r.2.2.2.2.2.2.1,r.2.2.2.2.2.2.2.1,v,r.2.2.2.2.2.2.2.2.2))) (.Lf (pSet (pSet r (i64.wrap (2*andI i64 n 3)) (u8.wrap (shrI u16 v 8))) (i64.wrap (i64.wrap (2*andI i64 n 3)+1)) (u8.wrap v)))
def Ztz (r:TR) (n:Int) (v:Int):TR:=(ZnZ r n v).val
def ZMC:En:=Zi Zkz ZMB (λ_=>none) (λa=>Ztz a.1 a.2.1 a.2.2)
theorem ZA2:Zb prog 291 ZMC:=
 pureQ 127 [(290,ZYW)] [] _ _ ⟨ZMz,Tv⟩ Tryz.func291 Tryz.call291 trivial
abbrev ZM0:List Sh:=[So Kc,Sh.agg Znj]
def ZR8 (chip:Int) (r:TR):RT (Option (Int)):=
 .br (ZFi chip r.2.2.2.2.2.2.2.1) (Ls (ZNm r.1 (ZR7 chip r.2.2.2.2.2.2.2.1))) Ln
def pPSW (chip:Int) (r:TR):Int:=getO ZB2.Df (ZR8 chip r).val
def ZWu (chip:Int) (r:TR):Bool:=okB (ZR8 chip r).val
def pPSWE:En:=Zi ZM0 ZB2 (λa=>some (ZWu a.1 a.2)) (λa=>pPSW a.1 a.2)
theorem ZWt:Zb prog 288 pPSWE:=
 pureP 31 [(220,ZFq),(354,ZUb)] [] _ _ ⟨Zme,ZR6,Tv⟩ Tryz.func288 Tryz.call288 trivial
abbrev Zn0:List Sh:=[So Kc,Sh.agg Znj,So Kb]
def ZtA (chip:Int) (r:TR) (v:Int):RT TR:=
 .Lf ((u8.wrap (shrI u16 v 8),r.2.1,r.2.2.1,r.2.2.2.1,r.2.2.2.2.1,r.2.2.2.2.2.1,r.2.2.2.2.2.2.1,Ztw chip (u8.wrap v),r.2.2.2.2.2.2.2.2))
def ZA4 (chip:Int) (r:TR) (v:Int):TR:=(ZtA chip r v).val
def ZRW:En:=Zi Zn0 ZMB (λ_=>none) (λa=>ZA4 a.1 a.2.1 a.2.2)
theorem ZHv:Zb prog 299 ZRW:=
 pureQ 127 [(363,ZE8)] [] _ _ ⟨ZHt,Tv⟩ Tryz.func299 Tryz.call299 trivial
abbrev ZFl:List Sh:=[So Kc,So Kc,So Ka,So Ka]
abbrev ZtV:Rs:=Rs.tup [So Ka,Sh.agg rcF7]
def ZoK (chip:Int) (op:Int) (a:Int) (b:Int):RT (Option (QT2)):=
 let x1:Int:=bif op==4 then andI u8 a b else bif op==5 then xorI u8 a b else bif op==6 then orI u8 a b else 0
 let x2:=pOf x1
 let x3:=x2.2
 let x4:=x3.2
 .br (pOfC x1) (Ls ((x1,x2.1,x3.1,bif chip==2 then pMaj (decide (a>=128)) (decide (b>=128)) (decide (x1>=128)) else x4.1,op==4&&(chip==2||andI u8 (orI u8 a b) 8 !=0),x4.2.2))) Ln
def ZFm (chip:Int) (op:Int) (a:Int) (b:Int):QT2:=getO ZtV.Df (ZoK chip op a b).val
def ZtW (chip:Int) (op:Int) (a:Int) (b:Int):Bool:=okB (ZoK chip op a b).val
def ZNf:En:=Zi ZFl ZtV (λa=>some (ZtW a.1 a.2.1 a.2.2.1 a.2.2.2)) (λa=>ZFm a.1 a.2.1 a.2.2.1 a.2.2.2)
theorem ZNe:Zb prog 355 ZNf:=
 pureP 8858394623 [(356,pOfE),(357,ZHG)] [] _ _ ⟨Zx3,ZoJ,Tv⟩ Tryz.func355 Tryz.call355 trivial
abbrev ZWL:List Sh:=[So Kc,So Kc,So Ka,So Ka,Sh.agg rcF7]
def pDoT (chip:Int) (op:Int) (a:Int) (b:Int) (f:TF):RT (Option (QT2)):=
 let x1:=decide (andI i64 op 7>=4)&&decide (andI i64 op 7<=6)
 let x2:=f.2.2.2.2.2.2&&(andI i64 op 7==1||andI i64 op 7==3)
 let x3:=Ziq a b x2
 let x4:=x3.1
 let x5:=pOf x4
 let x6:=x5.2
 let x7:=x6.2
 let x8:=x3.2
 let x9:=x8.2
 let x10:=x7.2.2
 let x11:TF:=(x5.1,x6.1,bif chip==2 then pMaj (decide (a>=128)) (decide (b<128)) (decide (x4>=128)) else x7.1,x9.1,x10.1,bif chip==2 then x9.2 else x10.2.1,x8.1)
 let x12:=pSum a b x2
 let x13:=x12.1
 let x14:=pOf x13
 let x15:=x14.2
 let x16:=x15.2
 let x17:=x12.2
 let x18:=x17.2
 let x19:=x16.2.2
 let x20:TF:=(x14.1,x15.1,bif chip==2 then pMaj (decide (a>=128)) (decide (b>=128)) (decide (x13>=128)) else x16.1,x18.1,x19.1,bif chip==2 then x18.2 else x19.2.1,x17.1)
 .br (!x1||ZtW chip (andI i64 op 7) a b) (.br (x1) (Ls (ZFm chip (andI i64 op 7) a b)) (.br (andI i64 op 7 !=0&&andI i64 op 7 !=1) (.br (pOfC x4) (.br (andI i64 op 7==7) (Ls ((a,x11))) (Ls ((x4,x11)))) Ln) (.br (pOfC x13) (.br (andI i64 op 7==7) (Ls ((a,x20))) (Ls ((x13,x20)))) Ln))) Ln
def pDo (chip:Int) (op:Int) (a:Int) (b:Int) (f:TF):QT2:=getO ZtV.Df (pDoT chip op a b f).val
def pDoC (chip:Int) (op:Int) (a:Int) (b:Int) (f:TF):Bool:=okB (pDoT chip op a b f).val
def pDoE:En:=Zi ZWL ZtV (λa=>some (pDoC a.1 a.2.1 a.2.2.1 a.2.2.2.1 a.2.2.2.2)) (λa=>pDo a.1 a.2.1 a.2.2.1 a.2.2.2.1 a.2.2.2.2)
theorem ZY6:Zb prog 292 pDoE:=
 pureP 1048575 [(350,ZRT),(352,ZFC),(355,ZNf),(356,pOfE),(357,ZHG)] [] _ _ ⟨ZAZ,ZuK,ZNe,Zx3,ZoJ,Tv⟩ Tryz.func292 Tryz.call292 trivial
abbrev ZxZ:List Sh:=[So Kc,So Ka,So Ka,So R.bool,So R.bool,So R.bool,Sh.agg rcF7]
def Zmb (chip:Int) (v:Int) (r:Int) (half:Bool) (over:Bool) (x:Bool) (f:TF):RT (Option TF):=
 .br (pOfC r) (Ls (((pOf r).1,(pOf r).2.1,bif chip==2 then pMaj (decide (v>=128)) x (decide (r>=128)) else (pOf r).2.2.1,half,(pOf r).2.2.2.2.1,bif chip==2 then over else (pOf r).2.2.2.2.2.1,f.2.2.2.2.2.2))) Ln
def Zn4 (chip:Int) (v:Int) (r:Int) (half:Bool) (over:Bool) (x:Bool) (f:TF):TF:=getO ZxS.Df (Zmb chip v r half over x f).val
def Zjn (chip:Int) (v:Int) (r:Int) (half:Bool) (over:Bool) (x:Bool) (f:TF):Bool:=okB (Zmb chip v r half over x f).val
def ZtC:En:=Zi ZxZ ZxS (λa=>some (Zjn a.1 a.2.1 a.2.2.1 a.2.2.2.1 a.2.2.2.2.1 a.2.2.2.2.2.1 a.2.2.2.2.2.2)) (λa=>Zn4 a.1 a.2.1 a.2.2.1 a.2.2.2.1 a.2.2.2.2.1 a.2.2.2.2.2.1 a.2.2.2.2.2.2)
theorem Zrp:Zb prog 351 ZtC:=
 pureP 65535 [(356,pOfE),(357,ZHG)] [] _ _ ⟨Zx3,ZoJ,Tv⟩ Tryz.func351 Tryz.call351 trivial
abbrev ZNq:List Sh:=[So Kc,So Ka,Sh.agg rcF7]
def ZSf (chip:Int) (v:Int) (f:TF):RT (Option (QT2)):=
 .br (Zjn chip v (pSum v 1 false).1 (pSum v 1 false).2.2.1 (pSum v 1 false).2.2.2 false f) (Ls (((pSum v 1 false).1,Zn4 chip v (pSum v 1 false).1 (pSum v 1 false).2.2.1 (pSum v 1 false).2.2.2 false f))) Ln
def pInr (chip:Int) (v:Int) (f:TF):QT2:=getO ZtV.Df (ZSf chip v f).val
def ZWE (chip:Int) (v:Int) (f:TF):Bool:=okB (ZSf chip v f).val
def pInrE:En:=Zi ZNq ZtV (λa=>some (ZWE a.1 a.2.1 a.2.2)) (λa=>pInr a.1 a.2.1 a.2.2)
theorem ZWD:Zb prog 282 pInrE:=
 pureP 4095 [(350,ZRT),(351,ZtC)] [] _ _ ⟨ZAZ,Zrp,Tv⟩ Tryz.func282 Tryz.call282 trivial
def ZSn (chip:Int) (v:Int) (f:TF):RT (Option (QT2)):=
 .br (Zjn chip v (Ziq v 1 false).1 (Ziq v 1 false).2.2.1 (Ziq v 1 false).2.2.2 true f) (Ls (((Ziq v 1 false).1,Zn4 chip v (Ziq v 1 false).1 (Ziq v 1 false).2.2.1 (Ziq v 1 false).2.2.2 true f))) Ln
def pDcr (chip:Int) (v:Int) (f:TF):QT2:=getO ZtV.Df (ZSn chip v f).val
def ZWR (chip:Int) (v:Int) (f:TF):Bool:=okB (ZSn chip v f).val
def pDcrE:En:=Zi ZNq ZtV (λa=>some (ZWR a.1 a.2.1 a.2.2)) (λa=>pDcr a.1 a.2.1 a.2.2)
theorem ZWQ:Zb prog 283 pDcrE:=
 pureP 4095 [(351,ZtC),(352,ZFC)] [] _ _ ⟨Zrp,ZuK,Tv⟩ Tryz.func283 Tryz.call283 trivial
abbrev ZNn:List Sh:=[So Kc,So Kb,Sh.agg rcF7]
abbrev ZNo:Rs:=Rs.tup [So Kb,Sh.agg rcF7]
def ZWC (chip:Int) (v:Int) (f:TF):RT (QT2):=
 .Lf ((u16.wrap (v+1),f.1,f.2.1,bif chip==2 then v==65535 else f.2.2.1,f.2.2.2))
def pInx (chip:Int) (v:Int) (f:TF):QT2:=(ZWC chip v f).val
def pInxE:En:=Zi ZNn ZNo (λ_=>none) (λa=>pInx a.1 a.2.1 a.2.2)
theorem ZWB:Zb prog 294 pInxE:=
 pureQ 255 [] [] _ _ trivial Tryz.func294 Tryz.call294 trivial
def ZWP (chip:Int) (v:Int) (f:TF):RT (QT2):=
 .Lf ((u16.wrap (v-1),f.1,f.2.1,bif chip==2 then v==0 else f.2.2.1,f.2.2.2))
def pDcx (chip:Int) (v:Int) (f:TF):QT2:=(ZWP chip v f).val
def pDcxE:En:=Zi ZNn ZNo (λ_=>none) (λa=>pDcx a.1 a.2.1 a.2.2)
theorem ZWO:Zb prog 295 pDcxE:=
 pureQ 255 [] [] _ _ trivial Tryz.func295 Tryz.call295 trivial
abbrev ZNU:List Sh:=[So Kc,So Kb,So Kb,Sh.agg rcF7]
def ZWT (chip:Int) (a:Int) (b:Int) (f:TF):RT (QT2):=
 .Lf ((u16.wrap (a+b),f.1,f.2.1,f.2.2.1,f.2.2.2.1,f.2.2.2.2.1,bif chip==2 then andI u16 (andI u16 (xorI u16 a (u16.wrap (a+b))) (xorI u16 b (u16.wrap (a+b)))) 32768 !=0 else f.2.2.2.2.2.1,decide (u16.wrap (a+b)<a)))
def pDad (chip:Int) (a:Int) (b:Int) (f:TF):QT2:=(ZWT chip a b f).val
def pDadE:En:=Zi ZNU ZNo (λ_=>none) (λa=>pDad a.1 a.2.1 a.2.2.1 a.2.2.2)
theorem ZWS:Zb prog 296 pDadE:=
 pureQ 2047 [] [] _ _ trivial Tryz.func296 Tryz.call296 trivial
abbrev ZCh:List Sh:=[So Kb,So Kb]
def ZFB (a:Int) (b:Int):RT (Option (QT2)):=
 let x1:=Ziq (u8.wrap (shrI u16 a 8)) (u8.wrap (shrI u16 b 8)) (Ziq (u8.wrap a) (u8.wrap b) false).2.1
 let x2:=x1.1
 let x3:=pOf x2
 let x4:=x1.2
 let x5:=x4.2
 .br (pOfC x2) (Ls ((ZNm x2 (Ziq (u8.wrap a) (u8.wrap b) false).1,x3.1,x2==0&&(Ziq (u8.wrap a) (u8.wrap b) false).1==0,pMaj (decide (a>=32768)) (decide (b<32768)) (decide (x2>=128)),x5.1,x3.2.2.2.2.1,x5.2,x4.1))) Ln
def ZWK (a:Int) (b:Int):QT2:=getO ZNo.Df (ZFB a b).val
def ZNL (a:Int) (b:Int):Bool:=okB (ZFB a b).val
def ZY5:En:=Zi ZCh ZNo (λa=>some (ZNL a.1 a.2)) (λa=>ZWK a.1 a.2)
theorem ZSj:Zb prog 301 ZY5:=
 pureP 32767 [(220,ZFq),(352,ZFC),(356,pOfE),(357,ZHG)] [] _ _ ⟨Zme,ZuK,Zx3,ZoJ,Tv⟩ Tryz.func301 Tryz.call301 trivial
def ZSp (chip:Int) (a:Int) (f:TF):RT (Option (QT2)):=
 let x1:Int:=bif f.2.2.2.1||decide (andI u8 a 15>9) then 6 else 0
 let x2:=pSum a (bif f.2.2.2.2.2.2||decide (a>153) then u8.wrap (x1+96) else x1) false
 let x3:=x2.1
 let x4:=pOf x3
 let x5:=x4.2
 let x6:=x5.2
 let x7:=x2.2.2
 let x8:=x6.2.2
 .br (pOfC x3) (Ls ((x3,x4.1,x5.1,bif chip==2 then pMaj (decide (a>=128)) false (decide (x3>=128)) else x6.1,x7.1,x8.1,bif chip==2 then x7.2 else x8.2.1,f.2.2.2.2.2.2||decide (a>153)))) Ln
def pDaa (chip:Int) (a:Int) (f:TF):QT2:=getO ZtV.Df (ZSp chip a f).val
def ZWV (chip:Int) (a:Int) (f:TF):Bool:=okB (ZSp chip a f).val
def pDaaE:En:=Zi ZNq ZtV (λa=>some (ZWV a.1 a.2.1 a.2.2)) (λa=>pDaa a.1 a.2.1 a.2.2)
theorem ZWU:Zb prog 297 pDaaE:=
 pureP 32767 [(350,ZRT),(356,pOfE),(357,ZHG)] [] _ _ ⟨ZAZ,Zx3,ZoJ,Tv⟩ Tryz.func297 Tryz.call297 trivial
def ZY3 (c:Bool):RT (Int):=
 .br (c) (.Lf (1)) (.Lf (0))
def pLow (c:Bool):Int:=(ZY3 c).val
def ZHH:En:=Zi ZUc ZN3 (λ_=>none) (λa=>pLow a)
theorem ZBX:Zb prog 361 ZHH:=
 pureQ 7 [] [] _ _ trivial Tryz.func361 Tryz.call361 trivial
def Zg3:En:=.tree (Zx (envX prog [] [] 7 8) Tryz.f358)
theorem ZkX:Zb prog 358 Zg3:=Z5 trivial Tryz.func358 rfl (by kernel_rfl) Tryz.call358 trivial
def Zg2:En:=.tree (Zx (envX prog [] [] 7 8) Tryz.f359)
theorem ZkW:Zb prog 359 Zg2:=Z5 trivial Tryz.func359 rfl (by kernel_rfl) Tryz.call359 trivial
def Zg1:En:=.tree (Zx (envX prog [(361,ZHH)] [] 15 8) Tryz.f360)
theorem ZkV:Zb prog 360 Zg1:=Z5 ⟨ZBX,Tv⟩ Tryz.func360 rfl (by kernel_rfl) Tryz.call360 trivial
def Zg0:En:=.tree (Zx (envX prog [(361,ZHH)] [] 15 8) Tryz.f362)
theorem ZkU:Zb prog 362 Zg0:=Z5 ⟨ZBX,Tv⟩ Tryz.func362 rfl (by kernel_rfl) Tryz.call362 trivial
abbrev ZMF:List Sh:=[So Kc,So Ka,So R.bool]
abbrev ZFf:Rs:=Rs.tup [So Ka,So R.bool]
def ZRY (op:Int) (a:Int) (c:Bool):RT (Option (Int×Bool)):=
 .br (andI i64 op 3==0||(andI i64 op 3== ↑(0+1)||(andI i64 op 3== ↑(0+1+1)||andI i64 op 3== ↑(0+1+1+1)))) (Ls ((bif andI i64 op 3==0 then orI u8 (shlI u8 a 1) (shrI u8 a 7) else bif andI i64 op 3== ↑(0+1) then orI u8 (shrI u8 a 1) (shlI u8 a 7) else bif andI i64 op 3== ↑(0+1+1) then orI u8 (shlI u8 a 1) (pLow c) else orI u8 (shrI u8 a 1) (shlI u8 (pLow c) 7),bif andI i64 op 3==0 then decide (a>=128) else bif andI i64 op 3== ↑(0+1) then andI u8 a 1==1 else bif andI i64 op 3== ↑(0+1+1) then decide (a>=128) else andI u8 a 1==1))) Ln
def pRot (op:Int) (a:Int) (c:Bool):Int×Bool:=getO ZFf.Df (ZRY op a c).val
def ZWk (op:Int) (a:Int) (c:Bool):Bool:=okB (ZRY op a c).val
def pRotE:En:=Zi ZMF ZFf (λa=>some (ZWk a.1 a.2.1 a.2.2)) (λa=>pRot a.1 a.2.1 a.2.2)
theorem ZWj:Zb prog 298 pRotE:=
 pureP 511 [(358,Zg3),(359,Zg2),(360,Zg1),(362,Zg0)] [] _ _ ⟨ZkX,ZkW,ZkV,ZkU,Tv⟩ Tryz.func298 Tryz.call298 trivial
abbrev ZCk:List Sh:=[So Kb]
abbrev ZCl:Rs:=Rs.tup [So Kb,So R.bool]
def ZUo (v:Int):RT (Int×Bool):=
 .Lf ((orI u16 (shrI u16 v 1) (andI u16 v 32768),andI u16 v 1==1))
def ZY9 (v:Int):Int×Bool:=(ZUo v).val
def ZY8:En:=Zi ZCk ZCl (λ_=>none) (λa=>ZY9 a)
theorem ZSs:Zb prog 302 ZY8:=
 pureQ 15 [] [] _ _ trivial Tryz.func302 Tryz.call302 trivial
abbrev ZA9:List Sh:=[So Kb,So R.bool]
abbrev ZBa:Rs:=Rs.tup [So Kb,So R.bool,So R.bool]
def ZMP (v:Int) (c:Bool):RT (Int×Bool×Bool):=
 .Lf ((orI u16 (shlI u16 v 1) (u16.wrap (pLow c)),decide (v>=32768),andI u16 (xorI u16 (orI u16 (shlI u16 v 1) (u16.wrap (pLow c))) v) 32768 !=0))
def ZWq (v:Int) (c:Bool):Int×Bool×Bool:=(ZMP v c).val
def ZYX:En:=Zi ZA9 ZBa (λ_=>none) (λa=>ZWq a.1 a.2)
theorem ZR2:Zb prog 303 ZYX:=
 pureQ 127 [(361,ZHH)] [] _ _ ⟨ZBX,Tv⟩ Tryz.func303 Tryz.call303 trivial
def ZFe (b:Bool) (n:Int):RT (Option (Int)):=
 .br (!b||decide (0<=n)) (.br (b) (Ls (shlI u8 1 n)) (Ls (0))) Ln
def ZxY (b:Bool) (n:Int):Int:=getO ZN3.Df (ZFe b n).val
def Zc9 (b:Bool) (n:Int):Bool:=okB (ZFe b n).val
def ZT9:En:=Zi ZUn ZN3 (λa=>some (Zc9 a.1 a.2)) (λa=>ZxY a.1 a.2)
theorem ZRX:Zb prog 300 ZT9:=
 pureP 31 [] [] _ _ trivial Tryz.func300 Tryz.call300 trivial
abbrev ZMH:List Sh:=[Sh.agg Z8,Sh.agg (R.Pq R.bool (R.Pq R.bool rcF7))]
abbrev ZFg:Rs:=Rs.tup [So Ka,Sh.agg Z8]
def ZR0 (c:TC) (l:QT1):RT (Option (Int×TC)):=
 let x1:=bif c.2.2.2.2.2.2.2.2.2.2.1 then c.2.2.2.2.2.2.2.2.2.2.2.1 else c.2.2.1
 .br (!Zc9 l.2.2.2.1 7||(!Zc9 c.2.2.2.2.2.2.2.1 6||(!Zc9 l.2.2.2.2.2.2.1 5||(!Zc9 l.2.2.2.2.2.2.2.1 4||Zc9 x1 3)))) (.br (!Zc9 l.2.2.2.1 7||(!Zc9 c.2.2.2.2.2.2.2.1 6||(!Zc9 l.2.2.2.2.2.2.1 5||Zc9 l.2.2.2.2.2.2.2.1 4))) (.br (!Zc9 l.2.2.2.1 7||(!Zc9 c.2.2.2.2.2.2.2.1 6||Zc9 l.2.2.2.2.2.2.1 5)) (.br (!Zc9 l.2.2.2.1 7||Zc9 c.2.2.2.2.2.2.2.1 6) (.br (Zc9 l.2.2.2.1 7) (Ls ((orI u8 (orI u8 (orI u8 (orI u8 (orI u8 (ZxY l.2.2.2.1 7) (ZxY c.2.2.2.2.2.2.2.1 6)) (ZxY l.2.2.2.2.2.2.1 5)) (ZxY l.2.2.2.2.2.2.2.1 4)) (ZxY x1 3)) (andI u8 c.2.2.2.2.2.1 7),c.1,c.2.1,c.2.2.1,c.2.2.2.1,c.2.2.2.2.1,c.2.2.2.2.2.1,c.2.2.2.2.2.2.1,c.2.2.2.2.2.2.2.1,c.2.2.2.2.2.2.2.2.1,c.2.2.2.2.2.2.2.2.2.1,false,false,c.2.2.2.2.2.2.2.2.2.2.2.2))) Ln) Ln) Ln) Ln) Ln
def pRim (c:TC) (l:QT1):Int×TC:=getO ZFg.Df (ZR0 c l).val
def ZWm (c:TC) (l:QT1):Bool:=okB (ZR0 c l).val
def pRimE:En:=Zi ZMH ZFg (λa=>some (ZWm a.1 a.2)) (λa=>pRim a.1 a.2)
theorem ZWl:Zb prog 231 pRimE:=
 pureP 255 [(300,ZT9)] [] _ _ ⟨ZRX,Tv⟩ Tryz.func231 Tryz.call231 trivial
abbrev ZMw:List Sh:=[Sh.agg Z8,So Ka]
abbrev ZMx:Rs:=Rs.one (Sh.agg Z8)
def ZWh (c:TC) (a:Int):RT TC:=
 .Lf ((c.1,c.2.1,c.2.2.1,c.2.2.2.1,c.2.2.2.2.1,bif andI u8 a 8 !=0 then andI u8 a 7 else c.2.2.2.2.2.1,c.2.2.2.2.2.2.1,!andI u8 a 16 !=0&&c.2.2.2.2.2.2.2.1,c.2.2.2.2.2.2.2.2.1,c.2.2.2.2.2.2.2.2.2.1,c.2.2.2.2.2.2.2.2.2.2.1,c.2.2.2.2.2.2.2.2.2.2.2.1,bif andI u8 a 64 !=0 then andI u8 a 128 !=0 else c.2.2.2.2.2.2.2.2.2.2.2.2))
def pSim (c:TC) (a:Int):TC:=(ZWh c a).val
def pSimE:En:=Zi ZMw ZMx (λ_=>none) (λa=>pSim a.1 a.2)
theorem ZWg:Zb prog 232 pSimE:=
 pureQ 31 [] [] _ _ trivial Tryz.func232 Tryz.call232 trivial
def ZB3 (c:Int) (f:TF):RT (Bool):=
 .br (bif c==0 then c==0 else c==1) (.Lf (f.2.1==(c==1))) (.br (bif c==2 then c==2 else c==3) (.Lf (f.2.2.2.2.2.2==(c==3))) (.br (bif c==4 then c==4 else c==5) (.Lf (f.2.2.2.2.1==(c==5))) (.br (bif c==6 then c==6 else c==7) (.Lf (f.1==(c==7))) (.br (bif c==8 then c==8 else c==9) (.Lf (f.2.2.1==(c==9))) (.br (c==10) (.Lf f.2.2.2.2.2.1) (.Lf (c==11)))))))
def ZNv (c:Int) (f:TF):Bool:=(ZB3 c f).val
def ZWF:En:=Zi ZMZ Zn6 (λ_=>none) (λa=>ZNv a.1 a.2)
theorem ZNu:Zb prog 353 ZWF:=
 pureQ 70644700037215 [] [] _ _ trivial Tryz.func353 Tryz.call353 trivial
def Ztu (s:Int):RT (Int):=
 .br (s==1) (.Lf (36)) (.br (s==2) (.Lf (60)) (.br (s==3) (.Lf (52)) (.br (s==4) (.Lf (44)) (.Lf (0)))))
def ZAX (s:Int):Int:=(Ztu s).val
def ZRR:En:=Zi ZxT ZB2 (λ_=>none) (λa=>ZAX a)
theorem ZHq:Zb prog 155 ZRR:=
 pureQ 1367 [] [] _ _ trivial Tryz.func155 Tryz.call155 trivial
abbrev ZFo:Rs:=Rs.tup [Sh.agg (R.Pq Kc (R.Pq Kc (R.Pq Kc (R.Pq Kc (R.Pq Kc (R.Pq Kc (R.Pq Kc Kc))))))),So R.bool]
def ZNh (op:Int):RT (TI×Bool):=
 .br (op==8) (.Lf (((40,1,0,0,0,0,0,0),true))) (.br (op==16) (.Lf (((41,1,0,0,0,0,0,0),true))) (.br (op==24) (.Lf (((42,1,0,0,0,0,0,0),true))) (.br (op==32) (.Lf (((38,1,0,0,0,0,0,0),true))) (.br (op==40) (.Lf (((43,2,0,0,0,0,0,0),true))) (.br (op==48) (.Lf (((39,1,0,0,0,0,0,0),true))) (.br (op==56) (.Lf (((44,2,0,0,0,0,0,0),true))) (.br (op==203) (.Lf (((45,1,0,0,0,0,10,0),true))) (.br (op==217) (.Lf (((46,1,0,0,0,0,0,0),true))) (.br (op==221) (.Lf (((24,3,0,0,0,0,8,0),true))) (.br (op==237) (.Lf (((47,1,0,0,0,0,0,0),true))) (.br (op==253) (.Lf (((24,3,0,0,0,0,9,0),true))) (.Lf (((0,0,0,0,0,0,0,0),false))))))))))))))
def ZNj (op:Int):TI×Bool:=(ZNh op).val
def ZNi:En:=Zi Zx1 ZFo (λ_=>none) (λa=>ZNj a)
theorem ZNg:Zb prog 223 ZNi:=
 pureQ 314146179375 [] [] _ _ trivial Tryz.func223 Tryz.call223 trivial
def Zx7 (op:Int):RT (TI×Bool):=
 .br (bif op==0 then op==0 else bif op==8 then op==8 else bif op==16 then op==16 else bif op==24 then op==24 else bif op==32 then op==32 else bif op==40 then op==40 else bif op==48 then op==48 else op==56) (.Lf (((1,1,0,0,0,0,0,0),true))) (.br (bif op==195 then op==195 else op==203) (.Lf (((24,3,0,0,0,0,11,0),true))) (.br (bif op==201 then op==201 else op==217) (.Lf (((26,1,0,0,0,0,11,0),true))) (.br (bif op==205 then op==205 else bif op==221 then op==221 else bif op==237 then op==237 else op==253) (.Lf (((25,3,0,0,0,0,11,0),true))) (.Lf (((0,0,0,0,0,0,0,0),false))))))
def Zjq (op:Int):TI×Bool:=(Zx7 op).val
def Zx8:En:=Zi Zx1 ZFo (λ_=>none) (λa=>Zjq a)
theorem ZCg:Zb prog 224 Zx8:=
 pureQ 8945711 [] [] _ _ trivial Tryz.func224 Tryz.call224 trivial
abbrev ZBh:Rs:=Rs.one (Sh.agg (R.Pq Kc (R.Pq Kc (R.Pq Kc (R.Pq Kc (R.Pq Kc (R.Pq Kc (R.Pq Kc Kc))))))))
def ZM4 (op:Int):RT (Option TI):=
 let x1:QT34:=(0,0,i64.wrap (andI u8 (shrI u8 op 4) 3),0,0,0)
 let x2:QT29:=(1,x1)
 let x3:=decide (i64.wrap (andI u8 (shrI u8 op 3) 7)<4)&&andI u8 op 8 !=0
 let x4:=decide (0<=i64.wrap (i64.wrap (andI u8 (shrI u8 op 3) 7)-4)/\i64.wrap (i64.wrap (andI u8 (shrI u8 op 3) 7)-4)<4)
 let x5:=i64.wrap (i64.wrap (andI u8 (shrI u8 op 3) 7)-4)==0
 let x6:=i64.wrap (i64.wrap (andI u8 (shrI u8 op 3) 7)-4)== ↑(0+1)
 let x7:=i64.wrap (i64.wrap (andI u8 (shrI u8 op 3) 7)-4)== ↑(0+1+1)
 let x8:QT34:=(i64.wrap (andI u8 (shrI u8 op 3) 7),0,0,0,0,0)
 let x9:QT29:=(1,x8)
 .br (andI u8 op 7==1) (.br (andI u8 op 8 !=0) (Ls ((18,x2))) (Ls ((4,3,x1)))) (.br (!andI u8 op 7==2||(x3||(decide (i64.wrap (andI u8 (shrI u8 op 3) 7)<4)||x4))) (.br (andI u8 op 7==2) (.br (x3) (Ls ((9,x2))) (.br (decide (i64.wrap (andI u8 (shrI u8 op 3) 7)<4)) (Ls ((10,x2))) (Ls ((bif x5 then 8 else bif x6 then 7 else bif x7 then 6 else 5,3,0,0,0,0,0,0))))) (.br (andI u8 op 7==3) (.br (andI u8 op 8 !=0) (Ls ((17,x2))) (Ls ((16,x2)))) (.br (andI u8 op 7==4) (Ls ((14,x9))) (.br (andI u8 op 7==5) (Ls ((15,x9))) (.br (andI u8 op 7==6) (Ls ((3,2,x8))) (.br (decide (i64.wrap (andI u8 (shrI u8 op 3) 7)<4)) (Ls ((23,1,0,0,0,i64.wrap (andI u8 (shrI u8 op 3) 7),0,0))) (.br (x4) (Ls ((bif x5 then 19 else bif x6 then 20 else bif x7 then 21 else 22,1,0,0,0,0,0,0))) Ln))))))) Ln)
def ZWw (op:Int):QT7:=getO ZBh.Df (ZM4 op).val
def ZM5 (op:Int):Bool:=okB (ZM4 op).val
def ZUe:En:=Zi Zx1 ZBh (λa=>some (ZM5 a)) (λa=>ZWw a)
theorem ZSa:Zb prog 225 ZUe:=
 pureP 614758941389750335 [] [] _ _ trivial Tryz.func225 Tryz.call225 trivial
def ZBi (op:Int):RT (Option TI):=
 let x1:QT34:=(0,0,0,0,i64.wrap (andI u8 (shrI u8 op 3) 7),0)
 let x2:QT29:=(1,0,0,i64.wrap (andI u8 (shrI u8 op 4) 3),0,0,0)
 let x3:=andI u8 op 7==2||(!andI u8 op 7==3||(!decide (i64.wrap (andI u8 (shrI u8 op 3) 7)<4)||decide (0<=i64.wrap (i64.wrap (andI u8 (shrI u8 op 3) 7)-2)/\i64.wrap (i64.wrap (andI u8 (shrI u8 op 3) 7)-2)<2)))
 let x4:QT29:=(3,x1)
 .br (andI u8 op 7==0) (Ls ((26,1,x1))) (.br (andI u8 op 7==1) (.br (!andI u8 op 8 !=0) (Ls ((31,x2))) (.br (i64.wrap (andI u8 (shrI u8 op 3) 7)==5) (Ls ((28,1,0,0,0,0,0,0))) (Ls ((29,1,0,0,0,0,0,0))))) (.br (!x3||(andI u8 op 7==2||(!andI u8 op 7==3||(decide (i64.wrap (andI u8 (shrI u8 op 3) 7)<4)||decide (0<=i64.wrap (i64.wrap (andI u8 (shrI u8 op 3) 7)-4)/\i64.wrap (i64.wrap (andI u8 (shrI u8 op 3) 7)-4)<4))))) (.br (x3) (.br (andI u8 op 7==2) (Ls ((24,x4))) (.br (andI u8 op 7==3) (.br (decide (i64.wrap (andI u8 (shrI u8 op 3) 7)<4)) (Ls ((bif i64.wrap (i64.wrap (andI u8 (shrI u8 op 3) 7)-2)==0 then 34 else 33,2,0,0,0,0,0,0))) (Ls ((bif i64.wrap (i64.wrap (andI u8 (shrI u8 op 3) 7)-4)==0 then 32 else bif i64.wrap (i64.wrap (andI u8 (shrI u8 op 3) 7)-4)== ↑(0+1) then 11 else bif i64.wrap (i64.wrap (andI u8 (shrI u8 op 3) 7)-4)== ↑(0+1+1) then 36 else 35,1,0,0,0,0,0,0)))) (.br (andI u8 op 7==4) (Ls ((25,x4))) (.br (andI u8 op 7==5) (Ls ((30,x2))) (.br (andI u8 op 7==6) (Ls ((13,2,0,0,0,i64.wrap (andI u8 (shrI u8 op 3) 7),0,0))) (Ls ((27,1,0,0,0,0,0,i64.wrap (andI u8 (shrI u8 op 3) 7))))))))) Ln) Ln))
def ZM8 (op:Int):QT7:=getO ZBh.Df (ZBi op).val
def ZBj (op:Int):Bool:=okB (ZBi op).val
def ZM7:En:=Zi Zx1 ZBh (λa=>some (ZBj a)) (λa=>ZM8 a)
theorem ZM6:Zb prog 226 ZM7:=
 pureP 614741495173873727 [] [] _ _ trivial Tryz.func226 Tryz.call226 trivial
def ZfS (chip:Int) (op:Int):RT (Option TI):=
 let x1:QT7:=(37,1,0,0,0,0,0,0)
 let x2:QT7:=(2,1,i64.wrap (andI u8 (shrI u8 op 3) 7),i64.wrap (andI u8 op 7),0,0,0,0)
 let x3:QT7:=(12,1,0,i64.wrap (andI u8 op 7),0,i64.wrap (andI u8 (shrI u8 op 3) 7),0,0)
 .br (chip==2) (.br (ZNj op).2 (Ls (ZNj op).1) (.br (Zjq op).2 (Ls (Zjq op).1) (.br (!shrI u8 op 6==0||ZM5 op) (.br (shrI u8 op 6==0) (Ls (ZWw op)) (.br (shrI u8 op 6==1) (.br (op==118) (Ls (x1)) (Ls (x2))) (.br (shrI u8 op 6==2) (Ls (x3)) (.br (ZBj op) (Ls (ZM8 op)) Ln)))) Ln))) (.br (Zjq op).2 (Ls (Zjq op).1) (.br (!shrI u8 op 6==0||ZM5 op) (.br (shrI u8 op 6==0) (Ls (ZWw op)) (.br (shrI u8 op 6==1) (.br (op==118) (Ls (x1)) (Ls (x2))) (.br (shrI u8 op 6==2) (Ls (x3)) (.br (ZBj op) (Ls (ZM8 op)) Ln)))) Ln))
def ZoR (chip:Int) (op:Int):QT7:=getO ZBh.Df (ZfS chip op).val
def Zmg (chip:Int) (op:Int):Bool:=okB (ZfS chip op).val
def ZSl:En:=Zi ZxR ZBh (λa=>some (Zmg a.1 a.2)) (λa=>ZoR a.1 a.2)
theorem ZIo:Zb prog 154 ZSl:=
 pureP 17594467746303 [(223,ZNi),(224,Zx8),(225,ZUe),(226,ZM7)] [] _ _ ⟨ZNg,ZCg,ZSa,ZM6,Tv⟩ Tryz.func154 Tryz.call154 trivial
def rOnT (chip:Int):RT (Bool):=
 .Lf (chip==2)
def rOn (chip:Int):Bool:=(rOnT chip).val
def ZRl (b:Int):RT (Bool):=
 let x1:=i64.wrap (i64.wrap (i64.wrap (i64.wrap (0+1)+1)+1)+1)
 let x2:=i64.wrap (x1+1)
 let x3:=i64.wrap (x2+1)
 let x4:=bif andI u8 (shrI u8 b (i64.wrap (0+1))) 1==1 then !!andI u8 (shrI u8 b 0) 1==1 else !andI u8 (shrI u8 b 0) 1==1
 let x5:=bif andI u8 (shrI u8 b (i64.wrap (i64.wrap (0+1)+1))) 1==1 then !x4 else x4
 let x6:=bif andI u8 (shrI u8 b (i64.wrap (i64.wrap (i64.wrap (0+1)+1)+1))) 1==1 then !x5 else x5
 let x7:=bif andI u8 (shrI u8 b x1) 1==1 then !x6 else x6
 let x8:=bif andI u8 (shrI u8 b x2) 1==1 then !x7 else x7
 let x9:=bif andI u8 (shrI u8 b x3) 1==1 then !x8 else x8
 .Lf (bif andI u8 (shrI u8 b (i64.wrap (x3+1))) 1==1 then !x9 else x9)
def ZsU (b:Int):Bool:=(ZRl b).val
def rMajT (a:Bool) (b:Bool) (c:Bool):RT (Bool):=
 .Lf (bif a then b||bif a then c||b&&c else b&&c else bif a then c||b&&c else b&&c)
def rMaj (a:Bool) (b:Bool) (c:Bool):Bool:=(rMajT a b c).val
def rOneT (b:Bool):RT (Int):=
 .br (b) (.Lf (1)) (.Lf (0))
def rOne (b:Bool):Int:=(rOneT b).val
def ZsP (n:Int):RT (Int):=
 .Lf (i64.wrap (IntKind.i8.wrap n))
def Ze4 (n:Int):Int:=(ZsP n).val
def ZVO (a:Int) (b:Int) (c:Bool):RT (QT25):=
 let x1:=decide (i64.wrap (i64.wrap (Ze4 a+Ze4 b)+rOne c)< -128)
 let x2:=i64.wrap (i64.wrap (i64.wrap a+i64.wrap b)+rOne c)
 let x3:=u8.wrap x2
 let x4:=decide (x2>255)
 let x5:=decide (i64.wrap (i64.wrap (i64.wrap (andI u8 a 15)+i64.wrap (andI u8 b 15))+rOne c)>15)
 .Lf ((bif x1 then x3 else x3,bif x1 then x4 else x4,bif x1 then x5 else x5,x1||decide (i64.wrap (i64.wrap (Ze4 a+Ze4 b)+rOne c)>127)))
def rSum (a:Int) (b:Int) (c:Bool):QT25:=(ZVO a b c).val
def ZLA (a:Int) (b:Int) (c:Bool):RT (QT25):=
 let x1:=decide (i64.wrap (i64.wrap (Ze4 a-Ze4 b)-rOne c)< -128)
 let x2:=i64.wrap (i64.wrap (i64.wrap a-i64.wrap b)-rOne c)
 let x3:=u8.wrap x2
 let x4:=decide (x2<0)
 let x5:=decide (i64.wrap (i64.wrap (i64.wrap (i64.wrap (andI u8 a 15)+i64.wrap (u8.wrap (15-andI u8 b 15)))+1)-rOne c)>15)
 .Lf ((bif x1 then x3 else x3,bif x1 then x4 else x4,bif x1 then x5 else x5,x1||decide (i64.wrap (i64.wrap (Ze4 a-Ze4 b)-rOne c)>127)))
def Zc5 (a:Int) (b:Int) (c:Bool):QT25:=(ZLA a b c).val
def ZYD (h:Int) (l:Int):RT (Int):=
 .Lf (orI u16 (shlI u16 (u16.wrap h) 8) (u16.wrap l))
def ZfO (h:Int) (l:Int):Int:=(ZYD h l).val
def ZV0 (b:Bool) (n:Int):RT (Option (Int)):=
 .br (!b||decide (0<=n)) (.br (b) (Ls (shlI u8 1 n)) (Ls (0))) Ln
def rBit (b:Bool) (n:Int):Int:=getO ZN3.Df (ZV0 b n).val
def Zem (b:Bool) (n:Int):Bool:=okB (ZV0 b n).val
def ZEp (chip:Int) (f:TF):RT (Option (Int)):=
 let x1:=orI u8 (orI u8 (orI u8 (orI u8 (rBit f.1 7) (rBit f.2.1 6)) (rBit f.2.2.2.1 4)) (rBit f.2.2.2.2.1 2)) (rBit f.2.2.2.2.2.2 0)
 .br (!Zem f.1 7||(!Zem f.2.1 6||(!Zem f.2.2.2.1 4||(!Zem f.2.2.2.2.1 2||Zem f.2.2.2.2.2.2 0)))) (.br (!Zem f.1 7||(!Zem f.2.1 6||(!Zem f.2.2.2.1 4||Zem f.2.2.2.2.1 2))) (.br (!Zem f.1 7||(!Zem f.2.1 6||Zem f.2.2.2.1 4)) (.br (!Zem f.1 7||Zem f.2.1 6) (.br (Zem f.1 7) (.br (!rOn chip||(!Zem f.2.2.1 5||Zem f.2.2.2.2.2.1 1)) (.br (!rOn chip||Zem f.2.2.1 5) (.br (rOn chip) (Ls (orI u8 (orI u8 x1 (rBit f.2.2.1 5)) (rBit f.2.2.2.2.2.1 1))) (Ls (orI u8 x1 2))) Ln) Ln) Ln) Ln) Ln) Ln) Ln
def ZVT (chip:Int) (f:TF):Int:=getO ZN3.Df (ZEp chip f).val
def ZLk (chip:Int) (f:TF):Bool:=okB (ZEp chip f).val
def ZEe (chip:Int) (b:Int):RT TF:=
 .Lf ((andI u8 b 128 !=0,andI u8 b 64 !=0,rOn chip&&andI u8 b 32 !=0,andI u8 b 16 !=0,andI u8 b 4 !=0,rOn chip&&andI u8 b 2 !=0,andI u8 b 1 !=0))
def ZAf (chip:Int) (b:Int):TF:=(ZEe chip b).val
def rOfT (r:Int):RT TF:=
 .Lf ((decide (r>=128),r==0,false,false,ZsU r,false,false))
def rOf (r:Int):TF:=(rOfT r).val
def ZwK (chip:Int) (f:TF) (k:Bool) (v:Bool):RT TF:=
 .Lf ((f.1,f.2.1,rOn chip&&bif rOn chip then k else k,f.2.2.2.1,f.2.2.2.2.1,bif rOn chip then rOn chip&&v else rOn chip&&v,f.2.2.2.2.2.2))
def ZsV (chip:Int) (f:TF) (k:Bool) (v:Bool):TF:=(ZwK chip f k v).val
def ZRp (r:TR) (n:Int):RT (Option (Int)):=
 .br (decide (0<=andI i64 n 7/\andI i64 n 7<8)) (Ls (bif andI i64 n 7==0 then r.2.1 else bif andI i64 n 7== ↑(0+1) then r.2.2.1 else bif andI i64 n 7== ↑(0+1+1) then r.2.2.2.1 else bif andI i64 n 7== ↑(0+1+1+1) then r.2.2.2.2.1 else bif andI i64 n 7== ↑(0+1+1+1+1) then r.2.2.2.2.2.1 else bif andI i64 n 7== ↑(0+1+1+1+1+1) then r.2.2.2.2.2.2.1 else bif andI i64 n 7== ↑(0+1+1+1+1+1+1) then 0 else r.1)) Ln
def rGet (r:TR) (n:Int):Int:=getO ZN3.Df (ZRp r n).val
def ZLv (r:TR) (n:Int):Bool:=okB (ZRp r n).val
def ZYt (r:TR) (n:Int) (v:Int):RT TR:=
 .Lf ((bif andI i64 n 7==0 then r.1 else bif andI i64 n 7==1 then r.1 else bif andI i64 n 7==2 then r.1 else bif andI i64 n 7==3 then r.1 else bif andI i64 n 7==4 then r.1 else bif andI i64 n 7==5 then r.1 else bif andI i64 n 7==7 then v else r.1,bif andI i64 n 7==0 then v else r.2.1,bif andI i64 n 7==0 then r.2.2.1 else bif andI i64 n 7==1 then v else r.2.2.1,bif andI i64 n 7==0 then r.2.2.2.1 else bif andI i64 n 7==1 then r.2.2.2.1 else bif andI i64 n 7==2 then v else r.2.2.2.1,bif andI i64 n 7==0 then r.2.2.2.2.1 else bif andI i64 n 7==1 then r.2.2.2.2.1 else bif andI i64 n 7==2 then r.2.2.2.2.1 else bif andI i64 n 7==3 then v else r.2.2.2.2.1,bif andI i64 n 7==0 then r.2.2.2.2.2.1 else bif andI i64 n 7==1 then r.2.2.2.2.2.1 else bif andI i64 n 7==2 then r.2.2.2.2.2.1 else bif andI i64 n 7==3 then r.2.2.2.2.2.1 else bif andI i64 n 7==4 then v else r.2.2.2.2.2.1,bif andI i64 n 7==0 then r.2.2.2.2.2.2.1 else bif andI i64 n 7==1 then r.2.2.2.2.2.2.1 else bif andI i64 n 7==2 then r.2.2.2.2.2.2.1 else bif andI i64 n 7==3 then r.2.2.2.2.2.2.1 else bif andI i64 n 7==4 then r.2.2.2.2.2.2.1 else bif andI i64 n 7==5 then v else r.2.2.2.2.2.2.1,r.2.2.2.2.2.2.2))
def rSet (r:TR) (n:Int) (v:Int):TR:=(ZYt r n v).val
def ZTT (r:TR) (n:Int):RT (Option (Int)):=
 .br (andI i64 n 3==3) (Ls r.2.2.2.2.2.2.2.2.1) (.br (!ZLv r (i64.wrap (2*andI i64 n 3))||ZLv r (i64.wrap (i64.wrap (2*andI i64 n 3)+1))) (.br (ZLv r (i64.wrap (2*andI i64 n 3))) (Ls (ZfO (rGet r (i64.wrap (2*andI i64 n 3))) (rGet r (i64.wrap (i64.wrap (2*andI i64 n 3)+1))))) Ln) Ln)
def ZbJ (r:TR) (n:Int):Int:=getO ZB2.Df (ZTT r n).val
def ZwF (r:TR) (n:Int) (v:Int):RT TR:=
 .br (andI i64 n 3==3) (.Lf ((r.1,r.2.1,r.2.2.1,r.2.2.2.1,r.2.2.2.2.1,r.2.2.2.2.2.1,r.2.2.2.2.2.2.1,r.2.2.2.2.2.2.2.1,v,r.2.2.2.2.2.2.2.2.2))) (.Lf (rSet (rSet r (i64.wrap (2*andI i64 n 3)) (u8.wrap (shrI u16 v 8))) (i64.wrap (i64.wrap (2*andI i64 n 3)+1)) (u8.wrap v)))
def Z4 (r:TR) (n:Int) (v:Int):TR:=(ZwF r n v).val
def ZYy (chip:Int) (r:TR):RT (Option (Int)):=
 .br (ZLk chip r.2.2.2.2.2.2.2.1) (Ls (ZfO r.1 (ZVT chip r.2.2.2.2.2.2.2.1))) Ln
def rPSW (chip:Int) (r:TR):Int:=getO ZB2.Df (ZYy chip r).val
def ZEh (chip:Int) (r:TR) (v:Int):RT TR:=
 .Lf ((u8.wrap (shrI u16 v 8),r.2.1,r.2.2.1,r.2.2.2.1,r.2.2.2.2.1,r.2.2.2.2.2.1,r.2.2.2.2.2.2.1,ZAf chip (u8.wrap v),r.2.2.2.2.2.2.2.2))
def Znn (chip:Int) (r:TR) (v:Int):TR:=(ZEh chip r v).val
def rDoT (chip:Int) (op:Int) (a:Int) (b:Int) (f:TF):RT (QT2):=
 let x1:=bif andI i64 op 7==0 then andI i64 op 7==0 else andI i64 op 7==1
 let x2:=bif andI i64 op 7==2 then andI i64 op 7==2 else bif andI i64 op 7==3 then andI i64 op 7==3 else andI i64 op 7==7
 let x3:Int:=bif x1 then bif andI i64 op 7==1 then (rSum a b f.2.2.2.2.2.2).1 else (rSum a b false).1 else bif x2 then bif andI i64 op 7==3 then (Zc5 a b f.2.2.2.2.2.2).1 else (Zc5 a b false).1 else bif andI i64 op 7==4 then bif rOn chip then andI u8 a b else andI u8 a b else bif andI i64 op 7==5 then xorI u8 a b else bif andI i64 op 7==6 then orI u8 a b else 0
 let x4:=rOf x3
 let x5:=x4.2
 let x6:=x5.2
 let x7:=x6.2.2
 let x8:=ZsV chip (x4.1,x5.1,x6.1,bif x1 then bif andI i64 op 7==1 then (rSum a b f.2.2.2.2.2.2).2.2.1 else (rSum a b false).2.2.1 else bif x2 then bif andI i64 op 7==3 then (Zc5 a b f.2.2.2.2.2.2).2.2.1 else (Zc5 a b false).2.2.1 else andI i64 op 7==4&&(rOn chip||andI u8 (orI u8 a b) 8 !=0),x7.1,x7.2.1,bif x1 then bif andI i64 op 7==1 then (rSum a b f.2.2.2.2.2.2).2.1 else (rSum a b false).2.1 else x2&&bif andI i64 op 7==3 then (Zc5 a b f.2.2.2.2.2.2).2.1 else (Zc5 a b false).2.1) (rMaj (decide (a>=128)) (bif x1 then decide (b>=128) else bif x2 then !decide (b>=128) else decide (b>=128)) (decide (x3>=128))) (bif x1 then bif andI i64 op 7==1 then (rSum a b f.2.2.2.2.2.2).2.2.2 else (rSum a b false).2.2.2 else x2&&bif andI i64 op 7==3 then (Zc5 a b f.2.2.2.2.2.2).2.2.2 else (Zc5 a b false).2.2.2)
 .br (andI i64 op 7==7) (.Lf ((a,x8))) (.Lf ((x3,x8)))
def rDo (chip:Int) (op:Int) (a:Int) (b:Int) (f:TF):QT2:=(rDoT chip op a b f).val
def ZYF (chip:Int) (v:Int) (f:TF):RT (QT2):=
 .Lf (((rSum v 1 false).1,ZsV chip ((rOf (rSum v 1 false).1).1,(rOf (rSum v 1 false).1).2.1,(rOf (rSum v 1 false).1).2.2.1,(rSum v 1 false).2.2.1,(rOf (rSum v 1 false).1).2.2.2.2.1,(rOf (rSum v 1 false).1).2.2.2.2.2.1,f.2.2.2.2.2.2) (rMaj (decide (v>=128)) false (decide ((rSum v 1 false).1>=128))) (rSum v 1 false).2.2.2))
def rInr (chip:Int) (v:Int) (f:TF):QT2:=(ZYF chip v f).val
def ZYJ (chip:Int) (v:Int) (f:TF):RT (QT2):=
 .Lf (((Zc5 v 1 false).1,ZsV chip ((rOf (Zc5 v 1 false).1).1,(rOf (Zc5 v 1 false).1).2.1,(rOf (Zc5 v 1 false).1).2.2.1,(Zc5 v 1 false).2.2.1,(rOf (Zc5 v 1 false).1).2.2.2.2.1,(rOf (Zc5 v 1 false).1).2.2.2.2.2.1,f.2.2.2.2.2.2) (rMaj (decide (v>=128)) true (decide ((Zc5 v 1 false).1>=128))) (Zc5 v 1 false).2.2.2))
def rDcr (chip:Int) (v:Int) (f:TF):QT2:=(ZYJ chip v f).val
def ZYE (chip:Int) (v:Int) (f:TF):RT (QT2):=
 .Lf ((u16.wrap (v+1),f.1,f.2.1,bif rOn chip then v==65535 else f.2.2.1,f.2.2.2))
def rInx (chip:Int) (v:Int) (f:TF):QT2:=(ZYE chip v f).val
def ZYI (chip:Int) (v:Int) (f:TF):RT (QT2):=
 .Lf ((u16.wrap (v-1),f.1,f.2.1,bif rOn chip then v==0 else f.2.2.1,f.2.2.2))
def rDcx (chip:Int) (v:Int) (f:TF):QT2:=(ZYI chip v f).val
def ZYK (chip:Int) (a:Int) (b:Int) (f:TF):RT (QT2):=
 .Lf ((u16.wrap (a+b),f.1,f.2.1,f.2.2.1,f.2.2.2.1,f.2.2.2.2.1,bif rOn chip then decide (i64.wrap (i64.wrap (IntKind.i16.wrap a)+i64.wrap (IntKind.i16.wrap b))< -32768)||decide (i64.wrap (i64.wrap (IntKind.i16.wrap a)+i64.wrap (IntKind.i16.wrap b))>32767) else f.2.2.2.2.2.1,decide (i64.wrap (i64.wrap a+i64.wrap b)>65535)))
def rDad (chip:Int) (a:Int) (b:Int) (f:TF):QT2:=(ZYK chip a b f).val
def ZTV (a:Int) (b:Int):RT (QT2):=
 let x1:=Zc5 (u8.wrap (shrI u16 a 8)) (u8.wrap (shrI u16 b 8)) (Zc5 (u8.wrap a) (u8.wrap b) false).2.1
 let x2:=x1.1
 let x3:=x2==0
 let x4:=ZfO x2 (Zc5 (u8.wrap a) (u8.wrap b) false).1
 let x5:=decide (x2>=128)
 let x6:=rMaj (decide (a>=32768)) (decide (b<32768)) x5
 let x7:=x1.2
 let x8:=x7.2
 let x9:=x8.1
 let x10:=ZsU x2
 let x11:=x8.2
 let x12:=x7.1
 .Lf ((bif x3 then x4 else x4,bif x3 then x5 else x5,x3&&(Zc5 (u8.wrap a) (u8.wrap b) false).1==0,bif x3 then x6 else x6,bif x3 then x9 else x9,bif x3 then x10 else x10,bif x3 then x11 else x11,bif x3 then x12 else x12))
def ZLz (a:Int) (b:Int):QT2:=(ZTV a b).val
def ZYL (chip:Int) (a:Int) (f:TF):RT (QT2):=
 let x1:Int:=bif f.2.2.2.1||decide (andI u8 a 15>9) then 6 else 0
 let x2:=rSum a (bif f.2.2.2.2.2.2||decide (a>153) then u8.wrap (x1+96) else x1) false
 let x3:=x2.1
 let x4:=rOf x3
 let x5:=x4.2
 let x6:=x5.2
 let x7:=x2.2.2
 let x8:=x6.2.2
 .Lf ((x3,ZsV chip (x4.1,x5.1,x6.1,x7.1,x8.1,x8.2.1,f.2.2.2.2.2.2||decide (a>153)) (rMaj (decide (a>=128)) false (decide (x3>=128))) x7.2))
def rDaa (chip:Int) (a:Int) (f:TF):QT2:=(ZYL chip a f).val
def ZYu (op:Int) (a:Int) (c:Bool):RT (Option (Int×Bool)):=
 .br (andI i64 op 3==0||(andI i64 op 3==1||(!andI i64 op 3==2||Zem c 0))) (.br (andI i64 op 3==0) (Ls ((orI u8 (shlI u8 a 1) (shrI u8 a 7),decide (a>=128)))) (.br (andI i64 op 3==1) (Ls ((orI u8 (shrI u8 a 1) (shlI u8 a 7),andI u8 a 1==1))) (.br (andI i64 op 3==2) (Ls ((orI u8 (shlI u8 a 1) (rBit c 0),decide (a>=128)))) (.br (Zem c 7) (Ls ((orI u8 (shrI u8 a 1) (rBit c 7),andI u8 a 1==1))) Ln)))) Ln
def rRot (op:Int) (a:Int) (c:Bool):Int×Bool:=getO ZFf.Df (ZYu op a c).val
def ZYN (v:Int):RT (Int×Bool):=
 .Lf ((orI u16 (shrI u16 v 1) (andI u16 v 32768),andI u16 v 1==1))
def ZRt (v:Int):Int×Bool:=(ZYN v).val
def ZTS (v:Int) (c:Bool):RT (Option (Int×Bool×Bool)):=
 .br (Zem c 0) (Ls ((orI u16 (shlI u16 v 1) (u16.wrap (rBit c 0)),decide (v>=32768),andI u16 (orI u16 (shlI u16 v 1) (u16.wrap (rBit c 0))) 32768 !=andI u16 v 32768))) Ln
def ZLe (v:Int) (c:Bool):Int×Bool×Bool:=getO ZBa.Df (ZTS v c).val
def ZLD (b:Bool) (n:Int):RT (Option (Int)):=
 .br (decide (0<=n)) (Ls (u8.wrap (shlI i64 (rOne b) n))) Ln
def ZhY (b:Bool) (n:Int):Int:=getO ZN3.Df (ZLD b n).val
def ZaI (b:Bool) (n:Int):Bool:=okB (ZLD b n).val
def ZLd (c:TC) (l:QT1):RT (Option (Int×TC)):=
 let x1:=bif c.2.2.2.2.2.2.2.2.2.2.1 then c.2.2.2.2.2.2.2.2.2.2.2.1 else c.2.2.1
 .br (!ZaI l.2.2.2.1 7||(!ZaI c.2.2.2.2.2.2.2.1 6||(!ZaI l.2.2.2.2.2.2.1 5||(!ZaI l.2.2.2.2.2.2.2.1 4||ZaI x1 3)))) (.br (!ZaI l.2.2.2.1 7||(!ZaI c.2.2.2.2.2.2.2.1 6||(!ZaI l.2.2.2.2.2.2.1 5||ZaI l.2.2.2.2.2.2.2.1 4))) (.br (!ZaI l.2.2.2.1 7||(!ZaI c.2.2.2.2.2.2.2.1 6||ZaI l.2.2.2.2.2.2.1 5)) (.br (!ZaI l.2.2.2.1 7||ZaI c.2.2.2.2.2.2.2.1 6) (.br (ZaI l.2.2.2.1 7) (Ls ((orI u8 (orI u8 (orI u8 (orI u8 (orI u8 (ZhY l.2.2.2.1 7) (ZhY c.2.2.2.2.2.2.2.1 6)) (ZhY l.2.2.2.2.2.2.1 5)) (ZhY l.2.2.2.2.2.2.2.1 4)) (ZhY x1 3)) (andI u8 c.2.2.2.2.2.1 7),c.1,c.2.1,c.2.2.1,c.2.2.2.1,c.2.2.2.2.1,c.2.2.2.2.2.1,c.2.2.2.2.2.2.1,c.2.2.2.2.2.2.2.1,c.2.2.2.2.2.2.2.2.1,c.2.2.2.2.2.2.2.2.2.1,false,false,c.2.2.2.2.2.2.2.2.2.2.2.2))) Ln) Ln) Ln) Ln) Ln
def rRim (c:TC) (l:QT1):Int×TC:=getO ZFg.Df (ZLd c l).val
def ZYx (c:TC) (l:QT1):Bool:=okB (ZLd c l).val
def ZRh (c:TC) (a:Int):RT TC:=
 .Lf ((c.1,c.2.1,c.2.2.1,c.2.2.2.1,c.2.2.2.2.1,bif andI u8 a 8 !=0 then andI u8 a 7 else c.2.2.2.2.2.1,c.2.2.2.2.2.2.1,!andI u8 a 16 !=0&&c.2.2.2.2.2.2.2.1,c.2.2.2.2.2.2.2.2.1,c.2.2.2.2.2.2.2.2.2.1,c.2.2.2.2.2.2.2.2.2.2.1,c.2.2.2.2.2.2.2.2.2.2.2.1,bif andI u8 a 64 !=0 then andI u8 a 128 !=0 else c.2.2.2.2.2.2.2.2.2.2.2.2))
def rSim (c:TC) (a:Int):TC:=(ZRh c a).val
def ZLr (c:Int) (f:TF):RT (Bool):=
 .br (c==0) (.Lf (!f.2.1)) (.br (c==1) (.Lf f.2.1) (.br (c==2) (.Lf (!f.2.2.2.2.2.2)) (.br (c==3) (.Lf f.2.2.2.2.2.2) (.br (c==4) (.Lf (!f.2.2.2.2.1)) (.br (c==5) (.Lf f.2.2.2.2.1) (.br (c==6) (.Lf (!f.1)) (.br (c==7) (.Lf f.1) (.br (c==8) (.Lf (!f.2.2.1)) (.br (c==9) (.Lf f.2.2.1) (.br (c==10) (.Lf f.2.2.2.2.2.1) (.Lf (c==11))))))))))))
def Zgf (c:Int) (f:TF):Bool:=(ZLr c f).val
def ZEd (s:Int):RT (Int):=
 .br (s==1) (.Lf (36)) (.br (s==2) (.Lf (60)) (.br (s==3) (.Lf (52)) (.br (s==4) (.Lf (44)) (.Lf (0)))))
def Zy (s:Int):Int:=(ZEd s).val
def Zq7 (s:Int):RT (Bool):=
 .Lf (decide (s>=1)&&decide (s<=4))
def Zd (s:Int):Bool:=(Zq7 s).val
def ZK9 (op:Int):RT (TI×Bool):=
 .br (op==8) (.Lf (((40,1,0,0,0,0,0,0),true))) (.br (op==16) (.Lf (((41,1,0,0,0,0,0,0),true))) (.br (op==24) (.Lf (((42,1,0,0,0,0,0,0),true))) (.br (op==32) (.Lf (((38,1,0,0,0,0,0,0),true))) (.br (op==40) (.Lf (((43,2,0,0,0,0,0,0),true))) (.br (op==48) (.Lf (((39,1,0,0,0,0,0,0),true))) (.br (op==56) (.Lf (((44,2,0,0,0,0,0,0),true))) (.br (op==203) (.Lf (((45,1,0,0,0,0,10,0),true))) (.br (op==217) (.Lf (((46,1,0,0,0,0,0,0),true))) (.br (op==221) (.Lf (((24,3,0,0,0,0,8,0),true))) (.br (op==237) (.Lf (((47,1,0,0,0,0,0,0),true))) (.br (op==253) (.Lf (((24,3,0,0,0,0,9,0),true))) (.Lf (((0,0,0,0,0,0,0,0),false))))))))))))))
def ZEg (op:Int):TI×Bool:=(ZK9 op).val
def ZTU (y:Int) (z:Int) (p:Int) (q:Int):RT (Option TI):=
 let x1:=decide (0<=i64.wrap (y-4)/\i64.wrap (y-4)<4)
 .br (z==0) (Ls ((1,1,0,0,0,0,0,0))) (.br (z==1) (.br (q==0) (Ls ((4,3,0,0,p,0,0,0))) (Ls ((18,1,0,0,p,0,0,0)))) (.br (!z==2||((bif y==0 then y==0 else y==2)||((bif y==1 then y==1 else y==3)||x1))) (.br (z==2) (.br (bif y==0 then y==0 else y==2) (Ls ((10,1,0,0,p,0,0,0))) (.br (bif y==1 then y==1 else y==3) (Ls ((9,1,0,0,p,0,0,0))) (Ls ((bif i64.wrap (y-4)==0 then 8 else bif i64.wrap (y-4)== ↑(0+1) then 7 else bif i64.wrap (y-4)== ↑(0+1+1) then 6 else 5,3,0,0,0,0,0,0))))) (.br (!z==3||decide (0<=q/\q<2)) (.br (z==3) (Ls ((bif q==0 then 16 else 17,1,0,0,p,0,0,0))) (.br (z==4) (Ls ((14,1,y,0,0,0,0,0))) (.br (z==5) (Ls ((15,1,y,0,0,0,0,0))) (.br (z==6) (Ls ((3,2,y,0,0,0,0,0))) (.br (decide (y<4)) (Ls ((23,1,0,0,0,y,0,0))) (.br (x1) (Ls ((bif i64.wrap (y-4)==0 then 19 else bif i64.wrap (y-4)== ↑(0+1) then 20 else bif i64.wrap (y-4)== ↑(0+1+1) then 21 else 22,1,0,0,0,0,0,0))) Ln)))))) Ln)) Ln))
def rOlow (y:Int) (z:Int) (p:Int) (q:Int):QT7:=getO ZBh.Df (ZTU y z p q).val
def ZYA (y:Int) (z:Int) (p:Int) (q:Int):Bool:=okB (ZTU y z p q).val
def ZLl (y:Int) (z:Int) (p:Int) (q:Int):RT (Option TI):=
 .br (z==0) (Ls ((26,1,0,0,0,0,y,0))) (.br (z==1) (.br (q==0) (Ls ((31,1,0,0,p,0,0,0))) (.br (y==5) (Ls ((28,1,0,0,0,0,0,0))) (.br (y==7) (Ls ((29,1,0,0,0,0,0,0))) (Ls ((26,1,0,0,0,0,11,0)))))) (.br (z==2||(!z==3||((bif y==0 then y==0 else y==1)||(y==2||(y==3||decide (0<=i64.wrap (y-4)/\i64.wrap (y-4)<4)))))) (.br (z==2) (Ls ((24,3,0,0,0,0,y,0))) (.br (z==3) (.br (bif y==0 then y==0 else y==1) (Ls ((24,3,0,0,0,0,11,0))) (.br (y==2) (Ls ((34,2,0,0,0,0,0,0))) (.br (y==3) (Ls ((33,2,0,0,0,0,0,0))) (Ls ((bif i64.wrap (y-4)==0 then 32 else bif i64.wrap (y-4)== ↑(0+1) then 11 else bif i64.wrap (y-4)== ↑(0+1+1) then 36 else 35,1,0,0,0,0,0,0)))))) (.br (z==4) (Ls ((25,3,0,0,0,0,y,0))) (.br (z==5) (.br (q==0) (Ls ((30,1,0,0,p,0,0,0))) (Ls ((25,3,0,0,0,0,11,0)))) (.br (z==6) (Ls ((13,2,0,0,0,y,0,0))) (Ls ((27,1,0,0,0,0,0,y)))))))) Ln))
def ZYB (y:Int) (z:Int) (p:Int) (q:Int):QT7:=getO ZBh.Df (ZLl y z p q).val
def ZVV (y:Int) (z:Int) (p:Int) (q:Int):Bool:=okB (ZLl y z p q).val
def Zhv (chip:Int) (op:Int):RT (Option TI):=
 .br ((ZEg op).2&&rOn chip) (Ls (ZEg op).1) (.br (!shrI u8 op 6==0||ZYA (i64.wrap (andI u8 (shrI u8 op 3) 7)) (i64.wrap (andI u8 op 7)) (shrI i64 (i64.wrap (andI u8 (shrI u8 op 3) 7)) 1) (andI i64 (i64.wrap (andI u8 (shrI u8 op 3) 7)) 1)) (.br (shrI u8 op 6==0) (Ls (rOlow (i64.wrap (andI u8 (shrI u8 op 3) 7)) (i64.wrap (andI u8 op 7)) (shrI i64 (i64.wrap (andI u8 (shrI u8 op 3) 7)) 1) (andI i64 (i64.wrap (andI u8 (shrI u8 op 3) 7)) 1))) (.br (shrI u8 op 6==1) (.br (op==118) (Ls ((37,1,0,0,0,0,0,0))) (Ls ((2,1,i64.wrap (andI u8 (shrI u8 op 3) 7),i64.wrap (andI u8 op 7),0,0,0,0)))) (.br (shrI u8 op 6==2) (Ls ((12,1,0,i64.wrap (andI u8 op 7),0,i64.wrap (andI u8 (shrI u8 op 3) 7),0,0))) (.br (ZVV (i64.wrap (andI u8 (shrI u8 op 3) 7)) (i64.wrap (andI u8 op 7)) (shrI i64 (i64.wrap (andI u8 (shrI u8 op 3) 7)) 1) (andI i64 (i64.wrap (andI u8 (shrI u8 op 3) 7)) 1)) (Ls (ZYB (i64.wrap (andI u8 (shrI u8 op 3) 7)) (i64.wrap (andI u8 op 7)) (shrI i64 (i64.wrap (andI u8 (shrI u8 op 3) 7)) 1) (andI i64 (i64.wrap (andI u8 (shrI u8 op 3) 7)) 1))) Ln)))) Ln)
def Zc (chip:Int) (op:Int):QT7:=getO ZBh.Df (Zhv chip op).val
def Zs0 (chip:Int) (op:Int):Bool:=okB (Zhv chip op).val
theorem ZxL (b:Int) (h:inR .u8 b):Zmd b=true/\ZtK b=ZsU b:=by have h1:=Zf8 (λb=>Zmd b&&(ZtK b==ZsU b)) (by kernel_rfl) b h;simpa using h1
theorem ZyG (a b c:Bool):pMaj a b c=rMaj a b c:=by cases a<;>cases b<;>cases c<;>rfl
theorem ZUr (a:Bool):pOne a=rOne a:=by cases a<;>rfl
theorem ZKq (a b:Int) (c:Bool):pSum a b c=rSum a b c:=by simp only[pSum,ZWf,rSum,ZVO,RT.val,Yat,ZnY,Zma,Ze4,ZsP,ZUr]
theorem ZDc (a b:Int) (c:Bool):Ziq a b c=Zc5 a b c:=by
 have h1:=ZZN a;have h2:=ZZN b;have e:IntKind.wrap .i64 (IntKind.wrap .i64 (IntKind.wrap .i64 (IntKind.wrap .i64 (andI .u8 a 15)+15)-IntKind.wrap .i64 (andI .u8 b 15))+1)=IntKind.wrap .i64 (IntKind.wrap .i64 (IntKind.wrap .i64 (andI .u8 a 15)+IntKind.wrap .i64 (IntKind.wrap .u8 (15-andI .u8 b 15)))+1):=by rw[ZzB];rw[wrap_i64 (andI .u8 a 15) (by omega) (by omega),wrap_i64 (andI .u8 b 15) (by omega) (by omega),wrap_i64 ((15-andI .u8 b 15)%256) (by omega) (by omega),wrap_i64 (andI .u8 a 15+15) (by omega) (by omega)];congr 1;rw[wrap_i64 _ (by omega) (by omega),wrap_i64 _ (by omega) (by omega)];omega
 simp only[Ziq,ZNO,Zc5,ZLA,RT.val,Yat,ZnY,Zma,Ze4,ZsP,ZUr,e]
theorem Zvd (a b:Int):ZNm a b=ZfO a b:=rfl
theorem ZQb (b:Bool) (n:Int) (h:0<=n):Ze5 b n=true/\pBit b n=bif b then shlI .u8 1 n else 0:=by cases b<;>simp[Ze5,pBit,ZSr,RT.val,h,okB,getO]
theorem ZgG (b:Bool) (n:Int) (h:0<=n):Zem b n=true/\rBit b n=bif b then shlI .u8 1 n else 0:=by cases b<;>simp[Zem,rBit,ZV0,RT.val,h,okB,getO]
theorem Zby (chip:Int):rOn chip=(chip==2):=rfl
theorem ZYV (chip:Int) (f):ZFi chip f=true:=by cases h:chip==2<;>simp[ZFi,Zx2,RT.val,ZQb,okB,h]
theorem ZVE (chip:Int) (f):ZLk chip f=true:=by cases h:chip==2<;>simp[ZLk,ZEp,RT.val,ZgG,Zby,okB,h]
theorem ZWe (chip:Int) (f):ZR7 chip f=ZVT chip f:=by simp only[ZR7,Zx2,ZVT,ZEp,RT.val,ZQb,ZgG,Zby];cases chip==2<;>simp[ZQb,ZgG,getO]
theorem of_C (r:Int) (h:inR .u8 r):pOfC r=true:=by simp[pOfC,pOfT,RT.val,ZxL r h,okB]
theorem of_eq (r:Int) (h:inR .u8 r):pOf r=rOf r:=by simp[pOf,pOfT,rOf,rOfT,RT.val,ZxL r h,getO]
theorem get_C (r) (n:Int):ZLv r n=true:=by
 have:=and7 n;have h:decide (0<=andI .i64 n 7/\andI .i64 n 7<8)=true:=by simp;omega
 simp only[ZLv,ZRp,RT.val,h,Ya,okB]
theorem ZPD {m:Int} (h:0<=m/\m<=7):m=0\/m=1\/m=2\/m=3\/m=4\/m=5\/m=6\/m=7:=by omega
theorem ZMm (r) (n:Int):pGet r n=rGet r n:=by
 have h7:=and7 n;have h:decide (0<=andI .i64 n 7/\andI .i64 n 7<8)=true:=by simp;omega
 simp only[pGet,ZWG,rGet,ZRp,RT.val,h,Ya,getO];generalize andI .i64 n 7=m at*;rcases ZPD h7 with rfl|rfl|rfl|rfl|rfl|rfl|rfl|rfl<;>rfl
theorem ZLQ (r) (n v:Int):pSet r n v=rSet r n v:=by have h7:=and7 n;simp only[pSet,ZWi,rSet,ZYt,RT.val,Ya,getO];generalize andI .i64 n 7=m at*;rcases ZPD h7 with rfl|rfl|rfl|rfl|rfl|rfl|rfl|rfl<;>rfl
theorem ZRy (r) (n:Int):ZWs r n=ZbJ r n:=by simp only[ZWs,ZMW,ZbJ,ZTT,RT.val,ZMm,get_C,Zvd];cases andI .i64 n 3==3<;>simp[okB,getO]
theorem ZAz (r) (n v:Int):Ztz r n v=Z4 r n v:=by simp only[Ztz,ZnZ,Z4,ZwF,RT.val,ZLQ]
theorem ZL0 (chip:Int) (r):ZWu chip r=true/\pPSW chip r=rPSW chip r:=by simp[ZWu,pPSW,ZR8,rPSW,ZYy,RT.val,ZYV,ZVE,ZWe,Zvd,okB,getO]
theorem ZJI (chip:Int) (b:Int):Ztw chip b=ZAf chip b:=by simp only[Ztw,Ztv,ZAf,ZEe,RT.val,Zby]
theorem ZHf (chip:Int) (r) (v:Int):ZA4 chip r v=Znn chip r v:=by simp only[ZA4,ZtA,Znn,ZEh,RT.val,ZJI]
theorem ZSX (c:Int) (f):ZNv c f=Zgf c f:=by
 simp only[ZNv,ZB3,Zgf,ZLr,RT.val];by_cases h:0<=c/\c<=11
 ·have:c=0\/c=1\/c=2\/c=3\/c=4\/c=5\/c=6\/c=7\/c=8\/c=9\/c=10\/c=11:=by omega
  rcases this with rfl|rfl|rfl|rfl|rfl|rfl|rfl|rfl|rfl|rfl|rfl|rfl<;>simp
 ·have e:∀k:Int,0<=k->k<=11->(c==k)=false:=λk h1 h2=>by simp;omega
  simp[e]
theorem Zwj (a b:Int) (c:Bool):inR .u8 (rSum a b c).1:=by simp only[rSum,ZVO,RT.val,Yat];exact Zau _ _
theorem Zp1 (a b:Int) (c:Bool):inR .u8 (Zc5 a b c).1:=by simp only[Zc5,ZLA,RT.val,Yat];exact Zau _ _
theorem Zld (a b:Int):inR .u8 (andI .u8 a b)/\inR .u8 (orI .u8 a b)/\inR .u8 (xorI .u8 a b):=ZhF _ _ _
theorem ZwA (chip v r:Int) (half over x:Bool) (f) (h:inR .u8 r):Zjn chip v r half over x f=true/\
  Zn4 chip v r half over x f=ZsV chip ((rOf r).1,(rOf r).2.1,(rOf r).2.2.1,half,(rOf r).2.2.2.2.1,(rOf r).2.2.2.2.2.1,f.2.2.2.2.2.2) (rMaj (decide (v>=128)) x (decide (r>=128))) over:=by cases hc:chip==2<;>simp[Zjn,Zn4,Zmb,ZsV,ZwK,RT.val,of_C r h,of_eq r h,okB,getO,Zby,hc,ZyG,rOf,rOfT]
theorem ZMk (chip v:Int) (f):ZWE chip v f=true/\pInr chip v f=rInr chip v f:=by have h:=ZwA chip v (rSum v 1 false).1 (rSum v 1 false).2.2.1 (rSum v 1 false).2.2.2 false f (Zwj _ _ _);simp only[ZWE,pInr,ZSf,rInr,ZYF,RT.val,ZKq,h.1,h.2,Ya,okB,getO,and_self]
theorem ZMo (chip v:Int) (f):ZWR chip v f=true/\pDcr chip v f=rDcr chip v f:=by have h:=ZwA chip v (Zc5 v 1 false).1 (Zc5 v 1 false).2.2.1 (Zc5 v 1 false).2.2.2 true f (Zp1 _ _ _);simp only[ZWR,pDcr,ZSn,rDcr,ZYJ,RT.val,ZDc,h.1,h.2,Ya,okB,getO,and_self]
theorem ZV9 (chip v:Int) (f):pInx chip v f=rInx chip v f:=by simp only[pInx,ZWC,rInx,ZYE,RT.val,Zby]
theorem ZWc (chip v:Int) (f):pDcx chip v f=rDcx chip v f:=by simp only[pDcx,ZWP,rDcx,ZYI,RT.val,Zby]
theorem ZMp (chip a:Int) (f):ZWV chip a f=true/\pDaa chip a f=rDaa chip a f:=by
 have h:=λx=>of_C _ (Zwj a x false)
 have h2:=λx=>of_eq _ (Zwj a x false)
 cases hc:chip==2<;>simp[ZWV,pDaa,ZSp,rDaa,ZYL,ZsV,ZwK,RT.val,ZKq,h,h2,okB,getO,Zby,hc,ZyG,rOf,rOfT]
theorem ZE6 (a b:Int):ZNL a b=true/\ZWK a b=ZLz a b:=by
 have h:=λx y z=>of_C _ (Zp1 x y z)
 have h2:=λx y z=>of_eq _ (Zp1 x y z)
 simp[ZNL,ZWK,ZFB,ZLz,ZTV,RT.val,ZDc,h,h2,okB,getO,ZyG,Zvd,rOf,rOfT,Yat]
theorem ZRN (v:Int):ZY9 v=ZRt v:=rfl
theorem ZUv (c:Bool):pLow c=bif c then 1 else 0:=by cases c<;>rfl
theorem ZLS (op a:Int) (c:Bool):ZWk op a c=true/\pRot op a c=rRot op a c:=by
 have h3:=and3 op;simp only[ZWk,pRot,ZRY,rRot,ZYu,RT.val,ZUv,(ZgG c 0 (by decide)).1,(ZgG c 0 (by decide)).2,(ZgG c 7 (by decide)).1,(ZgG c 7 (by decide)).2];generalize andI .i64 op 3=m at*;have:m=0\/m=1\/m=2\/m=3:=by omega
 rcases this with rfl|rfl|rfl|rfl<;>cases c<;>exact⟨rfl,rfl⟩
theorem ZRw (v:Int) (c:Bool) (h:inR .u16 v):ZWq v c=ZLe v c:=by
 have hb:=ZgG c 0 (by decide);have e:IntKind.wrap .u16 (bif c then 1 else 0)=IntKind.wrap .u16 (bif c then shlI .u8 1 0 else 0):=by cases c<;>rfl
 have hr:∀x,inR .u16 (orI .u16 x (IntKind.wrap .u16 (bif c then shlI .u8 1 0 else 0))):=λx=>(ZhF _ _ _).2.1
 simp only[ZWq,ZMP,ZLe,ZTS,RT.val,ZUv,hb.1,hb.2,Ya,getO,e];rw[ZrX _ (ZhF _ _ _).2.2,ZKm _ _ (hr _) h,ZDo _ (hr _),ZDo _ h];cases tb (orI .u16 (shlI .u16 v 1) (IntKind.wrap .u16 (bif c then shlI .u8 1 0 else 0)))<;>cases tb v<;>rfl
theorem ZWd (chip a b:Int) (f) (ha:inR .u16 a) (hb:inR .u16 b):pDad chip a b f=rDad chip a b f:=by
 have hr:inR .u16 (IntKind.wrap .u16 (a+b)):=Zau _ _;have ha':=Ziu.1 ha;have hb':=Ziu.1 hb;simp only[pDad,ZWT,rDad,ZYK,RT.val,Zby];rw[ZrX _ (ZhF _ _ _).1,ZTJ _ _ (ZhF _ _ _).2.2 (ZhF _ _ _).2.2,ZKm _ _ ha hr,ZKm _ _ hb hr];have e1:decide (IntKind.wrap .u16 (a+b)<a)=decide (IntKind.wrap .i64 (IntKind.wrap .i64 a+IntKind.wrap .i64 b)>65535):=by rw[ZrY,wrap_i64 a (by omega) (by omega),wrap_i64 b (by omega) (by omega),wrap_i64 (a+b) (by omega) (by omega)];simp only[decide_eq_decide];omega
 have e2:(((tb a)^^(tb (IntKind.wrap .u16 (a+b))))&&((tb b)^^(tb (IntKind.wrap .u16 (a+b)))))=(decide (IntKind.wrap .i64 (IntKind.wrap .i64 (IntKind.wrap .i16 a)+IntKind.wrap .i64 (IntKind.wrap .i16 b))< -32768)||decide (IntKind.wrap .i64 (IntKind.wrap .i64 (IntKind.wrap .i16 a)+IntKind.wrap .i64 (IntKind.wrap .i16 b))>32767)):=by
  have ia:=ZDq a;have ib:=ZDq b;have hia: -32768<=IntKind.wrap .i16 a/\IntKind.wrap .i16 a<=32767:=by rw[ia];split<;>omega
  have hib: -32768<=IntKind.wrap .i16 b/\IntKind.wrap .i16 b<=32767:=by rw[ib];split<;>omega
  rw[wrap_i64 (IntKind.wrap .i16 a) (by omega) (by omega),wrap_i64 (IntKind.wrap .i16 b) (by omega) (by omega),wrap_i64 (IntKind.wrap .i16 a+IntKind.wrap .i16 b) (by omega) (by omega)];rw[ia,ib,ZrY];unfold tb;by_cases h1:a>=32768<;>by_cases h2:b>=32768<;>by_cases h3:(a+b)%65536>=32768<;>simp[h1,h2,h3]<;>(try split)<;>(try split)<;>omega
 rw[e1,e2]
theorem ZLT (c l):ZWm c l=true/\pRim c l=rRim c l/\ZYx c l=true:=by
 have h:∀b n,0<=n->Zc9 b n=true/\ZxY b n=bif b then shlI .u8 1 n else 0:=λb n h=>by cases b<;>simp[Zc9,ZxY,ZFe,RT.val,h,okB,getO]
 have h3:∀b,ZaI b 3=true/\ZhY b 3=bif b then shlI .u8 1 3 else 0:=λb=>by cases b<;>exact⟨rfl,rfl⟩
 have h4:∀b,ZaI b 4=true/\ZhY b 4=bif b then shlI .u8 1 4 else 0:=λb=>by cases b<;>exact⟨rfl,rfl⟩
 have h5:∀b,ZaI b 5=true/\ZhY b 5=bif b then shlI .u8 1 5 else 0:=λb=>by cases b<;>exact⟨rfl,rfl⟩
 have h6:∀b,ZaI b 6=true/\ZhY b 6=bif b then shlI .u8 1 6 else 0:=λb=>by cases b<;>exact⟨rfl,rfl⟩
 have h7:∀b,ZaI b 7=true/\ZhY b 7=bif b then shlI .u8 1 7 else 0:=λb=>by cases b<;>exact⟨rfl,rfl⟩
 simp[ZWm,pRim,ZR0,ZYx,rRim,ZLd,RT.val,h,h3,h4,h5,h6,h7,okB,getO]
theorem ZV2 (c) (a:Int):pSim c a=rSim c a:=by simp only[pSim,ZWh,rSim,ZRh,RT.val]
theorem ZHb (s:Int):ZAX s=Zy s:=by simp only[ZAX,Ztu,Zy,ZEd,RT.val]
theorem ZL1 (chip op a b:Int):ZtW chip op a b=true/\∀f,(andI .i64 op 7=op)->4<=op->op<=6->ZFm chip op a b=rDo chip op a b f:=by
 have h:=λx y=>of_C _ (Zld x y).1
 have h':=λx y=>of_C _ (Zld x y).2.1
 have h'':=λx y=>of_C _ (Zld x y).2.2
 have g:=λx y=>of_eq _ (Zld x y).1
 have g':=λx y=>of_eq _ (Zld x y).2.1
 have g'':=λx y=>of_eq _ (Zld x y).2.2
 have h0:=of_C 0 (by rw[Zh5];omega);constructor
 ·cases h4:op==4<;>cases h5:op==5<;>cases h6:op==6<;>simp[ZtW,ZoK,RT.val,h,h',h'',h0,okB,h4,h5,h6]
 ·intro f e h4 h6;have:op=4\/op=5\/op=6:=by omega
  rcases this with rfl|rfl|rfl<;>cases hc:chip==2<;>simp[ZFm,ZoK,rDo,rDoT,RT.val,h,h',h'',g,g',g'',getO,e,Zby,hc,ZsV,ZwK,rOf,rOfT,ZyG]
theorem ZT4 (chip op a b:Int) (f):pDoC chip op a b f=true/\pDo chip op a b f=rDo chip op a b f:=by
 have h7:=and7 op;have hs:=λx=>of_C _ (Zwj a b x)
 have hs2:=λx=>of_eq _ (Zwj a b x)
 have hd:=λx=>of_C _ (Zp1 a b x)
 have hd2:=λx=>of_eq _ (Zp1 a b x)
 have hl:=ZL1 chip (andI .i64 op 7) a b;have hlt:decide (b<128)= !decide (128<=b):=by
  by_cases h:b<128
  ·have:¬128<=b:=by omega
   simp[h,this]
  ·have:128<=b:=by omega
   simp[h,this]
 have hr:rDo chip (andI .i64 op 7) a b f=rDo chip op a b f:=by
  have:andI .i64 (andI .i64 op 7) 7=andI .i64 op 7:=by generalize andI .i64 op 7=m at*;rcases ZPD h7 with rfl|rfl|rfl|rfl|rfl|rfl|rfl|rfl<;>rfl
  simp only[rDo,rDoT,this]
 have he:andI .i64 (andI .i64 op 7) 7=andI .i64 op 7:=by generalize andI .i64 op 7=m at*;rcases ZPD h7 with rfl|rfl|rfl|rfl|rfl|rfl|rfl|rfl<;>rfl
 rw[<-hr];have hl2:=hl.2 f he;have hl1:=hl.1;clear hl hr;simp only[pDoC,pDo,pDoT,RT.val];generalize andI .i64 op 7=m at*;rcases ZPD h7 with rfl|rfl|rfl|rfl|rfl|rfl|rfl|rfl
 case inr.inr.inr.inr.inl=>simp[hl1,hl2,okB,getO]
 case inr.inr.inr.inr.inr.inl=>simp[hl1,hl2,okB,getO]
 case inr.inr.inr.inr.inr.inr.inl=>simp[hl1,hl2,okB,getO]
 all_goals cases hc:chip==2<;>simp[rDo,rDoT,RT.val,ZKq,ZDc,hs,hs2,hd,hd2,okB,getO,he,Zby,hc,ZsV,ZwK,rOf,rOfT,ZyG,hlt]
theorem ZMn (chip op:Int) (h:chip≠2):(ZfS chip op).val=(ZfS 0 op).val:=by
 have h1:(chip==2)=false:=by simpa using h
 have h0:((0:Int)==2)=false:=rfl;simp only[ZfS,RT.val,h1,h0]
theorem Zni (chip op:Int) (h:chip≠2):(Zhv chip op).val=(Zhv 0 op).val:=by
 have h1:rOn chip=false:=by simpa [Zby] using h
 have h0:rOn 0=false:=rfl;simp only[Zhv,RT.val,h1,h0]
def decT (chip op:Int):Bool:=okB (ZfS chip op).val&&okB (Zhv chip op).val&&(ZoR chip op==Zc chip op)
theorem dec_ok (chip op:Int) (h:inR .u8 op):Zmg chip op=true/\ZoR chip op=Zc chip op/\Zs0 chip op=true:=by
 have fin:∀c,decT c op=true->Zmg c op=true/\ZoR c op=Zc c op/\Zs0 c op=true:=by intro c hc;simp only[decT,Yc,Yav] at hc;exact⟨hc.1.1,hc.2,hc.1.2⟩
 by_cases hc:chip=2
 ·subst hc;exact fin 2 (Zf8 (decT 2) (by kernel_rfl) op h)
 ·have:=fin 0 (Zf8 (decT 0) (by kernel_rfl) op h);unfold Zmg ZoR Zc Zs0 at this|-;rw[ZMn chip op hc,Zni chip op hc];exact this
def Zt0:En:=Zi ZB1 ZB2 (λ_=>none) (λa=>ZfO a.1 a.2)
theorem Zx4:Zb prog 220 Zt0:=Zme.tot (λa h=>by simp) (λa h=>Zvd _ _)
def ZUk:En:=Zi ZNx ZN3 (λ_=>none) (λa=>rGet a.1 a.2)
theorem ZSg:Zb prog 281 ZUk:=ZNw.tot (λa h=>by simp) (λa h=>ZMm _ _)
def ZxV:En:=Zi ZMA ZMB (λ_=>none) (λa=>rSet a.1 a.2.1 a.2.2)
theorem ZFb:Zb prog 290 ZxV:=ZMz.tot (λa h=>by simp) (λa h=>ZLQ _ _ _)
def ZMY:En:=Zi ZNx ZB2 (λ_=>none) (λa=>ZbJ a.1 a.2)
theorem ZMX:Zb prog 280 ZMY:=ZR5.tot (λa h=>by simp) (λa h=>ZRy _ _)
def Zcf:En:=Zi Zkz ZMB (λ_=>none) (λa=>Z4 a.1 a.2.1 a.2.2)
theorem ZeT:Zb prog 291 Zcf:=ZA2.tot (λa h=>by simp) (λa h=>ZAz _ _ _)
def ZM1:En:=Zi ZM0 ZB2 (λ_=>none) (λa=>rPSW a.1 a.2)
theorem ZR9:Zb prog 288 ZM1:=ZWt.tot (λa h=>by have h1:=(ZL0 a.1 a.2).1;simp[h1]) (λa h=>(ZL0 _ _).2)
def Zn2:En:=Zi Zn0 ZMB (λ_=>none) (λa=>Znn a.1 a.2.1 a.2.2)
theorem ZA3:Zb prog 299 Zn2:=ZHv.tot (λa h=>by simp) (λa h=>ZHf _ _ _)
def ZWN:En:=Zi ZWL ZtV (λ_=>none) (λa=>rDo a.1 a.2.1 a.2.2.1 a.2.2.2.1 a.2.2.2.2)
theorem ZWM:Zb prog 292 ZWN:=ZY6.tot (λa h=>by have h1:=(ZT4 a.1 a.2.1 a.2.2.1 a.2.2.2.1 a.2.2.2.2).1;simp[h1]) (λa h=>(ZT4 _ _ _ _ _).2)
def ZFt:En:=Zi ZNq ZtV (λ_=>none) (λa=>rInr a.1 a.2.1 a.2.2)
theorem ZFs:Zb prog 282 ZFt:=ZWD.tot (λa h=>by have h1:=(ZMk a.1 a.2.1 a.2.2).1;simp[h1]) (λa h=>(ZMk _ _ _).2)
def ZFG:En:=Zi ZNq ZtV (λ_=>none) (λa=>rDcr a.1 a.2.1 a.2.2)
theorem ZFF:Zb prog 283 ZFG:=ZWQ.tot (λa h=>by have h1:=(ZMo a.1 a.2.1 a.2.2).1;simp[h1]) (λa h=>(ZMo _ _ _).2)
def ZNp:En:=Zi ZNn ZNo (λ_=>none) (λa=>rInx a.1 a.2.1 a.2.2)
theorem ZSe:Zb prog 294 ZNp:=ZWB.tot (λa h=>by simp) (λa h=>ZV9 _ _ _)
def ZNS:En:=Zi ZNn ZNo (λ_=>none) (λa=>rDcx a.1 a.2.1 a.2.2)
theorem ZSm:Zb prog 295 ZNS:=ZWO.tot (λa h=>by simp) (λa h=>ZWc _ _ _)
def ZNY:En:=Zi ZNq ZtV (λ_=>none) (λa=>rDaa a.1 a.2.1 a.2.2)
theorem ZSq:Zb prog 297 ZNY:=ZWU.tot (λa h=>by have h1:=(ZMp a.1 a.2.1 a.2.2).1;simp[h1]) (λa h=>(ZMp _ _ _).2)
def ZNW:En:=Zi ZNU ZNo (λ_=>none) (λa=>rDad a.1 a.2.1 a.2.2.1 a.2.2.2)
theorem ZSo:Zb prog 296 ZNW:=ZWS.tot (λa h=>by simp) (λa h=>ZWd _ _ _ _ h.2.1 h.2.2.1)
def ZCi:En:=Zi ZCh ZNo (λ_=>none) (λa=>ZLz a.1 a.2)
theorem ZNM:Zb prog 301 ZCi:=ZSj.tot (λa h=>by have h1:=(ZE6 a.1 a.2).1;simp[h1]) (λa h=>(ZE6 _ _).2)
def ZCm:En:=Zi ZCk ZCl (λ_=>none) (λa=>ZRt a)
theorem ZN5:Zb prog 302 ZCm:=ZSs.tot (λa h=>by simp) (λa h=>ZRN _)
def ZMG:En:=Zi ZMF ZFf (λ_=>none) (λa=>rRot a.1 a.2.1 a.2.2)
theorem ZRZ:Zb prog 298 ZMG:=ZWj.tot (λa h=>by have h1:=(ZLS a.1 a.2.1 a.2.2).1;simp[h1]) (λa h=>(ZLS _ _ _).2)
def ZBb:En:=Zi ZA9 ZBa (λ_=>none) (λa=>ZLe a.1 a.2)
theorem ZMQ:Zb prog 303 ZBb:=ZR2.tot (λa h=>by simp) (λa h=>ZRw _ _ h.1)
def ZMI:En:=Zi ZMH ZFg (λ_=>none) (λa=>rRim a.1 a.2)
theorem ZR1:Zb prog 231 ZMI:=ZWl.tot (λa h=>by have h1:=(ZLT a.1 a.2).1;simp[h1]) (λa h=>(ZLT _ _).2.1)
def ZMy:En:=Zi ZMw ZMx (λ_=>none) (λa=>rSim a.1 a.2)
theorem ZRV:Zb prog 232 ZMy:=ZWg.tot (λa h=>by simp) (λa h=>ZV2 _ _)
def ZFw:En:=Zi ZMZ Zn6 (λ_=>none) (λa=>Zgf a.1 a.2)
theorem ZHK:Zb prog 353 ZFw:=ZNu.tot (λa h=>by simp) (λa h=>ZSX _ _)
def ZxO:En:=Zi ZxT ZB2 (λ_=>none) (λa=>Zy a)
theorem ZAW:Zb prog 155 ZxO:=ZHq.tot (λa h=>by simp) (λa h=>ZHb _)
def Zx9:En:=Zi ZxR ZBh (λ_=>none) (λa=>Zc a.1 a.2)
theorem ZoQ:Zb prog 154 Zx9:=ZIo.tot (λa h=>by have h1:=(dec_ok a.1 a.2 h.2).1;simp[h1]) (λa h=>(dec_ok a.1 a.2 h.2).2.1)
abbrev ZZs:R:=R.Pq (.int .i64) (R.Pq (.int .i64) (R.Pq (.int .i64) (R.Pq (.int .i64) (R.Pq (.int .i64) (R.Pq (.int .i64) (.int .i64))))))
def Zya (k:Int):En:=pinE ZxR ZZs (λa=>Zc a.1 a.2) k
theorem ZFD (k:Int):Zb Tryz.prog 154 (Zya k):=ZWa ZoQ k
def pcOf (c:TC):Int:=c.2.1.2.2.2.2.2.2.2.2.2
def spOf (c:TC):Int:=c.2.1.2.2.2.2.2.2.2.2.1
def rgx (r:TR) (f:TF) (sp pc:Int):TR:=(r.1,r.2.1,r.2.2.1,r.2.2.2.1,r.2.2.2.2.1,r.2.2.2.2.2.1,r.2.2.2.2.2.2.1,f,sp,pc)
def fin3 (g:List Int) (l:List TY):RT (Option (TY×Bool)):=.br (decide (iN (Le g)>=iN (Le l))) (Ls (((0,0,0,0),false))) (.br (Zf (iN (Le g)) (Le l)) (Ls ((R.get RY l (iN (Le g)),true))) Ln)
