import Derived.Test.YtpnjbfjomebppaaGreatS3D
import Derived.Test.YtpnjbfjomebppaaGreatProg
open Go.Proofs.Tryz (prog)
open Go.IntKind (u8 u16 i64)
set_option linter.unusedSimpArgs false
open Go Go.S3 Go.Proofs
set_option linter.unusedVariables false
set_option maxRecDepth 100000
namespace Go.Proofs.YtpnjbfjomebppaaGreat
noncomputable section
abbrev ZBb:List Sh:=[So Ka]
abbrev ZpN:Rs:=Rs.one (So R.bool)
def ZwZ (b:Int):RT (Option (Bool)):=
 let x1:=andI u8 (andI u8 b (u8.wrap (b-1))) (u8.wrap (andI u8 b (u8.wrap (b-1))-1))
 let x2:= !x1 !=0
 let x3:=andI u8 x1 (u8.wrap (x1-1))
 let x4:=x3 !=0
 let x5:=andI u8 x3 (u8.wrap (x3-1))
 let x6:= !x5 !=0
 let x7:=andI u8 x5 (u8.wrap (x5-1))
 let x8:=x7 !=0
 let x9:=andI u8 x7 (u8.wrap (x7-1))
 let x10:= !x9 !=0
 let x11:=andI u8 x9 (u8.wrap (x9-1))
 let x12:=x11 !=0
 let x13:=andI u8 x11 (u8.wrap (x11-1))
 let x14:= !x13 !=0
 .br (!b !=0||(!andI u8 b (u8.wrap (b-1)) !=0||(x2||(!x4||(x6||(!x8||(x10||(!x12||(x14|| !andI u8 x13 (u8.wrap (x13-1)) !=0))))))))) (Ls (!b !=0||andI u8 b (u8.wrap (b-1)) !=0&&(x2||x4&&(x6||x8&&(x10||x12&&x14))))) Ln
def Zw0 (b:Int):Bool:=getO ZpN.Df (ZwZ b).val
def Zm7 (b:Int):Bool:=okB (ZwZ b).val
def ZKm:En:=Zf ZBb ZpN (λa=>some (Zm7 a)) (λa=>Zw0 a)
theorem ZNQ:Za prog 387 ZKm:=
 Zpg (P:=prog) (n:=15) (k:=10) (l:=[]) (ol:=[]) trivial Tryz.func387 rfl (by kernel_rfl) Tryz.call387 trivial (ts:=ZBb) (rs:=ZpN) (t:=λa=>ZwZ a) (λa=>by kernel_rfl)
abbrev Z2x:List Sh:=[So R.bool,So R.bool,So R.bool]
def Z7f (a:Bool) (b:Bool) (c:Bool):RT (Bool):=
 .Lf (bif a then b||bif a then c||b&&c else b&&c else bif a then c||b&&c else b&&c)
def pMaj (a:Bool) (b:Bool) (c:Bool):Bool:=(Z7f a b c).val
def ZN0:En:=Zf Z2x ZpN (λ_=>none) (λa=>pMaj a.1 a.2.1 a.2.2)
theorem Zqq:Za prog 357 ZN0:=
 pureQ 127 [] [] Z2x ZpN trivial Tryz.func357 Tryz.call357 trivial (t:=λa=>Z7f a.1 a.2.1 a.2.2)
abbrev Z2u:List Sh:=[So R.bool]
abbrev Z2v:Rs:=Rs.one (So Kc)
def Z7d (b:Bool):RT (Int):=
 .br (b) (.Lf (1)) (.Lf (0))
def pOne (b:Bool):Int:=(Z7d b).val
def Z4U:En:=Zf Z2u Z2v (λ_=>none) (λa=>pOne a)
theorem ZUu:Za prog 384 Z4U:=
 pureQ 7 [] [] Z2u Z2v trivial Tryz.func384 Tryz.call384 trivial (t:=λa=>Z7d a)
abbrev ZA3:List Sh:=[So Kc]
def Zm4 (n:Int):RT (Bool):=
 .Lf (decide (n< -128)||decide (n>127))
def ZpF (n:Int):Bool:=(Zm4 n).val
def ZwN:En:=Zf ZA3 ZpN (λ_=>none) (λa=>ZpF a)
theorem Zts:Za prog 385 ZwN:=
 pureQ 7 [] [] ZA3 ZpN trivial Tryz.func385 Tryz.call385 trivial (t:=λa=>Zm4 a)
abbrev Z2p:List Sh:=[So Ka,So Ka,So R.bool]
abbrev Z2q:Rs:=Rs.tup [So Ka,So R.bool,So R.bool,So R.bool]
def Z4E (a:Int) (b:Int) (c:Bool):RT (QT21):=
 let x1:=i64.wrap (i64.wrap (i64.wrap a+i64.wrap b)+pOne c)
 .Lf ((u8.wrap x1,decide (x1>255),decide (i64.wrap (i64.wrap (i64.wrap (andI u8 a 15)+i64.wrap (andI u8 b 15))+pOne c)>15),ZpF (i64.wrap (i64.wrap (i64.wrap (IntKind.i8.wrap a)+i64.wrap (IntKind.i8.wrap b))+pOne c))))
def pSum (a:Int) (b:Int) (c:Bool):QT21:=(Z4E a b c).val
def ZZv:En:=Zf Z2p Z2q (λ_=>none) (λa=>pSum a.1 a.2.1 a.2.2)
theorem ZFq:Za prog 350 ZZv:=
 pureQ 4095 [(384,Z4U),(385,ZwN)] [] Z2p Z2q ⟨ZUu,Zts,Tv⟩ Tryz.func350 Tryz.call350 trivial (t:=λa=>Z4E a.1 a.2.1 a.2.2)
def ZVg (a:Int) (b:Int) (c:Bool):RT (QT21):=
 let x1:=i64.wrap (i64.wrap (i64.wrap a-i64.wrap b)-pOne c)
 .Lf ((u8.wrap x1,decide (x1<0),decide (i64.wrap (i64.wrap (i64.wrap (i64.wrap (i64.wrap (andI u8 a 15)+15)-i64.wrap (andI u8 b 15))+1)-pOne c)>15),ZpF (i64.wrap (i64.wrap (i64.wrap (IntKind.i8.wrap a)-i64.wrap (IntKind.i8.wrap b))-pOne c))))
def ZiY (a:Int) (b:Int) (c:Bool):QT21:=(ZVg a b c).val
def ZKI:En:=Zf Z2p Z2q (λ_=>none) (λa=>ZiY a.1 a.2.1 a.2.2)
theorem Zx0:Za prog 352 ZKI:=
 pureQ 4095 [(384,Z4U),(385,ZwN)] [] Z2p Z2q ⟨ZUu,Zts,Tv⟩ Tryz.func352 Tryz.call352 trivial (t:=λa=>ZVg a.1 a.2.1 a.2.2)
abbrev ZGs:List Sh:=[So Ka,So Ka]
abbrev ZGt:Rs:=Rs.one (So Kb)
def Z2B (h:Int) (l:Int):RT (Int):=
 .Lf (orI u16 (shlI u16 (u16.wrap h) 8) (u16.wrap l))
def ZUO (h:Int) (l:Int):Int:=(Z2B h l).val
def ZKv:En:=Zf ZGs ZGt (λ_=>none) (λa=>ZUO a.1 a.2)
theorem Zm8:Za prog 220 ZKv:=
 pureQ 31 [] [] ZGs ZGt trivial Tryz.func220 Tryz.call220 trivial (t:=λa=>Z2B a.1 a.2)
abbrev Z2F:List Sh:=[So R.bool,So Kc]
abbrev ZVv:Rs:=Rs.one (So Ka)
def ZZ4 (b:Bool) (n:Int):RT (Option (Int)):=
 .br (!b||decide (0<=n)) (.br (b) (Ls (shlI u8 1 n)) (Ls (0))) Ln
def pBit (b:Bool) (n:Int):Int:=getO ZVv.Df (ZZ4 b n).val
def ZfB (b:Bool) (n:Int):Bool:=okB (ZZ4 b n).val
def Z7k:En:=Zf Z2F ZVv (λa=>some (ZfB a.1 a.2)) (λa=>pBit a.1 a.2)
theorem Z5o:Za prog 386 Z7k:=
 pureP 31 [] [] Z2F ZVv trivial Tryz.func386 Tryz.call386 trivial (t:=λa=>ZZ4 a.1 a.2)
abbrev ZUr:List Sh:=[So Kc,Sh.agg rcF7]
def ZBc (chip:Int) (f:TF):RT (Option (Int)):=
 let x1:=orI u8 (orI u8 (orI u8 (orI u8 (pBit f.1 7) (pBit f.2.1 6)) (pBit f.2.2.2.1 4)) (pBit f.2.2.2.2.1 2)) (pBit f.2.2.2.2.2.2 0)
 .br (!ZfB f.1 7||(!ZfB f.2.1 6||(!ZfB f.2.2.2.1 4||(!ZfB f.2.2.2.2.1 2||ZfB f.2.2.2.2.2.2 0)))) (.br (!ZfB f.1 7||(!ZfB f.2.1 6||(!ZfB f.2.2.2.1 4||ZfB f.2.2.2.2.1 2))) (.br (!ZfB f.1 7||(!ZfB f.2.1 6||ZfB f.2.2.2.1 4)) (.br (!ZfB f.1 7||ZfB f.2.1 6) (.br (ZfB f.1 7) (.br (!chip==2||(!ZfB f.2.2.1 5||ZfB f.2.2.2.2.2.1 1)) (.br (!chip==2||ZfB f.2.2.1 5) (.br (chip==2) (Ls (orI u8 (orI u8 x1 (pBit f.2.2.1 5)) (pBit f.2.2.2.2.2.1 1))) (Ls (orI u8 x1 2))) Ln) Ln) Ln) Ln) Ln) Ln) Ln
def ZZJ (chip:Int) (f:TF):Int:=getO ZVv.Df (ZBc chip f).val
def ZKn (chip:Int) (f:TF):Bool:=okB (ZBc chip f).val
def Z2t:En:=Zf ZUr ZVv (λa=>some (ZKn a.1 a.2)) (λa=>ZZJ a.1 a.2)
theorem ZZI:Za prog 354 Z2t:=
 pureP 63 [(386,Z7k)] [] ZUr ZVv ⟨Z5o,Tv⟩ Tryz.func354 Tryz.call354 trivial (t:=λa=>ZBc a.1 a.2)
abbrev ZA1:List Sh:=[So Kc,So Ka]
abbrev ZA2:Rs:=Rs.one (Sh.agg rcF7)
def ZwK (chip:Int) (b:Int):RT TF:=
 .Lf ((andI u8 b 128 !=0,andI u8 b 64 !=0,chip==2&&andI u8 b 32 !=0,andI u8 b 16 !=0,andI u8 b 4 !=0,chip==2&&andI u8 b 2 !=0,andI u8 b 1 !=0))
def ZwL (chip:Int) (b:Int):TF:=(ZwK chip b).val
def ZKd:En:=Zf ZA1 ZA2 (λ_=>none) (λa=>ZwL a.1 a.2)
theorem ZNN:Za prog 363 ZKd:=
 pureQ 63 [] [] ZA1 ZA2 trivial Tryz.func363 Tryz.call363 trivial (t:=λa=>ZwK a.1 a.2)
def pOfT (r:Int):RT (Option TF):=
 .br (Zm7 r) (Ls ((decide (r>=128),r==0,false,false,Zw0 r,false,false))) Ln
def pOf (r:Int):TF:=getO ZA2.Df (pOfT r).val
def pOfC (r:Int):Bool:=okB (pOfT r).val
def pOfE:En:=Zf ZBb ZA2 (λa=>some (pOfC a)) (λa=>pOf a)
theorem ZBd:Za prog 356 pOfE:=
 pureP 7 [(387,ZKm)] [] ZBb ZA2 ⟨ZNQ,Tv⟩ Tryz.func356 Tryz.call356 trivial (t:=λa=>pOfT a)
def Zrh:En:=.tree (Zq (envX prog [] [] 141872468127 8) Tryz.f349)
theorem Zrg:Za prog 349 Zrh:=ZD trivial Tryz.func349 rfl (by kernel_rfl) Tryz.call349 trivial
abbrev ZUZ:List Sh:=[Sh.agg Zfz,So Kc]
def Z45 (r:TR) (n:Int):RT (Int):=
 .br (andI i64 n 7==0) (.Lf r.2.1) (.br (andI i64 n 7==1) (.Lf r.2.2.1) (.br (andI i64 n 7==2) (.Lf r.2.2.2.1) (.br (andI i64 n 7==3) (.Lf r.2.2.2.2.1) (.br (andI i64 n 7==4) (.Lf r.2.2.2.2.2.1) (.br (andI i64 n 7==5) (.Lf r.2.2.2.2.2.2.1) (.br (andI i64 n 7==7) (.Lf r.1) (.Lf (0))))))))
def pGet (r:TR) (n:Int):Int:=(Z45 r n).val
def Z7h:En:=Zf ZUZ ZVv (λ_=>none) (λa=>pGet a.1 a.2)
theorem ZUY:Za prog 281 Z7h:=
 pureQ 63 [(349,Zrh)] [] ZUZ ZVv ⟨Zrg,Tv⟩ Tryz.func281 Tryz.call281 trivial (t:=λa=>Z45 a.1 a.2)
abbrev ZT2:List Sh:=[Sh.agg Zfz,So Kc,So Ka]
abbrev ZT3:Rs:=Rs.one (Sh.agg Zfz)
def Z4H (r:TR) (n:Int) (v:Int):RT TR:=
 .br (andI i64 n 7==0) (.Lf ((r.1,v,r.2.2))) (.br (andI i64 n 7==1) (.Lf ((r.1,r.2.1,v,r.2.2.2))) (.br (andI i64 n 7==2) (.Lf ((r.1,r.2.1,r.2.2.1,v,r.2.2.2.2))) (.br (andI i64 n 7==3) (.Lf ((r.1,r.2.1,r.2.2.1,r.2.2.2.1,v,r.2.2.2.2.2))) (.br (andI i64 n 7==4) (.Lf ((r.1,r.2.1,r.2.2.1,r.2.2.2.1,r.2.2.2.2.1,v,r.2.2.2.2.2.2))) (.br (andI i64 n 7==5) (.Lf ((r.1,r.2.1,r.2.2.1,r.2.2.2.1,r.2.2.2.2.1,r.2.2.2.2.2.1,v,r.2.2.2.2.2.2.2))) (.br (andI i64 n 7==7) (.Lf ((v,r.2))) (.Lf (r))))))))
def pSet (r:TR) (n:Int) (v:Int):TR:=(Z4H r n v).val
def Z69:En:=Zf ZT2 ZT3 (λ_=>none) (λa=>pSet a.1 a.2.1 a.2.2)
theorem ZT1:Za prog 290 Z69:=
 pureQ 255 [(349,Zrh)] [] ZT2 ZT3 ⟨Zrg,Tv⟩ Tryz.func290 Tryz.call290 trivial (t:=λa=>Z4H a.1 a.2.1 a.2.2)
def ZUo (r:TR) (n:Int):RT (Int):=
 .br (andI i64 n 3==3) (.Lf r.2.2.2.2.2.2.2.2.1) (.Lf (ZUO (pGet r (i64.wrap (2*andI i64 n 3))) (pGet r (i64.wrap (i64.wrap (2*andI i64 n 3)+1)))))
def Z4R (r:TR) (n:Int):Int:=(ZUo r n).val
def Z7c:En:=Zf ZUZ ZGt (λ_=>none) (λa=>Z4R a.1 a.2)
theorem ZZH:Za prog 280 Z7c:=
 pureQ 31 [(220,ZKv),(281,Z7h)] [] ZUZ ZGt ⟨Zm8,ZUY,Tv⟩ Tryz.func280 Tryz.call280 trivial (t:=λa=>ZUo a.1 a.2)
abbrev Zlf:List Sh:=[Sh.agg Zfz,So Kc,So Kb]
def ZpG (r:TR) (n:Int) (v:Int):RT TR:=
 .br (andI i64 n 3==3) (.Lf ((r.1,r.2.1,r.2.2.1,r.2.2.2.1,r.2.2.2.2.1,r.2.2.2.2.2.1,r.2.2.2.2.2.2.1,r.2.2.2.2.2.2.2.1,v,r.2.2.2.2.2.2.2.2.2))) (.Lf (pSet (pSet r (i64.wrap (2*andI i64 n 3)) (u8.wrap (shrI u16 v 8))) (i64.wrap (i64.wrap (2*andI i64 n 3)+1)) (u8.wrap v)))
def ZwO (r:TR) (n:Int) (v:Int):TR:=(ZpG r n v).val
def ZT4:En:=Zf Zlf ZT3 (λ_=>none) (λa=>ZwO a.1 a.2.1 a.2.2)
theorem ZFt:Za prog 291 ZT4:=
 pureQ 127 [(290,Z69)] [] Zlf ZT3 ⟨ZT1,Tv⟩ Tryz.func291 Tryz.call291 trivial (t:=λa=>ZpG a.1 a.2.1 a.2.2)
abbrev ZUs:List Sh:=[So Kc,Sh.agg Zfz]
def ZZK (chip:Int) (r:TR):RT (Option (Int)):=
 .br (ZKn chip r.2.2.2.2.2.2.2.1) (Ls (ZUO r.1 (ZZJ chip r.2.2.2.2.2.2.2.1))) Ln
def pPSW (chip:Int) (r:TR):Int:=getO ZGt.Df (ZZK chip r).val
def Z4T (chip:Int) (r:TR):Bool:=okB (ZZK chip r).val
def pPSWE:En:=Zf ZUs ZGt (λa=>some (Z4T a.1 a.2)) (λa=>pPSW a.1 a.2)
theorem Z4S:Za prog 288 pPSWE:=
 pureP 31 [(220,ZKv),(354,Z2t)] [] ZUs ZGt ⟨Zm8,ZZI,Tv⟩ Tryz.func288 Tryz.call288 trivial (t:=λa=>ZZK a.1 a.2)
abbrev ZpH:List Sh:=[So Kc,Sh.agg Zfz,So Kb]
def ZwP (chip:Int) (r:TR) (v:Int):RT TR:=
 .Lf ((u8.wrap (shrI u16 v 8),r.2.1,r.2.2.1,r.2.2.2.1,r.2.2.2.2.1,r.2.2.2.2.2.1,r.2.2.2.2.2.2.1,ZwL chip (u8.wrap v),r.2.2.2.2.2.2.2.2))
def ZFv (chip:Int) (r:TR) (v:Int):TR:=(ZwP chip r v).val
def ZZy:En:=Zf ZpH ZT3 (λ_=>none) (λa=>ZFv a.1 a.2.1 a.2.2)
theorem ZNP:Za prog 299 ZZy:=
 pureQ 127 [(363,ZKd)] [] ZpH ZT3 ⟨ZNN,Tv⟩ Tryz.func299 Tryz.call299 trivial (t:=λa=>ZwP a.1 a.2.1 a.2.2)
abbrev ZKq:List Sh:=[So Kc,So Kc,So Ka,So Ka]
abbrev Zxc:Rs:=Rs.tup [So Ka,Sh.agg rcF7]
def Zqr (chip:Int) (op:Int) (a:Int) (b:Int):RT (Option (QT3)):=
 let x1:Int:=bif op==4 then andI u8 a b else bif op==5 then xorI u8 a b else bif op==6 then orI u8 a b else 0
 let x2:=pOf x1
 let x3:=x2.2
 let x4:=x3.2
 .br (pOfC x1) (Ls ((x1,x2.1,x3.1,bif chip==2 then pMaj (decide (a>=128)) (decide (b>=128)) (decide (x1>=128)) else x4.1,op==4&&(chip==2||andI u8 (orI u8 a b) 8 !=0),x4.2.2))) Ln
def ZKr (chip:Int) (op:Int) (a:Int) (b:Int):QT3:=getO Zxc.Df (Zqr chip op a b).val
def Zxd (chip:Int) (op:Int) (a:Int) (b:Int):Bool:=okB (Zqr chip op a b).val
def ZUH:En:=Zf ZKq Zxc (λa=>some (Zxd a.1 a.2.1 a.2.2.1 a.2.2.2)) (λa=>ZKr a.1 a.2.1 a.2.2.1 a.2.2.2)
theorem ZUG:Za prog 355 ZUH:=
 pureP 8858394623 [(356,pOfE),(357,ZN0)] [] ZKq Zxc ⟨ZBd,Zqq,Tv⟩ Tryz.func355 Tryz.call355 trivial (t:=λa=>Zqr a.1 a.2.1 a.2.2.1 a.2.2.2)
abbrev Z5c:List Sh:=[So Kc,So Kc,So Ka,So Ka,Sh.agg rcF7]
def pDoT (chip:Int) (op:Int) (a:Int) (b:Int) (f:TF):RT (Option (QT3)):=
 let x1:=decide (andI i64 op 7>=4)&&decide (andI i64 op 7<=6)
 let x2:=f.2.2.2.2.2.2&&(andI i64 op 7==1||andI i64 op 7==3)
 let x3:=ZiY a b x2
 let x4:=x3.1
 let x5:=pOf x4
 let x6:=x5.2
 let x7:=x6.2
 let x8:=x3.2
 let x9:=x8.2
 let x10:=x7.2.2
 let x11:TF:=(x5.1,x6.1,bif chip==2 then pMaj (decide (a>=128)) (decide (b<128)) (decide (x4>=128)) else x7.1,x9.1,x10.1,bif chip==2 then x9.2 else x10.2.1,x8.1)
 let x12:=pSum a b x2
 let x13:=x12.1
 let x14:=pOf x13
 let x15:=x14.2
 let x16:=x15.2
 let x17:=x12.2
 let x18:=x17.2
 let x19:=x16.2.2
 let x20:TF:=(x14.1,x15.1,bif chip==2 then pMaj (decide (a>=128)) (decide (b>=128)) (decide (x13>=128)) else x16.1,x18.1,x19.1,bif chip==2 then x18.2 else x19.2.1,x17.1)
 .br (!x1||Zxd chip (andI i64 op 7) a b) (.br (x1) (Ls (ZKr chip (andI i64 op 7) a b)) (.br (andI i64 op 7 !=0&&andI i64 op 7 !=1) (.br (pOfC x4) (.br (andI i64 op 7==7) (Ls ((a,x11))) (Ls ((x4,x11)))) Ln) (.br (pOfC x13) (.br (andI i64 op 7==7) (Ls ((a,x20))) (Ls ((x13,x20)))) Ln))) Ln
def pDo (chip:Int) (op:Int) (a:Int) (b:Int) (f:TF):QT3:=getO Zxc.Df (pDoT chip op a b f).val
def pDoC (chip:Int) (op:Int) (a:Int) (b:Int) (f:TF):Bool:=okB (pDoT chip op a b f).val
def pDoE:En:=Zf Z5c Zxc (λa=>some (pDoC a.1 a.2.1 a.2.2.1 a.2.2.2.1 a.2.2.2.2)) (λa=>pDo a.1 a.2.1 a.2.2.1 a.2.2.2.1 a.2.2.2.2)
theorem Z7j:Za prog 292 pDoE:=
 pureP 1048575 [(350,ZZv),(352,ZKI),(355,ZUH),(356,pOfE),(357,ZN0)] [] Z5c Zxc ⟨ZFq,Zx0,ZUG,ZBd,Zqq,Tv⟩ Tryz.func292 Tryz.call292 trivial (t:=λa=>pDoT a.1 a.2.1 a.2.2.1 a.2.2.2.1 a.2.2.2.2)
abbrev ZA9:List Sh:=[So Kc,So Ka,So Ka,So R.bool,So R.bool,So R.bool,Sh.agg rcF7]
def Zm5 (chip:Int) (v:Int) (r:Int) (half:Bool) (over:Bool) (x:Bool) (f:TF):RT (Option TF):=
 .br (pOfC r) (Ls (((pOf r).1,(pOf r).2.1,bif chip==2 then pMaj (decide (v>=128)) x (decide (r>=128)) else (pOf r).2.2.1,half,(pOf r).2.2.2.2.1,bif chip==2 then over else (pOf r).2.2.2.2.2.1,f.2.2.2.2.2.2))) Ln
def ZpL (chip:Int) (v:Int) (r:Int) (half:Bool) (over:Bool) (x:Bool) (f:TF):TF:=getO ZA2.Df (Zm5 chip v r half over x f).val
def ZjX (chip:Int) (v:Int) (r:Int) (half:Bool) (over:Bool) (x:Bool) (f:TF):Bool:=okB (Zm5 chip v r half over x f).val
def ZwR:En:=Zf ZA9 ZA2 (λa=>some (ZjX a.1 a.2.1 a.2.2.1 a.2.2.2.1 a.2.2.2.2.1 a.2.2.2.2.2.1 a.2.2.2.2.2.2)) (λa=>ZpL a.1 a.2.1 a.2.2.1 a.2.2.2.1 a.2.2.2.2.1 a.2.2.2.2.2.1 a.2.2.2.2.2.2)
theorem Ztt:Za prog 351 ZwR:=
 pureP 65535 [(356,pOfE),(357,ZN0)] [] ZA9 ZA2 ⟨ZBd,Zqq,Tv⟩ Tryz.func351 Tryz.call351 trivial (t:=λa=>Zm5 a.1 a.2.1 a.2.2.1 a.2.2.2.1 a.2.2.2.2.1 a.2.2.2.2.2.1 a.2.2.2.2.2.2)
abbrev ZUS:List Sh:=[So Kc,So Ka,Sh.agg rcF7]
def ZZR (chip:Int) (v:Int) (f:TF):RT (Option (QT3)):=
 .br (ZjX chip v (pSum v 1 false).1 (pSum v 1 false).2.2.1 (pSum v 1 false).2.2.2 false f) (Ls (((pSum v 1 false).1,ZpL chip v (pSum v 1 false).1 (pSum v 1 false).2.2.1 (pSum v 1 false).2.2.2 false f))) Ln
def pInr (chip:Int) (v:Int) (f:TF):QT3:=getO Zxc.Df (ZZR chip v f).val
def Z43 (chip:Int) (v:Int) (f:TF):Bool:=okB (ZZR chip v f).val
def pInrE:En:=Zf ZUS Zxc (λa=>some (Z43 a.1 a.2.1 a.2.2)) (λa=>pInr a.1 a.2.1 a.2.2)
theorem Z42:Za prog 282 pInrE:=
 pureP 4095 [(350,ZZv),(351,ZwR)] [] ZUS Zxc ⟨ZFq,Ztt,Tv⟩ Tryz.func282 Tryz.call282 trivial (t:=λa=>ZZR a.1 a.2.1 a.2.2)
def ZZZ (chip:Int) (v:Int) (f:TF):RT (Option (QT3)):=
 .br (ZjX chip v (ZiY v 1 false).1 (ZiY v 1 false).2.2.1 (ZiY v 1 false).2.2.2 true f) (Ls (((ZiY v 1 false).1,ZpL chip v (ZiY v 1 false).1 (ZiY v 1 false).2.2.1 (ZiY v 1 false).2.2.2 true f))) Ln
def pDcr (chip:Int) (v:Int) (f:TF):QT3:=getO Zxc.Df (ZZZ chip v f).val
def Z5i (chip:Int) (v:Int) (f:TF):Bool:=okB (ZZZ chip v f).val
def pDcrE:En:=Zf ZUS Zxc (λa=>some (Z5i a.1 a.2.1 a.2.2)) (λa=>pDcr a.1 a.2.1 a.2.2)
theorem Z5h:Za prog 283 pDcrE:=
 pureP 4095 [(351,ZwR),(352,ZKI)] [] ZUS Zxc ⟨Ztt,Zx0,Tv⟩ Tryz.func283 Tryz.call283 trivial (t:=λa=>ZZZ a.1 a.2.1 a.2.2)
abbrev ZUP:List Sh:=[So Kc,So Kb,Sh.agg rcF7]
abbrev ZUQ:Rs:=Rs.tup [So Kb,Sh.agg rcF7]
def Z41 (chip:Int) (v:Int) (f:TF):RT (QT3):=
 .Lf ((u16.wrap (v+1),f.1,f.2.1,bif chip==2 then v==65535 else f.2.2.1,f.2.2.2))
def pInx (chip:Int) (v:Int) (f:TF):QT3:=(Z41 chip v f).val
def pInxE:En:=Zf ZUP ZUQ (λ_=>none) (λa=>pInx a.1 a.2.1 a.2.2)
theorem Z40:Za prog 294 pInxE:=
 pureQ 255 [] [] ZUP ZUQ trivial Tryz.func294 Tryz.call294 trivial (t:=λa=>Z41 a.1 a.2.1 a.2.2)
def Z5g (chip:Int) (v:Int) (f:TF):RT (QT3):=
 .Lf ((u16.wrap (v-1),f.1,f.2.1,bif chip==2 then v==0 else f.2.2.1,f.2.2.2))
def pDcx (chip:Int) (v:Int) (f:TF):QT3:=(Z5g chip v f).val
def pDcxE:En:=Zf ZUP ZUQ (λ_=>none) (λa=>pDcx a.1 a.2.1 a.2.2)
theorem Z5f:Za prog 295 pDcxE:=
 pureQ 255 [] [] ZUP ZUQ trivial Tryz.func295 Tryz.call295 trivial (t:=λa=>Z5g a.1 a.2.1 a.2.2)
abbrev ZVm:List Sh:=[So Kc,So Kb,So Kb,Sh.agg rcF7]
def Z5k (chip:Int) (a:Int) (b:Int) (f:TF):RT (QT3):=
 .Lf ((u16.wrap (a+b),f.1,f.2.1,f.2.2.1,f.2.2.2.1,f.2.2.2.2.1,bif chip==2 then andI u16 (andI u16 (xorI u16 a (u16.wrap (a+b))) (xorI u16 b (u16.wrap (a+b)))) 32768 !=0 else f.2.2.2.2.2.1,decide (u16.wrap (a+b)<a)))
def pDad (chip:Int) (a:Int) (b:Int) (f:TF):QT3:=(Z5k chip a b f).val
def pDadE:En:=Zf ZVm ZUQ (λ_=>none) (λa=>pDad a.1 a.2.1 a.2.2.1 a.2.2.2)
theorem Z5j:Za prog 296 pDadE:=
 pureQ 2047 [] [] ZVm ZUQ trivial Tryz.func296 Tryz.call296 trivial (t:=λa=>Z5k a.1 a.2.1 a.2.2.1 a.2.2.2)
abbrev ZGH:List Sh:=[So Kb,So Kb]
def ZKH (a:Int) (b:Int):RT (Option (QT3)):=
 let x1:=ZiY (u8.wrap (shrI u16 a 8)) (u8.wrap (shrI u16 b 8)) (ZiY (u8.wrap a) (u8.wrap b) false).2.1
 let x2:=x1.1
 let x3:=pOf x2
 let x4:=x1.2
 let x5:=x4.2
 .br (pOfC x2) (Ls ((ZUO x2 (ZiY (u8.wrap a) (u8.wrap b) false).1,x3.1,x2==0&&(ZiY (u8.wrap a) (u8.wrap b) false).1==0,pMaj (decide (a>=32768)) (decide (b<32768)) (decide (x2>=128)),x5.1,x3.2.2.2.2.1,x5.2,x4.1))) Ln
def Z5b (a:Int) (b:Int):QT3:=getO ZUQ.Df (ZKH a b).val
def ZVd (a:Int) (b:Int):Bool:=okB (ZKH a b).val
def Z7i:En:=Zf ZGH ZUQ (λa=>some (ZVd a.1 a.2)) (λa=>Z5b a.1 a.2)
theorem ZZV:Za prog 301 Z7i:=
 pureP 32767 [(220,ZKv),(352,ZKI),(356,pOfE),(357,ZN0)] [] ZGH ZUQ ⟨Zm8,Zx0,ZBd,Zqq,Tv⟩ Tryz.func301 Tryz.call301 trivial (t:=λa=>ZKH a.1 a.2)
def ZZ1 (chip:Int) (a:Int) (f:TF):RT (Option (QT3)):=
 let x1:Int:=bif f.2.2.2.1||decide (andI u8 a 15>9) then 6 else 0
 let x2:=pSum a (bif f.2.2.2.2.2.2||decide (a>153) then u8.wrap (x1+96) else x1) false
 let x3:=x2.1
 let x4:=pOf x3
 let x5:=x4.2
 let x6:=x5.2
 let x7:=x2.2.2
 let x8:=x6.2.2
 .br (pOfC x3) (Ls ((x3,x4.1,x5.1,bif chip==2 then pMaj (decide (a>=128)) false (decide (x3>=128)) else x6.1,x7.1,x8.1,bif chip==2 then x7.2 else x8.2.1,f.2.2.2.2.2.2||decide (a>153)))) Ln
def pDaa (chip:Int) (a:Int) (f:TF):QT3:=getO Zxc.Df (ZZ1 chip a f).val
def Z5m (chip:Int) (a:Int) (f:TF):Bool:=okB (ZZ1 chip a f).val
def pDaaE:En:=Zf ZUS Zxc (λa=>some (Z5m a.1 a.2.1 a.2.2)) (λa=>pDaa a.1 a.2.1 a.2.2)
theorem Z5l:Za prog 297 pDaaE:=
 pureP 32767 [(350,ZZv),(356,pOfE),(357,ZN0)] [] ZUS Zxc ⟨ZFq,ZBd,Zqq,Tv⟩ Tryz.func297 Tryz.call297 trivial (t:=λa=>ZZ1 a.1 a.2.1 a.2.2)
def Z7g (c:Bool):RT (Int):=
 .br (c) (.Lf (1)) (.Lf (0))
def pLow (c:Bool):Int:=(Z7g c).val
def ZN1:En:=Zf Z2u ZVv (λ_=>none) (λa=>pLow a)
theorem ZGo:Za prog 361 ZN1:=
 pureQ 7 [] [] Z2u ZVv trivial Tryz.func361 Tryz.call361 trivial (t:=λa=>Z7g a)
def ZhE:En:=.tree (Zq (envX prog [] [] 7 8) Tryz.f358)
theorem ZlE:Za prog 358 ZhE:=ZD trivial Tryz.func358 rfl (by kernel_rfl) Tryz.call358 trivial
def ZhD:En:=.tree (Zq (envX prog [] [] 7 8) Tryz.f359)
theorem ZlD:Za prog 359 ZhD:=ZD trivial Tryz.func359 rfl (by kernel_rfl) Tryz.call359 trivial
def ZhC:En:=.tree (Zq (envX prog [(361,ZN1)] [] 15 8) Tryz.f360)
theorem ZlC:Za prog 360 ZhC:=ZD ⟨ZGo,Tv⟩ Tryz.func360 rfl (by kernel_rfl) Tryz.call360 trivial
def ZhB:En:=.tree (Zq (envX prog [(361,ZN1)] [] 15 8) Tryz.f362)
theorem ZlB:Za prog 362 ZhB:=ZD ⟨ZGo,Tv⟩ Tryz.func362 rfl (by kernel_rfl) Tryz.call362 trivial
abbrev ZT7:List Sh:=[So Kc,So Ka,So R.bool]
abbrev ZKk:Rs:=Rs.tup [So Ka,So R.bool]
def ZZA (op:Int) (a:Int) (c:Bool):RT (Option (Int×Bool)):=
 .br (andI i64 op 3==0||(andI i64 op 3== ↑(0+1)||(andI i64 op 3== ↑(0+1+1)||andI i64 op 3== ↑(0+1+1+1)))) (Ls ((bif andI i64 op 3==0 then orI u8 (shlI u8 a 1) (shrI u8 a 7) else bif andI i64 op 3== ↑(0+1) then orI u8 (shrI u8 a 1) (shlI u8 a 7) else bif andI i64 op 3== ↑(0+1+1) then orI u8 (shlI u8 a 1) (pLow c) else orI u8 (shrI u8 a 1) (shlI u8 (pLow c) 7),bif andI i64 op 3==0 then decide (a>=128) else bif andI i64 op 3== ↑(0+1) then andI u8 a 1==1 else bif andI i64 op 3== ↑(0+1+1) then decide (a>=128) else andI u8 a 1==1))) Ln
def pRot (op:Int) (a:Int) (c:Bool):Int×Bool:=getO ZKk.Df (ZZA op a c).val
def Z4J (op:Int) (a:Int) (c:Bool):Bool:=okB (ZZA op a c).val
def pRotE:En:=Zf ZT7 ZKk (λa=>some (Z4J a.1 a.2.1 a.2.2)) (λa=>pRot a.1 a.2.1 a.2.2)
theorem Z4I:Za prog 298 pRotE:=
 pureP 511 [(358,ZhE),(359,ZhD),(360,ZhC),(362,ZhB)] [] ZT7 ZKk ⟨ZlE,ZlD,ZlC,ZlB,Tv⟩ Tryz.func298 Tryz.call298 trivial (t:=λa=>ZZA a.1 a.2.1 a.2.2)
abbrev ZGK:List Sh:=[So Kb]
abbrev ZGL:Rs:=Rs.tup [So Kb,So R.bool]
def Z2G (v:Int):RT (Int×Bool):=
 .Lf ((orI u16 (shrI u16 v 1) (andI u16 v 32768),andI u16 v 1==1))
def Z7m (v:Int):Int×Bool:=(Z2G v).val
def Z7l:En:=Zf ZGK ZGL (λ_=>none) (λa=>Z7m a)
theorem ZZ5:Za prog 302 Z7l:=
 pureQ 15 [] [] ZGK ZGL trivial Tryz.func302 Tryz.call302 trivial (t:=λa=>Z2G a)
abbrev ZFA:List Sh:=[So Kb,So R.bool]
abbrev ZFB:Rs:=Rs.tup [So Kb,So R.bool,So R.bool]
def ZUh (v:Int) (c:Bool):RT (Int×Bool×Bool):=
 .Lf ((orI u16 (shlI u16 v 1) (u16.wrap (pLow c)),decide (v>=32768),andI u16 (xorI u16 (orI u16 (shlI u16 v 1) (u16.wrap (pLow c))) v) 32768 !=0))
def Z4P (v:Int) (c:Bool):Int×Bool×Bool:=(ZUh v c).val
def Z7a:En:=Zf ZFA ZFB (λ_=>none) (λa=>Z4P a.1 a.2)
theorem ZZE:Za prog 303 Z7a:=
 pureQ 127 [(361,ZN1)] [] ZFA ZFB ⟨ZGo,Tv⟩ Tryz.func303 Tryz.call303 trivial (t:=λa=>ZUh a.1 a.2)
def ZKj (b:Bool) (n:Int):RT (Option (Int)):=
 .br (!b||decide (0<=n)) (.br (b) (Ls (shlI u8 1 n)) (Ls (0))) Ln
def ZA8 (b:Bool) (n:Int):Int:=getO ZVv.Df (ZKj b n).val
def Zdr (b:Bool) (n:Int):Bool:=okB (ZKj b n).val
def Z2r:En:=Zf Z2F ZVv (λa=>some (Zdr a.1 a.2)) (λa=>ZA8 a.1 a.2)
theorem ZZz:Za prog 300 Z2r:=
 pureP 31 [] [] Z2F ZVv trivial Tryz.func300 Tryz.call300 trivial (t:=λa=>ZKj a.1 a.2)
abbrev ZT9:List Sh:=[Sh.agg Zu,Sh.agg (R.Pq R.bool (R.Pq R.bool rcF7))]
abbrev ZKl:Rs:=Rs.tup [So Ka,Sh.agg Zu]
def ZZC (c:TC) (l:QT0):RT (Option (Int×TC)):=
 let x1:=bif c.2.2.2.2.2.2.2.2.2.2.1 then c.2.2.2.2.2.2.2.2.2.2.2.1 else c.2.2.1
 .br (!Zdr l.2.2.2.1 7||(!Zdr c.2.2.2.2.2.2.2.1 6||(!Zdr l.2.2.2.2.2.2.1 5||(!Zdr l.2.2.2.2.2.2.2.1 4||Zdr x1 3)))) (.br (!Zdr l.2.2.2.1 7||(!Zdr c.2.2.2.2.2.2.2.1 6||(!Zdr l.2.2.2.2.2.2.1 5||Zdr l.2.2.2.2.2.2.2.1 4))) (.br (!Zdr l.2.2.2.1 7||(!Zdr c.2.2.2.2.2.2.2.1 6||Zdr l.2.2.2.2.2.2.1 5)) (.br (!Zdr l.2.2.2.1 7||Zdr c.2.2.2.2.2.2.2.1 6) (.br (Zdr l.2.2.2.1 7) (Ls ((orI u8 (orI u8 (orI u8 (orI u8 (orI u8 (ZA8 l.2.2.2.1 7) (ZA8 c.2.2.2.2.2.2.2.1 6)) (ZA8 l.2.2.2.2.2.2.1 5)) (ZA8 l.2.2.2.2.2.2.2.1 4)) (ZA8 x1 3)) (andI u8 c.2.2.2.2.2.1 7),c.1,c.2.1,c.2.2.1,c.2.2.2.1,c.2.2.2.2.1,c.2.2.2.2.2.1,c.2.2.2.2.2.2.1,c.2.2.2.2.2.2.2.1,c.2.2.2.2.2.2.2.2.1,c.2.2.2.2.2.2.2.2.2.1,false,false,c.2.2.2.2.2.2.2.2.2.2.2.2))) Ln) Ln) Ln) Ln) Ln
def pRim (c:TC) (l:QT0):Int×TC:=getO ZKl.Df (ZZC c l).val
def Z4L (c:TC) (l:QT0):Bool:=okB (ZZC c l).val
def pRimE:En:=Zf ZT9 ZKl (λa=>some (Z4L a.1 a.2)) (λa=>pRim a.1 a.2)
theorem Z4K:Za prog 231 pRimE:=
 pureP 255 [(300,Z2r)] [] ZT9 ZKl ⟨ZZz,Tv⟩ Tryz.func231 Tryz.call231 trivial (t:=λa=>ZZC a.1 a.2)
abbrev ZTY:List Sh:=[Sh.agg Zu,So Ka]
abbrev ZTZ:Rs:=Rs.one (Sh.agg Zu)
def Z4G (c:TC) (a:Int):RT TC:=
 .Lf ((c.1,c.2.1,c.2.2.1,c.2.2.2.1,c.2.2.2.2.1,bif andI u8 a 8 !=0 then andI u8 a 7 else c.2.2.2.2.2.1,c.2.2.2.2.2.2.1,!andI u8 a 16 !=0&&c.2.2.2.2.2.2.2.1,c.2.2.2.2.2.2.2.2.1,c.2.2.2.2.2.2.2.2.2.1,c.2.2.2.2.2.2.2.2.2.2.1,c.2.2.2.2.2.2.2.2.2.2.2.1,bif andI u8 a 64 !=0 then andI u8 a 128 !=0 else c.2.2.2.2.2.2.2.2.2.2.2.2))
def pSim (c:TC) (a:Int):TC:=(Z4G c a).val
def pSimE:En:=Zf ZTY ZTZ (λ_=>none) (λa=>pSim a.1 a.2)
theorem Z4F:Za prog 232 pSimE:=
 pureQ 31 [] [] ZTY ZTZ trivial Tryz.func232 Tryz.call232 trivial (t:=λa=>Z4G a.1 a.2)
def ZGu (c:Int) (f:TF):RT (Bool):=
 .br (bif c==0 then c==0 else c==1) (.Lf (f.2.1==(c==1))) (.br (bif c==2 then c==2 else c==3) (.Lf (f.2.2.2.2.2.2==(c==3))) (.br (bif c==4 then c==4 else c==5) (.Lf (f.2.2.2.2.1==(c==5))) (.br (bif c==6 then c==6 else c==7) (.Lf (f.1==(c==7))) (.br (bif c==8 then c==8 else c==9) (.Lf (f.2.2.1==(c==9))) (.br (c==10) (.Lf f.2.2.2.2.2.1) (.Lf (c==11)))))))
def ZUX (c:Int) (f:TF):Bool:=(ZGu c f).val
def Z44:En:=Zf ZUr ZpN (λ_=>none) (λa=>ZUX a.1 a.2)
theorem ZUW:Za prog 353 Z44:=
 pureQ 70644700037215 [] [] ZUr ZpN trivial Tryz.func353 Tryz.call353 trivial (t:=λa=>ZGu a.1 a.2)
def ZwJ (s:Int):RT (Int):=
 .br (s==1) (.Lf (36)) (.br (s==2) (.Lf (60)) (.br (s==3) (.Lf (52)) (.br (s==4) (.Lf (44)) (.Lf (0)))))
def ZFo (s:Int):Int:=(ZwJ s).val
def ZZt:En:=Zf ZA3 ZGt (λ_=>none) (λa=>ZFo a)
theorem ZNK:Za prog 155 ZZt:=
 pureQ 1367 [] [] ZA3 ZGt trivial Tryz.func155 Tryz.call155 trivial (t:=λa=>ZwJ a)
abbrev ZKt:Rs:=Rs.tup [Sh.agg (R.Pq Kc (R.Pq Kc (R.Pq Kc (R.Pq Kc (R.Pq Kc (R.Pq Kc (R.Pq Kc Kc))))))),So R.bool]
def ZUJ (op:Int):RT (TI×Bool):=
 .br (op==8) (.Lf (((40,1,0,0,0,0,0,0),true))) (.br (op==16) (.Lf (((41,1,0,0,0,0,0,0),true))) (.br (op==24) (.Lf (((42,1,0,0,0,0,0,0),true))) (.br (op==32) (.Lf (((38,1,0,0,0,0,0,0),true))) (.br (op==40) (.Lf (((43,2,0,0,0,0,0,0),true))) (.br (op==48) (.Lf (((39,1,0,0,0,0,0,0),true))) (.br (op==56) (.Lf (((44,2,0,0,0,0,0,0),true))) (.br (op==203) (.Lf (((45,1,0,0,0,0,10,0),true))) (.br (op==217) (.Lf (((46,1,0,0,0,0,0,0),true))) (.br (op==221) (.Lf (((24,3,0,0,0,0,8,0),true))) (.br (op==237) (.Lf (((47,1,0,0,0,0,0,0),true))) (.br (op==253) (.Lf (((24,3,0,0,0,0,9,0),true))) (.Lf (((0,0,0,0,0,0,0,0),false))))))))))))))
def ZUL (op:Int):TI×Bool:=(ZUJ op).val
def ZUK:En:=Zf ZBb ZKt (λ_=>none) (λa=>ZUL a)
theorem ZUI:Za prog 223 ZUK:=
 pureQ 314146179375 [] [] ZBb ZKt trivial Tryz.func223 Tryz.call223 trivial (t:=λa=>ZUJ a)
def ZBi (op:Int):RT (TI×Bool):=
 .br (bif op==0 then op==0 else bif op==8 then op==8 else bif op==16 then op==16 else bif op==24 then op==24 else bif op==32 then op==32 else bif op==40 then op==40 else bif op==48 then op==48 else op==56) (.Lf (((1,1,0,0,0,0,0,0),true))) (.br (bif op==195 then op==195 else op==203) (.Lf (((24,3,0,0,0,0,11,0),true))) (.br (bif op==201 then op==201 else op==217) (.Lf (((26,1,0,0,0,0,11,0),true))) (.br (bif op==205 then op==205 else bif op==221 then op==221 else bif op==237 then op==237 else op==253) (.Lf (((25,3,0,0,0,0,11,0),true))) (.Lf (((0,0,0,0,0,0,0,0),false))))))
def ZjZ (op:Int):TI×Bool:=(ZBi op).val
def ZBj:En:=Zf ZBb ZKt (λ_=>none) (λa=>ZjZ a)
theorem ZGG:Za prog 224 ZBj:=
 pureQ 8945711 [] [] ZBb ZKt trivial Tryz.func224 Tryz.call224 trivial (t:=λa=>ZBi a)
abbrev ZFI:Rs:=Rs.one (Sh.agg (R.Pq Kc (R.Pq Kc (R.Pq Kc (R.Pq Kc (R.Pq Kc (R.Pq Kc (R.Pq Kc Kc))))))))
def ZUw (op:Int):RT (Option TI):=
 let x1:QT31:=(0,0,i64.wrap (andI u8 (shrI u8 op 4) 3),0,0,0)
 let x2:QT24:=(1,x1)
 let x3:=decide (i64.wrap (andI u8 (shrI u8 op 3) 7)<4)&&andI u8 op 8 !=0
 let x4:=decide (0<=i64.wrap (i64.wrap (andI u8 (shrI u8 op 3) 7)-4)/\i64.wrap (i64.wrap (andI u8 (shrI u8 op 3) 7)-4)<4)
 let x5:=i64.wrap (i64.wrap (andI u8 (shrI u8 op 3) 7)-4)==0
 let x6:=i64.wrap (i64.wrap (andI u8 (shrI u8 op 3) 7)-4)== ↑(0+1)
 let x7:=i64.wrap (i64.wrap (andI u8 (shrI u8 op 3) 7)-4)== ↑(0+1+1)
 let x8:QT31:=(i64.wrap (andI u8 (shrI u8 op 3) 7),0,0,0,0,0)
 let x9:QT24:=(1,x8)
 .br (andI u8 op 7==1) (.br (andI u8 op 8 !=0) (Ls ((18,x2))) (Ls ((4,3,x1)))) (.br (!andI u8 op 7==2||(x3||(decide (i64.wrap (andI u8 (shrI u8 op 3) 7)<4)||x4))) (.br (andI u8 op 7==2) (.br (x3) (Ls ((9,x2))) (.br (decide (i64.wrap (andI u8 (shrI u8 op 3) 7)<4)) (Ls ((10,x2))) (Ls ((bif x5 then 8 else bif x6 then 7 else bif x7 then 6 else 5,3,0,0,0,0,0,0))))) (.br (andI u8 op 7==3) (.br (andI u8 op 8 !=0) (Ls ((17,x2))) (Ls ((16,x2)))) (.br (andI u8 op 7==4) (Ls ((14,x9))) (.br (andI u8 op 7==5) (Ls ((15,x9))) (.br (andI u8 op 7==6) (Ls ((3,2,x8))) (.br (decide (i64.wrap (andI u8 (shrI u8 op 3) 7)<4)) (Ls ((23,1,0,0,0,i64.wrap (andI u8 (shrI u8 op 3) 7),0,0))) (.br (x4) (Ls ((bif x5 then 19 else bif x6 then 20 else bif x7 then 21 else 22,1,0,0,0,0,0,0))) Ln))))))) Ln)
def Z4V (op:Int):QT7:=getO ZFI.Df (ZUw op).val
def ZUx (op:Int):Bool:=okB (ZUw op).val
def Z2w:En:=Zf ZBb ZFI (λa=>some (ZUx a)) (λa=>Z4V a)
theorem ZZM:Za prog 225 Z2w:=
 pureP 614758941389750335 [] [] ZBb ZFI trivial Tryz.func225 Tryz.call225 trivial (t:=λa=>ZUw a)
def ZFJ (op:Int):RT (Option TI):=
 let x1:QT31:=(0,0,0,0,i64.wrap (andI u8 (shrI u8 op 3) 7),0)
 let x2:QT24:=(1,0,0,i64.wrap (andI u8 (shrI u8 op 4) 3),0,0,0)
 let x3:=andI u8 op 7==2||(!andI u8 op 7==3||(!decide (i64.wrap (andI u8 (shrI u8 op 3) 7)<4)||decide (0<=i64.wrap (i64.wrap (andI u8 (shrI u8 op 3) 7)-2)/\i64.wrap (i64.wrap (andI u8 (shrI u8 op 3) 7)-2)<2)))
 let x4:QT24:=(3,x1)
 .br (andI u8 op 7==0) (Ls ((26,1,x1))) (.br (andI u8 op 7==1) (.br (!andI u8 op 8 !=0) (Ls ((31,x2))) (.br (i64.wrap (andI u8 (shrI u8 op 3) 7)==5) (Ls ((28,1,0,0,0,0,0,0))) (Ls ((29,1,0,0,0,0,0,0))))) (.br (!x3||(andI u8 op 7==2||(!andI u8 op 7==3||(decide (i64.wrap (andI u8 (shrI u8 op 3) 7)<4)||decide (0<=i64.wrap (i64.wrap (andI u8 (shrI u8 op 3) 7)-4)/\i64.wrap (i64.wrap (andI u8 (shrI u8 op 3) 7)-4)<4))))) (.br (x3) (.br (andI u8 op 7==2) (Ls ((24,x4))) (.br (andI u8 op 7==3) (.br (decide (i64.wrap (andI u8 (shrI u8 op 3) 7)<4)) (Ls ((bif i64.wrap (i64.wrap (andI u8 (shrI u8 op 3) 7)-2)==0 then 34 else 33,2,0,0,0,0,0,0))) (Ls ((bif i64.wrap (i64.wrap (andI u8 (shrI u8 op 3) 7)-4)==0 then 32 else bif i64.wrap (i64.wrap (andI u8 (shrI u8 op 3) 7)-4)== ↑(0+1) then 11 else bif i64.wrap (i64.wrap (andI u8 (shrI u8 op 3) 7)-4)== ↑(0+1+1) then 36 else 35,1,0,0,0,0,0,0)))) (.br (andI u8 op 7==4) (Ls ((25,x4))) (.br (andI u8 op 7==5) (Ls ((30,x2))) (.br (andI u8 op 7==6) (Ls ((13,2,0,0,0,i64.wrap (andI u8 (shrI u8 op 3) 7),0,0))) (Ls ((27,1,0,0,0,0,0,i64.wrap (andI u8 (shrI u8 op 3) 7))))))))) Ln) Ln))
def ZUA (op:Int):QT7:=getO ZFI.Df (ZFJ op).val
def ZFK (op:Int):Bool:=okB (ZFJ op).val
def ZUz:En:=Zf ZBb ZFI (λa=>some (ZFK a)) (λa=>ZUA a)
theorem ZUy:Za prog 226 ZUz:=
 pureP 614741495173873727 [] [] ZBb ZFI trivial Tryz.func226 Tryz.call226 trivial (t:=λa=>ZFJ a)
def Zgm (chip:Int) (op:Int):RT (Option TI):=
 let x1:QT7:=(37,1,0,0,0,0,0,0)
 let x2:QT7:=(2,1,i64.wrap (andI u8 (shrI u8 op 3) 7),i64.wrap (andI u8 op 7),0,0,0,0)
 let x3:QT7:=(12,1,0,i64.wrap (andI u8 op 7),0,i64.wrap (andI u8 (shrI u8 op 3) 7),0,0)
 .br (chip==2) (.br (ZUL op).2 (Ls (ZUL op).1) (.br (ZjZ op).2 (Ls (ZjZ op).1) (.br (!shrI u8 op 6==0||ZUx op) (.br (shrI u8 op 6==0) (Ls (Z4V op)) (.br (shrI u8 op 6==1) (.br (op==118) (Ls (x1)) (Ls (x2))) (.br (shrI u8 op 6==2) (Ls (x3)) (.br (ZFK op) (Ls (ZUA op)) Ln)))) Ln))) (.br (ZjZ op).2 (Ls (ZjZ op).1) (.br (!shrI u8 op 6==0||ZUx op) (.br (shrI u8 op 6==0) (Ls (Z4V op)) (.br (shrI u8 op 6==1) (.br (op==118) (Ls (x1)) (Ls (x2))) (.br (shrI u8 op 6==2) (Ls (x3)) (.br (ZFK op) (Ls (ZUA op)) Ln)))) Ln))
def Zqy (chip:Int) (op:Int):QT7:=getO ZFI.Df (Zgm chip op).val
def Zm9 (chip:Int) (op:Int):Bool:=okB (Zgm chip op).val
def ZZX:En:=Zf ZA1 ZFI (λa=>some (Zm9 a.1 a.2)) (λa=>Zqy a.1 a.2)
theorem ZOJ:Za prog 154 ZZX:=
 pureP 17594467746303 [(223,ZUK),(224,ZBj),(225,Z2w),(226,ZUz)] [] ZA1 ZFI ⟨ZUI,ZGG,ZZM,ZUy,Tv⟩ Tryz.func154 Tryz.call154 trivial (t:=λa=>Zgm a.1 a.2)
def rOnT (chip:Int):RT (Bool):=
 .Lf (chip==2)
def rOn (chip:Int):Bool:=(rOnT chip).val
def rOnE:En:=Zf ZA3 ZpN (λ_=>none) (λa=>rOn a)
theorem ZeK:Za prog 171 rOnE:=
 pureQ 7 [] [] ZA3 ZpN trivial Tryz.func171 Tryz.call171 trivial (t:=λa=>rOnT a)
def ZJf (b:Int):RT (Bool):=
 let x1:=i64.wrap (i64.wrap (i64.wrap (i64.wrap (0+1)+1)+1)+1)
 let x2:=i64.wrap (x1+1)
 let x3:=i64.wrap (x2+1)
 let x4:=bif andI u8 (shrI u8 b (i64.wrap (0+1))) 1==1 then !!andI u8 (shrI u8 b 0) 1==1 else !andI u8 (shrI u8 b 0) 1==1
 let x5:=bif andI u8 (shrI u8 b (i64.wrap (i64.wrap (0+1)+1))) 1==1 then !x4 else x4
 let x6:=bif andI u8 (shrI u8 b (i64.wrap (i64.wrap (i64.wrap (0+1)+1)+1))) 1==1 then !x5 else x5
 let x7:=bif andI u8 (shrI u8 b x1) 1==1 then !x6 else x6
 let x8:=bif andI u8 (shrI u8 b x2) 1==1 then !x7 else x7
 let x9:=bif andI u8 (shrI u8 b x3) 1==1 then !x8 else x8
 .Lf (bif andI u8 (shrI u8 b (i64.wrap (x3+1))) 1==1 then !x9 else x9)
def Zoj (b:Int):Bool:=(ZJf b).val
def Zve:En:=Zf ZBb ZpN (λ_=>none) (λa=>Zoj a)
theorem Zs4:Za prog 375 Zve:=
 ZJR (P:=prog) (n:=31) (k:=10) (l:=[]) (ol:=[]) trivial Tryz.func375 rfl (by kernel_rfl) Tryz.call375 trivial (ts:=ZBb) (rs:=ZpN) (t:=λa=>ZJf a) (λa=>by kernel_rfl)
def Z6T (a:Bool) (b:Bool) (c:Bool):RT (Bool):=
 .Lf (bif a then b||bif a then c||b&&c else b&&c else bif a then c||b&&c else b&&c)
def rMaj (a:Bool) (b:Bool) (c:Bool):Bool:=(Z6T a b c).val
def ZMK:En:=Zf Z2x ZpN (λ_=>none) (λa=>rMaj a.1 a.2.1 a.2.2)
theorem ZoY:Za prog 371 ZMK:=
 pureQ 127 [] [] Z2x ZpN trivial Tryz.func371 Tryz.call371 trivial (t:=λa=>Z6T a.1 a.2.1 a.2.2)
def Z6M (b:Bool):RT (Int):=
 .br (b) (.Lf (1)) (.Lf (0))
def rOne (b:Bool):Int:=(Z6M b).val
def ZYV:En:=Zf Z2u Z2v (λ_=>none) (λa=>rOne a)
theorem ZDS:Za prog 376 ZYV:=
 pureQ 7 [] [] Z2u Z2v trivial Tryz.func376 Tryz.call376 trivial (t:=λa=>Z6M a)
def ZmQ (n:Int):RT (Int):=
 .Lf (i64.wrap (IntKind.i8.wrap n))
def ZeI (n:Int):Int:=(ZmQ n).val
def Zu5:En:=Zf ZBb Z2v (λ_=>none) (λa=>ZeI a)
theorem ZsX:Za prog 389 Zu5:=
 pureQ 7 [] [] ZBb Z2v trivial Tryz.func389 Tryz.call389 trivial (t:=λa=>ZmQ a)
def ZYE (a:Int) (b:Int) (c:Bool):RT (QT21):=
 let x1:=decide (i64.wrap (i64.wrap (ZeI a+ZeI b)+rOne c)< -128)
 let x2:=i64.wrap (i64.wrap (i64.wrap a+i64.wrap b)+rOne c)
 let x3:=u8.wrap x2
 let x4:=decide (x2>255)
 let x5:=decide (i64.wrap (i64.wrap (i64.wrap (andI u8 a 15)+i64.wrap (andI u8 b 15))+rOne c)>15)
 .Lf ((bif x1 then x3 else x3,bif x1 then x4 else x4,bif x1 then x5 else x5,x1||decide (i64.wrap (i64.wrap (ZeI a+ZeI b)+rOne c)>127)))
def rSum (a:Int) (b:Int) (c:Bool):QT21:=(ZYE a b c).val
def ZYF:En:=Zf Z2p Z2q (λ_=>none) (λa=>rSum a.1 a.2.1 a.2.2)
theorem ZDB:Za prog 367 ZYF:=
 pureQ 8191 [(376,ZYV),(389,Zu5)] [] Z2p Z2q ⟨ZDS,ZsX,Tv⟩ Tryz.func367 Tryz.call367 trivial (t:=λa=>ZYE a.1 a.2.1 a.2.2)
def ZJB (a:Int) (b:Int) (c:Bool):RT (QT21):=
 let x1:=decide (i64.wrap (i64.wrap (ZeI a-ZeI b)-rOne c)< -128)
 let x2:=i64.wrap (i64.wrap (i64.wrap a-i64.wrap b)-rOne c)
 let x3:=u8.wrap x2
 let x4:=decide (x2<0)
 let x5:=decide (i64.wrap (i64.wrap (i64.wrap (i64.wrap (andI u8 a 15)+i64.wrap (u8.wrap (15-andI u8 b 15)))+1)-rOne c)>15)
 .Lf ((bif x1 then x3 else x3,bif x1 then x4 else x4,bif x1 then x5 else x5,x1||decide (i64.wrap (i64.wrap (ZeI a-ZeI b)-rOne c)>127)))
def Zdb (a:Int) (b:Int) (c:Bool):QT21:=(ZJB a b c).val
def ZJC:En:=Zf Z2p Z2q (λ_=>none) (λa=>Zdb a.1 a.2.1 a.2.2)
theorem Zwd:Za prog 368 ZJC:=
 pureQ 8191 [(376,ZYV),(389,Zu5)] [] Z2p Z2q ⟨ZDS,ZsX,Tv⟩ Tryz.func368 Tryz.call368 trivial (t:=λa=>ZJB a.1 a.2.1 a.2.2)
def Z1V (h:Int) (l:Int):RT (Int):=
 .Lf (orI u16 (shlI u16 (u16.wrap h) 8) (u16.wrap l))
def Zdo (h:Int) (l:Int):Int:=(Z1V h l).val
def Zo2:En:=Zf ZGs ZGt (λ_=>none) (λa=>Zdo a.1 a.2)
theorem ZjC:Za prog 325 Zo2:=
 pureQ 31 [] [] ZGs ZGt trivial Tryz.func325 Tryz.call325 trivial (t:=λa=>Z1V a.1 a.2)
def ZY7 (b:Bool) (n:Int):RT (Option (Int)):=
 .br (!b||decide (0<=n)) (.br (b) (Ls (shlI u8 1 n)) (Ls (0))) Ln
def rBit (b:Bool) (n:Int):Int:=getO ZVv.Df (ZY7 b n).val
def Zek (b:Bool) (n:Int):Bool:=okB (ZY7 b n).val
def ZY8:En:=Zf Z2F ZVv (λa=>some (Zek a.1 a.2)) (λa=>rBit a.1 a.2)
theorem ZEW:Za prog 374 ZY8:=
 pureP 31 [] [] Z2F ZVv trivial Tryz.func374 Tryz.call374 trivial (t:=λa=>ZY7 a.1 a.2)
def ZAo (chip:Int) (f:TF):RT (Option (Int)):=
 let x1:=orI u8 (orI u8 (orI u8 (orI u8 (rBit f.1 7) (rBit f.2.1 6)) (rBit f.2.2.2.1 4)) (rBit f.2.2.2.2.1 2)) (rBit f.2.2.2.2.2.2 0)
 .br (!Zek f.1 7||(!Zek f.2.1 6||(!Zek f.2.2.2.1 4||(!Zek f.2.2.2.2.1 2||Zek f.2.2.2.2.2.2 0)))) (.br (!Zek f.1 7||(!Zek f.2.1 6||(!Zek f.2.2.2.1 4||Zek f.2.2.2.2.1 2))) (.br (!Zek f.1 7||(!Zek f.2.1 6||Zek f.2.2.2.1 4)) (.br (!Zek f.1 7||Zek f.2.1 6) (.br (Zek f.1 7) (.br (!rOn chip||(!Zek f.2.2.1 5||Zek f.2.2.2.2.2.1 1)) (.br (!rOn chip||Zek f.2.2.1 5) (.br (rOn chip) (Ls (orI u8 (orI u8 x1 (rBit f.2.2.1 5)) (rBit f.2.2.2.2.2.1 1))) (Ls (orI u8 x1 2))) Ln) Ln) Ln) Ln) Ln) Ln) Ln
def ZYT (chip:Int) (f:TF):Int:=getO ZVv.Df (ZAo chip f).val
def ZJg (chip:Int) (f:TF):Bool:=okB (ZAo chip f).val
def Z1M:En:=Zf ZUr ZVv (λa=>some (ZJg a.1 a.2)) (λa=>ZYT a.1 a.2)
theorem ZYS:Za prog 377 Z1M:=
 pureP 63 [(171,rOnE),(374,ZY8)] [] ZUr ZVv ⟨ZeK,ZEW,Tv⟩ Tryz.func377 Tryz.call377 trivial (t:=λa=>ZAo a.1 a.2)
def Zu1 (chip:Int) (b:Int):RT TF:=
 .Lf ((andI u8 b 128 !=0,andI u8 b 64 !=0,rOn chip&&andI u8 b 32 !=0,andI u8 b 16 !=0,andI u8 b 4 !=0,rOn chip&&andI u8 b 2 !=0,andI u8 b 1 !=0))
def Zu2 (chip:Int) (b:Int):TF:=(Zu1 chip b).val
def ZIQ:En:=Zf ZA1 ZA2 (λ_=>none) (λa=>Zu2 a.1 a.2)
theorem ZMp:Za prog 366 ZIQ:=
 pureQ 63 [(171,rOnE)] [] ZA1 ZA2 ⟨ZeK,Tv⟩ Tryz.func366 Tryz.call366 trivial (t:=λa=>Zu1 a.1 a.2)
def rOfT (r:Int):RT TF:=
 .Lf ((decide (r>=128),r==0,false,false,Zoj r,false,false))
def rOf (r:Int):TF:=(rOfT r).val
def rOfE:En:=Zf ZBb ZA2 (λ_=>none) (λa=>rOf a)
theorem ZJj:Za prog 369 rOfE:=
 pureQ 7 [(375,Zve)] [] ZBb ZA2 ⟨Zs4,Tv⟩ Tryz.func369 Tryz.call369 trivial (t:=λa=>rOfT a)
abbrev ZSh:List Sh:=[So Kc,Sh.agg rcF7,So R.bool,So R.bool]
def Zs6 (chip:Int) (f:TF) (k:Bool) (v:Bool):RT TF:=
 .Lf ((f.1,f.2.1,rOn chip&&bif rOn chip then k else k,f.2.2.2.1,f.2.2.2.2.1,bif rOn chip then rOn chip&&v else rOn chip&&v,f.2.2.2.2.2.2))
def ZrW (chip:Int) (f:TF) (k:Bool) (v:Bool):TF:=(Zs6 chip f k v).val
def ZAp:En:=Zf ZSh ZA2 (λ_=>none) (λa=>ZrW a.1 a.2.1 a.2.2.1 a.2.2.2)
theorem ZmU:Za prog 370 ZAp:=
 pureQ 511 [(171,rOnE)] [] ZSh ZA2 ⟨ZeK,Tv⟩ Tryz.func370 Tryz.call370 trivial (t:=λa=>Zs6 a.1 a.2.1 a.2.2.1 a.2.2.2)
def ZEH (r:TR) (n:Int):RT (Option (Int)):=
 .br (decide (0<=andI i64 n 7/\andI i64 n 7<8)) (Ls (bif andI i64 n 7==0 then r.2.1 else bif andI i64 n 7== ↑(0+1) then r.2.2.1 else bif andI i64 n 7== ↑(0+1+1) then r.2.2.2.1 else bif andI i64 n 7== ↑(0+1+1+1) then r.2.2.2.2.1 else bif andI i64 n 7== ↑(0+1+1+1+1) then r.2.2.2.2.2.1 else bif andI i64 n 7== ↑(0+1+1+1+1+1) then r.2.2.2.2.2.2.1 else bif andI i64 n 7== ↑(0+1+1+1+1+1+1) then 0 else r.1)) Ln
def rGet (r:TR) (n:Int):Int:=getO ZVv.Df (ZEH r n).val
def ZEJ (r:TR) (n:Int):Bool:=okB (ZEH r n).val
def Z6V:En:=Zf ZUZ ZVv (λa=>some (ZEJ a.1 a.2)) (λa=>rGet a.1 a.2)
theorem ZSB:Za prog 311 Z6V:=
 pureP 31 [] [] ZUZ ZVv trivial Tryz.func311 Tryz.call311 trivial (t:=λa=>ZEH a.1 a.2)
def Z3W (r:TR) (n:Int) (v:Int):RT TR:=
 .Lf ((bif andI i64 n 7==0 then r.1 else bif andI i64 n 7==1 then r.1 else bif andI i64 n 7==2 then r.1 else bif andI i64 n 7==3 then r.1 else bif andI i64 n 7==4 then r.1 else bif andI i64 n 7==5 then r.1 else bif andI i64 n 7==7 then v else r.1,bif andI i64 n 7==0 then v else r.2.1,bif andI i64 n 7==0 then r.2.2.1 else bif andI i64 n 7==1 then v else r.2.2.1,bif andI i64 n 7==0 then r.2.2.2.1 else bif andI i64 n 7==1 then r.2.2.2.1 else bif andI i64 n 7==2 then v else r.2.2.2.1,bif andI i64 n 7==0 then r.2.2.2.2.1 else bif andI i64 n 7==1 then r.2.2.2.2.1 else bif andI i64 n 7==2 then r.2.2.2.2.1 else bif andI i64 n 7==3 then v else r.2.2.2.2.1,bif andI i64 n 7==0 then r.2.2.2.2.2.1 else bif andI i64 n 7==1 then r.2.2.2.2.2.1 else bif andI i64 n 7==2 then r.2.2.2.2.2.1 else bif andI i64 n 7==3 then r.2.2.2.2.2.1 else bif andI i64 n 7==4 then v else r.2.2.2.2.2.1,bif andI i64 n 7==0 then r.2.2.2.2.2.2.1 else bif andI i64 n 7==1 then r.2.2.2.2.2.2.1 else bif andI i64 n 7==2 then r.2.2.2.2.2.2.1 else bif andI i64 n 7==3 then r.2.2.2.2.2.2.1 else bif andI i64 n 7==4 then r.2.2.2.2.2.2.1 else bif andI i64 n 7==5 then v else r.2.2.2.2.2.2.1,r.2.2.2.2.2.2.2))
def rSet (r:TR) (n:Int) (v:Int):TR:=(Z3W r n v).val
def ZMs:En:=Zf ZT2 ZT3 (λ_=>none) (λa=>rSet a.1 a.2.1 a.2.2)
theorem ZDD:Za prog 312 ZMs:=
 pureQ 9162596991 [] [] ZT2 ZT3 trivial Tryz.func312 Tryz.call312 trivial (t:=λa=>Z3W a.1 a.2.1 a.2.2)
def Zs5 (r:TR) (n:Int):RT (Option (Int)):=
 .br (andI i64 n 3==3) (Ls r.2.2.2.2.2.2.2.2.1) (.br (!ZEJ r (i64.wrap (2*andI i64 n 3))||ZEJ r (i64.wrap (i64.wrap (2*andI i64 n 3)+1))) (.br (ZEJ r (i64.wrap (2*andI i64 n 3))) (Ls (Zdo (rGet r (i64.wrap (2*andI i64 n 3))) (rGet r (i64.wrap (i64.wrap (2*andI i64 n 3)+1))))) Ln) Ln)
def Zao (r:TR) (n:Int):Int:=getO ZGt.Df (Zs5 r n).val
def ZSc (r:TR) (n:Int):Bool:=okB (Zs5 r n).val
def Z6L:En:=Zf ZUZ ZGt (λa=>some (ZSc a.1 a.2)) (λa=>Zao a.1 a.2)
theorem ZYR:Za prog 244 Z6L:=
 pureP 31 [(311,Z6V),(325,Zo2)] [] ZUZ ZGt ⟨ZSB,ZjC,Tv⟩ Tryz.func244 Tryz.call244 trivial (t:=λa=>Zs5 a.1 a.2)
def Zhb (r:TR) (n:Int) (v:Int):RT TR:=
 .br (andI i64 n 3==3) (.Lf ((r.1,r.2.1,r.2.2.1,r.2.2.2.1,r.2.2.2.2.1,r.2.2.2.2.2.1,r.2.2.2.2.2.2.1,r.2.2.2.2.2.2.2.1,v,r.2.2.2.2.2.2.2.2.2))) (.Lf (rSet (rSet r (i64.wrap (2*andI i64 n 3)) (u8.wrap (shrI u16 v 8))) (i64.wrap (i64.wrap (2*andI i64 n 3)+1)) (u8.wrap v)))
def Zm (r:TR) (n:Int) (v:Int):TR:=(Zhb r n v).val
def Zhc:En:=Zf Zlf ZT3 (λ_=>none) (λa=>Zm a.1 a.2.1 a.2.2)
theorem Zoe:Za prog 313 Zhc:=
 pureQ 127 [(312,ZMs)] [] Zlf ZT3 ⟨ZDD,Tv⟩ Tryz.func313 Tryz.call313 trivial (t:=λa=>Zhb a.1 a.2.1 a.2.2)
def ZSf (chip:Int) (r:TR):RT (Option (Int)):=
 .br (ZJg chip r.2.2.2.2.2.2.2.1) (Ls (Zdo r.1 (ZYT chip r.2.2.2.2.2.2.2.1))) Ln
def rPSW (chip:Int) (r:TR):Int:=getO ZGt.Df (ZSf chip r).val
def Z34 (chip:Int) (r:TR):Bool:=okB (ZSf chip r).val
def rPSWE:En:=Zf ZUs ZGt (λa=>some (Z34 a.1 a.2)) (λa=>rPSW a.1 a.2)
theorem Z33:Za prog 332 rPSWE:=
 pureP 31 [(325,Zo2),(377,Z1M)] [] ZUs ZGt ⟨ZjC,ZYS,Tv⟩ Tryz.func332 Tryz.call332 trivial (t:=λa=>ZSf a.1 a.2)
def ZmR (chip:Int) (r:TR) (v:Int):RT TR:=
 .Lf ((u8.wrap (shrI u16 v 8),r.2.1,r.2.2.1,r.2.2.2.1,r.2.2.2.2.1,r.2.2.2.2.2.1,r.2.2.2.2.2.2.1,Zu2 chip (u8.wrap v),r.2.2.2.2.2.2.2.2))
def Zhd (chip:Int) (r:TR) (v:Int):TR:=(ZmR chip r v).val
def Zu6:En:=Zf ZpH ZT3 (λ_=>none) (λa=>Zhd a.1 a.2.1 a.2.2)
theorem ZMr:Za prog 314 Zu6:=
 pureQ 127 [(366,ZIQ)] [] ZpH ZT3 ⟨ZMp,Tv⟩ Tryz.func314 Tryz.call314 trivial (t:=λa=>ZmR a.1 a.2.1 a.2.2)
def rDoT (chip:Int) (op:Int) (a:Int) (b:Int) (f:TF):RT (QT3):=
 let x1:=bif andI i64 op 7==0 then andI i64 op 7==0 else andI i64 op 7==1
 let x2:=bif andI i64 op 7==2 then andI i64 op 7==2 else bif andI i64 op 7==3 then andI i64 op 7==3 else andI i64 op 7==7
 let x3:Int:=bif x1 then bif andI i64 op 7==1 then (rSum a b f.2.2.2.2.2.2).1 else (rSum a b false).1 else bif x2 then bif andI i64 op 7==3 then (Zdb a b f.2.2.2.2.2.2).1 else (Zdb a b false).1 else bif andI i64 op 7==4 then bif rOn chip then andI u8 a b else andI u8 a b else bif andI i64 op 7==5 then xorI u8 a b else bif andI i64 op 7==6 then orI u8 a b else 0
 let x4:=rOf x3
 let x5:=x4.2
 let x6:=x5.2
 let x7:=x6.2.2
 let x8:=ZrW chip (x4.1,x5.1,x6.1,bif x1 then bif andI i64 op 7==1 then (rSum a b f.2.2.2.2.2.2).2.2.1 else (rSum a b false).2.2.1 else bif x2 then bif andI i64 op 7==3 then (Zdb a b f.2.2.2.2.2.2).2.2.1 else (Zdb a b false).2.2.1 else andI i64 op 7==4&&(rOn chip||andI u8 (orI u8 a b) 8 !=0),x7.1,x7.2.1,bif x1 then bif andI i64 op 7==1 then (rSum a b f.2.2.2.2.2.2).2.1 else (rSum a b false).2.1 else x2&&bif andI i64 op 7==3 then (Zdb a b f.2.2.2.2.2.2).2.1 else (Zdb a b false).2.1) (rMaj (decide (a>=128)) (bif x1 then decide (b>=128) else bif x2 then !decide (b>=128) else decide (b>=128)) (decide (x3>=128))) (bif x1 then bif andI i64 op 7==1 then (rSum a b f.2.2.2.2.2.2).2.2.2 else (rSum a b false).2.2.2 else x2&&bif andI i64 op 7==3 then (Zdb a b f.2.2.2.2.2.2).2.2.2 else (Zdb a b false).2.2.2)
 .br (andI i64 op 7==7) (.Lf ((a,x8))) (.Lf ((x3,x8)))
def rDo (chip:Int) (op:Int) (a:Int) (b:Int) (f:TF):QT3:=(rDoT chip op a b f).val
def rDoE:En:=Zf Z5c Zxc (λ_=>none) (λa=>rDo a.1 a.2.1 a.2.2.1 a.2.2.2.1 a.2.2.2.2)
theorem Z6X:Za prog 315 rDoE:=
 pureQ 1246707057321695066193919 [(171,rOnE),(367,ZYF),(368,ZJC),(369,rOfE),(370,ZAp),(371,ZMK)] [] Z5c Zxc ⟨ZeK,ZDB,Zwd,ZJj,ZmU,ZoY,Tv⟩ Tryz.func315 Tryz.call315 trivial (t:=λa=>rDoT a.1 a.2.1 a.2.2.1 a.2.2.2.1 a.2.2.2.2)
def Z4a (chip:Int) (v:Int) (f:TF):RT (QT3):=
 .Lf (((rSum v 1 false).1,ZrW chip ((rOf (rSum v 1 false).1).1,(rOf (rSum v 1 false).1).2.1,(rOf (rSum v 1 false).1).2.2.1,(rSum v 1 false).2.2.1,(rOf (rSum v 1 false).1).2.2.2.2.1,(rOf (rSum v 1 false).1).2.2.2.2.2.1,f.2.2.2.2.2.2) (rMaj (decide (v>=128)) false (decide ((rSum v 1 false).1>=128))) (rSum v 1 false).2.2.2))
def rInr (chip:Int) (v:Int) (f:TF):QT3:=(Z4a chip v f).val
def Z6U:En:=Zf ZUS Zxc (λ_=>none) (λa=>rInr a.1 a.2.1 a.2.2)
theorem Z39:Za prog 372 Z6U:=
 pureQ 8191 [(367,ZYF),(369,rOfE),(370,ZAp),(371,ZMK)] [] ZUS Zxc ⟨ZDB,ZJj,ZmU,ZoY,Tv⟩ Tryz.func372 Tryz.call372 trivial (t:=λa=>Z4a a.1 a.2.1 a.2.2)
def Z4k (chip:Int) (v:Int) (f:TF):RT (QT3):=
 .Lf (((Zdb v 1 false).1,ZrW chip ((rOf (Zdb v 1 false).1).1,(rOf (Zdb v 1 false).1).2.1,(rOf (Zdb v 1 false).1).2.2.1,(Zdb v 1 false).2.2.1,(rOf (Zdb v 1 false).1).2.2.2.2.1,(rOf (Zdb v 1 false).1).2.2.2.2.2.1,f.2.2.2.2.2.2) (rMaj (decide (v>=128)) true (decide ((Zdb v 1 false).1>=128))) (Zdb v 1 false).2.2.2))
def rDcr (chip:Int) (v:Int) (f:TF):QT3:=(Z4k chip v f).val
def Z60:En:=Zf ZUS Zxc (λ_=>none) (λa=>rDcr a.1 a.2.1 a.2.2)
theorem Z4j:Za prog 373 Z60:=
 pureQ 8191 [(368,ZJC),(369,rOfE),(370,ZAp),(371,ZMK)] [] ZUS Zxc ⟨Zwd,ZJj,ZmU,ZoY,Tv⟩ Tryz.func373 Tryz.call373 trivial (t:=λa=>Z4k a.1 a.2.1 a.2.2)
def Z37 (chip:Int) (v:Int) (f:TF):RT (QT3):=
 .Lf ((u16.wrap (v+1),f.1,f.2.1,bif rOn chip then v==65535 else f.2.2.1,f.2.2.2))
def rInx (chip:Int) (v:Int) (f:TF):QT3:=(Z37 chip v f).val
def Z38:En:=Zf ZUP ZUQ (λ_=>none) (λa=>rInx a.1 a.2.1 a.2.2)
theorem Z36:Za prog 317 Z38:=
 pureQ 255 [(171,rOnE)] [] ZUP ZUQ ⟨ZeK,Tv⟩ Tryz.func317 Tryz.call317 trivial (t:=λa=>Z37 a.1 a.2.1 a.2.2)
def Z4h (chip:Int) (v:Int) (f:TF):RT (QT3):=
 .Lf ((u16.wrap (v-1),f.1,f.2.1,bif rOn chip then v==0 else f.2.2.1,f.2.2.2))
def rDcx (chip:Int) (v:Int) (f:TF):QT3:=(Z4h chip v f).val
def Z4i:En:=Zf ZUP ZUQ (λ_=>none) (λa=>rDcx a.1 a.2.1 a.2.2)
theorem Z4g:Za prog 318 Z4i:=
 pureQ 255 [(171,rOnE)] [] ZUP ZUQ ⟨ZeK,Tv⟩ Tryz.func318 Tryz.call318 trivial (t:=λa=>Z4h a.1 a.2.1 a.2.2)
def Z4m (chip:Int) (a:Int) (b:Int) (f:TF):RT (QT3):=
 .Lf ((u16.wrap (a+b),f.1,f.2.1,f.2.2.1,f.2.2.2.1,f.2.2.2.2.1,bif rOn chip then decide (i64.wrap (i64.wrap (IntKind.i16.wrap a)+i64.wrap (IntKind.i16.wrap b))< -32768)||decide (i64.wrap (i64.wrap (IntKind.i16.wrap a)+i64.wrap (IntKind.i16.wrap b))>32767) else f.2.2.2.2.2.1,decide (i64.wrap (i64.wrap a+i64.wrap b)>65535)))
def rDad (chip:Int) (a:Int) (b:Int) (f:TF):QT3:=(Z4m chip a b f).val
def Z4n:En:=Zf ZVm ZUQ (λ_=>none) (λa=>rDad a.1 a.2.1 a.2.2.1 a.2.2.2)
theorem Z4l:Za prog 319 Z4n:=
 pureQ 2047 [(171,rOnE)] [] ZVm ZUQ ⟨ZeK,Tv⟩ Tryz.func319 Tryz.call319 trivial (t:=λa=>Z4m a.1 a.2.1 a.2.2.1 a.2.2.2)
def ZSU (a:Int) (b:Int):RT (QT3):=
 let x1:=Zdb (u8.wrap (shrI u16 a 8)) (u8.wrap (shrI u16 b 8)) (Zdb (u8.wrap a) (u8.wrap b) false).2.1
 let x2:=x1.1
 let x3:=x2==0
 let x4:=Zdo x2 (Zdb (u8.wrap a) (u8.wrap b) false).1
 let x5:=decide (x2>=128)
 let x6:=rMaj (decide (a>=32768)) (decide (b<32768)) x5
 let x7:=x1.2
 let x8:=x7.2
 let x9:=x8.1
 let x10:=Zoj x2
 let x11:=x8.2
 let x12:=x7.1
 .Lf ((bif x3 then x4 else x4,bif x3 then x5 else x5,x3&&(Zdb (u8.wrap a) (u8.wrap b) false).1==0,bif x3 then x6 else x6,bif x3 then x9 else x9,bif x3 then x10 else x10,bif x3 then x11 else x11,bif x3 then x12 else x12))
def ZAy (a:Int) (b:Int):QT3:=(ZSU a b).val
def ZSW:En:=Zf ZGH ZUQ (λ_=>none) (λa=>ZAy a.1 a.2)
theorem ZY5:Za prog 322 ZSW:=
 pureQ 16383 [(325,Zo2),(368,ZJC),(371,ZMK),(375,Zve)] [] ZGH ZUQ ⟨ZjC,Zwd,ZoY,Zs4,Tv⟩ Tryz.func322 Tryz.call322 trivial (t:=λa=>ZSU a.1 a.2)
def Z4p (chip:Int) (a:Int) (f:TF):RT (QT3):=
 let x1:Int:=bif f.2.2.2.1||decide (andI u8 a 15>9) then 6 else 0
 let x2:=rSum a (bif f.2.2.2.2.2.2||decide (a>153) then u8.wrap (x1+96) else x1) false
 let x3:=x2.1
 let x4:=rOf x3
 let x5:=x4.2
 let x6:=x5.2
 let x7:=x2.2.2
 let x8:=x6.2.2
 .Lf ((x3,ZrW chip (x4.1,x5.1,x6.1,x7.1,x8.1,x8.2.1,f.2.2.2.2.2.2||decide (a>153)) (rMaj (decide (a>=128)) false (decide (x3>=128))) x7.2))
def rDaa (chip:Int) (a:Int) (f:TF):QT3:=(Z4p chip a f).val
def Z4q:En:=Zf ZUS Zxc (λ_=>none) (λa=>rDaa a.1 a.2.1 a.2.2)
theorem Z4o:Za prog 320 Z4q:=
 pureQ 32767 [(367,ZYF),(369,rOfE),(370,ZAp),(371,ZMK)] [] ZUS Zxc ⟨ZDB,ZJj,ZmU,ZoY,Tv⟩ Tryz.func320 Tryz.call320 trivial (t:=λa=>Z4p a.1 a.2.1 a.2.2)
def ZRS (op:Int) (a:Int) (c:Bool):RT (Option (Int×Bool)):=
 .br (andI i64 op 3==0||(andI i64 op 3==1||(!andI i64 op 3==2||Zek c 0))) (.br (andI i64 op 3==0) (Ls ((orI u8 (shlI u8 a 1) (shrI u8 a 7),decide (a>=128)))) (.br (andI i64 op 3==1) (Ls ((orI u8 (shrI u8 a 1) (shlI u8 a 7),andI u8 a 1==1))) (.br (andI i64 op 3==2) (Ls ((orI u8 (shlI u8 a 1) (rBit c 0),decide (a>=128)))) (.br (Zek c 7) (Ls ((orI u8 (shrI u8 a 1) (rBit c 7),andI u8 a 1==1))) Ln)))) Ln
def rRot (op:Int) (a:Int) (c:Bool):Int×Bool:=getO ZKk.Df (ZRS op a c).val
def Z3Z (op:Int) (a:Int) (c:Bool):Bool:=okB (ZRS op a c).val
def rRotE:En:=Zf ZT7 ZKk (λa=>some (Z3Z a.1 a.2.1 a.2.2)) (λa=>rRot a.1 a.2.1 a.2.2)
theorem Z3Y:Za prog 321 rRotE:=
 pureP 537396479 [(374,ZY8)] [] ZT7 ZKk ⟨ZEW,Tv⟩ Tryz.func321 Tryz.call321 trivial (t:=λa=>ZRS a.1 a.2.1 a.2.2)
def Z2f (v:Int):RT (Int×Bool):=
 .Lf ((orI u16 (shrI u16 v 1) (andI u16 v 32768),andI u16 v 1==1))
def Zwi (v:Int):Int×Bool:=(Z2f v).val
def ZTa:En:=Zf ZGK ZGL (λ_=>none) (λa=>Zwi a)
theorem ZY9:Za prog 323 ZTa:=
 pureQ 15 [] [] ZGK ZGL trivial Tryz.func323 Tryz.call323 trivial (t:=λa=>Z2f a)
def ZAi (v:Int) (c:Bool):RT (Option (Int×Bool×Bool)):=
 .br (Zek c 0) (Ls ((orI u16 (shlI u16 v 1) (u16.wrap (rBit c 0)),decide (v>=32768),andI u16 (orI u16 (shlI u16 v 1) (u16.wrap (rBit c 0))) 32768 !=andI u16 v 32768))) Ln
def ZAj (v:Int) (c:Bool):Int×Bool×Bool:=getO ZFB.Df (ZAi v c).val
def ZR0 (v:Int) (c:Bool):Bool:=okB (ZAi v c).val
def Z6K:En:=Zf ZFA ZFB (λa=>some (ZR0 a.1 a.2)) (λa=>ZAj a.1 a.2)
theorem ZYK:Za prog 324 Z6K:=
 pureP 255 [(374,ZY8)] [] ZFA ZFB ⟨ZEW,Tv⟩ Tryz.func324 Tryz.call324 trivial (t:=λa=>ZAi a.1 a.2)
def ZEX (b:Bool) (n:Int):RT (Option (Int)):=
 .br (decide (0<=n)) (Ls (u8.wrap (shlI i64 (rOne b) n))) Ln
def Zhj (b:Bool) (n:Int):Int:=getO ZVv.Df (ZEX b n).val
def ZaA (b:Bool) (n:Int):Bool:=okB (ZEX b n).val
def ZS6:En:=Zf Z2F ZVv (λa=>some (ZaA a.1 a.2)) (λa=>Zhj a.1 a.2)
theorem ZS5:Za prog 326 ZS6:=
 pureP 31 [(376,ZYV)] [] Z2F ZVv ⟨ZDS,Tv⟩ Tryz.func326 Tryz.call326 trivial (t:=λa=>ZEX a.1 a.2)
def ZRV (c:TC) (l:QT0):RT (Option (Int×TC)):=
 let x1:=bif c.2.2.2.2.2.2.2.2.2.2.1 then c.2.2.2.2.2.2.2.2.2.2.2.1 else c.2.2.1
 .br (!ZaA l.2.2.2.1 7||(!ZaA c.2.2.2.2.2.2.2.1 6||(!ZaA l.2.2.2.2.2.2.1 5||(!ZaA l.2.2.2.2.2.2.2.1 4||ZaA x1 3)))) (.br (!ZaA l.2.2.2.1 7||(!ZaA c.2.2.2.2.2.2.2.1 6||(!ZaA l.2.2.2.2.2.2.1 5||ZaA l.2.2.2.2.2.2.2.1 4))) (.br (!ZaA l.2.2.2.1 7||(!ZaA c.2.2.2.2.2.2.2.1 6||ZaA l.2.2.2.2.2.2.1 5)) (.br (!ZaA l.2.2.2.1 7||ZaA c.2.2.2.2.2.2.2.1 6) (.br (ZaA l.2.2.2.1 7) (Ls ((orI u8 (orI u8 (orI u8 (orI u8 (orI u8 (Zhj l.2.2.2.1 7) (Zhj c.2.2.2.2.2.2.2.1 6)) (Zhj l.2.2.2.2.2.2.1 5)) (Zhj l.2.2.2.2.2.2.2.1 4)) (Zhj x1 3)) (andI u8 c.2.2.2.2.2.1 7),c.1,c.2.1,c.2.2.1,c.2.2.2.1,c.2.2.2.2.1,c.2.2.2.2.2.1,c.2.2.2.2.2.2.1,c.2.2.2.2.2.2.2.1,c.2.2.2.2.2.2.2.2.1,c.2.2.2.2.2.2.2.2.2.1,false,false,c.2.2.2.2.2.2.2.2.2.2.2.2))) Ln) Ln) Ln) Ln) Ln
def rRim (c:TC) (l:QT0):Int×TC:=getO ZKl.Df (ZRV c l).val
def Z31 (c:TC) (l:QT0):Bool:=okB (ZRV c l).val
def rRimE:En:=Zf ZT9 ZKl (λa=>some (Z31 a.1 a.2)) (λa=>rRim a.1 a.2)
theorem Z30:Za prog 245 rRimE:=
 pureP 255 [(326,ZS6)] [] ZT9 ZKl ⟨ZS5,Tv⟩ Tryz.func245 Tryz.call245 trivial (t:=λa=>ZRV a.1 a.2)
def ZRJ (c:TC) (a:Int):RT TC:=
 .Lf ((c.1,c.2.1,c.2.2.1,c.2.2.2.1,c.2.2.2.2.1,bif andI u8 a 8 !=0 then andI u8 a 7 else c.2.2.2.2.2.1,c.2.2.2.2.2.2.1,!andI u8 a 16 !=0&&c.2.2.2.2.2.2.2.1,c.2.2.2.2.2.2.2.2.1,c.2.2.2.2.2.2.2.2.2.1,c.2.2.2.2.2.2.2.2.2.2.1,c.2.2.2.2.2.2.2.2.2.2.2.1,bif andI u8 a 64 !=0 then andI u8 a 128 !=0 else c.2.2.2.2.2.2.2.2.2.2.2.2))
def rSim (c:TC) (a:Int):TC:=(ZRJ c a).val
def Z6J:En:=Zf ZTY ZTZ (λ_=>none) (λa=>rSim a.1 a.2)
theorem Z3V:Za prog 246 Z6J:=
 pureQ 31 [] [] ZTY ZTZ trivial Tryz.func246 Tryz.call246 trivial (t:=λa=>ZRJ a.1 a.2)
def ZEG (c:Int) (f:TF):RT (Bool):=
 .br (c==0) (.Lf (!f.2.1)) (.br (c==1) (.Lf f.2.1) (.br (c==2) (.Lf (!f.2.2.2.2.2.2)) (.br (c==3) (.Lf f.2.2.2.2.2.2) (.br (c==4) (.Lf (!f.2.2.2.2.1)) (.br (c==5) (.Lf f.2.2.2.2.1) (.br (c==6) (.Lf (!f.1)) (.br (c==7) (.Lf f.1) (.br (c==8) (.Lf (!f.2.2.1)) (.br (c==9) (.Lf f.2.2.1) (.br (c==10) (.Lf f.2.2.2.2.2.1) (.Lf (c==11))))))))))))
def Zfp (c:Int) (f:TF):Bool:=(ZEG c f).val
def ZSA:En:=Zf ZUr ZpN (λ_=>none) (λa=>Zfp a.1 a.2)
theorem ZSz:Za prog 365 ZSA:=
 pureQ 2397219371124831 [] [] ZUr ZpN trivial Tryz.func365 Tryz.call365 trivial (t:=λa=>ZEG a.1 a.2)
def ZuY (s:Int):RT (Int):=
 .br (s==1) (.Lf (36)) (.br (s==2) (.Lf (60)) (.br (s==3) (.Lf (52)) (.br (s==4) (.Lf (44)) (.Lf (0)))))
def Zh (s:Int):Int:=(ZuY s).val
def ZIP:En:=Zf ZA3 ZGt (λ_=>none) (λa=>Zh a)
theorem ZMm:Za prog 237 ZIP:=
 pureQ 1367 [] [] ZA3 ZGt trivial Tryz.func237 Tryz.call237 trivial (t:=λa=>ZuY a)
def Zk6 (s:Int):RT (Bool):=
 .Lf (decide (s>=1)&&decide (s<=4))
def Zc (s:Int):Bool:=(Zk6 s).val
def Zh5:En:=Zf ZA3 ZpN (λ_=>none) (λa=>Zc a)
theorem Zhh:Za prog 236 Zh5:=
 pureQ 7 [] [] ZA3 ZpN trivial Tryz.func236 Tryz.call236 trivial (t:=λa=>Zk6 a)
def Zz9 (op:Int):RT (TI×Bool):=
 .br (op==8) (.Lf (((40,1,0,0,0,0,0,0),true))) (.br (op==16) (.Lf (((41,1,0,0,0,0,0,0),true))) (.br (op==24) (.Lf (((42,1,0,0,0,0,0,0),true))) (.br (op==32) (.Lf (((38,1,0,0,0,0,0,0),true))) (.br (op==40) (.Lf (((43,2,0,0,0,0,0,0),true))) (.br (op==48) (.Lf (((39,1,0,0,0,0,0,0),true))) (.br (op==56) (.Lf (((44,2,0,0,0,0,0,0),true))) (.br (op==203) (.Lf (((45,1,0,0,0,0,10,0),true))) (.br (op==217) (.Lf (((46,1,0,0,0,0,0,0),true))) (.br (op==221) (.Lf (((24,3,0,0,0,0,8,0),true))) (.br (op==237) (.Lf (((47,1,0,0,0,0,0,0),true))) (.br (op==253) (.Lf (((24,3,0,0,0,0,9,0),true))) (.Lf (((0,0,0,0,0,0,0,0),false))))))))))))))
def Zu4 (op:Int):TI×Bool:=(Zz9 op).val
def ZAa:En:=Zf ZBb ZKt (λ_=>none) (λa=>Zu4 a)
theorem ZDC:Za prog 306 ZAa:=
 pureQ 314146179375 [] [] ZBb ZKt trivial Tryz.func306 Tryz.call306 trivial (t:=λa=>Zz9 a)
abbrev ZSj:List Sh:=[So Kc,So Kc,So Kc,So Kc]
def ZSk (y:Int) (z:Int) (p:Int) (q:Int):RT (Option TI):=
 let x1:=decide (0<=i64.wrap (y-4)/\i64.wrap (y-4)<4)
 .br (z==0) (Ls ((1,1,0,0,0,0,0,0))) (.br (z==1) (.br (q==0) (Ls ((4,3,0,0,p,0,0,0))) (Ls ((18,1,0,0,p,0,0,0)))) (.br (!z==2||((bif y==0 then y==0 else y==2)||((bif y==1 then y==1 else y==3)||x1))) (.br (z==2) (.br (bif y==0 then y==0 else y==2) (Ls ((10,1,0,0,p,0,0,0))) (.br (bif y==1 then y==1 else y==3) (Ls ((9,1,0,0,p,0,0,0))) (Ls ((bif i64.wrap (y-4)==0 then 8 else bif i64.wrap (y-4)== ↑(0+1) then 7 else bif i64.wrap (y-4)== ↑(0+1+1) then 6 else 5,3,0,0,0,0,0,0))))) (.br (!z==3||decide (0<=q/\q<2)) (.br (z==3) (Ls ((bif q==0 then 16 else 17,1,0,0,p,0,0,0))) (.br (z==4) (Ls ((14,1,y,0,0,0,0,0))) (.br (z==5) (Ls ((15,1,y,0,0,0,0,0))) (.br (z==6) (Ls ((3,2,y,0,0,0,0,0))) (.br (decide (y<4)) (Ls ((23,1,0,0,0,y,0,0))) (.br (x1) (Ls ((bif i64.wrap (y-4)==0 then 19 else bif i64.wrap (y-4)== ↑(0+1) then 20 else bif i64.wrap (y-4)== ↑(0+1+1) then 21 else 22,1,0,0,0,0,0,0))) Ln)))))) Ln)) Ln))
def Z6P (y:Int) (z:Int) (p:Int) (q:Int):QT7:=getO ZFI.Df (ZSk y z p q).val
def Z1Q (y:Int) (z:Int) (p:Int) (q:Int):Bool:=okB (ZSk y z p q).val
def Z1P:En:=Zf ZSj ZFI (λa=>some (Z1Q a.1 a.2.1 a.2.2.1 a.2.2.2)) (λa=>Z6P a.1 a.2.1 a.2.2.1 a.2.2.2)
theorem ZYW:Za prog 307 Z1P:=
 pureP 19211217472071167 [] [] ZSj ZFI trivial Tryz.func307 Tryz.call307 trivial (t:=λa=>ZSk a.1 a.2.1 a.2.2.1 a.2.2.2)
def ZDU (y:Int) (z:Int) (p:Int) (q:Int):RT (Option TI):=
 .br (z==0) (Ls ((26,1,0,0,0,0,y,0))) (.br (z==1) (.br (q==0) (Ls ((31,1,0,0,p,0,0,0))) (.br (y==5) (Ls ((28,1,0,0,0,0,0,0))) (.br (y==7) (Ls ((29,1,0,0,0,0,0,0))) (Ls ((26,1,0,0,0,0,11,0)))))) (.br (z==2||(!z==3||((bif y==0 then y==0 else y==1)||(y==2||(y==3||decide (0<=i64.wrap (y-4)/\i64.wrap (y-4)<4)))))) (.br (z==2) (Ls ((24,3,0,0,0,0,y,0))) (.br (z==3) (.br (bif y==0 then y==0 else y==1) (Ls ((24,3,0,0,0,0,11,0))) (.br (y==2) (Ls ((34,2,0,0,0,0,0,0))) (.br (y==3) (Ls ((33,2,0,0,0,0,0,0))) (Ls ((bif i64.wrap (y-4)==0 then 32 else bif i64.wrap (y-4)== ↑(0+1) then 11 else bif i64.wrap (y-4)== ↑(0+1+1) then 36 else 35,1,0,0,0,0,0,0)))))) (.br (z==4) (Ls ((25,3,0,0,0,0,y,0))) (.br (z==5) (.br (q==0) (Ls ((30,1,0,0,p,0,0,0))) (Ls ((25,3,0,0,0,0,11,0)))) (.br (z==6) (Ls ((13,2,0,0,0,y,0,0))) (Ls ((27,1,0,0,0,0,0,y)))))))) Ln))
def Z1R (y:Int) (z:Int) (p:Int) (q:Int):QT7:=getO ZFI.Df (ZDU y z p q).val
def ZSn (y:Int) (z:Int) (p:Int) (q:Int):Bool:=okB (ZDU y z p q).val
def ZSm:En:=Zf ZSj ZFI (λa=>some (ZSn a.1 a.2.1 a.2.2.1 a.2.2.2)) (λa=>Z1R a.1 a.2.1 a.2.2.1 a.2.2.2)
theorem ZSl:Za prog 308 ZSm:=
 pureP 2324988294374376959 [] [] ZSj ZFI trivial Tryz.func308 Tryz.call308 trivial (t:=λa=>ZDU a.1 a.2.1 a.2.2.1 a.2.2.2)
def Zgj (chip:Int) (op:Int):RT (Option TI):=
 .br ((Zu4 op).2&&rOn chip) (Ls (Zu4 op).1) (.br (!shrI u8 op 6==0||Z1Q (i64.wrap (andI u8 (shrI u8 op 3) 7)) (i64.wrap (andI u8 op 7)) (shrI i64 (i64.wrap (andI u8 (shrI u8 op 3) 7)) 1) (andI i64 (i64.wrap (andI u8 (shrI u8 op 3) 7)) 1)) (.br (shrI u8 op 6==0) (Ls (Z6P (i64.wrap (andI u8 (shrI u8 op 3) 7)) (i64.wrap (andI u8 op 7)) (shrI i64 (i64.wrap (andI u8 (shrI u8 op 3) 7)) 1) (andI i64 (i64.wrap (andI u8 (shrI u8 op 3) 7)) 1))) (.br (shrI u8 op 6==1) (.br (op==118) (Ls ((37,1,0,0,0,0,0,0))) (Ls ((2,1,i64.wrap (andI u8 (shrI u8 op 3) 7),i64.wrap (andI u8 op 7),0,0,0,0)))) (.br (shrI u8 op 6==2) (Ls ((12,1,0,i64.wrap (andI u8 op 7),0,i64.wrap (andI u8 (shrI u8 op 3) 7),0,0))) (.br (ZSn (i64.wrap (andI u8 (shrI u8 op 3) 7)) (i64.wrap (andI u8 op 7)) (shrI i64 (i64.wrap (andI u8 (shrI u8 op 3) 7)) 1) (andI i64 (i64.wrap (andI u8 (shrI u8 op 3) 7)) 1)) (Ls (Z1R (i64.wrap (andI u8 (shrI u8 op 3) 7)) (i64.wrap (andI u8 op 7)) (shrI i64 (i64.wrap (andI u8 (shrI u8 op 3) 7)) 1) (andI i64 (i64.wrap (andI u8 (shrI u8 op 3) 7)) 1))) Ln)))) Ln)
def Zb (chip:Int) (op:Int):QT7:=getO ZFI.Df (Zgj chip op).val
def ZmX (chip:Int) (op:Int):Bool:=okB (Zgj chip op).val
def ZY6:En:=Zf ZA1 ZFI (λa=>some (ZmX a.1 a.2)) (λa=>Zb a.1 a.2)
theorem ZNr:Za prog 238 ZY6:=
 pureP 70644158956031 [(171,rOnE),(306,ZAa),(307,Z1P),(308,ZSm)] [] ZA1 ZFI ⟨ZeK,ZDC,ZYW,ZSl,Tv⟩ Tryz.func238 Tryz.call238 trivial (t:=λa=>Zgj a.1 a.2)
