import Derived.Test.YtpnjbfjomebppaaGreatS3D
import Derived.Test.YtpnjbfjomebppaaGreatProg
open Go.Proofs.Tryz (prog)
open Go.IntKind (u8 u16 i64)
set_option linter.unusedSimpArgs false
open Go Go.S3 Go.Proofs
set_option linter.unusedVariables false
set_option maxRecDepth 100000
namespace Go.Proofs.YtpnjbfjomebppaaGreat
noncomputable section
abbrev ZBK:List Sh:=[So Ka]
abbrev Zqd:Rs:=Rs.one (So R.bool)
def Zxt (b:Int):RT (Option (Bool)):=
 let x1:=andI u8 (andI u8 b (u8.wrap (b-1))) (u8.wrap (andI u8 b (u8.wrap (b-1))-1))
 let x2:= !x1 !=0
 let x3:=andI u8 x1 (u8.wrap (x1-1))
 let x4:=x3 !=0
 let x5:=andI u8 x3 (u8.wrap (x3-1))
 let x6:= !x5 !=0
 let x7:=andI u8 x5 (u8.wrap (x5-1))
 let x8:=x7 !=0
 let x9:=andI u8 x7 (u8.wrap (x7-1))
 let x10:= !x9 !=0
 let x11:=andI u8 x9 (u8.wrap (x9-1))
 let x12:=x11 !=0
 let x13:=andI u8 x11 (u8.wrap (x11-1))
 let x14:= !x13 !=0
 .br (!b !=0||(!andI u8 b (u8.wrap (b-1)) !=0||(x2||(!x4||(x6||(!x8||(x10||(!x12||(x14|| !andI u8 x13 (u8.wrap (x13-1)) !=0))))))))) (Ls (!b !=0||andI u8 b (u8.wrap (b-1)) !=0&&(x2||x4&&(x6||x8&&(x10||x12&&x14))))) Ln
def Zxu (b:Int):Bool:=getO Zqd.Df (Zxt b).val
def Zni (b:Int):Bool:=okB (Zxt b).val
def ZK9:En:=Zg ZBK Zqd (λa=>some (Zni a)) (λa=>Zxu a)
theorem ZOK:Za prog 387 ZK9:=
 ZpE (P:=prog) (n:=15) (k:=10) (l:=[]) (ol:=[]) trivial Tryz.func387 rfl (by kernel_rfl) Tryz.call387 trivial (ts:=ZBK) (rs:=Zqd) (t:=λa=>Zxt a) (λa=>by kernel_rfl)
abbrev Z3w:List Sh:=[So R.bool,So R.bool,So R.bool]
def Z8n (a:Bool) (b:Bool) (c:Bool):RT (Bool):=
 .Lf (bif a then b||bif a then c||b&&c else b&&c else bif a then c||b&&c else b&&c)
def pMaj (a:Bool) (b:Bool) (c:Bool):Bool:=(Z8n a b c).val
def ZOU:En:=Zg Z3w Zqd (λ_=>none) (λa=>pMaj a.1 a.2.1 a.2.2)
theorem ZqQ:Za prog 357 ZOU:=
 pureQ 127 [] [] _ _ trivial Tryz.func357 Tryz.call357 trivial
abbrev Z3t:List Sh:=[So R.bool]
abbrev Z3u:Rs:=Rs.one (So Kc)
def Z8l (b:Bool):RT (Int):=
 .br (b) (.Lf (1)) (.Lf (0))
def pOne (b:Bool):Int:=(Z8l b).val
def Z51:En:=Zg Z3t Z3u (λ_=>none) (λa=>pOne a)
theorem ZVv:Za prog 384 Z51:=
 pureQ 7 [] [] _ _ trivial Tryz.func384 Tryz.call384 trivial
abbrev ZBC:List Sh:=[So Kc]
def Znf (n:Int):RT (Bool):=
 .Lf (decide (n< -128)||decide (n>127))
def Zp5 (n:Int):Bool:=(Znf n).val
def Zxg:En:=Zg ZBC Zqd (λ_=>none) (λa=>Zp5 a)
theorem ZtW:Za prog 385 Zxg:=
 pureQ 7 [] [] _ _ trivial Tryz.func385 Tryz.call385 trivial
abbrev Z3o:List Sh:=[So Ka,So Ka,So R.bool]
abbrev Z3p:Rs:=Rs.tup [So Ka,So R.bool,So R.bool,So R.bool]
def Z5L (a:Int) (b:Int) (c:Bool):RT (QT21):=
 let x1:=i64.wrap (i64.wrap (i64.wrap a+i64.wrap b)+pOne c)
 .Lf ((u8.wrap x1,decide (x1>255),decide (i64.wrap (i64.wrap (i64.wrap (andI u8 a 15)+i64.wrap (andI u8 b 15))+pOne c)>15),Zp5 (i64.wrap (i64.wrap (i64.wrap (IntKind.i8.wrap a)+i64.wrap (IntKind.i8.wrap b))+pOne c))))
def pSum (a:Int) (b:Int) (c:Bool):QT21:=(Z5L a b c).val
def Z0u:En:=Zg Z3o Z3p (λ_=>none) (λa=>pSum a.1 a.2.1 a.2.2)
theorem ZGa:Za prog 350 Z0u:=
 pureQ 4095 [(384,Z51),(385,Zxg)] [] _ _ ⟨ZVv,ZtW,Tv⟩ Tryz.func350 Tryz.call350 trivial
def ZWh (a:Int) (b:Int) (c:Bool):RT (QT21):=
 let x1:=i64.wrap (i64.wrap (i64.wrap a-i64.wrap b)-pOne c)
 .Lf ((u8.wrap x1,decide (x1<0),decide (i64.wrap (i64.wrap (i64.wrap (i64.wrap (i64.wrap (andI u8 a 15)+15)-i64.wrap (andI u8 b 15))+1)-pOne c)>15),Zp5 (i64.wrap (i64.wrap (i64.wrap (IntKind.i8.wrap a)-i64.wrap (IntKind.i8.wrap b))-pOne c))))
def ZiY (a:Int) (b:Int) (c:Bool):QT21:=(ZWh a b c).val
def ZLv:En:=Zg Z3o Z3p (λ_=>none) (λa=>ZiY a.1 a.2.1 a.2.2)
theorem Zyu:Za prog 352 ZLv:=
 pureQ 4095 [(384,Z51),(385,Zxg)] [] _ _ ⟨ZVv,ZtW,Tv⟩ Tryz.func352 Tryz.call352 trivial
abbrev ZHc:List Sh:=[So Ka,So Ka]
abbrev ZHd:Rs:=Rs.one (So Kb)
def Z3A (h:Int) (l:Int):RT (Int):=
 .Lf (orI u16 (shlI u16 (u16.wrap h) 8) (u16.wrap l))
def ZVP (h:Int) (l:Int):Int:=(Z3A h l).val
def ZLi:En:=Zg ZHc ZHd (λ_=>none) (λa=>ZVP a.1 a.2)
theorem Znj:Za prog 220 ZLi:=
 pureQ 31 [] [] _ _ trivial Tryz.func220 Tryz.call220 trivial
abbrev Z3E:List Sh:=[So R.bool,So Kc]
abbrev ZWw:Rs:=Rs.one (So Ka)
def Z02 (b:Bool) (n:Int):RT (Option (Int)):=
 .br (!b||decide (0<=n)) (.br (b) (Ls (shlI u8 1 n)) (Ls (0))) Ln
def pBit (b:Bool) (n:Int):Int:=getO ZWw.Df (Z02 b n).val
def Zfp (b:Bool) (n:Int):Bool:=okB (Z02 b n).val
def Z8s:En:=Zg Z3E ZWw (λa=>some (Zfp a.1 a.2)) (λa=>pBit a.1 a.2)
theorem Z6v:Za prog 386 Z8s:=
 pureP 31 [] [] _ _ trivial Tryz.func386 Tryz.call386 trivial
abbrev ZVs:List Sh:=[So Kc,Sh.agg rcF7]
def ZBL (chip:Int) (f:TF):RT (Option (Int)):=
 let x1:=orI u8 (orI u8 (orI u8 (orI u8 (pBit f.1 7) (pBit f.2.1 6)) (pBit f.2.2.2.1 4)) (pBit f.2.2.2.2.1 2)) (pBit f.2.2.2.2.2.2 0)
 .br (!Zfp f.1 7||(!Zfp f.2.1 6||(!Zfp f.2.2.2.1 4||(!Zfp f.2.2.2.2.1 2||Zfp f.2.2.2.2.2.2 0)))) (.br (!Zfp f.1 7||(!Zfp f.2.1 6||(!Zfp f.2.2.2.1 4||Zfp f.2.2.2.2.1 2))) (.br (!Zfp f.1 7||(!Zfp f.2.1 6||Zfp f.2.2.2.1 4)) (.br (!Zfp f.1 7||Zfp f.2.1 6) (.br (Zfp f.1 7) (.br (!chip==2||(!Zfp f.2.2.1 5||Zfp f.2.2.2.2.2.1 1)) (.br (!chip==2||Zfp f.2.2.1 5) (.br (chip==2) (Ls (orI u8 (orI u8 x1 (pBit f.2.2.1 5)) (pBit f.2.2.2.2.2.1 1))) (Ls (orI u8 x1 2))) Ln) Ln) Ln) Ln) Ln) Ln) Ln
def Z0I (chip:Int) (f:TF):Int:=getO ZWw.Df (ZBL chip f).val
def ZLa (chip:Int) (f:TF):Bool:=okB (ZBL chip f).val
def Z3s:En:=Zg ZVs ZWw (λa=>some (ZLa a.1 a.2)) (λa=>Z0I a.1 a.2)
theorem Z0H:Za prog 354 Z3s:=
 pureP 63 [(386,Z8s)] [] _ _ ⟨Z6v,Tv⟩ Tryz.func354 Tryz.call354 trivial
abbrev ZBA:List Sh:=[So Kc,So Ka]
abbrev ZBB:Rs:=Rs.one (Sh.agg rcF7)
def Zxd (chip:Int) (b:Int):RT TF:=
 .Lf ((andI u8 b 128 !=0,andI u8 b 64 !=0,chip==2&&andI u8 b 32 !=0,andI u8 b 16 !=0,andI u8 b 4 !=0,chip==2&&andI u8 b 2 !=0,andI u8 b 1 !=0))
def Zxe (chip:Int) (b:Int):TF:=(Zxd chip b).val
def ZK0:En:=Zg ZBA ZBB (λ_=>none) (λa=>Zxe a.1 a.2)
theorem ZOG:Za prog 363 ZK0:=
 pureQ 63 [] [] _ _ trivial Tryz.func363 Tryz.call363 trivial
def pOfT (r:Int):RT (Option TF):=
 .br (Zni r) (Ls ((decide (r>=128),r==0,false,false,Zxu r,false,false))) Ln
def pOf (r:Int):TF:=getO ZBB.Df (pOfT r).val
def pOfC (r:Int):Bool:=okB (pOfT r).val
def pOfE:En:=Zg ZBK ZBB (λa=>some (pOfC a)) (λa=>pOf a)
theorem ZBM:Za prog 356 pOfE:=
 pureP 7 [(387,ZK9)] [] _ _ ⟨ZOK,Tv⟩ Tryz.func356 Tryz.call356 trivial
def ZrJ:En:=.tree (Zt (envX prog [] [] 141872468127 8) Tryz.f349)
theorem ZrI:Za prog 349 ZrJ:=ZL trivial Tryz.func349 rfl (by kernel_rfl) Tryz.call349 trivial
abbrev ZV0:List Sh:=[Sh.agg Zfn,So Kc]
def Z6c (r:TR) (n:Int):RT (Int):=
 .br (andI i64 n 7==0) (.Lf r.2.1) (.br (andI i64 n 7==1) (.Lf r.2.2.1) (.br (andI i64 n 7==2) (.Lf r.2.2.2.1) (.br (andI i64 n 7==3) (.Lf r.2.2.2.2.1) (.br (andI i64 n 7==4) (.Lf r.2.2.2.2.2.1) (.br (andI i64 n 7==5) (.Lf r.2.2.2.2.2.2.1) (.br (andI i64 n 7==7) (.Lf r.1) (.Lf (0))))))))
def pGet (r:TR) (n:Int):Int:=(Z6c r n).val
def Z8p:En:=Zg ZV0 ZWw (λ_=>none) (λa=>pGet a.1 a.2)
theorem ZVZ:Za prog 281 Z8p:=
 pureQ 63 [(349,ZrJ)] [] _ _ ⟨ZrI,Tv⟩ Tryz.func281 Tryz.call281 trivial
abbrev ZU3:List Sh:=[Sh.agg Zfn,So Kc,So Ka]
abbrev ZU4:Rs:=Rs.one (Sh.agg Zfn)
def Z5O (r:TR) (n:Int) (v:Int):RT TR:=
 .br (andI i64 n 7==0) (.Lf ((r.1,v,r.2.2))) (.br (andI i64 n 7==1) (.Lf ((r.1,r.2.1,v,r.2.2.2))) (.br (andI i64 n 7==2) (.Lf ((r.1,r.2.1,r.2.2.1,v,r.2.2.2.2))) (.br (andI i64 n 7==3) (.Lf ((r.1,r.2.1,r.2.2.1,r.2.2.2.1,v,r.2.2.2.2.2))) (.br (andI i64 n 7==4) (.Lf ((r.1,r.2.1,r.2.2.1,r.2.2.2.1,r.2.2.2.2.1,v,r.2.2.2.2.2.2))) (.br (andI i64 n 7==5) (.Lf ((r.1,r.2.1,r.2.2.1,r.2.2.2.1,r.2.2.2.2.1,r.2.2.2.2.2.1,v,r.2.2.2.2.2.2.2))) (.br (andI i64 n 7==7) (.Lf ((v,r.2))) (.Lf (r))))))))
def pSet (r:TR) (n:Int) (v:Int):TR:=(Z5O r n v).val
def Z8h:En:=Zg ZU3 ZU4 (λ_=>none) (λa=>pSet a.1 a.2.1 a.2.2)
theorem ZU2:Za prog 290 Z8h:=
 pureQ 255 [(349,ZrJ)] [] _ _ ⟨ZrI,Tv⟩ Tryz.func290 Tryz.call290 trivial
def ZVp (r:TR) (n:Int):RT (Int):=
 .br (andI i64 n 3==3) (.Lf r.2.2.2.2.2.2.2.2.1) (.Lf (ZVP (pGet r (i64.wrap (2*andI i64 n 3))) (pGet r (i64.wrap (i64.wrap (2*andI i64 n 3)+1)))))
def Z5Y (r:TR) (n:Int):Int:=(ZVp r n).val
def Z8k:En:=Zg ZV0 ZHd (λ_=>none) (λa=>Z5Y a.1 a.2)
theorem Z0G:Za prog 280 Z8k:=
 pureQ 31 [(220,ZLi),(281,Z8p)] [] _ _ ⟨Znj,ZVZ,Tv⟩ Tryz.func280 Tryz.call280 trivial
abbrev Zlk:List Sh:=[Sh.agg Zfn,So Kc,So Kb]
def Zp6 (r:TR) (n:Int) (v:Int):RT TR:=
 .br (andI i64 n 3==3) (.Lf ((r.1,r.2.1,r.2.2.1,r.2.2.2.1,r.2.2.2.2.1,r.2.2.2.2.2.1,r.2.2.2.2.2.2.1,r.2.2.2.2.2.2.2.1,v,r.2.2.2.2.2.2.2.2.2))) (.Lf (pSet (pSet r (i64.wrap (2*andI i64 n 3)) (u8.wrap (shrI u16 v 8))) (i64.wrap (i64.wrap (2*andI i64 n 3)+1)) (u8.wrap v)))
def Zxh (r:TR) (n:Int) (v:Int):TR:=(Zp6 r n v).val
def ZU5:En:=Zg Zlk ZU4 (λ_=>none) (λa=>Zxh a.1 a.2.1 a.2.2)
theorem ZGd:Za prog 291 ZU5:=
 pureQ 127 [(290,Z8h)] [] _ _ ⟨ZU2,Tv⟩ Tryz.func291 Tryz.call291 trivial
abbrev ZVt:List Sh:=[So Kc,Sh.agg Zfn]
def Z0J (chip:Int) (r:TR):RT (Option (Int)):=
 .br (ZLa chip r.2.2.2.2.2.2.2.1) (Ls (ZVP r.1 (Z0I chip r.2.2.2.2.2.2.2.1))) Ln
def pPSW (chip:Int) (r:TR):Int:=getO ZHd.Df (Z0J chip r).val
def Z50 (chip:Int) (r:TR):Bool:=okB (Z0J chip r).val
def pPSWE:En:=Zg ZVt ZHd (λa=>some (Z50 a.1 a.2)) (λa=>pPSW a.1 a.2)
theorem Z5Z:Za prog 288 pPSWE:=
 pureP 31 [(220,ZLi),(354,Z3s)] [] _ _ ⟨Znj,Z0H,Tv⟩ Tryz.func288 Tryz.call288 trivial
abbrev Zp7:List Sh:=[So Kc,Sh.agg Zfn,So Kb]
def Zxi (chip:Int) (r:TR) (v:Int):RT TR:=
 .Lf ((u8.wrap (shrI u16 v 8),r.2.1,r.2.2.1,r.2.2.2.1,r.2.2.2.2.1,r.2.2.2.2.2.1,r.2.2.2.2.2.2.1,Zxe chip (u8.wrap v),r.2.2.2.2.2.2.2.2))
def ZGf (chip:Int) (r:TR) (v:Int):TR:=(Zxi chip r v).val
def Z0x:En:=Zg Zp7 ZU4 (λ_=>none) (λa=>ZGf a.1 a.2.1 a.2.2)
theorem ZOI:Za prog 299 Z0x:=
 pureQ 127 [(363,ZK0)] [] _ _ ⟨ZOG,Tv⟩ Tryz.func299 Tryz.call299 trivial
abbrev ZLd:List Sh:=[So Kc,So Kc,So Ka,So Ka]
abbrev ZxG:Rs:=Rs.tup [So Ka,Sh.agg rcF7]
def ZqR (chip:Int) (op:Int) (a:Int) (b:Int):RT (Option (QT3)):=
 let x1:Int:=bif op==4 then andI u8 a b else bif op==5 then xorI u8 a b else bif op==6 then orI u8 a b else 0
 let x2:=pOf x1
 let x3:=x2.2
 let x4:=x3.2
 .br (pOfC x1) (Ls ((x1,x2.1,x3.1,bif chip==2 then pMaj (decide (a>=128)) (decide (b>=128)) (decide (x1>=128)) else x4.1,op==4&&(chip==2||andI u8 (orI u8 a b) 8 !=0),x4.2.2))) Ln
def ZLe (chip:Int) (op:Int) (a:Int) (b:Int):QT3:=getO ZxG.Df (ZqR chip op a b).val
def ZxH (chip:Int) (op:Int) (a:Int) (b:Int):Bool:=okB (ZqR chip op a b).val
def ZVI:En:=Zg ZLd ZxG (λa=>some (ZxH a.1 a.2.1 a.2.2.1 a.2.2.2)) (λa=>ZLe a.1 a.2.1 a.2.2.1 a.2.2.2)
theorem ZVH:Za prog 355 ZVI:=
 pureP 8858394623 [(356,pOfE),(357,ZOU)] [] _ _ ⟨ZBM,ZqQ,Tv⟩ Tryz.func355 Tryz.call355 trivial
abbrev Z6j:List Sh:=[So Kc,So Kc,So Ka,So Ka,Sh.agg rcF7]
def pDoT (chip:Int) (op:Int) (a:Int) (b:Int) (f:TF):RT (Option (QT3)):=
 let x1:=decide (andI i64 op 7>=4)&&decide (andI i64 op 7<=6)
 let x2:=f.2.2.2.2.2.2&&(andI i64 op 7==1||andI i64 op 7==3)
 let x3:=ZiY a b x2
 let x4:=x3.1
 let x5:=pOf x4
 let x6:=x5.2
 let x7:=x6.2
 let x8:=x3.2
 let x9:=x8.2
 let x10:=x7.2.2
 let x11:TF:=(x5.1,x6.1,bif chip==2 then pMaj (decide (a>=128)) (decide (b<128)) (decide (x4>=128)) else x7.1,x9.1,x10.1,bif chip==2 then x9.2 else x10.2.1,x8.1)
 let x12:=pSum a b x2
 let x13:=x12.1
 let x14:=pOf x13
 let x15:=x14.2
 let x16:=x15.2
 let x17:=x12.2
 let x18:=x17.2
 let x19:=x16.2.2
 let x20:TF:=(x14.1,x15.1,bif chip==2 then pMaj (decide (a>=128)) (decide (b>=128)) (decide (x13>=128)) else x16.1,x18.1,x19.1,bif chip==2 then x18.2 else x19.2.1,x17.1)
 .br (!x1||ZxH chip (andI i64 op 7) a b) (.br (x1) (Ls (ZLe chip (andI i64 op 7) a b)) (.br (andI i64 op 7 !=0&&andI i64 op 7 !=1) (.br (pOfC x4) (.br (andI i64 op 7==7) (Ls ((a,x11))) (Ls ((x4,x11)))) Ln) (.br (pOfC x13) (.br (andI i64 op 7==7) (Ls ((a,x20))) (Ls ((x13,x20)))) Ln))) Ln
def pDo (chip:Int) (op:Int) (a:Int) (b:Int) (f:TF):QT3:=getO ZxG.Df (pDoT chip op a b f).val
def pDoC (chip:Int) (op:Int) (a:Int) (b:Int) (f:TF):Bool:=okB (pDoT chip op a b f).val
def pDoE:En:=Zg Z6j ZxG (λa=>some (pDoC a.1 a.2.1 a.2.2.1 a.2.2.2.1 a.2.2.2.2)) (λa=>pDo a.1 a.2.1 a.2.2.1 a.2.2.2.1 a.2.2.2.2)
theorem Z8r:Za prog 292 pDoE:=
 pureP 1048575 [(350,Z0u),(352,ZLv),(355,ZVI),(356,pOfE),(357,ZOU)] [] _ _ ⟨ZGa,Zyu,ZVH,ZBM,ZqQ,Tv⟩ Tryz.func292 Tryz.call292 trivial
abbrev ZBI:List Sh:=[So Kc,So Ka,So Ka,So R.bool,So R.bool,So R.bool,Sh.agg rcF7]
def Zng (chip:Int) (v:Int) (r:Int) (half:Bool) (over:Bool) (x:Bool) (f:TF):RT (Option TF):=
 .br (pOfC r) (Ls (((pOf r).1,(pOf r).2.1,bif chip==2 then pMaj (decide (v>=128)) x (decide (r>=128)) else (pOf r).2.2.1,half,(pOf r).2.2.2.2.1,bif chip==2 then over else (pOf r).2.2.2.2.2.1,f.2.2.2.2.2.2))) Ln
def Zqb (chip:Int) (v:Int) (r:Int) (half:Bool) (over:Bool) (x:Bool) (f:TF):TF:=getO ZBB.Df (Zng chip v r half over x f).val
def Zj3 (chip:Int) (v:Int) (r:Int) (half:Bool) (over:Bool) (x:Bool) (f:TF):Bool:=okB (Zng chip v r half over x f).val
def Zxk:En:=Zg ZBI ZBB (λa=>some (Zj3 a.1 a.2.1 a.2.2.1 a.2.2.2.1 a.2.2.2.2.1 a.2.2.2.2.2.1 a.2.2.2.2.2.2)) (λa=>Zqb a.1 a.2.1 a.2.2.1 a.2.2.2.1 a.2.2.2.2.1 a.2.2.2.2.2.1 a.2.2.2.2.2.2)
theorem ZtX:Za prog 351 Zxk:=
 pureP 65535 [(356,pOfE),(357,ZOU)] [] _ _ ⟨ZBM,ZqQ,Tv⟩ Tryz.func351 Tryz.call351 trivial
abbrev ZVT:List Sh:=[So Kc,So Ka,Sh.agg rcF7]
def Z0Q (chip:Int) (v:Int) (f:TF):RT (Option (QT3)):=
 .br (Zj3 chip v (pSum v 1 false).1 (pSum v 1 false).2.2.1 (pSum v 1 false).2.2.2 false f) (Ls (((pSum v 1 false).1,Zqb chip v (pSum v 1 false).1 (pSum v 1 false).2.2.1 (pSum v 1 false).2.2.2 false f))) Ln
def pInr (chip:Int) (v:Int) (f:TF):QT3:=getO ZxG.Df (Z0Q chip v f).val
def Z6a (chip:Int) (v:Int) (f:TF):Bool:=okB (Z0Q chip v f).val
def pInrE:En:=Zg ZVT ZxG (λa=>some (Z6a a.1 a.2.1 a.2.2)) (λa=>pInr a.1 a.2.1 a.2.2)
theorem Z59:Za prog 282 pInrE:=
 pureP 4095 [(350,Z0u),(351,Zxk)] [] _ _ ⟨ZGa,ZtX,Tv⟩ Tryz.func282 Tryz.call282 trivial
def Z0Y (chip:Int) (v:Int) (f:TF):RT (Option (QT3)):=
 .br (Zj3 chip v (ZiY v 1 false).1 (ZiY v 1 false).2.2.1 (ZiY v 1 false).2.2.2 true f) (Ls (((ZiY v 1 false).1,Zqb chip v (ZiY v 1 false).1 (ZiY v 1 false).2.2.1 (ZiY v 1 false).2.2.2 true f))) Ln
def pDcr (chip:Int) (v:Int) (f:TF):QT3:=getO ZxG.Df (Z0Y chip v f).val
def Z6p (chip:Int) (v:Int) (f:TF):Bool:=okB (Z0Y chip v f).val
def pDcrE:En:=Zg ZVT ZxG (λa=>some (Z6p a.1 a.2.1 a.2.2)) (λa=>pDcr a.1 a.2.1 a.2.2)
theorem Z6o:Za prog 283 pDcrE:=
 pureP 4095 [(351,Zxk),(352,ZLv)] [] _ _ ⟨ZtX,Zyu,Tv⟩ Tryz.func283 Tryz.call283 trivial
abbrev ZVQ:List Sh:=[So Kc,So Kb,Sh.agg rcF7]
abbrev ZVR:Rs:=Rs.tup [So Kb,Sh.agg rcF7]
def Z58 (chip:Int) (v:Int) (f:TF):RT (QT3):=
 .Lf ((u16.wrap (v+1),f.1,f.2.1,bif chip==2 then v==65535 else f.2.2.1,f.2.2.2))
def pInx (chip:Int) (v:Int) (f:TF):QT3:=(Z58 chip v f).val
def pInxE:En:=Zg ZVQ ZVR (λ_=>none) (λa=>pInx a.1 a.2.1 a.2.2)
theorem Z57:Za prog 294 pInxE:=
 pureQ 255 [] [] _ _ trivial Tryz.func294 Tryz.call294 trivial
def Z6n (chip:Int) (v:Int) (f:TF):RT (QT3):=
 .Lf ((u16.wrap (v-1),f.1,f.2.1,bif chip==2 then v==0 else f.2.2.1,f.2.2.2))
def pDcx (chip:Int) (v:Int) (f:TF):QT3:=(Z6n chip v f).val
def pDcxE:En:=Zg ZVQ ZVR (λ_=>none) (λa=>pDcx a.1 a.2.1 a.2.2)
theorem Z6m:Za prog 295 pDcxE:=
 pureQ 255 [] [] _ _ trivial Tryz.func295 Tryz.call295 trivial
abbrev ZWn:List Sh:=[So Kc,So Kb,So Kb,Sh.agg rcF7]
def Z6r (chip:Int) (a:Int) (b:Int) (f:TF):RT (QT3):=
 .Lf ((u16.wrap (a+b),f.1,f.2.1,f.2.2.1,f.2.2.2.1,f.2.2.2.2.1,bif chip==2 then andI u16 (andI u16 (xorI u16 a (u16.wrap (a+b))) (xorI u16 b (u16.wrap (a+b)))) 32768 !=0 else f.2.2.2.2.2.1,decide (u16.wrap (a+b)<a)))
def pDad (chip:Int) (a:Int) (b:Int) (f:TF):QT3:=(Z6r chip a b f).val
def pDadE:En:=Zg ZWn ZVR (λ_=>none) (λa=>pDad a.1 a.2.1 a.2.2.1 a.2.2.2)
theorem Z6q:Za prog 296 pDadE:=
 pureQ 2047 [] [] _ _ trivial Tryz.func296 Tryz.call296 trivial
abbrev ZHr:List Sh:=[So Kb,So Kb]
def ZLu (a:Int) (b:Int):RT (Option (QT3)):=
 let x1:=ZiY (u8.wrap (shrI u16 a 8)) (u8.wrap (shrI u16 b 8)) (ZiY (u8.wrap a) (u8.wrap b) false).2.1
 let x2:=x1.1
 let x3:=pOf x2
 let x4:=x1.2
 let x5:=x4.2
 .br (pOfC x2) (Ls ((ZVP x2 (ZiY (u8.wrap a) (u8.wrap b) false).1,x3.1,x2==0&&(ZiY (u8.wrap a) (u8.wrap b) false).1==0,pMaj (decide (a>=32768)) (decide (b<32768)) (decide (x2>=128)),x5.1,x3.2.2.2.2.1,x5.2,x4.1))) Ln
def Z6i (a:Int) (b:Int):QT3:=getO ZVR.Df (ZLu a b).val
def ZWe (a:Int) (b:Int):Bool:=okB (ZLu a b).val
def Z8q:En:=Zg ZHr ZVR (λa=>some (ZWe a.1 a.2)) (λa=>Z6i a.1 a.2)
theorem Z0U:Za prog 301 Z8q:=
 pureP 32767 [(220,ZLi),(352,ZLv),(356,pOfE),(357,ZOU)] [] _ _ ⟨Znj,Zyu,ZBM,ZqQ,Tv⟩ Tryz.func301 Tryz.call301 trivial
def Z00 (chip:Int) (a:Int) (f:TF):RT (Option (QT3)):=
 let x1:Int:=bif f.2.2.2.1||decide (andI u8 a 15>9) then 6 else 0
 let x2:=pSum a (bif f.2.2.2.2.2.2||decide (a>153) then u8.wrap (x1+96) else x1) false
 let x3:=x2.1
 let x4:=pOf x3
 let x5:=x4.2
 let x6:=x5.2
 let x7:=x2.2.2
 let x8:=x6.2.2
 .br (pOfC x3) (Ls ((x3,x4.1,x5.1,bif chip==2 then pMaj (decide (a>=128)) false (decide (x3>=128)) else x6.1,x7.1,x8.1,bif chip==2 then x7.2 else x8.2.1,f.2.2.2.2.2.2||decide (a>153)))) Ln
def pDaa (chip:Int) (a:Int) (f:TF):QT3:=getO ZxG.Df (Z00 chip a f).val
def Z6t (chip:Int) (a:Int) (f:TF):Bool:=okB (Z00 chip a f).val
def pDaaE:En:=Zg ZVT ZxG (λa=>some (Z6t a.1 a.2.1 a.2.2)) (λa=>pDaa a.1 a.2.1 a.2.2)
theorem Z6s:Za prog 297 pDaaE:=
 pureP 32767 [(350,Z0u),(356,pOfE),(357,ZOU)] [] _ _ ⟨ZGa,ZBM,ZqQ,Tv⟩ Tryz.func297 Tryz.call297 trivial
def Z8o (c:Bool):RT (Int):=
 .br (c) (.Lf (1)) (.Lf (0))
def pLow (c:Bool):Int:=(Z8o c).val
def ZOV:En:=Zg Z3t ZWw (λ_=>none) (λa=>pLow a)
theorem ZG8:Za prog 361 ZOV:=
 pureQ 7 [] [] _ _ trivial Tryz.func361 Tryz.call361 trivial
def ZhB:En:=.tree (Zt (envX prog [] [] 7 8) Tryz.f358)
theorem ZlI:Za prog 358 ZhB:=ZL trivial Tryz.func358 rfl (by kernel_rfl) Tryz.call358 trivial
def ZhA:En:=.tree (Zt (envX prog [] [] 7 8) Tryz.f359)
theorem ZlH:Za prog 359 ZhA:=ZL trivial Tryz.func359 rfl (by kernel_rfl) Tryz.call359 trivial
def Zhz:En:=.tree (Zt (envX prog [(361,ZOV)] [] 15 8) Tryz.f360)
theorem ZlG:Za prog 360 Zhz:=ZL ⟨ZG8,Tv⟩ Tryz.func360 rfl (by kernel_rfl) Tryz.call360 trivial
def Zhy:En:=.tree (Zt (envX prog [(361,ZOV)] [] 15 8) Tryz.f362)
theorem ZlF:Za prog 362 Zhy:=ZL ⟨ZG8,Tv⟩ Tryz.func362 rfl (by kernel_rfl) Tryz.call362 trivial
abbrev ZU8:List Sh:=[So Kc,So Ka,So R.bool]
abbrev ZK7:Rs:=Rs.tup [So Ka,So R.bool]
def Z0z (op:Int) (a:Int) (c:Bool):RT (Option (Int×Bool)):=
 .br (andI i64 op 3==0||(andI i64 op 3== ↑(0+1)||(andI i64 op 3== ↑(0+1+1)||andI i64 op 3== ↑(0+1+1+1)))) (Ls ((bif andI i64 op 3==0 then orI u8 (shlI u8 a 1) (shrI u8 a 7) else bif andI i64 op 3== ↑(0+1) then orI u8 (shrI u8 a 1) (shlI u8 a 7) else bif andI i64 op 3== ↑(0+1+1) then orI u8 (shlI u8 a 1) (pLow c) else orI u8 (shrI u8 a 1) (shlI u8 (pLow c) 7),bif andI i64 op 3==0 then decide (a>=128) else bif andI i64 op 3== ↑(0+1) then andI u8 a 1==1 else bif andI i64 op 3== ↑(0+1+1) then decide (a>=128) else andI u8 a 1==1))) Ln
def pRot (op:Int) (a:Int) (c:Bool):Int×Bool:=getO ZK7.Df (Z0z op a c).val
def Z5Q (op:Int) (a:Int) (c:Bool):Bool:=okB (Z0z op a c).val
def pRotE:En:=Zg ZU8 ZK7 (λa=>some (Z5Q a.1 a.2.1 a.2.2)) (λa=>pRot a.1 a.2.1 a.2.2)
theorem Z5P:Za prog 298 pRotE:=
 pureP 511 [(358,ZhB),(359,ZhA),(360,Zhz),(362,Zhy)] [] _ _ ⟨ZlI,ZlH,ZlG,ZlF,Tv⟩ Tryz.func298 Tryz.call298 trivial
abbrev ZHu:List Sh:=[So Kb]
abbrev ZHv:Rs:=Rs.tup [So Kb,So R.bool]
def Z3F (v:Int):RT (Int×Bool):=
 .Lf ((orI u16 (shrI u16 v 1) (andI u16 v 32768),andI u16 v 1==1))
def Z8u (v:Int):Int×Bool:=(Z3F v).val
def Z8t:En:=Zg ZHu ZHv (λ_=>none) (λa=>Z8u a)
theorem Z03:Za prog 302 Z8t:=
 pureQ 15 [] [] _ _ trivial Tryz.func302 Tryz.call302 trivial
abbrev ZGk:List Sh:=[So Kb,So R.bool]
abbrev ZGl:Rs:=Rs.tup [So Kb,So R.bool,So R.bool]
def ZVi (v:Int) (c:Bool):RT (Int×Bool×Bool):=
 .Lf ((orI u16 (shlI u16 v 1) (u16.wrap (pLow c)),decide (v>=32768),andI u16 (xorI u16 (orI u16 (shlI u16 v 1) (u16.wrap (pLow c))) v) 32768 !=0))
def Z5W (v:Int) (c:Bool):Int×Bool×Bool:=(ZVi v c).val
def Z8i:En:=Zg ZGk ZGl (λ_=>none) (λa=>Z5W a.1 a.2)
theorem Z0D:Za prog 303 Z8i:=
 pureQ 127 [(361,ZOV)] [] _ _ ⟨ZG8,Tv⟩ Tryz.func303 Tryz.call303 trivial
def ZK6 (b:Bool) (n:Int):RT (Option (Int)):=
 .br (!b||decide (0<=n)) (.br (b) (Ls (shlI u8 1 n)) (Ls (0))) Ln
def ZBH (b:Bool) (n:Int):Int:=getO ZWw.Df (ZK6 b n).val
def Zds (b:Bool) (n:Int):Bool:=okB (ZK6 b n).val
def Z3q:En:=Zg Z3E ZWw (λa=>some (Zds a.1 a.2)) (λa=>ZBH a.1 a.2)
theorem Z0y:Za prog 300 Z3q:=
 pureP 31 [] [] _ _ trivial Tryz.func300 Tryz.call300 trivial
abbrev ZVa:List Sh:=[Sh.agg Zq,Sh.agg (R.Pq R.bool (R.Pq R.bool rcF7))]
abbrev ZK8:Rs:=Rs.tup [So Ka,Sh.agg Zq]
def Z0B (c:TC) (l:QT0):RT (Option (Int×TC)):=
 let x1:=bif c.2.2.2.2.2.2.2.2.2.2.1 then c.2.2.2.2.2.2.2.2.2.2.2.1 else c.2.2.1
 .br (!Zds l.2.2.2.1 7||(!Zds c.2.2.2.2.2.2.2.1 6||(!Zds l.2.2.2.2.2.2.1 5||(!Zds l.2.2.2.2.2.2.2.1 4||Zds x1 3)))) (.br (!Zds l.2.2.2.1 7||(!Zds c.2.2.2.2.2.2.2.1 6||(!Zds l.2.2.2.2.2.2.1 5||Zds l.2.2.2.2.2.2.2.1 4))) (.br (!Zds l.2.2.2.1 7||(!Zds c.2.2.2.2.2.2.2.1 6||Zds l.2.2.2.2.2.2.1 5)) (.br (!Zds l.2.2.2.1 7||Zds c.2.2.2.2.2.2.2.1 6) (.br (Zds l.2.2.2.1 7) (Ls ((orI u8 (orI u8 (orI u8 (orI u8 (orI u8 (ZBH l.2.2.2.1 7) (ZBH c.2.2.2.2.2.2.2.1 6)) (ZBH l.2.2.2.2.2.2.1 5)) (ZBH l.2.2.2.2.2.2.2.1 4)) (ZBH x1 3)) (andI u8 c.2.2.2.2.2.1 7),c.1,c.2.1,c.2.2.1,c.2.2.2.1,c.2.2.2.2.1,c.2.2.2.2.2.1,c.2.2.2.2.2.2.1,c.2.2.2.2.2.2.2.1,c.2.2.2.2.2.2.2.2.1,c.2.2.2.2.2.2.2.2.2.1,false,false,c.2.2.2.2.2.2.2.2.2.2.2.2))) Ln) Ln) Ln) Ln) Ln
def pRim (c:TC) (l:QT0):Int×TC:=getO ZK8.Df (Z0B c l).val
def Z5S (c:TC) (l:QT0):Bool:=okB (Z0B c l).val
def pRimE:En:=Zg ZVa ZK8 (λa=>some (Z5S a.1 a.2)) (λa=>pRim a.1 a.2)
theorem Z5R:Za prog 231 pRimE:=
 pureP 255 [(300,Z3q)] [] _ _ ⟨Z0y,Tv⟩ Tryz.func231 Tryz.call231 trivial
abbrev ZUZ:List Sh:=[Sh.agg Zq,So Ka]
abbrev ZU0:Rs:=Rs.one (Sh.agg Zq)
def Z5N (c:TC) (a:Int):RT TC:=
 .Lf ((c.1,c.2.1,c.2.2.1,c.2.2.2.1,c.2.2.2.2.1,bif andI u8 a 8 !=0 then andI u8 a 7 else c.2.2.2.2.2.1,c.2.2.2.2.2.2.1,!andI u8 a 16 !=0&&c.2.2.2.2.2.2.2.1,c.2.2.2.2.2.2.2.2.1,c.2.2.2.2.2.2.2.2.2.1,c.2.2.2.2.2.2.2.2.2.2.1,c.2.2.2.2.2.2.2.2.2.2.2.1,bif andI u8 a 64 !=0 then andI u8 a 128 !=0 else c.2.2.2.2.2.2.2.2.2.2.2.2))
def pSim (c:TC) (a:Int):TC:=(Z5N c a).val
def pSimE:En:=Zg ZUZ ZU0 (λ_=>none) (λa=>pSim a.1 a.2)
theorem Z5M:Za prog 232 pSimE:=
 pureQ 31 [] [] _ _ trivial Tryz.func232 Tryz.call232 trivial
def ZHe (c:Int) (f:TF):RT (Bool):=
 .br (bif c==0 then c==0 else c==1) (.Lf (f.2.1==(c==1))) (.br (bif c==2 then c==2 else c==3) (.Lf (f.2.2.2.2.2.2==(c==3))) (.br (bif c==4 then c==4 else c==5) (.Lf (f.2.2.2.2.1==(c==5))) (.br (bif c==6 then c==6 else c==7) (.Lf (f.1==(c==7))) (.br (bif c==8 then c==8 else c==9) (.Lf (f.2.2.1==(c==9))) (.br (c==10) (.Lf f.2.2.2.2.2.1) (.Lf (c==11)))))))
def ZVY (c:Int) (f:TF):Bool:=(ZHe c f).val
def Z6b:En:=Zg ZVs Zqd (λ_=>none) (λa=>ZVY a.1 a.2)
theorem ZVX:Za prog 353 Z6b:=
 pureQ 70644700037215 [] [] _ _ trivial Tryz.func353 Tryz.call353 trivial
def Zxc (s:Int):RT (Int):=
 .br (s==1) (.Lf (36)) (.br (s==2) (.Lf (60)) (.br (s==3) (.Lf (52)) (.br (s==4) (.Lf (44)) (.Lf (0)))))
def ZF8 (s:Int):Int:=(Zxc s).val
def Z0s:En:=Zg ZBC ZHd (λ_=>none) (λa=>ZF8 a)
theorem ZOD:Za prog 155 Z0s:=
 pureQ 1367 [] [] _ _ trivial Tryz.func155 Tryz.call155 trivial
abbrev ZLg:Rs:=Rs.tup [Sh.agg (R.Pq Kc (R.Pq Kc (R.Pq Kc (R.Pq Kc (R.Pq Kc (R.Pq Kc (R.Pq Kc Kc))))))),So R.bool]
def ZVK (op:Int):RT (TI×Bool):=
 .br (op==8) (.Lf (((40,1,0,0,0,0,0,0),true))) (.br (op==16) (.Lf (((41,1,0,0,0,0,0,0),true))) (.br (op==24) (.Lf (((42,1,0,0,0,0,0,0),true))) (.br (op==32) (.Lf (((38,1,0,0,0,0,0,0),true))) (.br (op==40) (.Lf (((43,2,0,0,0,0,0,0),true))) (.br (op==48) (.Lf (((39,1,0,0,0,0,0,0),true))) (.br (op==56) (.Lf (((44,2,0,0,0,0,0,0),true))) (.br (op==203) (.Lf (((45,1,0,0,0,0,10,0),true))) (.br (op==217) (.Lf (((46,1,0,0,0,0,0,0),true))) (.br (op==221) (.Lf (((24,3,0,0,0,0,8,0),true))) (.br (op==237) (.Lf (((47,1,0,0,0,0,0,0),true))) (.br (op==253) (.Lf (((24,3,0,0,0,0,9,0),true))) (.Lf (((0,0,0,0,0,0,0,0),false))))))))))))))
def ZVM (op:Int):TI×Bool:=(ZVK op).val
def ZVL:En:=Zg ZBK ZLg (λ_=>none) (λa=>ZVM a)
theorem ZVJ:Za prog 223 ZVL:=
 pureQ 314146179375 [] [] _ _ trivial Tryz.func223 Tryz.call223 trivial
def ZBR (op:Int):RT (TI×Bool):=
 .br (bif op==0 then op==0 else bif op==8 then op==8 else bif op==16 then op==16 else bif op==24 then op==24 else bif op==32 then op==32 else bif op==40 then op==40 else bif op==48 then op==48 else op==56) (.Lf (((1,1,0,0,0,0,0,0),true))) (.br (bif op==195 then op==195 else op==203) (.Lf (((24,3,0,0,0,0,11,0),true))) (.br (bif op==201 then op==201 else op==217) (.Lf (((26,1,0,0,0,0,11,0),true))) (.br (bif op==205 then op==205 else bif op==221 then op==221 else bif op==237 then op==237 else op==253) (.Lf (((25,3,0,0,0,0,11,0),true))) (.Lf (((0,0,0,0,0,0,0,0),false))))))
def Zj4 (op:Int):TI×Bool:=(ZBR op).val
def ZBS:En:=Zg ZBK ZLg (λ_=>none) (λa=>Zj4 a)
theorem ZHq:Za prog 224 ZBS:=
 pureQ 8945711 [] [] _ _ trivial Tryz.func224 Tryz.call224 trivial
abbrev ZGs:Rs:=Rs.one (Sh.agg (R.Pq Kc (R.Pq Kc (R.Pq Kc (R.Pq Kc (R.Pq Kc (R.Pq Kc (R.Pq Kc Kc))))))))
def ZVx (op:Int):RT (Option TI):=
 let x1:QT31:=(0,0,i64.wrap (andI u8 (shrI u8 op 4) 3),0,0,0)
 let x2:QT24:=(1,x1)
 let x3:=decide (i64.wrap (andI u8 (shrI u8 op 3) 7)<4)&&andI u8 op 8 !=0
 let x4:=decide (0<=i64.wrap (i64.wrap (andI u8 (shrI u8 op 3) 7)-4)/\i64.wrap (i64.wrap (andI u8 (shrI u8 op 3) 7)-4)<4)
 let x5:=i64.wrap (i64.wrap (andI u8 (shrI u8 op 3) 7)-4)==0
 let x6:=i64.wrap (i64.wrap (andI u8 (shrI u8 op 3) 7)-4)== ↑(0+1)
 let x7:=i64.wrap (i64.wrap (andI u8 (shrI u8 op 3) 7)-4)== ↑(0+1+1)
 let x8:QT31:=(i64.wrap (andI u8 (shrI u8 op 3) 7),0,0,0,0,0)
 let x9:QT24:=(1,x8)
 .br (andI u8 op 7==1) (.br (andI u8 op 8 !=0) (Ls ((18,x2))) (Ls ((4,3,x1)))) (.br (!andI u8 op 7==2||(x3||(decide (i64.wrap (andI u8 (shrI u8 op 3) 7)<4)||x4))) (.br (andI u8 op 7==2) (.br (x3) (Ls ((9,x2))) (.br (decide (i64.wrap (andI u8 (shrI u8 op 3) 7)<4)) (Ls ((10,x2))) (Ls ((bif x5 then 8 else bif x6 then 7 else bif x7 then 6 else 5,3,0,0,0,0,0,0))))) (.br (andI u8 op 7==3) (.br (andI u8 op 8 !=0) (Ls ((17,x2))) (Ls ((16,x2)))) (.br (andI u8 op 7==4) (Ls ((14,x9))) (.br (andI u8 op 7==5) (Ls ((15,x9))) (.br (andI u8 op 7==6) (Ls ((3,2,x8))) (.br (decide (i64.wrap (andI u8 (shrI u8 op 3) 7)<4)) (Ls ((23,1,0,0,0,i64.wrap (andI u8 (shrI u8 op 3) 7),0,0))) (.br (x4) (Ls ((bif x5 then 19 else bif x6 then 20 else bif x7 then 21 else 22,1,0,0,0,0,0,0))) Ln))))))) Ln)
def Z52 (op:Int):QT7:=getO ZGs.Df (ZVx op).val
def ZVy (op:Int):Bool:=okB (ZVx op).val
def Z3v:En:=Zg ZBK ZGs (λa=>some (ZVy a)) (λa=>Z52 a)
theorem Z0L:Za prog 225 Z3v:=
 pureP 614758941389750335 [] [] _ _ trivial Tryz.func225 Tryz.call225 trivial
def ZGt (op:Int):RT (Option TI):=
 let x1:QT31:=(0,0,0,0,i64.wrap (andI u8 (shrI u8 op 3) 7),0)
 let x2:QT24:=(1,0,0,i64.wrap (andI u8 (shrI u8 op 4) 3),0,0,0)
 let x3:=andI u8 op 7==2||(!andI u8 op 7==3||(!decide (i64.wrap (andI u8 (shrI u8 op 3) 7)<4)||decide (0<=i64.wrap (i64.wrap (andI u8 (shrI u8 op 3) 7)-2)/\i64.wrap (i64.wrap (andI u8 (shrI u8 op 3) 7)-2)<2)))
 let x4:QT24:=(3,x1)
 .br (andI u8 op 7==0) (Ls ((26,1,x1))) (.br (andI u8 op 7==1) (.br (!andI u8 op 8 !=0) (Ls ((31,x2))) (.br (i64.wrap (andI u8 (shrI u8 op 3) 7)==5) (Ls ((28,1,0,0,0,0,0,0))) (Ls ((29,1,0,0,0,0,0,0))))) (.br (!x3||(andI u8 op 7==2||(!andI u8 op 7==3||(decide (i64.wrap (andI u8 (shrI u8 op 3) 7)<4)||decide (0<=i64.wrap (i64.wrap (andI u8 (shrI u8 op 3) 7)-4)/\i64.wrap (i64.wrap (andI u8 (shrI u8 op 3) 7)-4)<4))))) (.br (x3) (.br (andI u8 op 7==2) (Ls ((24,x4))) (.br (andI u8 op 7==3) (.br (decide (i64.wrap (andI u8 (shrI u8 op 3) 7)<4)) (Ls ((bif i64.wrap (i64.wrap (andI u8 (shrI u8 op 3) 7)-2)==0 then 34 else 33,2,0,0,0,0,0,0))) (Ls ((bif i64.wrap (i64.wrap (andI u8 (shrI u8 op 3) 7)-4)==0 then 32 else bif i64.wrap (i64.wrap (andI u8 (shrI u8 op 3) 7)-4)== ↑(0+1) then 11 else bif i64.wrap (i64.wrap (andI u8 (shrI u8 op 3) 7)-4)== ↑(0+1+1) then 36 else 35,1,0,0,0,0,0,0)))) (.br (andI u8 op 7==4) (Ls ((25,x4))) (.br (andI u8 op 7==5) (Ls ((30,x2))) (.br (andI u8 op 7==6) (Ls ((13,2,0,0,0,i64.wrap (andI u8 (shrI u8 op 3) 7),0,0))) (Ls ((27,1,0,0,0,0,0,i64.wrap (andI u8 (shrI u8 op 3) 7))))))))) Ln) Ln))
def ZVB (op:Int):QT7:=getO ZGs.Df (ZGt op).val
def ZGu (op:Int):Bool:=okB (ZGt op).val
def ZVA:En:=Zg ZBK ZGs (λa=>some (ZGu a)) (λa=>ZVB a)
theorem ZVz:Za prog 226 ZVA:=
 pureP 614741495173873727 [] [] _ _ trivial Tryz.func226 Tryz.call226 trivial
def Zgn (chip:Int) (op:Int):RT (Option TI):=
 let x1:QT7:=(37,1,0,0,0,0,0,0)
 let x2:QT7:=(2,1,i64.wrap (andI u8 (shrI u8 op 3) 7),i64.wrap (andI u8 op 7),0,0,0,0)
 let x3:QT7:=(12,1,0,i64.wrap (andI u8 op 7),0,i64.wrap (andI u8 (shrI u8 op 3) 7),0,0)
 .br (chip==2) (.br (ZVM op).2 (Ls (ZVM op).1) (.br (Zj4 op).2 (Ls (Zj4 op).1) (.br (!shrI u8 op 6==0||ZVy op) (.br (shrI u8 op 6==0) (Ls (Z52 op)) (.br (shrI u8 op 6==1) (.br (op==118) (Ls (x1)) (Ls (x2))) (.br (shrI u8 op 6==2) (Ls (x3)) (.br (ZGu op) (Ls (ZVB op)) Ln)))) Ln))) (.br (Zj4 op).2 (Ls (Zj4 op).1) (.br (!shrI u8 op 6==0||ZVy op) (.br (shrI u8 op 6==0) (Ls (Z52 op)) (.br (shrI u8 op 6==1) (.br (op==118) (Ls (x1)) (Ls (x2))) (.br (shrI u8 op 6==2) (Ls (x3)) (.br (ZGu op) (Ls (ZVB op)) Ln)))) Ln))
def ZqY (chip:Int) (op:Int):QT7:=getO ZGs.Df (Zgn chip op).val
def Znk (chip:Int) (op:Int):Bool:=okB (Zgn chip op).val
def Z0W:En:=Zg ZBA ZGs (λa=>some (Znk a.1 a.2)) (λa=>ZqY a.1 a.2)
theorem ZPD:Za prog 154 Z0W:=
 pureP 17594467746303 [(223,ZVL),(224,ZBS),(225,Z3v),(226,ZVA)] [] _ _ ⟨ZVJ,ZHq,Z0L,ZVz,Tv⟩ Tryz.func154 Tryz.call154 trivial
def rOnT (chip:Int):RT (Bool):=
 .Lf (chip==2)
def rOn (chip:Int):Bool:=(rOnT chip).val
def rOnE:En:=Zg ZBC Zqd (λ_=>none) (λa=>rOn a)
theorem ZeI:Za prog 171 rOnE:=
 pureQ 7 [] [] _ _ trivial Tryz.func171 Tryz.call171 trivial
def ZJ2 (b:Int):RT (Bool):=
 let x1:=i64.wrap (i64.wrap (i64.wrap (i64.wrap (0+1)+1)+1)+1)
 let x2:=i64.wrap (x1+1)
 let x3:=i64.wrap (x2+1)
 let x4:=bif andI u8 (shrI u8 b (i64.wrap (0+1))) 1==1 then !!andI u8 (shrI u8 b 0) 1==1 else !andI u8 (shrI u8 b 0) 1==1
 let x5:=bif andI u8 (shrI u8 b (i64.wrap (i64.wrap (0+1)+1))) 1==1 then !x4 else x4
 let x6:=bif andI u8 (shrI u8 b (i64.wrap (i64.wrap (i64.wrap (0+1)+1)+1))) 1==1 then !x5 else x5
 let x7:=bif andI u8 (shrI u8 b x1) 1==1 then !x6 else x6
 let x8:=bif andI u8 (shrI u8 b x2) 1==1 then !x7 else x7
 let x9:=bif andI u8 (shrI u8 b x3) 1==1 then !x8 else x8
 .Lf (bif andI u8 (shrI u8 b (i64.wrap (x3+1))) 1==1 then !x9 else x9)
def ZoH (b:Int):Bool:=(ZJ2 b).val
def ZvG:En:=Zg ZBK Zqd (λ_=>none) (λa=>ZoH a)
theorem Ztz:Za prog 375 ZvG:=
 ZKE (P:=prog) (n:=31) (k:=10) (l:=[]) (ol:=[]) trivial Tryz.func375 rfl (by kernel_rfl) Tryz.call375 trivial (ts:=ZBK) (rs:=Zqd) (t:=λa=>ZJ2 a) (λa=>by kernel_rfl)
def Z7Z (a:Bool) (b:Bool) (c:Bool):RT (Bool):=
 .Lf (bif a then b||bif a then c||b&&c else b&&c else bif a then c||b&&c else b&&c)
def rMaj (a:Bool) (b:Bool) (c:Bool):Bool:=(Z7Z a b c).val
def ZNC:En:=Zg Z3w Zqd (λ_=>none) (λa=>rMaj a.1 a.2.1 a.2.2)
theorem Zpm:Za prog 371 ZNC:=
 pureQ 127 [] [] _ _ trivial Tryz.func371 Tryz.call371 trivial
def Z7S (b:Bool):RT (Int):=
 .br (b) (.Lf (1)) (.Lf (0))
def rOne (b:Bool):Int:=(Z7S b).val
def ZZU:En:=Zg Z3t Z3u (λ_=>none) (λa=>rOne a)
theorem ZEy:Za prog 376 ZZU:=
 pureQ 7 [] [] _ _ trivial Tryz.func376 Tryz.call376 trivial
def ZmZ (n:Int):RT (Int):=
 .Lf (i64.wrap (IntKind.i8.wrap n))
def ZeH (n:Int):Int:=(ZmZ n).val
def Zvx:En:=Zg ZBK Z3u (λ_=>none) (λa=>ZeH a)
theorem Ztq:Za prog 389 Zvx:=
 pureQ 7 [] [] _ _ trivial Tryz.func389 Tryz.call389 trivial
def ZZD (a:Int) (b:Int) (c:Bool):RT (QT21):=
 let x1:=decide (i64.wrap (i64.wrap (ZeH a+ZeH b)+rOne c)< -128)
 let x2:=i64.wrap (i64.wrap (i64.wrap a+i64.wrap b)+rOne c)
 let x3:=u8.wrap x2
 let x4:=decide (x2>255)
 let x5:=decide (i64.wrap (i64.wrap (i64.wrap (andI u8 a 15)+i64.wrap (andI u8 b 15))+rOne c)>15)
 .Lf ((bif x1 then x3 else x3,bif x1 then x4 else x4,bif x1 then x5 else x5,x1||decide (i64.wrap (i64.wrap (ZeH a+ZeH b)+rOne c)>127)))
def rSum (a:Int) (b:Int) (c:Bool):QT21:=(ZZD a b c).val
def ZZE:En:=Zg Z3o Z3p (λ_=>none) (λa=>rSum a.1 a.2.1 a.2.2)
theorem ZEh:Za prog 367 ZZE:=
 pureQ 8191 [(376,ZZU),(389,Zvx)] [] _ _ ⟨ZEy,Ztq,Tv⟩ Tryz.func367 Tryz.call367 trivial
def ZKo (a:Int) (b:Int) (c:Bool):RT (QT21):=
 let x1:=decide (i64.wrap (i64.wrap (ZeH a-ZeH b)-rOne c)< -128)
 let x2:=i64.wrap (i64.wrap (i64.wrap a-i64.wrap b)-rOne c)
 let x3:=u8.wrap x2
 let x4:=decide (x2<0)
 let x5:=decide (i64.wrap (i64.wrap (i64.wrap (i64.wrap (andI u8 a 15)+i64.wrap (u8.wrap (15-andI u8 b 15)))+1)-rOne c)>15)
 .Lf ((bif x1 then x3 else x3,bif x1 then x4 else x4,bif x1 then x5 else x5,x1||decide (i64.wrap (i64.wrap (ZeH a-ZeH b)-rOne c)>127)))
def Zdb (a:Int) (b:Int) (c:Bool):QT21:=(ZKo a b c).val
def ZKp:En:=Zg Z3o Z3p (λ_=>none) (λa=>Zdb a.1 a.2.1 a.2.2)
theorem ZwF:Za prog 368 ZKp:=
 pureQ 8191 [(376,ZZU),(389,Zvx)] [] _ _ ⟨ZEy,Ztq,Tv⟩ Tryz.func368 Tryz.call368 trivial
def Z2T (h:Int) (l:Int):RT (Int):=
 .Lf (orI u16 (shlI u16 (u16.wrap h) 8) (u16.wrap l))
def Zdn (h:Int) (l:Int):Int:=(Z2T h l).val
def Zpq:En:=Zg ZHc ZHd (λ_=>none) (λa=>Zdn a.1 a.2)
theorem ZjJ:Za prog 325 Zpq:=
 pureQ 31 [] [] _ _ trivial Tryz.func325 Tryz.call325 trivial
def ZZ6 (b:Bool) (n:Int):RT (Option (Int)):=
 .br (!b||decide (0<=n)) (.br (b) (Ls (shlI u8 1 n)) (Ls (0))) Ln
def rBit (b:Bool) (n:Int):Int:=getO ZWw.Df (ZZ6 b n).val
def Zel (b:Bool) (n:Int):Bool:=okB (ZZ6 b n).val
def ZZ7:En:=Zg Z3E ZWw (λa=>some (Zel a.1 a.2)) (λa=>rBit a.1 a.2)
theorem ZFB:Za prog 374 ZZ7:=
 pureP 31 [] [] _ _ trivial Tryz.func374 Tryz.call374 trivial
def ZAZ (chip:Int) (f:TF):RT (Option (Int)):=
 let x1:=orI u8 (orI u8 (orI u8 (orI u8 (rBit f.1 7) (rBit f.2.1 6)) (rBit f.2.2.2.1 4)) (rBit f.2.2.2.2.1 2)) (rBit f.2.2.2.2.2.2 0)
 .br (!Zel f.1 7||(!Zel f.2.1 6||(!Zel f.2.2.2.1 4||(!Zel f.2.2.2.2.1 2||Zel f.2.2.2.2.2.2 0)))) (.br (!Zel f.1 7||(!Zel f.2.1 6||(!Zel f.2.2.2.1 4||Zel f.2.2.2.2.1 2))) (.br (!Zel f.1 7||(!Zel f.2.1 6||Zel f.2.2.2.1 4)) (.br (!Zel f.1 7||Zel f.2.1 6) (.br (Zel f.1 7) (.br (!rOn chip||(!Zel f.2.2.1 5||Zel f.2.2.2.2.2.1 1)) (.br (!rOn chip||Zel f.2.2.1 5) (.br (rOn chip) (Ls (orI u8 (orI u8 x1 (rBit f.2.2.1 5)) (rBit f.2.2.2.2.2.1 1))) (Ls (orI u8 x1 2))) Ln) Ln) Ln) Ln) Ln) Ln) Ln
def ZZS (chip:Int) (f:TF):Int:=getO ZWw.Df (ZAZ chip f).val
def ZJ3 (chip:Int) (f:TF):Bool:=okB (ZAZ chip f).val
def Z2K:En:=Zg ZVs ZWw (λa=>some (ZJ3 a.1 a.2)) (λa=>ZZS a.1 a.2)
theorem ZZR:Za prog 377 Z2K:=
 pureP 63 [(171,rOnE),(374,ZZ7)] [] _ _ ⟨ZeI,ZFB,Tv⟩ Tryz.func377 Tryz.call377 trivial
def Zvt (chip:Int) (b:Int):RT TF:=
 .Lf ((andI u8 b 128 !=0,andI u8 b 64 !=0,rOn chip&&andI u8 b 32 !=0,andI u8 b 16 !=0,andI u8 b 4 !=0,rOn chip&&andI u8 b 2 !=0,andI u8 b 1 !=0))
def Zvu (chip:Int) (b:Int):TF:=(Zvt chip b).val
def ZJC:En:=Zg ZBA ZBB (λ_=>none) (λa=>Zvu a.1 a.2)
theorem ZNf:Za prog 366 ZJC:=
 pureQ 63 [(171,rOnE)] [] _ _ ⟨ZeI,Tv⟩ Tryz.func366 Tryz.call366 trivial
def rOfT (r:Int):RT TF:=
 .Lf ((decide (r>=128),r==0,false,false,ZoH r,false,false))
def rOf (r:Int):TF:=(rOfT r).val
def rOfE:En:=Zg ZBK ZBB (λ_=>none) (λa=>rOf a)
theorem ZJ6:Za prog 369 rOfE:=
 pureQ 7 [(375,ZvG)] [] _ _ ⟨Ztz,Tv⟩ Tryz.func369 Tryz.call369 trivial
abbrev ZTf:List Sh:=[So Kc,Sh.agg rcF7,So R.bool,So R.bool]
def ZtB (chip:Int) (f:TF) (k:Bool) (v:Bool):RT TF:=
 .Lf ((f.1,f.2.1,rOn chip&&bif rOn chip then k else k,f.2.2.2.1,f.2.2.2.2.1,bif rOn chip then rOn chip&&v else rOn chip&&v,f.2.2.2.2.2.2))
def Zsm (chip:Int) (f:TF) (k:Bool) (v:Bool):TF:=(ZtB chip f k v).val
def ZA0:En:=Zg ZTf ZBB (λ_=>none) (λa=>Zsm a.1 a.2.1 a.2.2.1 a.2.2.2)
theorem Zm4:Za prog 370 ZA0:=
 pureQ 511 [(171,rOnE)] [] _ _ ⟨ZeI,Tv⟩ Tryz.func370 Tryz.call370 trivial
def ZFm (r:TR) (n:Int):RT (Option (Int)):=
 .br (decide (0<=andI i64 n 7/\andI i64 n 7<8)) (Ls (bif andI i64 n 7==0 then r.2.1 else bif andI i64 n 7== ↑(0+1) then r.2.2.1 else bif andI i64 n 7== ↑(0+1+1) then r.2.2.2.1 else bif andI i64 n 7== ↑(0+1+1+1) then r.2.2.2.2.1 else bif andI i64 n 7== ↑(0+1+1+1+1) then r.2.2.2.2.2.1 else bif andI i64 n 7== ↑(0+1+1+1+1+1) then r.2.2.2.2.2.2.1 else bif andI i64 n 7== ↑(0+1+1+1+1+1+1) then 0 else r.1)) Ln
def rGet (r:TR) (n:Int):Int:=getO ZWw.Df (ZFm r n).val
def ZFo (r:TR) (n:Int):Bool:=okB (ZFm r n).val
def Z71:En:=Zg ZV0 ZWw (λa=>some (ZFo a.1 a.2)) (λa=>rGet a.1 a.2)
theorem ZTz:Za prog 311 Z71:=
 pureP 31 [] [] _ _ trivial Tryz.func311 Tryz.call311 trivial
def Z42 (r:TR) (n:Int) (v:Int):RT TR:=
 .Lf ((bif andI i64 n 7==0 then r.1 else bif andI i64 n 7==1 then r.1 else bif andI i64 n 7==2 then r.1 else bif andI i64 n 7==3 then r.1 else bif andI i64 n 7==4 then r.1 else bif andI i64 n 7==5 then r.1 else bif andI i64 n 7==7 then v else r.1,bif andI i64 n 7==0 then v else r.2.1,bif andI i64 n 7==0 then r.2.2.1 else bif andI i64 n 7==1 then v else r.2.2.1,bif andI i64 n 7==0 then r.2.2.2.1 else bif andI i64 n 7==1 then r.2.2.2.1 else bif andI i64 n 7==2 then v else r.2.2.2.1,bif andI i64 n 7==0 then r.2.2.2.2.1 else bif andI i64 n 7==1 then r.2.2.2.2.1 else bif andI i64 n 7==2 then r.2.2.2.2.1 else bif andI i64 n 7==3 then v else r.2.2.2.2.1,bif andI i64 n 7==0 then r.2.2.2.2.2.1 else bif andI i64 n 7==1 then r.2.2.2.2.2.1 else bif andI i64 n 7==2 then r.2.2.2.2.2.1 else bif andI i64 n 7==3 then r.2.2.2.2.2.1 else bif andI i64 n 7==4 then v else r.2.2.2.2.2.1,bif andI i64 n 7==0 then r.2.2.2.2.2.2.1 else bif andI i64 n 7==1 then r.2.2.2.2.2.2.1 else bif andI i64 n 7==2 then r.2.2.2.2.2.2.1 else bif andI i64 n 7==3 then r.2.2.2.2.2.2.1 else bif andI i64 n 7==4 then r.2.2.2.2.2.2.1 else bif andI i64 n 7==5 then v else r.2.2.2.2.2.2.1,r.2.2.2.2.2.2.2))
def rSet (r:TR) (n:Int) (v:Int):TR:=(Z42 r n v).val
def ZNi:En:=Zg ZU3 ZU4 (λ_=>none) (λa=>rSet a.1 a.2.1 a.2.2)
theorem ZEj:Za prog 312 ZNi:=
 pureQ 9162596991 [] [] _ _ trivial Tryz.func312 Tryz.call312 trivial
def ZtA (r:TR) (n:Int):RT (Option (Int)):=
 .br (andI i64 n 3==3) (Ls r.2.2.2.2.2.2.2.2.1) (.br (!ZFo r (i64.wrap (2*andI i64 n 3))||ZFo r (i64.wrap (i64.wrap (2*andI i64 n 3)+1))) (.br (ZFo r (i64.wrap (2*andI i64 n 3))) (Ls (Zdn (rGet r (i64.wrap (2*andI i64 n 3))) (rGet r (i64.wrap (i64.wrap (2*andI i64 n 3)+1))))) Ln) Ln)
def Zan (r:TR) (n:Int):Int:=getO ZHd.Df (ZtA r n).val
def ZTa (r:TR) (n:Int):Bool:=okB (ZtA r n).val
def Z7R:En:=Zg ZV0 ZHd (λa=>some (ZTa a.1 a.2)) (λa=>Zan a.1 a.2)
theorem ZZQ:Za prog 244 Z7R:=
 pureP 31 [(311,Z71),(325,Zpq)] [] _ _ ⟨ZTz,ZjJ,Tv⟩ Tryz.func244 Tryz.call244 trivial
def Zhb (r:TR) (n:Int) (v:Int):RT TR:=
 .br (andI i64 n 3==3) (.Lf ((r.1,r.2.1,r.2.2.1,r.2.2.2.1,r.2.2.2.2.1,r.2.2.2.2.2.1,r.2.2.2.2.2.2.1,r.2.2.2.2.2.2.2.1,v,r.2.2.2.2.2.2.2.2.2))) (.Lf (rSet (rSet r (i64.wrap (2*andI i64 n 3)) (u8.wrap (shrI u16 v 8))) (i64.wrap (i64.wrap (2*andI i64 n 3)+1)) (u8.wrap v)))
def Zm (r:TR) (n:Int) (v:Int):TR:=(Zhb r n v).val
def Zhc:En:=Zg Zlk ZU4 (λ_=>none) (λa=>Zm a.1 a.2.1 a.2.2)
theorem Zoz:Za prog 313 Zhc:=
 pureQ 127 [(312,ZNi)] [] _ _ ⟨ZEj,Tv⟩ Tryz.func313 Tryz.call313 trivial
def ZTd (chip:Int) (r:TR):RT (Option (Int)):=
 .br (ZJ3 chip r.2.2.2.2.2.2.2.1) (Ls (Zdn r.1 (ZZS chip r.2.2.2.2.2.2.2.1))) Ln
def rPSW (chip:Int) (r:TR):Int:=getO ZHd.Df (ZTd chip r).val
def Z5a (chip:Int) (r:TR):Bool:=okB (ZTd chip r).val
def rPSWE:En:=Zg ZVt ZHd (λa=>some (Z5a a.1 a.2)) (λa=>rPSW a.1 a.2)
theorem Z49:Za prog 332 rPSWE:=
 pureP 31 [(325,Zpq),(377,Z2K)] [] _ _ ⟨ZjJ,ZZR,Tv⟩ Tryz.func332 Tryz.call332 trivial
def Zm0 (chip:Int) (r:TR) (v:Int):RT TR:=
 .Lf ((u8.wrap (shrI u16 v 8),r.2.1,r.2.2.1,r.2.2.2.1,r.2.2.2.2.1,r.2.2.2.2.2.1,r.2.2.2.2.2.2.1,Zvu chip (u8.wrap v),r.2.2.2.2.2.2.2.2))
def Zhd (chip:Int) (r:TR) (v:Int):TR:=(Zm0 chip r v).val
def Zvy:En:=Zg Zp7 ZU4 (λ_=>none) (λa=>Zhd a.1 a.2.1 a.2.2)
theorem ZNh:Za prog 314 Zvy:=
 pureQ 127 [(366,ZJC)] [] _ _ ⟨ZNf,Tv⟩ Tryz.func314 Tryz.call314 trivial
def rDoT (chip:Int) (op:Int) (a:Int) (b:Int) (f:TF):RT (QT3):=
 let x1:=bif andI i64 op 7==0 then andI i64 op 7==0 else andI i64 op 7==1
 let x2:=bif andI i64 op 7==2 then andI i64 op 7==2 else bif andI i64 op 7==3 then andI i64 op 7==3 else andI i64 op 7==7
 let x3:Int:=bif x1 then bif andI i64 op 7==1 then (rSum a b f.2.2.2.2.2.2).1 else (rSum a b false).1 else bif x2 then bif andI i64 op 7==3 then (Zdb a b f.2.2.2.2.2.2).1 else (Zdb a b false).1 else bif andI i64 op 7==4 then bif rOn chip then andI u8 a b else andI u8 a b else bif andI i64 op 7==5 then xorI u8 a b else bif andI i64 op 7==6 then orI u8 a b else 0
 let x4:=rOf x3
 let x5:=x4.2
 let x6:=x5.2
 let x7:=x6.2.2
 let x8:=Zsm chip (x4.1,x5.1,x6.1,bif x1 then bif andI i64 op 7==1 then (rSum a b f.2.2.2.2.2.2).2.2.1 else (rSum a b false).2.2.1 else bif x2 then bif andI i64 op 7==3 then (Zdb a b f.2.2.2.2.2.2).2.2.1 else (Zdb a b false).2.2.1 else andI i64 op 7==4&&(rOn chip||andI u8 (orI u8 a b) 8 !=0),x7.1,x7.2.1,bif x1 then bif andI i64 op 7==1 then (rSum a b f.2.2.2.2.2.2).2.1 else (rSum a b false).2.1 else x2&&bif andI i64 op 7==3 then (Zdb a b f.2.2.2.2.2.2).2.1 else (Zdb a b false).2.1) (rMaj (decide (a>=128)) (bif x1 then decide (b>=128) else bif x2 then !decide (b>=128) else decide (b>=128)) (decide (x3>=128))) (bif x1 then bif andI i64 op 7==1 then (rSum a b f.2.2.2.2.2.2).2.2.2 else (rSum a b false).2.2.2 else x2&&bif andI i64 op 7==3 then (Zdb a b f.2.2.2.2.2.2).2.2.2 else (Zdb a b false).2.2.2)
 .br (andI i64 op 7==7) (.Lf ((a,x8))) (.Lf ((x3,x8)))
def rDo (chip:Int) (op:Int) (a:Int) (b:Int) (f:TF):QT3:=(rDoT chip op a b f).val
def rDoE:En:=Zg Z6j ZxG (λ_=>none) (λa=>rDo a.1 a.2.1 a.2.2.1 a.2.2.2.1 a.2.2.2.2)
theorem Z73:Za prog 315 rDoE:=
 pureQ 1246707057321695066193919 [(171,rOnE),(367,ZZE),(368,ZKp),(369,rOfE),(370,ZA0),(371,ZNC)] [] _ _ ⟨ZeI,ZEh,ZwF,ZJ6,Zm4,Zpm,Tv⟩ Tryz.func315 Tryz.call315 trivial
def Z5g (chip:Int) (v:Int) (f:TF):RT (QT3):=
 .Lf (((rSum v 1 false).1,Zsm chip ((rOf (rSum v 1 false).1).1,(rOf (rSum v 1 false).1).2.1,(rOf (rSum v 1 false).1).2.2.1,(rSum v 1 false).2.2.1,(rOf (rSum v 1 false).1).2.2.2.2.1,(rOf (rSum v 1 false).1).2.2.2.2.2.1,f.2.2.2.2.2.2) (rMaj (decide (v>=128)) false (decide ((rSum v 1 false).1>=128))) (rSum v 1 false).2.2.2))
def rInr (chip:Int) (v:Int) (f:TF):QT3:=(Z5g chip v f).val
def Z70:En:=Zg ZVT ZxG (λ_=>none) (λa=>rInr a.1 a.2.1 a.2.2)
theorem Z5f:Za prog 372 Z70:=
 pureQ 8191 [(367,ZZE),(369,rOfE),(370,ZA0),(371,ZNC)] [] _ _ ⟨ZEh,ZJ6,Zm4,Zpm,Tv⟩ Tryz.func372 Tryz.call372 trivial
def Z5q (chip:Int) (v:Int) (f:TF):RT (QT3):=
 .Lf (((Zdb v 1 false).1,Zsm chip ((rOf (Zdb v 1 false).1).1,(rOf (Zdb v 1 false).1).2.1,(rOf (Zdb v 1 false).1).2.2.1,(Zdb v 1 false).2.2.1,(rOf (Zdb v 1 false).1).2.2.2.2.1,(rOf (Zdb v 1 false).1).2.2.2.2.2.1,f.2.2.2.2.2.2) (rMaj (decide (v>=128)) true (decide ((Zdb v 1 false).1>=128))) (Zdb v 1 false).2.2.2))
def rDcr (chip:Int) (v:Int) (f:TF):QT3:=(Z5q chip v f).val
def Z76:En:=Zg ZVT ZxG (λ_=>none) (λa=>rDcr a.1 a.2.1 a.2.2)
theorem Z5p:Za prog 373 Z76:=
 pureQ 8191 [(368,ZKp),(369,rOfE),(370,ZA0),(371,ZNC)] [] _ _ ⟨ZwF,ZJ6,Zm4,Zpm,Tv⟩ Tryz.func373 Tryz.call373 trivial
def Z5d (chip:Int) (v:Int) (f:TF):RT (QT3):=
 .Lf ((u16.wrap (v+1),f.1,f.2.1,bif rOn chip then v==65535 else f.2.2.1,f.2.2.2))
def rInx (chip:Int) (v:Int) (f:TF):QT3:=(Z5d chip v f).val
def Z5e:En:=Zg ZVQ ZVR (λ_=>none) (λa=>rInx a.1 a.2.1 a.2.2)
theorem Z5c:Za prog 317 Z5e:=
 pureQ 255 [(171,rOnE)] [] _ _ ⟨ZeI,Tv⟩ Tryz.func317 Tryz.call317 trivial
def Z5n (chip:Int) (v:Int) (f:TF):RT (QT3):=
 .Lf ((u16.wrap (v-1),f.1,f.2.1,bif rOn chip then v==0 else f.2.2.1,f.2.2.2))
def rDcx (chip:Int) (v:Int) (f:TF):QT3:=(Z5n chip v f).val
def Z5o:En:=Zg ZVQ ZVR (λ_=>none) (λa=>rDcx a.1 a.2.1 a.2.2)
theorem Z5m:Za prog 318 Z5o:=
 pureQ 255 [(171,rOnE)] [] _ _ ⟨ZeI,Tv⟩ Tryz.func318 Tryz.call318 trivial
def Z5s (chip:Int) (a:Int) (b:Int) (f:TF):RT (QT3):=
 .Lf ((u16.wrap (a+b),f.1,f.2.1,f.2.2.1,f.2.2.2.1,f.2.2.2.2.1,bif rOn chip then decide (i64.wrap (i64.wrap (IntKind.i16.wrap a)+i64.wrap (IntKind.i16.wrap b))< -32768)||decide (i64.wrap (i64.wrap (IntKind.i16.wrap a)+i64.wrap (IntKind.i16.wrap b))>32767) else f.2.2.2.2.2.1,decide (i64.wrap (i64.wrap a+i64.wrap b)>65535)))
def rDad (chip:Int) (a:Int) (b:Int) (f:TF):QT3:=(Z5s chip a b f).val
def Z5t:En:=Zg ZWn ZVR (λ_=>none) (λa=>rDad a.1 a.2.1 a.2.2.1 a.2.2.2)
theorem Z5r:Za prog 319 Z5t:=
 pureQ 2047 [(171,rOnE)] [] _ _ ⟨ZeI,Tv⟩ Tryz.func319 Tryz.call319 trivial
def ZTS (a:Int) (b:Int):RT (QT3):=
 let x1:=Zdb (u8.wrap (shrI u16 a 8)) (u8.wrap (shrI u16 b 8)) (Zdb (u8.wrap a) (u8.wrap b) false).2.1
 let x2:=x1.1
 let x3:=x2==0
 let x4:=Zdn x2 (Zdb (u8.wrap a) (u8.wrap b) false).1
 let x5:=decide (x2>=128)
 let x6:=rMaj (decide (a>=32768)) (decide (b<32768)) x5
 let x7:=x1.2
 let x8:=x7.2
 let x9:=x8.1
 let x10:=ZoH x2
 let x11:=x8.2
 let x12:=x7.1
 .Lf ((bif x3 then x4 else x4,bif x3 then x5 else x5,x3&&(Zdb (u8.wrap a) (u8.wrap b) false).1==0,bif x3 then x6 else x6,bif x3 then x9 else x9,bif x3 then x10 else x10,bif x3 then x11 else x11,bif x3 then x12 else x12))
def ZA9 (a:Int) (b:Int):QT3:=(ZTS a b).val
def ZTU:En:=Zg ZHr ZVR (λ_=>none) (λa=>ZA9 a.1 a.2)
theorem ZZ4:Za prog 322 ZTU:=
 pureQ 16383 [(325,Zpq),(368,ZKp),(371,ZNC),(375,ZvG)] [] _ _ ⟨ZjJ,ZwF,Zpm,Ztz,Tv⟩ Tryz.func322 Tryz.call322 trivial
def Z5v (chip:Int) (a:Int) (f:TF):RT (QT3):=
 let x1:Int:=bif f.2.2.2.1||decide (andI u8 a 15>9) then 6 else 0
 let x2:=rSum a (bif f.2.2.2.2.2.2||decide (a>153) then u8.wrap (x1+96) else x1) false
 let x3:=x2.1
 let x4:=rOf x3
 let x5:=x4.2
 let x6:=x5.2
 let x7:=x2.2.2
 let x8:=x6.2.2
 .Lf ((x3,Zsm chip (x4.1,x5.1,x6.1,x7.1,x8.1,x8.2.1,f.2.2.2.2.2.2||decide (a>153)) (rMaj (decide (a>=128)) false (decide (x3>=128))) x7.2))
def rDaa (chip:Int) (a:Int) (f:TF):QT3:=(Z5v chip a f).val
def Z5w:En:=Zg ZVT ZxG (λ_=>none) (λa=>rDaa a.1 a.2.1 a.2.2)
theorem Z5u:Za prog 320 Z5w:=
 pureQ 32767 [(367,ZZE),(369,rOfE),(370,ZA0),(371,ZNC)] [] _ _ ⟨ZEh,ZJ6,Zm4,Zpm,Tv⟩ Tryz.func320 Tryz.call320 trivial
def ZSR (op:Int) (a:Int) (c:Bool):RT (Option (Int×Bool)):=
 .br (andI i64 op 3==0||(andI i64 op 3==1||(!andI i64 op 3==2||Zel c 0))) (.br (andI i64 op 3==0) (Ls ((orI u8 (shlI u8 a 1) (shrI u8 a 7),decide (a>=128)))) (.br (andI i64 op 3==1) (Ls ((orI u8 (shrI u8 a 1) (shlI u8 a 7),andI u8 a 1==1))) (.br (andI i64 op 3==2) (Ls ((orI u8 (shlI u8 a 1) (rBit c 0),decide (a>=128)))) (.br (Zel c 7) (Ls ((orI u8 (shrI u8 a 1) (rBit c 7),andI u8 a 1==1))) Ln)))) Ln
def rRot (op:Int) (a:Int) (c:Bool):Int×Bool:=getO ZK7.Df (ZSR op a c).val
def Z45 (op:Int) (a:Int) (c:Bool):Bool:=okB (ZSR op a c).val
def rRotE:En:=Zg ZU8 ZK7 (λa=>some (Z45 a.1 a.2.1 a.2.2)) (λa=>rRot a.1 a.2.1 a.2.2)
theorem Z44:Za prog 321 rRotE:=
 pureP 537396479 [(374,ZZ7)] [] _ _ ⟨ZFB,Tv⟩ Tryz.func321 Tryz.call321 trivial
def Z3d (v:Int):RT (Int×Bool):=
 .Lf ((orI u16 (shrI u16 v 1) (andI u16 v 32768),andI u16 v 1==1))
def ZwK (v:Int):Int×Bool:=(Z3d v).val
def ZT8:En:=Zg ZHu ZHv (λ_=>none) (λa=>ZwK a)
theorem ZZ8:Za prog 323 ZT8:=
 pureQ 15 [] [] _ _ trivial Tryz.func323 Tryz.call323 trivial
def ZAT (v:Int) (c:Bool):RT (Option (Int×Bool×Bool)):=
 .br (Zel c 0) (Ls ((orI u16 (shlI u16 v 1) (u16.wrap (rBit c 0)),decide (v>=32768),andI u16 (orI u16 (shlI u16 v 1) (u16.wrap (rBit c 0))) 32768 !=andI u16 v 32768))) Ln
def ZAU (v:Int) (c:Bool):Int×Bool×Bool:=getO ZGl.Df (ZAT v c).val
def ZSZ (v:Int) (c:Bool):Bool:=okB (ZAT v c).val
def Z7Q:En:=Zg ZGk ZGl (λa=>some (ZSZ a.1 a.2)) (λa=>ZAU a.1 a.2)
theorem ZZJ:Za prog 324 Z7Q:=
 pureP 255 [(374,ZZ7)] [] _ _ ⟨ZFB,Tv⟩ Tryz.func324 Tryz.call324 trivial
def ZFC (b:Bool) (n:Int):RT (Option (Int)):=
 .br (decide (0<=n)) (Ls (u8.wrap (shlI i64 (rOne b) n))) Ln
def Zhj (b:Bool) (n:Int):Int:=getO ZWw.Df (ZFC b n).val
def Zaz (b:Bool) (n:Int):Bool:=okB (ZFC b n).val
def ZT4:En:=Zg Z3E ZWw (λa=>some (Zaz a.1 a.2)) (λa=>Zhj a.1 a.2)
theorem ZT3:Za prog 326 ZT4:=
 pureP 31 [(376,ZZU)] [] _ _ ⟨ZEy,Tv⟩ Tryz.func326 Tryz.call326 trivial
def ZSU (c:TC) (l:QT0):RT (Option (Int×TC)):=
 let x1:=bif c.2.2.2.2.2.2.2.2.2.2.1 then c.2.2.2.2.2.2.2.2.2.2.2.1 else c.2.2.1
 .br (!Zaz l.2.2.2.1 7||(!Zaz c.2.2.2.2.2.2.2.1 6||(!Zaz l.2.2.2.2.2.2.1 5||(!Zaz l.2.2.2.2.2.2.2.1 4||Zaz x1 3)))) (.br (!Zaz l.2.2.2.1 7||(!Zaz c.2.2.2.2.2.2.2.1 6||(!Zaz l.2.2.2.2.2.2.1 5||Zaz l.2.2.2.2.2.2.2.1 4))) (.br (!Zaz l.2.2.2.1 7||(!Zaz c.2.2.2.2.2.2.2.1 6||Zaz l.2.2.2.2.2.2.1 5)) (.br (!Zaz l.2.2.2.1 7||Zaz c.2.2.2.2.2.2.2.1 6) (.br (Zaz l.2.2.2.1 7) (Ls ((orI u8 (orI u8 (orI u8 (orI u8 (orI u8 (Zhj l.2.2.2.1 7) (Zhj c.2.2.2.2.2.2.2.1 6)) (Zhj l.2.2.2.2.2.2.1 5)) (Zhj l.2.2.2.2.2.2.2.1 4)) (Zhj x1 3)) (andI u8 c.2.2.2.2.2.1 7),c.1,c.2.1,c.2.2.1,c.2.2.2.1,c.2.2.2.2.1,c.2.2.2.2.2.1,c.2.2.2.2.2.2.1,c.2.2.2.2.2.2.2.1,c.2.2.2.2.2.2.2.2.1,c.2.2.2.2.2.2.2.2.2.1,false,false,c.2.2.2.2.2.2.2.2.2.2.2.2))) Ln) Ln) Ln) Ln) Ln
def rRim (c:TC) (l:QT0):Int×TC:=getO ZK8.Df (ZSU c l).val
def Z47 (c:TC) (l:QT0):Bool:=okB (ZSU c l).val
def rRimE:En:=Zg ZVa ZK8 (λa=>some (Z47 a.1 a.2)) (λa=>rRim a.1 a.2)
theorem Z46:Za prog 245 rRimE:=
 pureP 255 [(326,ZT4)] [] _ _ ⟨ZT3,Tv⟩ Tryz.func245 Tryz.call245 trivial
def ZSI (c:TC) (a:Int):RT TC:=
 .Lf ((c.1,c.2.1,c.2.2.1,c.2.2.2.1,c.2.2.2.2.1,bif andI u8 a 8 !=0 then andI u8 a 7 else c.2.2.2.2.2.1,c.2.2.2.2.2.2.1,!andI u8 a 16 !=0&&c.2.2.2.2.2.2.2.1,c.2.2.2.2.2.2.2.2.1,c.2.2.2.2.2.2.2.2.2.1,c.2.2.2.2.2.2.2.2.2.2.1,c.2.2.2.2.2.2.2.2.2.2.2.1,bif andI u8 a 64 !=0 then andI u8 a 128 !=0 else c.2.2.2.2.2.2.2.2.2.2.2.2))
def rSim (c:TC) (a:Int):TC:=(ZSI c a).val
def Z7P:En:=Zg ZUZ ZU0 (λ_=>none) (λa=>rSim a.1 a.2)
theorem Z41:Za prog 246 Z7P:=
 pureQ 31 [] [] _ _ trivial Tryz.func246 Tryz.call246 trivial
def ZFl (c:Int) (f:TF):RT (Bool):=
 .br (c==0) (.Lf (!f.2.1)) (.br (c==1) (.Lf f.2.1) (.br (c==2) (.Lf (!f.2.2.2.2.2.2)) (.br (c==3) (.Lf f.2.2.2.2.2.2) (.br (c==4) (.Lf (!f.2.2.2.2.1)) (.br (c==5) (.Lf f.2.2.2.2.1) (.br (c==6) (.Lf (!f.1)) (.br (c==7) (.Lf f.1) (.br (c==8) (.Lf (!f.2.2.1)) (.br (c==9) (.Lf f.2.2.1) (.br (c==10) (.Lf f.2.2.2.2.2.1) (.Lf (c==11))))))))))))
def Zfe (c:Int) (f:TF):Bool:=(ZFl c f).val
def ZTy:En:=Zg ZVs Zqd (λ_=>none) (λa=>Zfe a.1 a.2)
theorem ZTx:Za prog 365 ZTy:=
 pureQ 2397219371124831 [] [] _ _ trivial Tryz.func365 Tryz.call365 trivial
def Zvq (s:Int):RT (Int):=
 .br (s==1) (.Lf (36)) (.br (s==2) (.Lf (60)) (.br (s==3) (.Lf (52)) (.br (s==4) (.Lf (44)) (.Lf (0)))))
def Zi (s:Int):Int:=(Zvq s).val
def ZJB:En:=Zg ZBC ZHd (λ_=>none) (λa=>Zi a)
theorem ZNc:Za prog 237 ZJB:=
 pureQ 1367 [] [] _ _ trivial Tryz.func237 Tryz.call237 trivial
def Zlb (s:Int):RT (Bool):=
 .Lf (decide (s>=1)&&decide (s<=4))
def Zc (s:Int):Bool:=(Zlb s).val
def Zh3:En:=Zg ZBC Zqd (λ_=>none) (λa=>Zc a)
theorem Zhh:Za prog 236 Zh3:=
 pureQ 7 [] [] _ _ trivial Tryz.func236 Tryz.call236 trivial
def ZAG (op:Int):RT (TI×Bool):=
 .br (op==8) (.Lf (((40,1,0,0,0,0,0,0),true))) (.br (op==16) (.Lf (((41,1,0,0,0,0,0,0),true))) (.br (op==24) (.Lf (((42,1,0,0,0,0,0,0),true))) (.br (op==32) (.Lf (((38,1,0,0,0,0,0,0),true))) (.br (op==40) (.Lf (((43,2,0,0,0,0,0,0),true))) (.br (op==48) (.Lf (((39,1,0,0,0,0,0,0),true))) (.br (op==56) (.Lf (((44,2,0,0,0,0,0,0),true))) (.br (op==203) (.Lf (((45,1,0,0,0,0,10,0),true))) (.br (op==217) (.Lf (((46,1,0,0,0,0,0,0),true))) (.br (op==221) (.Lf (((24,3,0,0,0,0,8,0),true))) (.br (op==237) (.Lf (((47,1,0,0,0,0,0,0),true))) (.br (op==253) (.Lf (((24,3,0,0,0,0,9,0),true))) (.Lf (((0,0,0,0,0,0,0,0),false))))))))))))))
def Zvw (op:Int):TI×Bool:=(ZAG op).val
def ZAH:En:=Zg ZBK ZLg (λ_=>none) (λa=>Zvw a)
theorem ZEi:Za prog 306 ZAH:=
 pureQ 314146179375 [] [] _ _ trivial Tryz.func306 Tryz.call306 trivial
abbrev ZTh:List Sh:=[So Kc,So Kc,So Kc,So Kc]
def ZTi (y:Int) (z:Int) (p:Int) (q:Int):RT (Option TI):=
 let x1:=decide (0<=i64.wrap (y-4)/\i64.wrap (y-4)<4)
 .br (z==0) (Ls ((1,1,0,0,0,0,0,0))) (.br (z==1) (.br (q==0) (Ls ((4,3,0,0,p,0,0,0))) (Ls ((18,1,0,0,p,0,0,0)))) (.br (!z==2||((bif y==0 then y==0 else y==2)||((bif y==1 then y==1 else y==3)||x1))) (.br (z==2) (.br (bif y==0 then y==0 else y==2) (Ls ((10,1,0,0,p,0,0,0))) (.br (bif y==1 then y==1 else y==3) (Ls ((9,1,0,0,p,0,0,0))) (Ls ((bif i64.wrap (y-4)==0 then 8 else bif i64.wrap (y-4)== ↑(0+1) then 7 else bif i64.wrap (y-4)== ↑(0+1+1) then 6 else 5,3,0,0,0,0,0,0))))) (.br (!z==3||decide (0<=q/\q<2)) (.br (z==3) (Ls ((bif q==0 then 16 else 17,1,0,0,p,0,0,0))) (.br (z==4) (Ls ((14,1,y,0,0,0,0,0))) (.br (z==5) (Ls ((15,1,y,0,0,0,0,0))) (.br (z==6) (Ls ((3,2,y,0,0,0,0,0))) (.br (decide (y<4)) (Ls ((23,1,0,0,0,y,0,0))) (.br (x1) (Ls ((bif i64.wrap (y-4)==0 then 19 else bif i64.wrap (y-4)== ↑(0+1) then 20 else bif i64.wrap (y-4)== ↑(0+1+1) then 21 else 22,1,0,0,0,0,0,0))) Ln)))))) Ln)) Ln))
def Z7V (y:Int) (z:Int) (p:Int) (q:Int):QT7:=getO ZGs.Df (ZTi y z p q).val
def Z2O (y:Int) (z:Int) (p:Int) (q:Int):Bool:=okB (ZTi y z p q).val
def Z2N:En:=Zg ZTh ZGs (λa=>some (Z2O a.1 a.2.1 a.2.2.1 a.2.2.2)) (λa=>Z7V a.1 a.2.1 a.2.2.1 a.2.2.2)
theorem ZZV:Za prog 307 Z2N:=
 pureP 19211217472071167 [] [] _ _ trivial Tryz.func307 Tryz.call307 trivial
def ZEA (y:Int) (z:Int) (p:Int) (q:Int):RT (Option TI):=
 .br (z==0) (Ls ((26,1,0,0,0,0,y,0))) (.br (z==1) (.br (q==0) (Ls ((31,1,0,0,p,0,0,0))) (.br (y==5) (Ls ((28,1,0,0,0,0,0,0))) (.br (y==7) (Ls ((29,1,0,0,0,0,0,0))) (Ls ((26,1,0,0,0,0,11,0)))))) (.br (z==2||(!z==3||((bif y==0 then y==0 else y==1)||(y==2||(y==3||decide (0<=i64.wrap (y-4)/\i64.wrap (y-4)<4)))))) (.br (z==2) (Ls ((24,3,0,0,0,0,y,0))) (.br (z==3) (.br (bif y==0 then y==0 else y==1) (Ls ((24,3,0,0,0,0,11,0))) (.br (y==2) (Ls ((34,2,0,0,0,0,0,0))) (.br (y==3) (Ls ((33,2,0,0,0,0,0,0))) (Ls ((bif i64.wrap (y-4)==0 then 32 else bif i64.wrap (y-4)== ↑(0+1) then 11 else bif i64.wrap (y-4)== ↑(0+1+1) then 36 else 35,1,0,0,0,0,0,0)))))) (.br (z==4) (Ls ((25,3,0,0,0,0,y,0))) (.br (z==5) (.br (q==0) (Ls ((30,1,0,0,p,0,0,0))) (Ls ((25,3,0,0,0,0,11,0)))) (.br (z==6) (Ls ((13,2,0,0,0,y,0,0))) (Ls ((27,1,0,0,0,0,0,y)))))))) Ln))
def Z2P (y:Int) (z:Int) (p:Int) (q:Int):QT7:=getO ZGs.Df (ZEA y z p q).val
def ZTl (y:Int) (z:Int) (p:Int) (q:Int):Bool:=okB (ZEA y z p q).val
def ZTk:En:=Zg ZTh ZGs (λa=>some (ZTl a.1 a.2.1 a.2.2.1 a.2.2.2)) (λa=>Z2P a.1 a.2.1 a.2.2.1 a.2.2.2)
theorem ZTj:Za prog 308 ZTk:=
 pureP 2324988294374376959 [] [] _ _ trivial Tryz.func308 Tryz.call308 trivial
def Zgk (chip:Int) (op:Int):RT (Option TI):=
 .br ((Zvw op).2&&rOn chip) (Ls (Zvw op).1) (.br (!shrI u8 op 6==0||Z2O (i64.wrap (andI u8 (shrI u8 op 3) 7)) (i64.wrap (andI u8 op 7)) (shrI i64 (i64.wrap (andI u8 (shrI u8 op 3) 7)) 1) (andI i64 (i64.wrap (andI u8 (shrI u8 op 3) 7)) 1)) (.br (shrI u8 op 6==0) (Ls (Z7V (i64.wrap (andI u8 (shrI u8 op 3) 7)) (i64.wrap (andI u8 op 7)) (shrI i64 (i64.wrap (andI u8 (shrI u8 op 3) 7)) 1) (andI i64 (i64.wrap (andI u8 (shrI u8 op 3) 7)) 1))) (.br (shrI u8 op 6==1) (.br (op==118) (Ls ((37,1,0,0,0,0,0,0))) (Ls ((2,1,i64.wrap (andI u8 (shrI u8 op 3) 7),i64.wrap (andI u8 op 7),0,0,0,0)))) (.br (shrI u8 op 6==2) (Ls ((12,1,0,i64.wrap (andI u8 op 7),0,i64.wrap (andI u8 (shrI u8 op 3) 7),0,0))) (.br (ZTl (i64.wrap (andI u8 (shrI u8 op 3) 7)) (i64.wrap (andI u8 op 7)) (shrI i64 (i64.wrap (andI u8 (shrI u8 op 3) 7)) 1) (andI i64 (i64.wrap (andI u8 (shrI u8 op 3) 7)) 1)) (Ls (Z2P (i64.wrap (andI u8 (shrI u8 op 3) 7)) (i64.wrap (andI u8 op 7)) (shrI i64 (i64.wrap (andI u8 (shrI u8 op 3) 7)) 1) (andI i64 (i64.wrap (andI u8 (shrI u8 op 3) 7)) 1))) Ln)))) Ln)
def Zb (chip:Int) (op:Int):QT7:=getO ZGs.Df (Zgk chip op).val
def Zm7 (chip:Int) (op:Int):Bool:=okB (Zgk chip op).val
def ZZ5:En:=Zg ZBA ZGs (λa=>some (Zm7 a.1 a.2)) (λa=>Zb a.1 a.2)
theorem ZOj:Za prog 238 ZZ5:=
 pureP 70644158956031 [(171,rOnE),(306,ZAH),(307,Z2N),(308,ZTk)] [] _ _ ⟨ZeI,ZEi,ZZV,ZTj,Tv⟩ Tryz.func238 Tryz.call238 trivial
