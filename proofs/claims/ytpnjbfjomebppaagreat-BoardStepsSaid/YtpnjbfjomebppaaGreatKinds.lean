import Derived.Test.YtpnjbfjomebppaaGreatS3D
import Derived.Test.YtpnjbfjomebppaaGreatProg
open Go.Proofs.Tryz (prog)
open Go.IntKind (u8 u16 i64)
set_option linter.unusedSimpArgs false
open Go Go.S3 Go.Proofs
set_option linter.unusedVariables false
set_option maxRecDepth 100000
namespace Go.Proofs.YtpnjbfjomebppaaGreat
noncomputable section
abbrev Zxq:List Sh:=[Sh.one (R.int u8)]
abbrev ZnI:Rs:=Rs.one (Sh.one R.bool)
def Ztg (b:Int):RT (Option (Bool)):=
 let x1:=andI u8 (andI u8 b (u8.wrap (b-1))) (u8.wrap (andI u8 b (u8.wrap (b-1))-1))
 let x2:= !x1 !=0
 let x3:=andI u8 x1 (u8.wrap (x1-1))
 let x4:=x3 !=0
 let x5:=andI u8 x3 (u8.wrap (x3-1))
 let x6:= !x5 !=0
 let x7:=andI u8 x5 (u8.wrap (x5-1))
 let x8:=x7 !=0
 let x9:=andI u8 x7 (u8.wrap (x7-1))
 let x10:= !x9 !=0
 let x11:=andI u8 x9 (u8.wrap (x9-1))
 let x12:=x11 !=0
 let x13:=andI u8 x11 (u8.wrap (x11-1))
 let x14:= !x13 !=0
 .br (!b !=0||(!andI u8 b (u8.wrap (b-1)) !=0||(x2||(!x4||(x6||(!x8||(x10||(!x12||(x14|| !andI u8 x13 (u8.wrap (x13-1)) !=0))))))))) (.Lf (some (!b !=0||andI u8 b (u8.wrap (b-1)) !=0&&(x2||x4&&(x6||x8&&(x10||x12&&x14)))))) (.Lf none)
def Zth (b:Int):Bool:=getO ZnI.Df (Ztg b).val
def ZlV (b:Int):Bool:=okB (Ztg b).val
def ZEo:En:=Zg Zxq ZnI (λa=>some (ZlV a)) (λa=>Zth a)
theorem ZGH:Zb prog 387 ZEo:=
 Zna (P:=prog) (n:=15) (k:=10) (l:=[]) (ol:=[]) trivial Tryz.func387 rfl (by kernel_rfl) Tryz.call387 trivial (ts:=Zxq) (rs:=ZnI) (t:=λa=>Ztg a) (λa=>by kernel_rfl)
abbrev ZSG:List Sh:=[Sh.one R.bool,Sh.one R.bool,Sh.one R.bool]
abbrev ZSH:Rs:=Rs.one (Sh.one R.bool)
def ZXh (a:Bool) (b:Bool) (c:Bool):RT (Bool):=
 .Lf (bif a then b||bif a then c||b&&c else b&&c else bif a then c||b&&c else b&&c)
def pMaj (a:Bool) (b:Bool) (c:Bool):Bool:=(ZXh a b c).val
def ZGR:En:=Zg ZSG ZSH (λ_=>none) (λa=>pMaj a.1 a.2.1 a.2.2)
theorem Zol:Zb prog 357 ZGR:=
 pureQ 127 [] [] ZSG ZSH trivial Tryz.func357 Tryz.call357 trivial (t:=λa=>ZXh a.1 a.2.1 a.2.2)
abbrev ZSD:List Sh:=[Sh.one R.bool]
abbrev ZSE:Rs:=Rs.one (Sh.one (R.int i64))
def ZXf (b:Bool):RT (Int):=
 .br (b) (.Lf (1)) (.Lf (0))
def pOne (b:Bool):Int:=(ZXf b).val
def ZUP:En:=Zg ZSD ZSE (λ_=>none) (λa=>pOne a)
theorem ZLU:Zb prog 384 ZUP:=
 pureQ 7 [] [] ZSD ZSE trivial Tryz.func384 Tryz.call384 trivial (t:=λa=>ZXf a)
abbrev Zxi:List Sh:=[Sh.one (R.int i64)]
abbrev Zxj:Rs:=Rs.one (Sh.one R.bool)
def ZlS (n:Int):RT (Bool):=
 .Lf (decide (n< -128)||decide (n>127))
def ZnA (n:Int):Bool:=(ZlS n).val
def Zs4:En:=Zg Zxi Zxj (λ_=>none) (λa=>ZnA a)
theorem ZqQ:Zb prog 385 Zs4:=
 pureQ 7 [] [] Zxi Zxj trivial Tryz.func385 Tryz.call385 trivial (t:=λa=>ZlS a)
abbrev ZSy:List Sh:=[Sh.one (R.int u8),Sh.one (R.int u8),Sh.one R.bool]
abbrev ZSz:Rs:=Rs.tup [Sh.one (R.int u8),Sh.one R.bool,Sh.one R.bool,Sh.one R.bool]
def ZUz (a:Int) (b:Int) (c:Bool):RT (QT21):=
 let x1:=i64.wrap (i64.wrap (i64.wrap a+i64.wrap b)+pOne c)
 .Lf ((u8.wrap x1,decide (x1>255),decide (i64.wrap (i64.wrap (i64.wrap (andI u8 a 15)+i64.wrap (andI u8 b 15))+pOne c)>15),ZnA (i64.wrap (i64.wrap (i64.wrap (IntKind.i8.wrap a)+i64.wrap (IntKind.i8.wrap b))+pOne c))))
def pSum (a:Int) (b:Int) (c:Bool):QT21:=(ZUz a b c).val
def ZQs:En:=Zg ZSy ZSz (λ_=>none) (λa=>pSum a.1 a.2.1 a.2.2)
theorem ZAj:Zb prog 350 ZQs:=
 pureQ 4095 [(384,ZUP),(385,Zs4)] [] ZSy ZSz ⟨ZLU,ZqQ,Tv⟩ Tryz.func350 Tryz.call350 trivial (t:=λa=>ZUz a.1 a.2.1 a.2.2)
abbrev ZME:List Sh:=[Sh.one (R.int u8),Sh.one (R.int u8),Sh.one R.bool]
abbrev ZMG:Rs:=Rs.tup [Sh.one (R.int u8),Sh.one R.bool,Sh.one R.bool,Sh.one R.bool]
def ZMF (a:Int) (b:Int) (c:Bool):RT (QT21):=
 let x1:=i64.wrap (i64.wrap (i64.wrap a-i64.wrap b)-pOne c)
 .Lf ((u8.wrap x1,decide (x1<0),decide (i64.wrap (i64.wrap (i64.wrap (i64.wrap (i64.wrap (andI u8 a 15)+15)-i64.wrap (andI u8 b 15))+1)-pOne c)>15),ZnA (i64.wrap (i64.wrap (i64.wrap (IntKind.i8.wrap a)-i64.wrap (IntKind.i8.wrap b))-pOne c))))
def Zih (a:Int) (b:Int) (c:Bool):QT21:=(ZMF a b c).val
def ZEM:En:=Zg ZME ZMG (λ_=>none) (λa=>Zih a.1 a.2.1 a.2.2)
theorem Zuh:Zb prog 352 ZEM:=
 pureQ 4095 [(384,ZUP),(385,Zs4)] [] ZME ZMG ⟨ZLU,ZqQ,Tv⟩ Tryz.func352 Tryz.call352 trivial (t:=λa=>ZMF a.1 a.2.1 a.2.2)
abbrev ZBl:List Sh:=[Sh.one (R.int u8),Sh.one (R.int u8)]
abbrev ZBm:Rs:=Rs.one (Sh.one (R.int u16))
def ZSK (h:Int) (l:Int):RT (Int):=
 .Lf (orI u16 (shlI u16 (u16.wrap h) 8) (u16.wrap l))
def ZMd (h:Int) (l:Int):Int:=(ZSK h l).val
def ZEz:En:=Zg ZBl ZBm (λ_=>none) (λa=>ZMd a.1 a.2)
theorem ZlW:Zb prog 220 ZEz:=
 pureQ 31 [] [] ZBl ZBm trivial Tryz.func220 Tryz.call220 trivial (t:=λa=>ZSK a.1 a.2)
abbrev ZSO:List Sh:=[Sh.one R.bool,Sh.one (R.int i64)]
abbrev ZMU:Rs:=Rs.one (Sh.one (R.int u8))
def ZQZ (b:Bool) (n:Int):RT (Option (Int)):=
 .br (!b||decide (0<=n)) (.br (b) (.Lf (some (shlI u8 1 n))) (.Lf (some (0)))) (.Lf none)
def pBit (b:Bool) (n:Int):Int:=getO ZMU.Df (ZQZ b n).val
def Ze3 (b:Bool) (n:Int):Bool:=okB (ZQZ b n).val
def ZXm:En:=Zg ZSO ZMU (λa=>some (Ze3 a.1 a.2)) (λa=>pBit a.1 a.2)
theorem ZVj:Zb prog 386 ZXm:=
 pureP 31 [] [] ZSO ZMU trivial Tryz.func386 Tryz.call386 trivial (t:=λa=>ZQZ a.1 a.2)
abbrev ZLR:List Sh:=[Sh.one (R.int i64),Sh.agg rcF7]
abbrev ZAA:Rs:=Rs.one (Sh.one (R.int u8))
def Zxr (chip:Int) (f:TF):RT (Option (Int)):=
 let x1:=orI u8 (orI u8 (orI u8 (orI u8 (pBit f.1 7) (pBit f.2.1 6)) (pBit f.2.2.2.1 4)) (pBit f.2.2.2.2.1 2)) (pBit f.2.2.2.2.2.2 0)
 .br (!Ze3 f.1 7||(!Ze3 f.2.1 6||(!Ze3 f.2.2.2.1 4||(!Ze3 f.2.2.2.2.1 2||Ze3 f.2.2.2.2.2.2 0)))) (.br (!Ze3 f.1 7||(!Ze3 f.2.1 6||(!Ze3 f.2.2.2.1 4||Ze3 f.2.2.2.2.1 2))) (.br (!Ze3 f.1 7||(!Ze3 f.2.1 6||Ze3 f.2.2.2.1 4)) (.br (!Ze3 f.1 7||Ze3 f.2.1 6) (.br (Ze3 f.1 7) (.br (!chip==2||(!Ze3 f.2.2.1 5||Ze3 f.2.2.2.2.2.1 1)) (.br (!chip==2||Ze3 f.2.2.1 5) (.br (chip==2) (.Lf (some (orI u8 (orI u8 x1 (pBit f.2.2.1 5)) (pBit f.2.2.2.2.2.1 1)))) (.Lf (some (orI u8 x1 2)))) (.Lf none)) (.Lf none)) (.Lf none)) (.Lf none)) (.Lf none)) (.Lf none)) (.Lf none)
def ZQG (chip:Int) (f:TF):Int:=getO ZAA.Df (Zxr chip f).val
def ZEp (chip:Int) (f:TF):Bool:=okB (Zxr chip f).val
def ZSC:En:=Zg ZLR ZAA (λa=>some (ZEp a.1 a.2)) (λa=>ZQG a.1 a.2)
theorem ZQF:Zb prog 354 ZSC:=
 pureP 63 [(386,ZXm)] [] ZLR ZAA ⟨ZVj,Tv⟩ Tryz.func354 Tryz.call354 trivial (t:=λa=>Zxr a.1 a.2)
abbrev Zxg:List Sh:=[Sh.one (R.int i64),Sh.one (R.int u8)]
abbrev Zxh:Rs:=Rs.one (Sh.agg rcF7)
def Zs1 (chip:Int) (b:Int):RT TF:=
 .Lf ((andI u8 b 128 !=0,andI u8 b 64 !=0,chip==2&&andI u8 b 32 !=0,andI u8 b 16 !=0,andI u8 b 4 !=0,chip==2&&andI u8 b 2 !=0,andI u8 b 1 !=0))
def Zs2 (chip:Int) (b:Int):TF:=(Zs1 chip b).val
def ZEf:En:=Zg Zxg Zxh (λ_=>none) (λa=>Zs2 a.1 a.2)
theorem ZGE:Zb prog 363 ZEf:=
 pureQ 63 [] [] Zxg Zxh trivial Tryz.func363 Tryz.call363 trivial (t:=λa=>Zs1 a.1 a.2)
abbrev ZXg:List Sh:=[Sh.one (R.int u8)]
abbrev ZUR:Rs:=Rs.one (Sh.agg rcF7)
def pOfT (r:Int):RT (Option TF):=
 .br (ZlV r) (.Lf (some ((decide (r>=128),r==0,false,false,Zth r,false,false)))) (.Lf none)
def pOf (r:Int):TF:=getO ZUR.Df (pOfT r).val
def pOfC (r:Int):Bool:=okB (pOfT r).val
def pOfE:En:=Zg ZXg ZUR (λa=>some (pOfC a)) (λa=>pOf a)
theorem Zxs:Zb prog 356 pOfE:=
 pureP 7 [(387,ZEo)] [] ZXg ZUR ⟨ZGH,Tv⟩ Tryz.func356 Tryz.call356 trivial (t:=λa=>pOfT a)
def Zpb:En:=.tree (Zr (envX prog [] [] 141872468127 8) Tryz.f349)
theorem Zpa:Zb prog 349 Zpb:=ZL (P:=prog) (n:=141872468127) (k:=8) (l:=[]) (ol:=[]) trivial Tryz.func349 rfl (by kernel_rfl) Tryz.call349 trivial
abbrev ZMo:List Sh:=[Sh.agg ZmX,Sh.one (R.int i64)]
abbrev ZMp:Rs:=Rs.one (Sh.one (R.int u8))
def ZU0 (r:TR) (n:Int):RT (Int):=
 .br (andI i64 n 7==0) (.Lf r.2.1) (.br (andI i64 n 7==1) (.Lf r.2.2.1) (.br (andI i64 n 7==2) (.Lf r.2.2.2.1) (.br (andI i64 n 7==3) (.Lf r.2.2.2.2.1) (.br (andI i64 n 7==4) (.Lf r.2.2.2.2.2.1) (.br (andI i64 n 7==5) (.Lf r.2.2.2.2.2.2.1) (.br (andI i64 n 7==7) (.Lf r.1) (.Lf (0))))))))
def pGet (r:TR) (n:Int):Int:=(ZU0 r n).val
def ZXj:En:=Zg ZMo ZMp (λ_=>none) (λa=>pGet a.1 a.2)
theorem ZMn:Zb prog 281 ZXj:=
 pureQ 63 [(349,Zpb)] [] ZMo ZMp ⟨Zpa,Tv⟩ Tryz.func281 Tryz.call281 trivial (t:=λa=>ZU0 a.1 a.2)
abbrev ZLs:List Sh:=[Sh.agg ZmX,Sh.one (R.int i64),Sh.one (R.int u8)]
abbrev ZLt:Rs:=Rs.one (Sh.agg ZmX)
def ZUC (r:TR) (n:Int) (v:Int):RT TR:=
 .br (andI i64 n 7==0) (.Lf ((r.1,v,r.2.2))) (.br (andI i64 n 7==1) (.Lf ((r.1,r.2.1,v,r.2.2.2))) (.br (andI i64 n 7==2) (.Lf ((r.1,r.2.1,r.2.2.1,v,r.2.2.2.2))) (.br (andI i64 n 7==3) (.Lf ((r.1,r.2.1,r.2.2.1,r.2.2.2.1,v,r.2.2.2.2.2))) (.br (andI i64 n 7==4) (.Lf ((r.1,r.2.1,r.2.2.1,r.2.2.2.1,r.2.2.2.2.1,v,r.2.2.2.2.2.2))) (.br (andI i64 n 7==5) (.Lf ((r.1,r.2.1,r.2.2.1,r.2.2.2.1,r.2.2.2.2.1,r.2.2.2.2.2.1,v,r.2.2.2.2.2.2.2))) (.br (andI i64 n 7==7) (.Lf ((v,r.2))) (.Lf (r))))))))
def pSet (r:TR) (n:Int) (v:Int):TR:=(ZUC r n v).val
def ZXb:En:=Zg ZLs ZLt (λ_=>none) (λa=>pSet a.1 a.2.1 a.2.2)
theorem ZLr:Zb prog 290 ZXb:=
 pureQ 255 [(349,Zpb)] [] ZLs ZLt ⟨Zpa,Tv⟩ Tryz.func290 Tryz.call290 trivial (t:=λa=>ZUC a.1 a.2.1 a.2.2)
abbrev ZAy:List Sh:=[Sh.agg ZmX,Sh.one (R.int i64)]
abbrev ZAz:Rs:=Rs.one (Sh.one (R.int u16))
def ZLO (r:TR) (n:Int):RT (Int):=
 .br (andI i64 n 3==3) (.Lf r.2.2.2.2.2.2.2.2.1) (.Lf (ZMd (pGet r (i64.wrap (2*andI i64 n 3))) (pGet r (i64.wrap (i64.wrap (2*andI i64 n 3)+1)))))
def ZUM (r:TR) (n:Int):Int:=(ZLO r n).val
def ZXe:En:=Zg ZAy ZAz (λ_=>none) (λa=>ZUM a.1 a.2)
theorem ZQE:Zb prog 280 ZXe:=
 pureQ 31 [(220,ZEz),(281,ZXj)] [] ZAy ZAz ⟨ZlW,ZMn,Tv⟩ Tryz.func280 Tryz.call280 trivial (t:=λa=>ZLO a.1 a.2)
abbrev Zkn:List Sh:=[Sh.agg ZmX,Sh.one (R.int i64),Sh.one (R.int u16)]
abbrev Zko:Rs:=Rs.one (Sh.agg ZmX)
def ZnB (r:TR) (n:Int) (v:Int):RT TR:=
 .br (andI i64 n 3==3) (.Lf ((r.1,r.2.1,r.2.2.1,r.2.2.2.1,r.2.2.2.2.1,r.2.2.2.2.2.1,r.2.2.2.2.2.2.1,r.2.2.2.2.2.2.2.1,v,r.2.2.2.2.2.2.2.2.2))) (.Lf (pSet (pSet r (i64.wrap (2*andI i64 n 3)) (u8.wrap (shrI u16 v 8))) (i64.wrap (i64.wrap (2*andI i64 n 3)+1)) (u8.wrap v)))
def Zs5 (r:TR) (n:Int) (v:Int):TR:=(ZnB r n v).val
def ZLu:En:=Zg Zkn Zko (λ_=>none) (λa=>Zs5 a.1 a.2.1 a.2.2)
theorem ZAm:Zb prog 291 ZLu:=
 pureQ 127 [(290,ZXb)] [] Zkn Zko ⟨ZLr,Tv⟩ Tryz.func291 Tryz.call291 trivial (t:=λa=>ZnB a.1 a.2.1 a.2.2)
abbrev ZLS:List Sh:=[Sh.one (R.int i64),Sh.agg ZmX]
abbrev ZEq:Rs:=Rs.one (Sh.one (R.int u16))
def ZQH (chip:Int) (r:TR):RT (Option (Int)):=
 .br (ZEp chip r.2.2.2.2.2.2.2.1) (.Lf (some (ZMd r.1 (ZQG chip r.2.2.2.2.2.2.2.1)))) (.Lf none)
def pPSW (chip:Int) (r:TR):Int:=getO ZEq.Df (ZQH chip r).val
def ZUO (chip:Int) (r:TR):Bool:=okB (ZQH chip r).val
def pPSWE:En:=Zg ZLS ZEq (λa=>some (ZUO a.1 a.2)) (λa=>pPSW a.1 a.2)
theorem ZUN:Zb prog 288 pPSWE:=
 pureP 31 [(220,ZEz),(354,ZSC)] [] ZLS ZEq ⟨ZlW,ZQF,Tv⟩ Tryz.func288 Tryz.call288 trivial (t:=λa=>ZQH a.1 a.2)
abbrev ZnC:List Sh:=[Sh.one (R.int i64),Sh.agg ZmX,Sh.one (R.int u16)]
abbrev ZnD:Rs:=Rs.one (Sh.agg ZmX)
def Zs6 (chip:Int) (r:TR) (v:Int):RT TR:=
 .Lf ((u8.wrap (shrI u16 v 8),r.2.1,r.2.2.1,r.2.2.2.1,r.2.2.2.2.1,r.2.2.2.2.2.1,r.2.2.2.2.2.2.1,Zs2 chip (u8.wrap v),r.2.2.2.2.2.2.2.2))
def ZAo (chip:Int) (r:TR) (v:Int):TR:=(Zs6 chip r v).val
def ZQv:En:=Zg ZnC ZnD (λ_=>none) (λa=>ZAo a.1 a.2.1 a.2.2)
theorem ZGG:Zb prog 299 ZQv:=
 pureQ 127 [(363,ZEf)] [] ZnC ZnD ⟨ZGE,Tv⟩ Tryz.func299 Tryz.call299 trivial (t:=λa=>Zs6 a.1 a.2.1 a.2.2)
abbrev ZEu:List Sh:=[Sh.one (R.int i64),Sh.one (R.int i64),Sh.one (R.int u8),Sh.one (R.int u8)]
abbrev Ztt:Rs:=Rs.tup [Sh.one (R.int u8),Sh.agg rcF7]
def Zom (chip:Int) (op:Int) (a:Int) (b:Int):RT (Option (QT2)):=
 let x1:Int:=bif op==4 then andI u8 a b else bif op==5 then xorI u8 a b else bif op==6 then orI u8 a b else 0
 let x2:=pOf x1
 let x3:=x2.2
 let x4:=x3.2
 .br (pOfC x1) (.Lf (some ((x1,x2.1,x3.1,bif chip==2 then pMaj (decide (a>=128)) (decide (b>=128)) (decide (x1>=128)) else x4.1,op==4&&(chip==2||andI u8 (orI u8 a b) 8 !=0),x4.2.2)))) (.Lf none)
def ZEv (chip:Int) (op:Int) (a:Int) (b:Int):QT2:=getO Ztt.Df (Zom chip op a b).val
def Ztu (chip:Int) (op:Int) (a:Int) (b:Int):Bool:=okB (Zom chip op a b).val
def ZL6:En:=Zg ZEu Ztt (λa=>some (Ztu a.1 a.2.1 a.2.2.1 a.2.2.2)) (λa=>ZEv a.1 a.2.1 a.2.2.1 a.2.2.2)
theorem ZL5:Zb prog 355 ZL6:=
 pureP 8858394623 [(356,pOfE),(357,ZGR)] [] ZEu Ztt ⟨Zxs,Zol,Tv⟩ Tryz.func355 Tryz.call355 trivial (t:=λa=>Zom a.1 a.2.1 a.2.2.1 a.2.2.2)
abbrev ZU7:List Sh:=[Sh.one (R.int i64),Sh.one (R.int i64),Sh.one (R.int u8),Sh.one (R.int u8),Sh.agg rcF7]
abbrev ZQS:Rs:=Rs.tup [Sh.one (R.int u8),Sh.agg rcF7]
def pDoT (chip:Int) (op:Int) (a:Int) (b:Int) (f:TF):RT (Option (QT2)):=
 let x1:=decide (andI i64 op 7>=4)&&decide (andI i64 op 7<=6)
 let x2:=f.2.2.2.2.2.2&&(andI i64 op 7==1||andI i64 op 7==3)
 let x3:=Zih a b x2
 let x4:=x3.1
 let x5:=pOf x4
 let x6:=x5.2
 let x7:=x6.2
 let x8:=x3.2
 let x9:=x8.2
 let x10:=x7.2.2
 let x11:TF:=(x5.1,x6.1,bif chip==2 then pMaj (decide (a>=128)) (decide (b<128)) (decide (x4>=128)) else x7.1,x9.1,x10.1,bif chip==2 then x9.2 else x10.2.1,x8.1)
 let x12:=pSum a b x2
 let x13:=x12.1
 let x14:=pOf x13
 let x15:=x14.2
 let x16:=x15.2
 let x17:=x12.2
 let x18:=x17.2
 let x19:=x16.2.2
 let x20:TF:=(x14.1,x15.1,bif chip==2 then pMaj (decide (a>=128)) (decide (b>=128)) (decide (x13>=128)) else x16.1,x18.1,x19.1,bif chip==2 then x18.2 else x19.2.1,x17.1)
 .br (!x1||Ztu chip (andI i64 op 7) a b) (.br (x1) (.Lf (some (ZEv chip (andI i64 op 7) a b))) (.br (andI i64 op 7 !=0&&andI i64 op 7 !=1) (.br (pOfC x4) (.br (andI i64 op 7==7) (.Lf (some ((a,x11)))) (.Lf (some ((x4,x11))))) (.Lf none)) (.br (pOfC x13) (.br (andI i64 op 7==7) (.Lf (some ((a,x20)))) (.Lf (some ((x13,x20))))) (.Lf none)))) (.Lf none)
def pDo (chip:Int) (op:Int) (a:Int) (b:Int) (f:TF):QT2:=getO ZQS.Df (pDoT chip op a b f).val
def pDoC (chip:Int) (op:Int) (a:Int) (b:Int) (f:TF):Bool:=okB (pDoT chip op a b f).val
def pDoE:En:=Zg ZU7 ZQS (λa=>some (pDoC a.1 a.2.1 a.2.2.1 a.2.2.2.1 a.2.2.2.2)) (λa=>pDo a.1 a.2.1 a.2.2.1 a.2.2.2.1 a.2.2.2.2)
theorem ZXl:Zb prog 292 pDoE:=
 pureP 1048575 [(350,ZQs),(352,ZEM),(355,ZL6),(356,pOfE),(357,ZGR)] [] ZU7 ZQS ⟨ZAj,Zuh,ZL5,Zxs,Zol,Tv⟩ Tryz.func292 Tryz.call292 trivial (t:=λa=>pDoT a.1 a.2.1 a.2.2.1 a.2.2.2.1 a.2.2.2.2)
abbrev Zxo:List Sh:=[Sh.one (R.int i64),Sh.one (R.int u8),Sh.one (R.int u8),Sh.one R.bool,Sh.one R.bool,Sh.one R.bool,Sh.agg rcF7]
abbrev ZnF:Rs:=Rs.one (Sh.agg rcF7)
def ZlT (chip:Int) (v:Int) (r:Int) (half:Bool) (over:Bool) (x:Bool) (f:TF):RT (Option TF):=
 .br (pOfC r) (.Lf (some (((pOf r).1,(pOf r).2.1,bif chip==2 then pMaj (decide (v>=128)) x (decide (r>=128)) else (pOf r).2.2.1,half,(pOf r).2.2.2.2.1,bif chip==2 then over else (pOf r).2.2.2.2.2.1,f.2.2.2.2.2.2)))) (.Lf none)
def ZnG (chip:Int) (v:Int) (r:Int) (half:Bool) (over:Bool) (x:Bool) (f:TF):TF:=getO ZnF.Df (ZlT chip v r half over x f).val
def Zjd (chip:Int) (v:Int) (r:Int) (half:Bool) (over:Bool) (x:Bool) (f:TF):Bool:=okB (ZlT chip v r half over x f).val
def Zs8:En:=Zg Zxo ZnF (λa=>some (Zjd a.1 a.2.1 a.2.2.1 a.2.2.2.1 a.2.2.2.2.1 a.2.2.2.2.2.1 a.2.2.2.2.2.2)) (λa=>ZnG a.1 a.2.1 a.2.2.1 a.2.2.2.1 a.2.2.2.2.1 a.2.2.2.2.2.1 a.2.2.2.2.2.2)
theorem ZqR:Zb prog 351 Zs8:=
 pureP 65535 [(356,pOfE),(357,ZGR)] [] Zxo ZnF ⟨Zxs,Zol,Tv⟩ Tryz.func351 Tryz.call351 trivial (t:=λa=>ZlT a.1 a.2.1 a.2.2.1 a.2.2.2.1 a.2.2.2.2.1 a.2.2.2.2.2.1 a.2.2.2.2.2.2)
abbrev ZMh:List Sh:=[Sh.one (R.int i64),Sh.one (R.int u8),Sh.agg rcF7]
abbrev ZEA:Rs:=Rs.tup [Sh.one (R.int u8),Sh.agg rcF7]
def ZQN (chip:Int) (v:Int) (f:TF):RT (Option (QT2)):=
 .br (Zjd chip v (pSum v 1 false).1 (pSum v 1 false).2.2.1 (pSum v 1 false).2.2.2 false f) (.Lf (some (((pSum v 1 false).1,ZnG chip v (pSum v 1 false).1 (pSum v 1 false).2.2.1 (pSum v 1 false).2.2.2 false f)))) (.Lf none)
def pInr (chip:Int) (v:Int) (f:TF):QT2:=getO ZEA.Df (ZQN chip v f).val
def ZUY (chip:Int) (v:Int) (f:TF):Bool:=okB (ZQN chip v f).val
def pInrE:En:=Zg ZMh ZEA (λa=>some (ZUY a.1 a.2.1 a.2.2)) (λa=>pInr a.1 a.2.1 a.2.2)
theorem ZUX:Zb prog 282 pInrE:=
 pureP 4095 [(350,ZQs),(351,Zs8)] [] ZMh ZEA ⟨ZAj,ZqR,Tv⟩ Tryz.func282 Tryz.call282 trivial (t:=λa=>ZQN a.1 a.2.1 a.2.2)
abbrev ZMK:List Sh:=[Sh.one (R.int i64),Sh.one (R.int u8),Sh.agg rcF7]
abbrev ZEO:Rs:=Rs.tup [Sh.one (R.int u8),Sh.agg rcF7]
def ZQV (chip:Int) (v:Int) (f:TF):RT (Option (QT2)):=
 .br (Zjd chip v (Zih v 1 false).1 (Zih v 1 false).2.2.1 (Zih v 1 false).2.2.2 true f) (.Lf (some (((Zih v 1 false).1,ZnG chip v (Zih v 1 false).1 (Zih v 1 false).2.2.1 (Zih v 1 false).2.2.2 true f)))) (.Lf none)
def pDcr (chip:Int) (v:Int) (f:TF):QT2:=getO ZEO.Df (ZQV chip v f).val
def ZVd (chip:Int) (v:Int) (f:TF):Bool:=okB (ZQV chip v f).val
def pDcrE:En:=Zg ZMK ZEO (λa=>some (ZVd a.1 a.2.1 a.2.2)) (λa=>pDcr a.1 a.2.1 a.2.2)
theorem ZVc:Zb prog 283 pDcrE:=
 pureP 4095 [(351,Zs8),(352,ZEM)] [] ZMK ZEO ⟨ZqR,Zuh,Tv⟩ Tryz.func283 Tryz.call283 trivial (t:=λa=>ZQV a.1 a.2.1 a.2.2)
abbrev ZMe:List Sh:=[Sh.one (R.int i64),Sh.one (R.int u16),Sh.agg rcF7]
abbrev ZMf:Rs:=Rs.tup [Sh.one (R.int u16),Sh.agg rcF7]
def ZUW (chip:Int) (v:Int) (f:TF):RT (QT2):=
 .Lf ((u16.wrap (v+1),f.1,f.2.1,bif chip==2 then v==65535 else f.2.2.1,f.2.2.2))
def pInx (chip:Int) (v:Int) (f:TF):QT2:=(ZUW chip v f).val
def pInxE:En:=Zg ZMe ZMf (λ_=>none) (λa=>pInx a.1 a.2.1 a.2.2)
theorem ZUV:Zb prog 294 pInxE:=
 pureQ 255 [] [] ZMe ZMf trivial Tryz.func294 Tryz.call294 trivial (t:=λa=>ZUW a.1 a.2.1 a.2.2)
abbrev ZMH:List Sh:=[Sh.one (R.int i64),Sh.one (R.int u16),Sh.agg rcF7]
abbrev ZMI:Rs:=Rs.tup [Sh.one (R.int u16),Sh.agg rcF7]
def ZVb (chip:Int) (v:Int) (f:TF):RT (QT2):=
 .Lf ((u16.wrap (v-1),f.1,f.2.1,bif chip==2 then v==0 else f.2.2.1,f.2.2.2))
def pDcx (chip:Int) (v:Int) (f:TF):QT2:=(ZVb chip v f).val
def pDcxE:En:=Zg ZMH ZMI (λ_=>none) (λa=>pDcx a.1 a.2.1 a.2.2)
theorem ZVa:Zb prog 295 pDcxE:=
 pureQ 255 [] [] ZMH ZMI trivial Tryz.func295 Tryz.call295 trivial (t:=λa=>ZVb a.1 a.2.1 a.2.2)
abbrev ZML:List Sh:=[Sh.one (R.int i64),Sh.one (R.int u16),Sh.one (R.int u16),Sh.agg rcF7]
abbrev ZMM:Rs:=Rs.tup [Sh.one (R.int u16),Sh.agg rcF7]
def ZVf (chip:Int) (a:Int) (b:Int) (f:TF):RT (QT2):=
 .Lf ((u16.wrap (a+b),f.1,f.2.1,f.2.2.1,f.2.2.2.1,f.2.2.2.2.1,bif chip==2 then andI u16 (andI u16 (xorI u16 a (u16.wrap (a+b))) (xorI u16 b (u16.wrap (a+b)))) 32768 !=0 else f.2.2.2.2.2.1,decide (u16.wrap (a+b)<a)))
def pDad (chip:Int) (a:Int) (b:Int) (f:TF):QT2:=(ZVf chip a b f).val
def pDadE:En:=Zg ZML ZMM (λ_=>none) (λa=>pDad a.1 a.2.1 a.2.2.1 a.2.2.2)
theorem ZVe:Zb prog 296 pDadE:=
 pureQ 2047 [] [] ZML ZMM trivial Tryz.func296 Tryz.call296 trivial (t:=λa=>ZVf a.1 a.2.1 a.2.2.1 a.2.2.2)
abbrev ZBA:List Sh:=[Sh.one (R.int u16),Sh.one (R.int u16)]
abbrev Zug:Rs:=Rs.tup [Sh.one (R.int u16),Sh.agg rcF7]
def ZEL (a:Int) (b:Int):RT (Option (QT2)):=
 let x1:=Zih (u8.wrap (shrI u16 a 8)) (u8.wrap (shrI u16 b 8)) (Zih (u8.wrap a) (u8.wrap b) false).2.1
 let x2:=x1.1
 let x3:=pOf x2
 let x4:=x1.2
 let x5:=x4.2
 .br (pOfC x2) (.Lf (some ((ZMd x2 (Zih (u8.wrap a) (u8.wrap b) false).1,x3.1,x2==0&&(Zih (u8.wrap a) (u8.wrap b) false).1==0,pMaj (decide (a>=32768)) (decide (b<32768)) (decide (x2>=128)),x5.1,x3.2.2.2.2.1,x5.2,x4.1)))) (.Lf none)
def ZU6 (a:Int) (b:Int):QT2:=getO Zug.Df (ZEL a b).val
def ZMC (a:Int) (b:Int):Bool:=okB (ZEL a b).val
def ZXk:En:=Zg ZBA Zug (λa=>some (ZMC a.1 a.2)) (λa=>ZU6 a.1 a.2)
theorem ZQR:Zb prog 301 ZXk:=
 pureP 32767 [(220,ZEz),(352,ZEM),(356,pOfE),(357,ZGR)] [] ZBA Zug ⟨ZlW,Zuh,Zxs,Zol,Tv⟩ Tryz.func301 Tryz.call301 trivial (t:=λa=>ZEL a.1 a.2)
abbrev ZMO:List Sh:=[Sh.one (R.int i64),Sh.one (R.int u8),Sh.agg rcF7]
abbrev ZER:Rs:=Rs.tup [Sh.one (R.int u8),Sh.agg rcF7]
def ZQX (chip:Int) (a:Int) (f:TF):RT (Option (QT2)):=
 let x1:Int:=bif f.2.2.2.1||decide (andI u8 a 15>9) then 6 else 0
 let x2:=pSum a (bif f.2.2.2.2.2.2||decide (a>153) then u8.wrap (x1+96) else x1) false
 let x3:=x2.1
 let x4:=pOf x3
 let x5:=x4.2
 let x6:=x5.2
 let x7:=x2.2.2
 let x8:=x6.2.2
 .br (pOfC x3) (.Lf (some ((x3,x4.1,x5.1,bif chip==2 then pMaj (decide (a>=128)) false (decide (x3>=128)) else x6.1,x7.1,x8.1,bif chip==2 then x7.2 else x8.2.1,f.2.2.2.2.2.2||decide (a>153))))) (.Lf none)
def pDaa (chip:Int) (a:Int) (f:TF):QT2:=getO ZER.Df (ZQX chip a f).val
def ZVh (chip:Int) (a:Int) (f:TF):Bool:=okB (ZQX chip a f).val
def pDaaE:En:=Zg ZMO ZER (λa=>some (ZVh a.1 a.2.1 a.2.2)) (λa=>pDaa a.1 a.2.1 a.2.2)
theorem ZVg:Zb prog 297 pDaaE:=
 pureP 32767 [(350,ZQs),(356,pOfE),(357,ZGR)] [] ZMO ZER ⟨ZAj,Zxs,Zol,Tv⟩ Tryz.func297 Tryz.call297 trivial (t:=λa=>ZQX a.1 a.2.1 a.2.2)
abbrev ZSI:List Sh:=[Sh.one R.bool]
abbrev ZSJ:Rs:=Rs.one (Sh.one (R.int u8))
def ZXi (c:Bool):RT (Int):=
 .br (c) (.Lf (1)) (.Lf (0))
def pLow (c:Bool):Int:=(ZXi c).val
def ZGS:En:=Zg ZSI ZSJ (λ_=>none) (λa=>pLow a)
theorem ZBh:Zb prog 361 ZGS:=
 pureQ 7 [] [] ZSI ZSJ trivial Tryz.func361 Tryz.call361 trivial (t:=λa=>ZXi a)
def ZgW:En:=.tree (Zr (envX prog [] [] 7 8) Tryz.f358)
theorem ZkK:Zb prog 358 ZgW:=ZL (P:=prog) (n:=7) (k:=8) (l:=[]) (ol:=[]) trivial Tryz.func358 rfl (by kernel_rfl) Tryz.call358 trivial
def ZgV:En:=.tree (Zr (envX prog [] [] 7 8) Tryz.f359)
theorem ZkJ:Zb prog 359 ZgV:=ZL (P:=prog) (n:=7) (k:=8) (l:=[]) (ol:=[]) trivial Tryz.func359 rfl (by kernel_rfl) Tryz.call359 trivial
def ZgU:En:=.tree (Zr (envX prog [(361,ZGS)] [] 15 8) Tryz.f360)
theorem ZkI:Zb prog 360 ZgU:=ZL (P:=prog) (n:=15) (k:=8) (l:=[(361,ZGS)]) (ol:=[]) ⟨ZBh,Tv⟩ Tryz.func360 rfl (by kernel_rfl) Tryz.call360 trivial
def ZgT:En:=.tree (Zr (envX prog [(361,ZGS)] [] 15 8) Tryz.f362)
theorem ZkH:Zb prog 362 ZgT:=ZL (P:=prog) (n:=15) (k:=8) (l:=[(361,ZGS)]) (ol:=[]) ⟨ZBh,Tv⟩ Tryz.func362 rfl (by kernel_rfl) Tryz.call362 trivial
abbrev ZLx:List Sh:=[Sh.one (R.int i64),Sh.one (R.int u8),Sh.one R.bool]
abbrev ZEm:Rs:=Rs.tup [Sh.one (R.int u8),Sh.one R.bool]
def ZQx (op:Int) (a:Int) (c:Bool):RT (Option (Int×Bool)):=
 .br (andI i64 op 3==0||(andI i64 op 3== ↑(0+1)||(andI i64 op 3== ↑(0+1+1)||andI i64 op 3== ↑(0+1+1+1)))) (.Lf (some ((bif andI i64 op 3==0 then orI u8 (shlI u8 a 1) (shrI u8 a 7) else bif andI i64 op 3== ↑(0+1) then orI u8 (shrI u8 a 1) (shlI u8 a 7) else bif andI i64 op 3== ↑(0+1+1) then orI u8 (shlI u8 a 1) (pLow c) else orI u8 (shrI u8 a 1) (shlI u8 (pLow c) 7),bif andI i64 op 3==0 then decide (a>=128) else bif andI i64 op 3== ↑(0+1) then andI u8 a 1==1 else bif andI i64 op 3== ↑(0+1+1) then decide (a>=128) else andI u8 a 1==1)))) (.Lf none)
def pRot (op:Int) (a:Int) (c:Bool):Int×Bool:=getO ZEm.Df (ZQx op a c).val
def ZUE (op:Int) (a:Int) (c:Bool):Bool:=okB (ZQx op a c).val
def pRotE:En:=Zg ZLx ZEm (λa=>some (ZUE a.1 a.2.1 a.2.2)) (λa=>pRot a.1 a.2.1 a.2.2)
theorem ZUD:Zb prog 298 pRotE:=
 pureP 511 [(358,ZgW),(359,ZgV),(360,ZgU),(362,ZgT)] [] ZLx ZEm ⟨ZkK,ZkJ,ZkI,ZkH,Tv⟩ Tryz.func298 Tryz.call298 trivial (t:=λa=>ZQx a.1 a.2.1 a.2.2)
abbrev ZBD:List Sh:=[Sh.one (R.int u16)]
abbrev ZBE:Rs:=Rs.tup [Sh.one (R.int u16),Sh.one R.bool]
def ZSP (v:Int):RT (Int×Bool):=
 .Lf ((orI u16 (shrI u16 v 1) (andI u16 v 32768),andI u16 v 1==1))
def ZXo (v:Int):Int×Bool:=(ZSP v).val
def ZXn:En:=Zg ZBD ZBE (λ_=>none) (λa=>ZXo a)
theorem ZQ0:Zb prog 302 ZXn:=
 pureQ 15 [] [] ZBD ZBE trivial Tryz.func302 Tryz.call302 trivial (t:=λa=>ZSP a)
abbrev ZAt:List Sh:=[Sh.one (R.int u16),Sh.one R.bool]
abbrev ZAu:Rs:=Rs.tup [Sh.one (R.int u16),Sh.one R.bool,Sh.one R.bool]
def ZLH (v:Int) (c:Bool):RT (Int×Bool×Bool):=
 .Lf ((orI u16 (shlI u16 v 1) (u16.wrap (pLow c)),decide (v>=32768),andI u16 (xorI u16 (orI u16 (shlI u16 v 1) (u16.wrap (pLow c))) v) 32768 !=0))
def ZUK (v:Int) (c:Bool):Int×Bool×Bool:=(ZLH v c).val
def ZXc:En:=Zg ZAt ZAu (λ_=>none) (λa=>ZUK a.1 a.2)
theorem ZQB:Zb prog 303 ZXc:=
 pureQ 127 [(361,ZGS)] [] ZAt ZAu ⟨ZBh,Tv⟩ Tryz.func303 Tryz.call303 trivial (t:=λa=>ZLH a.1 a.2)
abbrev ZLw:List Sh:=[Sh.one R.bool,Sh.one (R.int i64)]
abbrev ZAp:Rs:=Rs.one (Sh.one (R.int u8))
def ZEl (b:Bool) (n:Int):RT (Option (Int)):=
 .br (!b||decide (0<=n)) (.br (b) (.Lf (some (shlI u8 1 n))) (.Lf (some (0)))) (.Lf none)
def Zxn (b:Bool) (n:Int):Int:=getO ZAp.Df (ZEl b n).val
def Zc9 (b:Bool) (n:Int):Bool:=okB (ZEl b n).val
def ZSA:En:=Zg ZLw ZAp (λa=>some (Zc9 a.1 a.2)) (λa=>Zxn a.1 a.2)
theorem ZQw:Zb prog 300 ZSA:=
 pureP 31 [] [] ZLw ZAp trivial Tryz.func300 Tryz.call300 trivial (t:=λa=>ZEl a.1 a.2)
abbrev ZLz:List Sh:=[Sh.agg ZY,Sh.agg (R.Pq R.bool (R.Pq R.bool rcF7))]
abbrev ZEn:Rs:=Rs.tup [Sh.one (R.int u8),Sh.agg ZY]
def ZQz (c:TC) (l:QT1):RT (Option (Int×TC)):=
 let x1:=bif c.2.2.2.2.2.2.2.2.2.2.1 then c.2.2.2.2.2.2.2.2.2.2.2.1 else c.2.2.1
 .br (!Zc9 l.2.2.2.1 7||(!Zc9 c.2.2.2.2.2.2.2.1 6||(!Zc9 l.2.2.2.2.2.2.1 5||(!Zc9 l.2.2.2.2.2.2.2.1 4||Zc9 x1 3)))) (.br (!Zc9 l.2.2.2.1 7||(!Zc9 c.2.2.2.2.2.2.2.1 6||(!Zc9 l.2.2.2.2.2.2.1 5||Zc9 l.2.2.2.2.2.2.2.1 4))) (.br (!Zc9 l.2.2.2.1 7||(!Zc9 c.2.2.2.2.2.2.2.1 6||Zc9 l.2.2.2.2.2.2.1 5)) (.br (!Zc9 l.2.2.2.1 7||Zc9 c.2.2.2.2.2.2.2.1 6) (.br (Zc9 l.2.2.2.1 7) (.Lf (some ((orI u8 (orI u8 (orI u8 (orI u8 (orI u8 (Zxn l.2.2.2.1 7) (Zxn c.2.2.2.2.2.2.2.1 6)) (Zxn l.2.2.2.2.2.2.1 5)) (Zxn l.2.2.2.2.2.2.2.1 4)) (Zxn x1 3)) (andI u8 c.2.2.2.2.2.1 7),c.1,c.2.1,c.2.2.1,c.2.2.2.1,c.2.2.2.2.1,c.2.2.2.2.2.1,c.2.2.2.2.2.2.1,c.2.2.2.2.2.2.2.1,c.2.2.2.2.2.2.2.2.1,c.2.2.2.2.2.2.2.2.2.1,false,false,c.2.2.2.2.2.2.2.2.2.2.2.2)))) (.Lf none)) (.Lf none)) (.Lf none)) (.Lf none)) (.Lf none)
def pRim (c:TC) (l:QT1):Int×TC:=getO ZEn.Df (ZQz c l).val
def ZUG (c:TC) (l:QT1):Bool:=okB (ZQz c l).val
def pRimE:En:=Zg ZLz ZEn (λa=>some (ZUG a.1 a.2)) (λa=>pRim a.1 a.2)
theorem ZUF:Zb prog 231 pRimE:=
 pureP 255 [(300,ZSA)] [] ZLz ZEn ⟨ZQw,Tv⟩ Tryz.func231 Tryz.call231 trivial (t:=λa=>ZQz a.1 a.2)
abbrev ZLo:List Sh:=[Sh.agg ZY,Sh.one (R.int u8)]
abbrev ZLp:Rs:=Rs.one (Sh.agg ZY)
def ZUB (c:TC) (a:Int):RT TC:=
 .Lf ((c.1,c.2.1,c.2.2.1,c.2.2.2.1,c.2.2.2.2.1,bif andI u8 a 8 !=0 then andI u8 a 7 else c.2.2.2.2.2.1,c.2.2.2.2.2.2.1,!andI u8 a 16 !=0&&c.2.2.2.2.2.2.2.1,c.2.2.2.2.2.2.2.2.1,c.2.2.2.2.2.2.2.2.2.1,c.2.2.2.2.2.2.2.2.2.2.1,c.2.2.2.2.2.2.2.2.2.2.2.1,bif andI u8 a 64 !=0 then andI u8 a 128 !=0 else c.2.2.2.2.2.2.2.2.2.2.2.2))
def pSim (c:TC) (a:Int):TC:=(ZUB c a).val
def pSimE:En:=Zg ZLo ZLp (λ_=>none) (λa=>pSim a.1 a.2)
theorem ZUA:Zb prog 232 pSimE:=
 pureQ 31 [] [] ZLo ZLp trivial Tryz.func232 Tryz.call232 trivial (t:=λa=>ZUB a.1 a.2)
abbrev Ztz:List Sh:=[Sh.one (R.int i64),Sh.agg rcF7]
abbrev ZtA:Rs:=Rs.one (Sh.one R.bool)
def ZBn (c:Int) (f:TF):RT (Bool):=
 .br (bif c==0 then c==0 else c==1) (.Lf (f.2.1==(c==1))) (.br (bif c==2 then c==2 else c==3) (.Lf (f.2.2.2.2.2.2==(c==3))) (.br (bif c==4 then c==4 else c==5) (.Lf (f.2.2.2.2.1==(c==5))) (.br (bif c==6 then c==6 else c==7) (.Lf (f.1==(c==7))) (.br (bif c==8 then c==8 else c==9) (.Lf (f.2.2.1==(c==9))) (.br (c==10) (.Lf f.2.2.2.2.2.1) (.Lf (c==11)))))))
def ZMm (c:Int) (f:TF):Bool:=(ZBn c f).val
def ZUZ:En:=Zg Ztz ZtA (λ_=>none) (λa=>ZMm a.1 a.2)
theorem ZMl:Zb prog 353 ZUZ:=
 pureQ 70644700037215 [] [] Ztz ZtA trivial Tryz.func353 Tryz.call353 trivial (t:=λa=>ZBn a.1 a.2)
abbrev Znu:List Sh:=[Sh.one (R.int i64)]
abbrev Znv:Rs:=Rs.one (Sh.one (R.int u16))
def Zs0 (s:Int):RT (Int):=
 .br (s==1) (.Lf (36)) (.br (s==2) (.Lf (60)) (.br (s==3) (.Lf (52)) (.br (s==4) (.Lf (44)) (.Lf (0)))))
def ZAh (s:Int):Int:=(Zs0 s).val
def ZQq:En:=Zg Znu Znv (λ_=>none) (λa=>ZAh a)
theorem ZGB:Zb prog 155 ZQq:=
 pureQ 1367 [] [] Znu Znv trivial Tryz.func155 Tryz.call155 trivial (t:=λa=>Zs0 a)
abbrev ZEw:List Sh:=[Sh.one (R.int u8)]
abbrev ZEx:Rs:=Rs.tup [Sh.agg (R.Pq (R.int i64) (R.Pq (R.int i64) (R.Pq (R.int i64) (R.Pq (R.int i64) (R.Pq (R.int i64) (R.Pq (R.int i64) (R.Pq (R.int i64) (R.int i64)))))))),Sh.one R.bool]
def ZL8 (op:Int):RT (TI×Bool):=
 .br (op==8) (.Lf (((40,1,0,0,0,0,0,0),true))) (.br (op==16) (.Lf (((41,1,0,0,0,0,0,0),true))) (.br (op==24) (.Lf (((42,1,0,0,0,0,0,0),true))) (.br (op==32) (.Lf (((38,1,0,0,0,0,0,0),true))) (.br (op==40) (.Lf (((43,2,0,0,0,0,0,0),true))) (.br (op==48) (.Lf (((39,1,0,0,0,0,0,0),true))) (.br (op==56) (.Lf (((44,2,0,0,0,0,0,0),true))) (.br (op==203) (.Lf (((45,1,0,0,0,0,10,0),true))) (.br (op==217) (.Lf (((46,1,0,0,0,0,0,0),true))) (.br (op==221) (.Lf (((24,3,0,0,0,0,8,0),true))) (.br (op==237) (.Lf (((47,1,0,0,0,0,0,0),true))) (.br (op==253) (.Lf (((24,3,0,0,0,0,9,0),true))) (.Lf (((0,0,0,0,0,0,0,0),false))))))))))))))
def ZMa (op:Int):TI×Bool:=(ZL8 op).val
def ZL9:En:=Zg ZEw ZEx (λ_=>none) (λa=>ZMa a)
theorem ZL7:Zb prog 223 ZL9:=
 pureQ 314146179375 [] [] ZEw ZEx trivial Tryz.func223 Tryz.call223 trivial (t:=λa=>ZL8 a)
abbrev ZqW:List Sh:=[Sh.one (R.int u8)]
abbrev ZqX:Rs:=Rs.tup [Sh.agg (R.Pq (R.int i64) (R.Pq (R.int i64) (R.Pq (R.int i64) (R.Pq (R.int i64) (R.Pq (R.int i64) (R.Pq (R.int i64) (R.Pq (R.int i64) (R.int i64)))))))),Sh.one R.bool]
def Zxx (op:Int):RT (TI×Bool):=
 .br (bif op==0 then op==0 else bif op==8 then op==8 else bif op==16 then op==16 else bif op==24 then op==24 else bif op==32 then op==32 else bif op==40 then op==40 else bif op==48 then op==48 else op==56) (.Lf (((1,1,0,0,0,0,0,0),true))) (.br (bif op==195 then op==195 else op==203) (.Lf (((24,3,0,0,0,0,11,0),true))) (.br (bif op==201 then op==201 else op==217) (.Lf (((26,1,0,0,0,0,11,0),true))) (.br (bif op==205 then op==205 else bif op==221 then op==221 else bif op==237 then op==237 else op==253) (.Lf (((25,3,0,0,0,0,11,0),true))) (.Lf (((0,0,0,0,0,0,0,0),false))))))
def Zjf (op:Int):TI×Bool:=(Zxx op).val
def Zxy:En:=Zg ZqW ZqX (λ_=>none) (λa=>Zjf a)
theorem ZBz:Zb prog 224 Zxy:=
 pureQ 8945711 [] [] ZqW ZqX trivial Tryz.func224 Tryz.call224 trivial (t:=λa=>Zxx a)
abbrev ZLV:List Sh:=[Sh.one (R.int u8)]
abbrev ZAB:Rs:=Rs.one (Sh.agg (R.Pq (R.int i64) (R.Pq (R.int i64) (R.Pq (R.int i64) (R.Pq (R.int i64) (R.Pq (R.int i64) (R.Pq (R.int i64) (R.Pq (R.int i64) (R.int i64)))))))))
def ZLW (op:Int):RT (Option TI):=
 let x1:QT31:=(0,0,i64.wrap (andI u8 (shrI u8 op 4) 3),0,0,0)
 let x2:QT25:=(1,x1)
 let x3:=decide (i64.wrap (andI u8 (shrI u8 op 3) 7)<4)&&andI u8 op 8 !=0
 let x4:=decide (0<=i64.wrap (i64.wrap (andI u8 (shrI u8 op 3) 7)-4)/\i64.wrap (i64.wrap (andI u8 (shrI u8 op 3) 7)-4)<4)
 let x5:=i64.wrap (i64.wrap (andI u8 (shrI u8 op 3) 7)-4)==0
 let x6:=i64.wrap (i64.wrap (andI u8 (shrI u8 op 3) 7)-4)== ↑(0+1)
 let x7:=i64.wrap (i64.wrap (andI u8 (shrI u8 op 3) 7)-4)== ↑(0+1+1)
 let x8:QT31:=(i64.wrap (andI u8 (shrI u8 op 3) 7),0,0,0,0,0)
 let x9:QT25:=(1,x8)
 .br (andI u8 op 7==1) (.br (andI u8 op 8 !=0) (.Lf (some ((18,x2)))) (.Lf (some ((4,3,x1))))) (.br (!andI u8 op 7==2||(x3||(decide (i64.wrap (andI u8 (shrI u8 op 3) 7)<4)||x4))) (.br (andI u8 op 7==2) (.br (x3) (.Lf (some ((9,x2)))) (.br (decide (i64.wrap (andI u8 (shrI u8 op 3) 7)<4)) (.Lf (some ((10,x2)))) (.Lf (some ((bif x5 then 8 else bif x6 then 7 else bif x7 then 6 else 5,3,0,0,0,0,0,0)))))) (.br (andI u8 op 7==3) (.br (andI u8 op 8 !=0) (.Lf (some ((17,x2)))) (.Lf (some ((16,x2))))) (.br (andI u8 op 7==4) (.Lf (some ((14,x9)))) (.br (andI u8 op 7==5) (.Lf (some ((15,x9)))) (.br (andI u8 op 7==6) (.Lf (some ((3,2,x8)))) (.br (decide (i64.wrap (andI u8 (shrI u8 op 3) 7)<4)) (.Lf (some ((23,1,0,0,0,i64.wrap (andI u8 (shrI u8 op 3) 7),0,0)))) (.br (x4) (.Lf (some ((bif x5 then 19 else bif x6 then 20 else bif x7 then 21 else 22,1,0,0,0,0,0,0)))) (.Lf none)))))))) (.Lf none))
def ZUQ (op:Int):QT6:=getO ZAB.Df (ZLW op).val
def ZLX (op:Int):Bool:=okB (ZLW op).val
def ZSF:En:=Zg ZLV ZAB (λa=>some (ZLX a)) (λa=>ZUQ a)
theorem ZQJ:Zb prog 225 ZSF:=
 pureP 614758941389750335 [] [] ZLV ZAB trivial Tryz.func225 Tryz.call225 trivial (t:=λa=>ZLW a)
abbrev ZEr:List Sh:=[Sh.one (R.int u8)]
abbrev Zti:Rs:=Rs.one (Sh.agg (R.Pq (R.int i64) (R.Pq (R.int i64) (R.Pq (R.int i64) (R.Pq (R.int i64) (R.Pq (R.int i64) (R.Pq (R.int i64) (R.Pq (R.int i64) (R.int i64)))))))))
def ZAC (op:Int):RT (Option TI):=
 let x1:QT31:=(0,0,0,0,i64.wrap (andI u8 (shrI u8 op 3) 7),0)
 let x2:QT25:=(1,0,0,i64.wrap (andI u8 (shrI u8 op 4) 3),0,0,0)
 let x3:=andI u8 op 7==2||(!andI u8 op 7==3||(!decide (i64.wrap (andI u8 (shrI u8 op 3) 7)<4)||decide (0<=i64.wrap (i64.wrap (andI u8 (shrI u8 op 3) 7)-2)/\i64.wrap (i64.wrap (andI u8 (shrI u8 op 3) 7)-2)<2)))
 let x4:QT25:=(3,x1)
 .br (andI u8 op 7==0) (.Lf (some ((26,1,x1)))) (.br (andI u8 op 7==1) (.br (!andI u8 op 8 !=0) (.Lf (some ((31,x2)))) (.br (i64.wrap (andI u8 (shrI u8 op 3) 7)==5) (.Lf (some ((28,1,0,0,0,0,0,0)))) (.Lf (some ((29,1,0,0,0,0,0,0)))))) (.br (!x3||(andI u8 op 7==2||(!andI u8 op 7==3||(decide (i64.wrap (andI u8 (shrI u8 op 3) 7)<4)||decide (0<=i64.wrap (i64.wrap (andI u8 (shrI u8 op 3) 7)-4)/\i64.wrap (i64.wrap (andI u8 (shrI u8 op 3) 7)-4)<4))))) (.br (x3) (.br (andI u8 op 7==2) (.Lf (some ((24,x4)))) (.br (andI u8 op 7==3) (.br (decide (i64.wrap (andI u8 (shrI u8 op 3) 7)<4)) (.Lf (some ((bif i64.wrap (i64.wrap (andI u8 (shrI u8 op 3) 7)-2)==0 then 34 else 33,2,0,0,0,0,0,0)))) (.Lf (some ((bif i64.wrap (i64.wrap (andI u8 (shrI u8 op 3) 7)-4)==0 then 32 else bif i64.wrap (i64.wrap (andI u8 (shrI u8 op 3) 7)-4)== ↑(0+1) then 11 else bif i64.wrap (i64.wrap (andI u8 (shrI u8 op 3) 7)-4)== ↑(0+1+1) then 36 else 35,1,0,0,0,0,0,0))))) (.br (andI u8 op 7==4) (.Lf (some ((25,x4)))) (.br (andI u8 op 7==5) (.Lf (some ((30,x2)))) (.br (andI u8 op 7==6) (.Lf (some ((13,2,0,0,0,i64.wrap (andI u8 (shrI u8 op 3) 7),0,0)))) (.Lf (some ((27,1,0,0,0,0,0,i64.wrap (andI u8 (shrI u8 op 3) 7)))))))))) (.Lf none)) (.Lf none)))
def ZL0 (op:Int):QT6:=getO Zti.Df (ZAC op).val
def ZAD (op:Int):Bool:=okB (ZAC op).val
def ZLZ:En:=Zg ZEr Zti (λa=>some (ZAD a)) (λa=>ZL0 a)
theorem ZLY:Zb prog 226 ZLZ:=
 pureP 614741495173873727 [] [] ZEr Zti trivial Tryz.func226 Tryz.call226 trivial (t:=λa=>ZAC a)
abbrev Zjg:List Sh:=[Sh.one (R.int i64),Sh.one (R.int u8)]
abbrev Zjh:Rs:=Rs.one (Sh.agg (R.Pq (R.int i64) (R.Pq (R.int i64) (R.Pq (R.int i64) (R.Pq (R.int i64) (R.Pq (R.int i64) (R.Pq (R.int i64) (R.Pq (R.int i64) (R.int i64)))))))))
def ZfL (chip:Int) (op:Int):RT (Option TI):=
 let x1:QT6:=(37,1,0,0,0,0,0,0)
 let x2:QT6:=(2,1,i64.wrap (andI u8 (shrI u8 op 3) 7),i64.wrap (andI u8 op 7),0,0,0,0)
 let x3:QT6:=(12,1,0,i64.wrap (andI u8 op 7),0,i64.wrap (andI u8 (shrI u8 op 3) 7),0,0)
 .br (chip==2) (.br (ZMa op).2 (.Lf (some (ZMa op).1)) (.br (Zjf op).2 (.Lf (some (Zjf op).1)) (.br (!shrI u8 op 6==0||ZLX op) (.br (shrI u8 op 6==0) (.Lf (some (ZUQ op))) (.br (shrI u8 op 6==1) (.br (op==118) (.Lf (some (x1))) (.Lf (some (x2)))) (.br (shrI u8 op 6==2) (.Lf (some (x3))) (.br (ZAD op) (.Lf (some (ZL0 op))) (.Lf none))))) (.Lf none)))) (.br (Zjf op).2 (.Lf (some (Zjf op).1)) (.br (!shrI u8 op 6==0||ZLX op) (.br (shrI u8 op 6==0) (.Lf (some (ZUQ op))) (.br (shrI u8 op 6==1) (.br (op==118) (.Lf (some (x1))) (.Lf (some (x2)))) (.br (shrI u8 op 6==2) (.Lf (some (x3))) (.br (ZAD op) (.Lf (some (ZL0 op))) (.Lf none))))) (.Lf none)))
def Zot (chip:Int) (op:Int):QT6:=getO Zjh.Df (ZfL chip op).val
def ZlX (chip:Int) (op:Int):Bool:=okB (ZfL chip op).val
def ZQT:En:=Zg Zjg Zjh (λa=>some (ZlX a.1 a.2)) (λa=>Zot a.1 a.2)
theorem ZHA:Zb prog 154 ZQT:=
 pureP 17594467746303 [(223,ZL9),(224,Zxy),(225,ZSF),(226,ZLZ)] [] Zjg Zjh ⟨ZL7,ZBz,ZQJ,ZLY,Tv⟩ Tryz.func154 Tryz.call154 trivial (t:=λa=>ZfL a.1 a.2)
def rOnT (chip:Int):RT (Bool):=
 .Lf (chip==2)
def rOn (chip:Int):Bool:=(rOnT chip).val
def ZP0 (b:Int):RT (Bool):=
 let x1:=i64.wrap (i64.wrap (i64.wrap (i64.wrap (0+1)+1)+1)+1)
 let x2:=i64.wrap (x1+1)
 let x3:=i64.wrap (x2+1)
 let x4:=bif andI u8 (shrI u8 b (i64.wrap (0+1))) 1==1 then !!andI u8 (shrI u8 b 0) 1==1 else !andI u8 (shrI u8 b 0) 1==1
 let x5:=bif andI u8 (shrI u8 b (i64.wrap (i64.wrap (0+1)+1))) 1==1 then !x4 else x4
 let x6:=bif andI u8 (shrI u8 b (i64.wrap (i64.wrap (i64.wrap (0+1)+1)+1))) 1==1 then !x5 else x5
 let x7:=bif andI u8 (shrI u8 b x1) 1==1 then !x6 else x6
 let x8:=bif andI u8 (shrI u8 b x2) 1==1 then !x7 else x7
 let x9:=bif andI u8 (shrI u8 b x3) 1==1 then !x8 else x8
 .Lf (bif andI u8 (shrI u8 b (i64.wrap (x3+1))) 1==1 then !x9 else x9)
def Zsr (b:Int):Bool:=(ZP0 b).val
def rMajT (a:Bool) (b:Bool) (c:Bool):RT (Bool):=
 .Lf (bif a then b||bif a then c||b&&c else b&&c else bif a then c||b&&c else b&&c)
def rMaj (a:Bool) (b:Bool) (c:Bool):Bool:=(rMajT a b c).val
def rOneT (b:Bool):RT (Int):=
 .br (b) (.Lf (1)) (.Lf (0))
def rOne (b:Bool):Int:=(rOneT b).val
def Zsl (n:Int):RT (Int):=
 .Lf (i64.wrap (IntKind.i8.wrap n))
def Ze2 (n:Int):Int:=(Zsl n).val
def ZT7 (a:Int) (b:Int) (c:Bool):RT (QT21):=
 let x1:=decide (i64.wrap (i64.wrap (Ze2 a+Ze2 b)+rOne c)< -128)
 let x2:=i64.wrap (i64.wrap (i64.wrap a+i64.wrap b)+rOne c)
 let x3:=u8.wrap x2
 let x4:=decide (x2>255)
 let x5:=decide (i64.wrap (i64.wrap (i64.wrap (andI u8 a 15)+i64.wrap (andI u8 b 15))+rOne c)>15)
 .Lf ((bif x1 then x3 else x3,bif x1 then x4 else x4,bif x1 then x5 else x5,x1||decide (i64.wrap (i64.wrap (Ze2 a+Ze2 b)+rOne c)>127)))
def rSum (a:Int) (b:Int) (c:Bool):QT21:=(ZT7 a b c).val
def ZKx (a:Int) (b:Int) (c:Bool):RT (QT21):=
 let x1:=decide (i64.wrap (i64.wrap (Ze2 a-Ze2 b)-rOne c)< -128)
 let x2:=i64.wrap (i64.wrap (i64.wrap a-i64.wrap b)-rOne c)
 let x3:=u8.wrap x2
 let x4:=decide (x2<0)
 let x5:=decide (i64.wrap (i64.wrap (i64.wrap (i64.wrap (andI u8 a 15)+i64.wrap (u8.wrap (15-andI u8 b 15)))+1)-rOne c)>15)
 .Lf ((bif x1 then x3 else x3,bif x1 then x4 else x4,bif x1 then x5 else x5,x1||decide (i64.wrap (i64.wrap (Ze2 a-Ze2 b)-rOne c)>127)))
def Zc6 (a:Int) (b:Int) (c:Bool):QT21:=(ZKx a b c).val
def ZWP (h:Int) (l:Int):RT (Int):=
 .Lf (orI u16 (shlI u16 (u16.wrap h) 8) (u16.wrap l))
def ZfI (h:Int) (l:Int):Int:=(ZWP h l).val
abbrev ZWZ:Rs:=Rs.one (Sh.one (R.int u8))
def ZUl (b:Bool) (n:Int):RT (Option (Int)):=
 .br (!b||decide (0<=n)) (.br (b) (.Lf (some (shlI u8 1 n))) (.Lf (some (0)))) (.Lf none)
def rBit (b:Bool) (n:Int):Int:=getO ZWZ.Df (ZUl b n).val
def Zej (b:Bool) (n:Int):Bool:=okB (ZUl b n).val
abbrev ZUe:Rs:=Rs.one (Sh.one (R.int u8))
def ZDA (chip:Int) (f:TF):RT (Option (Int)):=
 let x1:=orI u8 (orI u8 (orI u8 (orI u8 (rBit f.1 7) (rBit f.2.1 6)) (rBit f.2.2.2.1 4)) (rBit f.2.2.2.2.1 2)) (rBit f.2.2.2.2.2.2 0)
 .br (!Zej f.1 7||(!Zej f.2.1 6||(!Zej f.2.2.2.1 4||(!Zej f.2.2.2.2.1 2||Zej f.2.2.2.2.2.2 0)))) (.br (!Zej f.1 7||(!Zej f.2.1 6||(!Zej f.2.2.2.1 4||Zej f.2.2.2.2.1 2))) (.br (!Zej f.1 7||(!Zej f.2.1 6||Zej f.2.2.2.1 4)) (.br (!Zej f.1 7||Zej f.2.1 6) (.br (Zej f.1 7) (.br (!rOn chip||(!Zej f.2.2.1 5||Zej f.2.2.2.2.2.1 1)) (.br (!rOn chip||Zej f.2.2.1 5) (.br (rOn chip) (.Lf (some (orI u8 (orI u8 x1 (rBit f.2.2.1 5)) (rBit f.2.2.2.2.2.1 1)))) (.Lf (some (orI u8 x1 2)))) (.Lf none)) (.Lf none)) (.Lf none)) (.Lf none)) (.Lf none)) (.Lf none)) (.Lf none)
def ZUf (chip:Int) (f:TF):Int:=getO ZUe.Df (ZDA chip f).val
def ZKl (chip:Int) (f:TF):Bool:=okB (ZDA chip f).val
def ZDm (chip:Int) (b:Int):RT TF:=
 .Lf ((andI u8 b 128 !=0,andI u8 b 64 !=0,rOn chip&&andI u8 b 32 !=0,andI u8 b 16 !=0,andI u8 b 4 !=0,rOn chip&&andI u8 b 2 !=0,andI u8 b 1 !=0))
def ZzE (chip:Int) (b:Int):TF:=(ZDm chip b).val
def rOfT (r:Int):RT TF:=
 .Lf ((decide (r>=128),r==0,false,false,Zsr r,false,false))
def rOf (r:Int):TF:=(rOfT r).val
def Zv8 (chip:Int) (f:TF) (k:Bool) (v:Bool):RT TF:=
 .Lf ((f.1,f.2.1,rOn chip&&bif rOn chip then k else k,f.2.2.2.1,f.2.2.2.2.1,bif rOn chip then rOn chip&&v else rOn chip&&v,f.2.2.2.2.2.2))
def Zss (chip:Int) (f:TF) (k:Bool) (v:Bool):TF:=(Zv8 chip f k v).val
abbrev ZWS:Rs:=Rs.one (Sh.one (R.int u8))
def ZP4 (r:TR) (n:Int):RT (Option (Int)):=
 .br (decide (0<=andI i64 n 7/\andI i64 n 7<8)) (.Lf (some (bif andI i64 n 7==0 then r.2.1 else bif andI i64 n 7== ↑(0+1) then r.2.2.1 else bif andI i64 n 7== ↑(0+1+1) then r.2.2.2.1 else bif andI i64 n 7== ↑(0+1+1+1) then r.2.2.2.2.1 else bif andI i64 n 7== ↑(0+1+1+1+1) then r.2.2.2.2.2.1 else bif andI i64 n 7== ↑(0+1+1+1+1+1) then r.2.2.2.2.2.2.1 else bif andI i64 n 7== ↑(0+1+1+1+1+1+1) then 0 else r.1))) (.Lf none)
def rGet (r:TR) (n:Int):Int:=getO ZWS.Df (ZP4 r n).val
def ZKt (r:TR) (n:Int):Bool:=okB (ZP4 r n).val
def ZWF (r:TR) (n:Int) (v:Int):RT TR:=
 .Lf ((bif andI i64 n 7==0 then r.1 else bif andI i64 n 7==1 then r.1 else bif andI i64 n 7==2 then r.1 else bif andI i64 n 7==3 then r.1 else bif andI i64 n 7==4 then r.1 else bif andI i64 n 7==5 then r.1 else bif andI i64 n 7==7 then v else r.1,bif andI i64 n 7==0 then v else r.2.1,bif andI i64 n 7==0 then r.2.2.1 else bif andI i64 n 7==1 then v else r.2.2.1,bif andI i64 n 7==0 then r.2.2.2.1 else bif andI i64 n 7==1 then r.2.2.2.1 else bif andI i64 n 7==2 then v else r.2.2.2.1,bif andI i64 n 7==0 then r.2.2.2.2.1 else bif andI i64 n 7==1 then r.2.2.2.2.1 else bif andI i64 n 7==2 then r.2.2.2.2.1 else bif andI i64 n 7==3 then v else r.2.2.2.2.1,bif andI i64 n 7==0 then r.2.2.2.2.2.1 else bif andI i64 n 7==1 then r.2.2.2.2.2.1 else bif andI i64 n 7==2 then r.2.2.2.2.2.1 else bif andI i64 n 7==3 then r.2.2.2.2.2.1 else bif andI i64 n 7==4 then v else r.2.2.2.2.2.1,bif andI i64 n 7==0 then r.2.2.2.2.2.2.1 else bif andI i64 n 7==1 then r.2.2.2.2.2.2.1 else bif andI i64 n 7==2 then r.2.2.2.2.2.2.1 else bif andI i64 n 7==3 then r.2.2.2.2.2.2.1 else bif andI i64 n 7==4 then r.2.2.2.2.2.2.1 else bif andI i64 n 7==5 then v else r.2.2.2.2.2.2.1,r.2.2.2.2.2.2.2))
def rSet (r:TR) (n:Int) (v:Int):TR:=(ZWF r n v).val
abbrev ZUd:Rs:=Rs.one (Sh.one (R.int u16))
def ZSl (r:TR) (n:Int):RT (Option (Int)):=
 .br (andI i64 n 3==3) (.Lf (some r.2.2.2.2.2.2.2.2.1)) (.br (!ZKt r (i64.wrap (2*andI i64 n 3))||ZKt r (i64.wrap (i64.wrap (2*andI i64 n 3)+1))) (.br (ZKt r (i64.wrap (2*andI i64 n 3))) (.Lf (some (ZfI (rGet r (i64.wrap (2*andI i64 n 3))) (rGet r (i64.wrap (i64.wrap (2*andI i64 n 3)+1)))))) (.Lf none)) (.Lf none))
def ZbN (r:TR) (n:Int):Int:=getO ZUd.Df (ZSl r n).val
def Zv4 (r:TR) (n:Int) (v:Int):RT TR:=
 .br (andI i64 n 3==3) (.Lf ((r.1,r.2.1,r.2.2.1,r.2.2.2.1,r.2.2.2.2.1,r.2.2.2.2.2.1,r.2.2.2.2.2.2.1,r.2.2.2.2.2.2.2.1,v,r.2.2.2.2.2.2.2.2.2))) (.Lf (rSet (rSet r (i64.wrap (2*andI i64 n 3)) (u8.wrap (shrI u16 v 8))) (i64.wrap (i64.wrap (2*andI i64 n 3)+1)) (u8.wrap v)))
def ZU (r:TR) (n:Int) (v:Int):TR:=(Zv4 r n v).val
abbrev ZWL:Rs:=Rs.one (Sh.one (R.int u16))
def ZWK (chip:Int) (r:TR):RT (Option (Int)):=
 .br (ZKl chip r.2.2.2.2.2.2.2.1) (.Lf (some (ZfI r.1 (ZUf chip r.2.2.2.2.2.2.2.1)))) (.Lf none)
def rPSW (chip:Int) (r:TR):Int:=getO ZWL.Df (ZWK chip r).val
def ZDp (chip:Int) (r:TR) (v:Int):RT TR:=
 .Lf ((u8.wrap (shrI u16 v 8),r.2.1,r.2.2.1,r.2.2.2.1,r.2.2.2.2.1,r.2.2.2.2.2.1,r.2.2.2.2.2.2.1,ZzE chip (u8.wrap v),r.2.2.2.2.2.2.2.2))
def Zm1 (chip:Int) (r:TR) (v:Int):TR:=(ZDp chip r v).val
def rDoT (chip:Int) (op:Int) (a:Int) (b:Int) (f:TF):RT (QT2):=
 let x1:=bif andI i64 op 7==0 then andI i64 op 7==0 else andI i64 op 7==1
 let x2:=bif andI i64 op 7==2 then andI i64 op 7==2 else bif andI i64 op 7==3 then andI i64 op 7==3 else andI i64 op 7==7
 let x3:Int:=bif x1 then bif andI i64 op 7==1 then (rSum a b f.2.2.2.2.2.2).1 else (rSum a b false).1 else bif x2 then bif andI i64 op 7==3 then (Zc6 a b f.2.2.2.2.2.2).1 else (Zc6 a b false).1 else bif andI i64 op 7==4 then bif rOn chip then andI u8 a b else andI u8 a b else bif andI i64 op 7==5 then xorI u8 a b else bif andI i64 op 7==6 then orI u8 a b else 0
 let x4:=rOf x3
 let x5:=x4.2
 let x6:=x5.2
 let x7:=x6.2.2
 let x8:=Zss chip (x4.1,x5.1,x6.1,bif x1 then bif andI i64 op 7==1 then (rSum a b f.2.2.2.2.2.2).2.2.1 else (rSum a b false).2.2.1 else bif x2 then bif andI i64 op 7==3 then (Zc6 a b f.2.2.2.2.2.2).2.2.1 else (Zc6 a b false).2.2.1 else andI i64 op 7==4&&(rOn chip||andI u8 (orI u8 a b) 8 !=0),x7.1,x7.2.1,bif x1 then bif andI i64 op 7==1 then (rSum a b f.2.2.2.2.2.2).2.1 else (rSum a b false).2.1 else x2&&bif andI i64 op 7==3 then (Zc6 a b f.2.2.2.2.2.2).2.1 else (Zc6 a b false).2.1) (rMaj (decide (a>=128)) (bif x1 then decide (b>=128) else bif x2 then !decide (b>=128) else decide (b>=128)) (decide (x3>=128))) (bif x1 then bif andI i64 op 7==1 then (rSum a b f.2.2.2.2.2.2).2.2.2 else (rSum a b false).2.2.2 else x2&&bif andI i64 op 7==3 then (Zc6 a b f.2.2.2.2.2.2).2.2.2 else (Zc6 a b false).2.2.2)
 .br (andI i64 op 7==7) (.Lf ((a,x8))) (.Lf ((x3,x8)))
def rDo (chip:Int) (op:Int) (a:Int) (b:Int) (f:TF):QT2:=(rDoT chip op a b f).val
def ZWR (chip:Int) (v:Int) (f:TF):RT (QT2):=
 .Lf (((rSum v 1 false).1,Zss chip ((rOf (rSum v 1 false).1).1,(rOf (rSum v 1 false).1).2.1,(rOf (rSum v 1 false).1).2.2.1,(rSum v 1 false).2.2.1,(rOf (rSum v 1 false).1).2.2.2.2.1,(rOf (rSum v 1 false).1).2.2.2.2.2.1,f.2.2.2.2.2.2) (rMaj (decide (v>=128)) false (decide ((rSum v 1 false).1>=128))) (rSum v 1 false).2.2.2))
def rInr (chip:Int) (v:Int) (f:TF):QT2:=(ZWR chip v f).val
def ZWV (chip:Int) (v:Int) (f:TF):RT (QT2):=
 .Lf (((Zc6 v 1 false).1,Zss chip ((rOf (Zc6 v 1 false).1).1,(rOf (Zc6 v 1 false).1).2.1,(rOf (Zc6 v 1 false).1).2.2.1,(Zc6 v 1 false).2.2.1,(rOf (Zc6 v 1 false).1).2.2.2.2.1,(rOf (Zc6 v 1 false).1).2.2.2.2.2.1,f.2.2.2.2.2.2) (rMaj (decide (v>=128)) true (decide ((Zc6 v 1 false).1>=128))) (Zc6 v 1 false).2.2.2))
def rDcr (chip:Int) (v:Int) (f:TF):QT2:=(ZWV chip v f).val
def ZWQ (chip:Int) (v:Int) (f:TF):RT (QT2):=
 .Lf ((u16.wrap (v+1),f.1,f.2.1,bif rOn chip then v==65535 else f.2.2.1,f.2.2.2))
def rInx (chip:Int) (v:Int) (f:TF):QT2:=(ZWQ chip v f).val
def ZWU (chip:Int) (v:Int) (f:TF):RT (QT2):=
 .Lf ((u16.wrap (v-1),f.1,f.2.1,bif rOn chip then v==0 else f.2.2.1,f.2.2.2))
def rDcx (chip:Int) (v:Int) (f:TF):QT2:=(ZWU chip v f).val
def ZWW (chip:Int) (a:Int) (b:Int) (f:TF):RT (QT2):=
 .Lf ((u16.wrap (a+b),f.1,f.2.1,f.2.2.1,f.2.2.2.1,f.2.2.2.2.1,bif rOn chip then decide (i64.wrap (i64.wrap (IntKind.i16.wrap a)+i64.wrap (IntKind.i16.wrap b))< -32768)||decide (i64.wrap (i64.wrap (IntKind.i16.wrap a)+i64.wrap (IntKind.i16.wrap b))>32767) else f.2.2.2.2.2.1,decide (i64.wrap (i64.wrap a+i64.wrap b)>65535)))
def rDad (chip:Int) (a:Int) (b:Int) (f:TF):QT2:=(ZWW chip a b f).val
def ZSn (a:Int) (b:Int):RT (QT2):=
 let x1:=Zc6 (u8.wrap (shrI u16 a 8)) (u8.wrap (shrI u16 b 8)) (Zc6 (u8.wrap a) (u8.wrap b) false).2.1
 let x2:=x1.1
 let x3:=x2==0
 let x4:=ZfI x2 (Zc6 (u8.wrap a) (u8.wrap b) false).1
 let x5:=decide (x2>=128)
 let x6:=rMaj (decide (a>=32768)) (decide (b<32768)) x5
 let x7:=x1.2
 let x8:=x7.2
 let x9:=x8.1
 let x10:=Zsr x2
 let x11:=x8.2
 let x12:=x7.1
 .Lf ((bif x3 then x4 else x4,bif x3 then x5 else x5,x3&&(Zc6 (u8.wrap a) (u8.wrap b) false).1==0,bif x3 then x6 else x6,bif x3 then x9 else x9,bif x3 then x10 else x10,bif x3 then x11 else x11,bif x3 then x12 else x12))
def ZKw (a:Int) (b:Int):QT2:=(ZSn a b).val
def ZWX (chip:Int) (a:Int) (f:TF):RT (QT2):=
 let x1:Int:=bif f.2.2.2.1||decide (andI u8 a 15>9) then 6 else 0
 let x2:=rSum a (bif f.2.2.2.2.2.2||decide (a>153) then u8.wrap (x1+96) else x1) false
 let x3:=x2.1
 let x4:=rOf x3
 let x5:=x4.2
 let x6:=x5.2
 let x7:=x2.2.2
 let x8:=x6.2.2
 .Lf ((x3,Zss chip (x4.1,x5.1,x6.1,x7.1,x8.1,x8.2.1,f.2.2.2.2.2.2||decide (a>153)) (rMaj (decide (a>=128)) false (decide (x3>=128))) x7.2))
def rDaa (chip:Int) (a:Int) (f:TF):QT2:=(ZWX chip a f).val
abbrev ZWH:Rs:=Rs.tup [Sh.one (R.int u8),Sh.one R.bool]
def ZWG (op:Int) (a:Int) (c:Bool):RT (Option (Int×Bool)):=
 .br (andI i64 op 3==0||(andI i64 op 3==1||(!andI i64 op 3==2||Zej c 0))) (.br (andI i64 op 3==0) (.Lf (some ((orI u8 (shlI u8 a 1) (shrI u8 a 7),decide (a>=128))))) (.br (andI i64 op 3==1) (.Lf (some ((orI u8 (shrI u8 a 1) (shlI u8 a 7),andI u8 a 1==1)))) (.br (andI i64 op 3==2) (.Lf (some ((orI u8 (shlI u8 a 1) (rBit c 0),decide (a>=128))))) (.br (Zej c 7) (.Lf (some ((orI u8 (shrI u8 a 1) (rBit c 7),andI u8 a 1==1)))) (.Lf none))))) (.Lf none)
def rRot (op:Int) (a:Int) (c:Bool):Int×Bool:=getO ZWH.Df (ZWG op a c).val
def ZW0 (v:Int):RT (Int×Bool):=
 .Lf ((orI u16 (shrI u16 v 1) (andI u16 v 32768),andI u16 v 1==1))
def ZP6 (v:Int):Int×Bool:=(ZW0 v).val
abbrev ZUc:Rs:=Rs.tup [Sh.one (R.int u16),Sh.one R.bool,Sh.one R.bool]
def ZSk (v:Int) (c:Bool):RT (Option (Int×Bool×Bool)):=
 .br (Zej c 0) (.Lf (some ((orI u16 (shlI u16 v 1) (u16.wrap (rBit c 0)),decide (v>=32768),andI u16 (orI u16 (shlI u16 v 1) (u16.wrap (rBit c 0))) 32768 !=andI u16 v 32768)))) (.Lf none)
def ZKf (v:Int) (c:Bool):Int×Bool×Bool:=getO ZUc.Df (ZSk v c).val
abbrev ZP5:Rs:=Rs.one (Sh.one (R.int u8))
def ZKz (b:Bool) (n:Int):RT (Option (Int)):=
 .br (decide (0<=n)) (.Lf (some (u8.wrap (shlI i64 (rOne b) n)))) (.Lf none)
def ZhQ (b:Bool) (n:Int):Int:=getO ZP5.Df (ZKz b n).val
def ZaF (b:Bool) (n:Int):Bool:=okB (ZKz b n).val
abbrev ZWI:Rs:=Rs.tup [Sh.one (R.int u8),Sh.agg ZY]
def ZPV (c:TC) (l:QT1):RT (Option (Int×TC)):=
 let x1:=bif c.2.2.2.2.2.2.2.2.2.2.1 then c.2.2.2.2.2.2.2.2.2.2.2.1 else c.2.2.1
 .br (!ZaF l.2.2.2.1 7||(!ZaF c.2.2.2.2.2.2.2.1 6||(!ZaF l.2.2.2.2.2.2.1 5||(!ZaF l.2.2.2.2.2.2.2.1 4||ZaF x1 3)))) (.br (!ZaF l.2.2.2.1 7||(!ZaF c.2.2.2.2.2.2.2.1 6||(!ZaF l.2.2.2.2.2.2.1 5||ZaF l.2.2.2.2.2.2.2.1 4))) (.br (!ZaF l.2.2.2.1 7||(!ZaF c.2.2.2.2.2.2.2.1 6||ZaF l.2.2.2.2.2.2.1 5)) (.br (!ZaF l.2.2.2.1 7||ZaF c.2.2.2.2.2.2.2.1 6) (.br (ZaF l.2.2.2.1 7) (.Lf (some ((orI u8 (orI u8 (orI u8 (orI u8 (orI u8 (ZhQ l.2.2.2.1 7) (ZhQ c.2.2.2.2.2.2.2.1 6)) (ZhQ l.2.2.2.2.2.2.1 5)) (ZhQ l.2.2.2.2.2.2.2.1 4)) (ZhQ x1 3)) (andI u8 c.2.2.2.2.2.1 7),c.1,c.2.1,c.2.2.1,c.2.2.2.1,c.2.2.2.2.1,c.2.2.2.2.2.1,c.2.2.2.2.2.2.1,c.2.2.2.2.2.2.2.1,c.2.2.2.2.2.2.2.2.1,c.2.2.2.2.2.2.2.2.2.1,false,false,c.2.2.2.2.2.2.2.2.2.2.2.2)))) (.Lf none)) (.Lf none)) (.Lf none)) (.Lf none)) (.Lf none)
def rRim (c:TC) (l:QT1):Int×TC:=getO ZWI.Df (ZPV c l).val
def ZWJ (c:TC) (l:QT1):Bool:=okB (ZPV c l).val
def ZT9 (c:TC) (a:Int):RT TC:=
 .Lf ((c.1,c.2.1,c.2.2.1,c.2.2.2.1,c.2.2.2.2.1,bif andI u8 a 8 !=0 then andI u8 a 7 else c.2.2.2.2.2.1,c.2.2.2.2.2.2.1,!andI u8 a 16 !=0&&c.2.2.2.2.2.2.2.1,c.2.2.2.2.2.2.2.2.1,c.2.2.2.2.2.2.2.2.2.1,c.2.2.2.2.2.2.2.2.2.2.1,c.2.2.2.2.2.2.2.2.2.2.2.1,bif andI u8 a 64 !=0 then andI u8 a 128 !=0 else c.2.2.2.2.2.2.2.2.2.2.2.2))
def rSim (c:TC) (a:Int):TC:=(ZT9 c a).val
def ZKs (c:Int) (f:TF):RT (Bool):=
 .br (c==0) (.Lf (!f.2.1)) (.br (c==1) (.Lf f.2.1) (.br (c==2) (.Lf (!f.2.2.2.2.2.2)) (.br (c==3) (.Lf f.2.2.2.2.2.2) (.br (c==4) (.Lf (!f.2.2.2.2.1)) (.br (c==5) (.Lf f.2.2.2.2.1) (.br (c==6) (.Lf (!f.1)) (.br (c==7) (.Lf f.1) (.br (c==8) (.Lf (!f.2.2.1)) (.br (c==9) (.Lf f.2.2.1) (.br (c==10) (.Lf f.2.2.2.2.2.1) (.Lf (c==11))))))))))))
def Zf8 (c:Int) (f:TF):Bool:=(ZKs c f).val
def ZDl (s:Int):RT (Int):=
 .br (s==1) (.Lf (36)) (.br (s==2) (.Lf (60)) (.br (s==3) (.Lf (52)) (.br (s==4) (.Lf (44)) (.Lf (0)))))
def Zv (s:Int):Int:=(ZDl s).val
def ZqA (s:Int):RT (Bool):=
 .Lf (decide (s>=1)&&decide (s<=4))
def Zd (s:Int):Bool:=(ZqA s).val
def ZJ5 (op:Int):RT (TI×Bool):=
 .br (op==8) (.Lf (((40,1,0,0,0,0,0,0),true))) (.br (op==16) (.Lf (((41,1,0,0,0,0,0,0),true))) (.br (op==24) (.Lf (((42,1,0,0,0,0,0,0),true))) (.br (op==32) (.Lf (((38,1,0,0,0,0,0,0),true))) (.br (op==40) (.Lf (((43,2,0,0,0,0,0,0),true))) (.br (op==48) (.Lf (((39,1,0,0,0,0,0,0),true))) (.br (op==56) (.Lf (((44,2,0,0,0,0,0,0),true))) (.br (op==203) (.Lf (((45,1,0,0,0,0,10,0),true))) (.br (op==217) (.Lf (((46,1,0,0,0,0,0,0),true))) (.br (op==221) (.Lf (((24,3,0,0,0,0,8,0),true))) (.br (op==237) (.Lf (((47,1,0,0,0,0,0,0),true))) (.br (op==253) (.Lf (((24,3,0,0,0,0,9,0),true))) (.Lf (((0,0,0,0,0,0,0,0),false))))))))))))))
def ZDo (op:Int):TI×Bool:=(ZJ5 op).val
abbrev ZUg:Rs:=Rs.one (Sh.agg (R.Pq (R.int i64) (R.Pq (R.int i64) (R.Pq (R.int i64) (R.Pq (R.int i64) (R.Pq (R.int i64) (R.Pq (R.int i64) (R.Pq (R.int i64) (R.int i64)))))))))
def ZSm (y:Int) (z:Int) (p:Int) (q:Int):RT (Option TI):=
 let x1:=decide (0<=i64.wrap (y-4)/\i64.wrap (y-4)<4)
 .br (z==0) (.Lf (some ((1,1,0,0,0,0,0,0)))) (.br (z==1) (.br (q==0) (.Lf (some ((4,3,0,0,p,0,0,0)))) (.Lf (some ((18,1,0,0,p,0,0,0))))) (.br (!z==2||((bif y==0 then y==0 else y==2)||((bif y==1 then y==1 else y==3)||x1))) (.br (z==2) (.br (bif y==0 then y==0 else y==2) (.Lf (some ((10,1,0,0,p,0,0,0)))) (.br (bif y==1 then y==1 else y==3) (.Lf (some ((9,1,0,0,p,0,0,0)))) (.Lf (some ((bif i64.wrap (y-4)==0 then 8 else bif i64.wrap (y-4)== ↑(0+1) then 7 else bif i64.wrap (y-4)== ↑(0+1+1) then 6 else 5,3,0,0,0,0,0,0)))))) (.br (!z==3||decide (0<=q/\q<2)) (.br (z==3) (.Lf (some ((bif q==0 then 16 else 17,1,0,0,p,0,0,0)))) (.br (z==4) (.Lf (some ((14,1,y,0,0,0,0,0)))) (.br (z==5) (.Lf (some ((15,1,y,0,0,0,0,0)))) (.br (z==6) (.Lf (some ((3,2,y,0,0,0,0,0)))) (.br (decide (y<4)) (.Lf (some ((23,1,0,0,0,y,0,0)))) (.br (x1) (.Lf (some ((bif i64.wrap (y-4)==0 then 19 else bif i64.wrap (y-4)== ↑(0+1) then 20 else bif i64.wrap (y-4)== ↑(0+1+1) then 21 else 22,1,0,0,0,0,0,0)))) (.Lf none))))))) (.Lf none))) (.Lf none)))
def rOlow (y:Int) (z:Int) (p:Int) (q:Int):QT6:=getO ZUg.Df (ZSm y z p q).val
def ZWM (y:Int) (z:Int) (p:Int) (q:Int):Bool:=okB (ZSm y z p q).val
abbrev ZP1:Rs:=Rs.one (Sh.agg (R.Pq (R.int i64) (R.Pq (R.int i64) (R.Pq (R.int i64) (R.Pq (R.int i64) (R.Pq (R.int i64) (R.Pq (R.int i64) (R.Pq (R.int i64) (R.int i64)))))))))
def ZKm (y:Int) (z:Int) (p:Int) (q:Int):RT (Option TI):=
 .br (z==0) (.Lf (some ((26,1,0,0,0,0,y,0)))) (.br (z==1) (.br (q==0) (.Lf (some ((31,1,0,0,p,0,0,0)))) (.br (y==5) (.Lf (some ((28,1,0,0,0,0,0,0)))) (.br (y==7) (.Lf (some ((29,1,0,0,0,0,0,0)))) (.Lf (some ((26,1,0,0,0,0,11,0))))))) (.br (z==2||(!z==3||((bif y==0 then y==0 else y==1)||(y==2||(y==3||decide (0<=i64.wrap (y-4)/\i64.wrap (y-4)<4)))))) (.br (z==2) (.Lf (some ((24,3,0,0,0,0,y,0)))) (.br (z==3) (.br (bif y==0 then y==0 else y==1) (.Lf (some ((24,3,0,0,0,0,11,0)))) (.br (y==2) (.Lf (some ((34,2,0,0,0,0,0,0)))) (.br (y==3) (.Lf (some ((33,2,0,0,0,0,0,0)))) (.Lf (some ((bif i64.wrap (y-4)==0 then 32 else bif i64.wrap (y-4)== ↑(0+1) then 11 else bif i64.wrap (y-4)== ↑(0+1+1) then 36 else 35,1,0,0,0,0,0,0))))))) (.br (z==4) (.Lf (some ((25,3,0,0,0,0,y,0)))) (.br (z==5) (.br (q==0) (.Lf (some ((30,1,0,0,p,0,0,0)))) (.Lf (some ((25,3,0,0,0,0,11,0))))) (.br (z==6) (.Lf (some ((13,2,0,0,0,y,0,0)))) (.Lf (some ((27,1,0,0,0,0,0,y))))))))) (.Lf none)))
def ZWN (y:Int) (z:Int) (p:Int) (q:Int):QT6:=getO ZP1.Df (ZKm y z p q).val
def ZUh (y:Int) (z:Int) (p:Int) (q:Int):Bool:=okB (ZKm y z p q).val
abbrev ZKy:Rs:=Rs.one (Sh.agg (R.Pq (R.int i64) (R.Pq (R.int i64) (R.Pq (R.int i64) (R.Pq (R.int i64) (R.Pq (R.int i64) (R.Pq (R.int i64) (R.Pq (R.int i64) (R.int i64)))))))))
def Zhr (chip:Int) (op:Int):RT (Option TI):=
 .br ((ZDo op).2&&rOn chip) (.Lf (some (ZDo op).1)) (.br (!shrI u8 op 6==0||ZWM (i64.wrap (andI u8 (shrI u8 op 3) 7)) (i64.wrap (andI u8 op 7)) (shrI i64 (i64.wrap (andI u8 (shrI u8 op 3) 7)) 1) (andI i64 (i64.wrap (andI u8 (shrI u8 op 3) 7)) 1)) (.br (shrI u8 op 6==0) (.Lf (some (rOlow (i64.wrap (andI u8 (shrI u8 op 3) 7)) (i64.wrap (andI u8 op 7)) (shrI i64 (i64.wrap (andI u8 (shrI u8 op 3) 7)) 1) (andI i64 (i64.wrap (andI u8 (shrI u8 op 3) 7)) 1)))) (.br (shrI u8 op 6==1) (.br (op==118) (.Lf (some ((37,1,0,0,0,0,0,0)))) (.Lf (some ((2,1,i64.wrap (andI u8 (shrI u8 op 3) 7),i64.wrap (andI u8 op 7),0,0,0,0))))) (.br (shrI u8 op 6==2) (.Lf (some ((12,1,0,i64.wrap (andI u8 op 7),0,i64.wrap (andI u8 (shrI u8 op 3) 7),0,0)))) (.br (ZUh (i64.wrap (andI u8 (shrI u8 op 3) 7)) (i64.wrap (andI u8 op 7)) (shrI i64 (i64.wrap (andI u8 (shrI u8 op 3) 7)) 1) (andI i64 (i64.wrap (andI u8 (shrI u8 op 3) 7)) 1)) (.Lf (some (ZWN (i64.wrap (andI u8 (shrI u8 op 3) 7)) (i64.wrap (andI u8 op 7)) (shrI i64 (i64.wrap (andI u8 (shrI u8 op 3) 7)) 1) (andI i64 (i64.wrap (andI u8 (shrI u8 op 3) 7)) 1)))) (.Lf none))))) (.Lf none))
def Zc (chip:Int) (op:Int):QT6:=getO ZKy.Df (Zhr chip op).val
def Zsx (chip:Int) (op:Int):Bool:=okB (Zhr chip op).val
theorem Zxa (b:Int) (h:inR .u8 b):ZlV b=true/\Zth b=Zsr b:=by have h1:=Zf0 (λb=>ZlV b&&(Zth b==Zsr b)) (by kernel_rfl) b h;simpa using h1
theorem Zx6 (a b c:Bool):pMaj a b c=rMaj a b c:=by cases a<;>cases b<;>cases c<;>rfl
theorem ZSR (a:Bool):pOne a=rOne a:=by cases a<;>rfl
theorem ZJt (a b:Int) (c:Bool):pSum a b c=rSum a b c:=by simp only[pSum,ZUz,rSum,ZT7,RT.val,Yag,ZnA,ZlS,Ze2,Zsl,ZSR]
theorem ZCv (a b:Int) (c:Bool):Zih a b c=Zc6 a b c:=by
 have h1:=ZXT a;have h2:=ZXT b;have e:IntKind.wrap .i64 (IntKind.wrap .i64 (IntKind.wrap .i64 (IntKind.wrap .i64 (andI .u8 a 15)+15)-IntKind.wrap .i64 (andI .u8 b 15))+1)=IntKind.wrap .i64 (IntKind.wrap .i64 (IntKind.wrap .i64 (andI .u8 a 15)+IntKind.wrap .i64 (IntKind.wrap .u8 (15-andI .u8 b 15)))+1):=by rw[Zy0];rw[wrap_i64 (andI .u8 a 15) (by omega) (by omega),wrap_i64 (andI .u8 b 15) (by omega) (by omega),wrap_i64 ((15-andI .u8 b 15)%256) (by omega) (by omega),wrap_i64 (andI .u8 a 15+15) (by omega) (by omega)];congr 1;rw[wrap_i64 _ (by omega) (by omega),wrap_i64 _ (by omega) (by omega)];omega
 simp only[Zih,ZMF,Zc6,ZKx,RT.val,Yag,ZnA,ZlS,Ze2,Zsl,ZSR,e]
theorem ZuG (a b:Int):ZMd a b=ZfI a b:=rfl
theorem ZOU (b:Bool) (n:Int) (h:0<=n):Ze3 b n=true/\pBit b n=bif b then shlI .u8 1 n else 0:=by cases b<;>simp[Ze3,pBit,ZQZ,RT.val,h,okB,getO]
theorem Zgx (b:Bool) (n:Int) (h:0<=n):Zej b n=true/\rBit b n=bif b then shlI .u8 1 n else 0:=by cases b<;>simp[Zej,rBit,ZUl,RT.val,h,okB,getO]
theorem ZbC (chip:Int):rOn chip=(chip==2):=rfl
theorem ZXa (chip:Int) (f):ZEp chip f=true:=by cases h:chip==2<;>simp[ZEp,Zxr,RT.val,ZOU,okB,h]
theorem ZTZ (chip:Int) (f):ZKl chip f=true:=by cases h:chip==2<;>simp[ZKl,ZDA,RT.val,Zgx,ZbC,okB,h]
theorem ZUy (chip:Int) (f):ZQG chip f=ZUf chip f:=by simp only[ZQG,Zxr,ZUf,ZDA,RT.val,ZOU,Zgx,ZbC];cases chip==2<;>simp[ZOU,Zgx,getO]
theorem of_C (r:Int) (h:inR .u8 r):pOfC r=true:=by simp[pOfC,pOfT,RT.val,Zxa r h,okB]
theorem of_eq (r:Int) (h:inR .u8 r):pOf r=rOf r:=by simp[pOf,pOfT,rOf,rOfT,RT.val,Zxa r h,getO]
theorem get_C (r) (n:Int):ZKt r n=true:=by
 have:=and7 n;have h:decide (0<=andI .i64 n 7/\andI .i64 n 7<8)=true:=by simp;omega
 simp only[ZKt,ZP4,RT.val,h,Ya,okB]
theorem ZOt {m:Int} (h:0<=m/\m<=7):m=0\/m=1\/m=2\/m=3\/m=4\/m=5\/m=6\/m=7:=by omega
theorem ZLf (r) (n:Int):pGet r n=rGet r n:=by
 have h7:=and7 n;have h:decide (0<=andI .i64 n 7/\andI .i64 n 7<8)=true:=by simp;omega
 simp only[pGet,ZU0,rGet,ZP4,RT.val,h,Ya,getO];generalize andI .i64 n 7=m at*;rcases ZOt h7 with rfl|rfl|rfl|rfl|rfl|rfl|rfl|rfl<;>rfl
theorem ZKL (r) (n v:Int):pSet r n v=rSet r n v:=by have h7:=and7 n;simp only[pSet,ZUC,rSet,ZWF,RT.val,Ya,getO];generalize andI .i64 n 7=m at*;rcases ZOt h7 with rfl|rfl|rfl|rfl|rfl|rfl|rfl|rfl<;>rfl
theorem ZQa (r) (n:Int):ZUM r n=ZbN r n:=by simp only[ZUM,ZLO,ZbN,ZSl,RT.val,ZLf,get_C,ZuG];cases andI .i64 n 3==3<;>simp[okB,getO]
theorem ZzY (r) (n v:Int):Zs5 r n v=ZU r n v:=by simp only[Zs5,ZnB,ZU,Zv4,RT.val,ZKL]
theorem ZKV (chip:Int) (r):ZUO chip r=true/\pPSW chip r=rPSW chip r:=by simp[ZUO,pPSW,ZQH,rPSW,ZWK,RT.val,ZXa,ZTZ,ZUy,ZuG,okB,getO]
theorem ZIT (chip:Int) (b:Int):Zs2 chip b=ZzE chip b:=by simp only[Zs2,Zs1,ZzE,ZDm,RT.val,ZbC]
theorem ZGr (chip:Int) (r) (v:Int):ZAo chip r v=Zm1 chip r v:=by simp only[ZAo,Zs6,Zm1,ZDp,RT.val,ZIT]
theorem ZRy (c:Int) (f):ZMm c f=Zf8 c f:=by
 simp only[ZMm,ZBn,Zf8,ZKs,RT.val];by_cases h:0<=c/\c<=11
 ·have:c=0\/c=1\/c=2\/c=3\/c=4\/c=5\/c=6\/c=7\/c=8\/c=9\/c=10\/c=11:=by omega
  rcases this with rfl|rfl|rfl|rfl|rfl|rfl|rfl|rfl|rfl|rfl|rfl|rfl<;>simp
 ·have e:∀k:Int,0<=k->k<=11->(c==k)=false:=λk h1 h2=>by simp;omega
  simp[e]
theorem ZvG (a b:Int) (c:Bool):inR .u8 (rSum a b c).1:=by simp only[rSum,ZT7,RT.val,Yag];exact Zao _ _
theorem Zpw (a b:Int) (c:Bool):inR .u8 (Zc6 a b c).1:=by simp only[Zc6,ZKx,RT.val,Yag];exact Zao _ _
theorem ZkZ (a b:Int):inR .u8 (andI .u8 a b)/\inR .u8 (orI .u8 a b)/\inR .u8 (xorI .u8 a b):=ZhA _ _ _
theorem Zv1 (chip v r:Int) (half over x:Bool) (f) (h:inR .u8 r):Zjd chip v r half over x f=true/\
  ZnG chip v r half over x f=Zss chip ((rOf r).1,(rOf r).2.1,(rOf r).2.2.1,half,(rOf r).2.2.2.2.1,(rOf r).2.2.2.2.2.1,f.2.2.2.2.2.2) (rMaj (decide (v>=128)) x (decide (r>=128))) over:=by cases hc:chip==2<;>simp[Zjd,ZnG,ZlT,Zss,Zv8,RT.val,of_C r h,of_eq r h,okB,getO,ZbC,hc,Zx6,rOf,rOfT]
theorem ZLd (chip v:Int) (f):ZUY chip v f=true/\pInr chip v f=rInr chip v f:=by have h:=Zv1 chip v (rSum v 1 false).1 (rSum v 1 false).2.2.1 (rSum v 1 false).2.2.2 false f (ZvG _ _ _);simp only[ZUY,pInr,ZQN,rInr,ZWR,RT.val,ZJt,h.1,h.2,Ya,okB,getO,and_self]
theorem ZLh (chip v:Int) (f):ZVd chip v f=true/\pDcr chip v f=rDcr chip v f:=by have h:=Zv1 chip v (Zc6 v 1 false).1 (Zc6 v 1 false).2.2.1 (Zc6 v 1 false).2.2.2 true f (Zpw _ _ _);simp only[ZVd,pDcr,ZQV,rDcr,ZWV,RT.val,ZCv,h.1,h.2,Ya,okB,getO,and_self]
theorem ZUt (chip v:Int) (f):pInx chip v f=rInx chip v f:=by simp only[pInx,ZUW,rInx,ZWQ,RT.val,ZbC]
theorem ZUw (chip v:Int) (f):pDcx chip v f=rDcx chip v f:=by simp only[pDcx,ZVb,rDcx,ZWU,RT.val,ZbC]
theorem ZLi (chip a:Int) (f):ZVh chip a f=true/\pDaa chip a f=rDaa chip a f:=by
 have h:=λx=>of_C _ (ZvG a x false)
 have h2:=λx=>of_eq _ (ZvG a x false)
 cases hc:chip==2<;>simp[ZVh,pDaa,ZQX,rDaa,ZWX,Zss,Zv8,RT.val,ZJt,h,h2,okB,getO,ZbC,hc,Zx6,rOf,rOfT]
theorem ZEd (a b:Int):ZMC a b=true/\ZU6 a b=ZKw a b:=by
 have h:=λx y z=>of_C _ (Zpw x y z)
 have h2:=λx y z=>of_eq _ (Zpw x y z)
 simp[ZMC,ZU6,ZEL,ZKw,ZSn,RT.val,ZCv,h,h2,okB,getO,Zx6,ZuG,rOf,rOfT,Yag]
theorem ZQm (v:Int):ZXo v=ZP6 v:=rfl
theorem ZSW (c:Bool):pLow c=bif c then 1 else 0:=by cases c<;>rfl
theorem ZKN (op a:Int) (c:Bool):ZUE op a c=true/\pRot op a c=rRot op a c:=by
 have h3:=and3 op;simp only[ZUE,pRot,ZQx,rRot,ZWG,RT.val,ZSW,(Zgx c 0 (by decide)).1,(Zgx c 0 (by decide)).2,(Zgx c 7 (by decide)).1,(Zgx c 7 (by decide)).2];generalize andI .i64 op 3=m at*;have:m=0\/m=1\/m=2\/m=3:=by omega
 rcases this with rfl|rfl|rfl|rfl<;>cases c<;>exact⟨rfl,rfl⟩
theorem ZP8 (v:Int) (c:Bool) (h:inR .u16 v):ZUK v c=ZKf v c:=by
 have hb:=Zgx c 0 (by decide);have e:IntKind.wrap .u16 (bif c then 1 else 0)=IntKind.wrap .u16 (bif c then shlI .u8 1 0 else 0):=by cases c<;>rfl
 have hr:∀x,inR .u16 (orI .u16 x (IntKind.wrap .u16 (bif c then shlI .u8 1 0 else 0))):=λx=>(ZhA _ _ _).2.1
 simp only[ZUK,ZLH,ZKf,ZSk,RT.val,ZSW,hb.1,hb.2,Ya,getO,e];rw[Zrs _ (ZhA _ _ _).2.2,ZJq _ _ (hr _) h,ZCG _ (hr _),ZCG _ h];cases tb (orI .u16 (shlI .u16 v 1) (IntKind.wrap .u16 (bif c then shlI .u8 1 0 else 0)))<;>cases tb v<;>rfl
theorem ZUx (chip a b:Int) (f) (ha:inR .u16 a) (hb:inR .u16 b):pDad chip a b f=rDad chip a b f:=by
 have hr:inR .u16 (IntKind.wrap .u16 (a+b)):=Zao _ _;have ha':=Zin.1 ha;have hb':=Zin.1 hb;simp only[pDad,ZVf,rDad,ZWW,RT.val,ZbC];rw[Zrs _ (ZhA _ _ _).1,ZSc _ _ (ZhA _ _ _).2.2 (ZhA _ _ _).2.2,ZJq _ _ ha hr,ZJq _ _ hb hr];have e1:decide (IntKind.wrap .u16 (a+b)<a)=decide (IntKind.wrap .i64 (IntKind.wrap .i64 a+IntKind.wrap .i64 b)>65535):=by rw[Zru,wrap_i64 a (by omega) (by omega),wrap_i64 b (by omega) (by omega),wrap_i64 (a+b) (by omega) (by omega)];simp only[decide_eq_decide];omega
 have e2:(((tb a)^^(tb (IntKind.wrap .u16 (a+b))))&&((tb b)^^(tb (IntKind.wrap .u16 (a+b)))))=(decide (IntKind.wrap .i64 (IntKind.wrap .i64 (IntKind.wrap .i16 a)+IntKind.wrap .i64 (IntKind.wrap .i16 b))< -32768)||decide (IntKind.wrap .i64 (IntKind.wrap .i64 (IntKind.wrap .i16 a)+IntKind.wrap .i64 (IntKind.wrap .i16 b))>32767)):=by
  have ia:=ZCI a;have ib:=ZCI b;have hia: -32768<=IntKind.wrap .i16 a/\IntKind.wrap .i16 a<=32767:=by rw[ia];split<;>omega
  have hib: -32768<=IntKind.wrap .i16 b/\IntKind.wrap .i16 b<=32767:=by rw[ib];split<;>omega
  rw[wrap_i64 (IntKind.wrap .i16 a) (by omega) (by omega),wrap_i64 (IntKind.wrap .i16 b) (by omega) (by omega),wrap_i64 (IntKind.wrap .i16 a+IntKind.wrap .i16 b) (by omega) (by omega)];rw[ia,ib,Zru];unfold tb;by_cases h1:a>=32768<;>by_cases h2:b>=32768<;>by_cases h3:(a+b)%65536>=32768<;>simp[h1,h2,h3]<;>(try split)<;>(try split)<;>omega
 rw[e1,e2]
theorem ZKO (c l):ZUG c l=true/\pRim c l=rRim c l/\ZWJ c l=true:=by
 have h:∀b n,0<=n->Zc9 b n=true/\Zxn b n=bif b then shlI .u8 1 n else 0:=λb n h=>by cases b<;>simp[Zc9,Zxn,ZEl,RT.val,h,okB,getO]
 have h3:∀b,ZaF b 3=true/\ZhQ b 3=bif b then shlI .u8 1 3 else 0:=λb=>by cases b<;>exact⟨rfl,rfl⟩
 have h4:∀b,ZaF b 4=true/\ZhQ b 4=bif b then shlI .u8 1 4 else 0:=λb=>by cases b<;>exact⟨rfl,rfl⟩
 have h5:∀b,ZaF b 5=true/\ZhQ b 5=bif b then shlI .u8 1 5 else 0:=λb=>by cases b<;>exact⟨rfl,rfl⟩
 have h6:∀b,ZaF b 6=true/\ZhQ b 6=bif b then shlI .u8 1 6 else 0:=λb=>by cases b<;>exact⟨rfl,rfl⟩
 have h7:∀b,ZaF b 7=true/\ZhQ b 7=bif b then shlI .u8 1 7 else 0:=λb=>by cases b<;>exact⟨rfl,rfl⟩
 simp[ZUG,pRim,ZQz,ZWJ,rRim,ZPV,RT.val,h,h3,h4,h5,h6,h7,okB,getO]
theorem ZUn (c) (a:Int):pSim c a=rSim c a:=by simp only[pSim,ZUB,rSim,ZT9,RT.val]
theorem ZGn (s:Int):ZAh s=Zv s:=by simp only[ZAh,Zs0,Zv,ZDl,RT.val]
theorem ZKW (chip op a b:Int):Ztu chip op a b=true/\∀f,(andI .i64 op 7=op)->4<=op->op<=6->ZEv chip op a b=rDo chip op a b f:=by
 have h:=λx y=>of_C _ (ZkZ x y).1
 have h':=λx y=>of_C _ (ZkZ x y).2.1
 have h'':=λx y=>of_C _ (ZkZ x y).2.2
 have g:=λx y=>of_eq _ (ZkZ x y).1
 have g':=λx y=>of_eq _ (ZkZ x y).2.1
 have g'':=λx y=>of_eq _ (ZkZ x y).2.2
 have h0:=of_C 0 (by rw[ZhV];omega);constructor
 ·cases h4:op==4<;>cases h5:op==5<;>cases h6:op==6<;>simp[Ztu,Zom,RT.val,h,h',h'',h0,okB,h4,h5,h6]
 ·intro f e h4 h6;have:op=4\/op=5\/op=6:=by omega
  rcases this with rfl|rfl|rfl<;>cases hc:chip==2<;>simp[ZEv,Zom,rDo,rDoT,RT.val,h,h',h'',g,g',g'',getO,e,ZbC,hc,Zss,Zv8,rOf,rOfT,Zx6]
theorem ZSv (chip op a b:Int) (f):pDoC chip op a b f=true/\pDo chip op a b f=rDo chip op a b f:=by
 have h7:=and7 op;have hs:=λx=>of_C _ (ZvG a b x)
 have hs2:=λx=>of_eq _ (ZvG a b x)
 have hd:=λx=>of_C _ (Zpw a b x)
 have hd2:=λx=>of_eq _ (Zpw a b x)
 have hl:=ZKW chip (andI .i64 op 7) a b;have hlt:decide (b<128)= !decide (128<=b):=by
  by_cases h:b<128
  ·have:¬128<=b:=by omega
   simp[h,this]
  ·have:128<=b:=by omega
   simp[h,this]
 have hr:rDo chip (andI .i64 op 7) a b f=rDo chip op a b f:=by
  have:andI .i64 (andI .i64 op 7) 7=andI .i64 op 7:=by generalize andI .i64 op 7=m at*;rcases ZOt h7 with rfl|rfl|rfl|rfl|rfl|rfl|rfl|rfl<;>rfl
  simp only[rDo,rDoT,this]
 have he:andI .i64 (andI .i64 op 7) 7=andI .i64 op 7:=by generalize andI .i64 op 7=m at*;rcases ZOt h7 with rfl|rfl|rfl|rfl|rfl|rfl|rfl|rfl<;>rfl
 rw[<-hr];have hl2:=hl.2 f he;have hl1:=hl.1;clear hl hr;simp only[pDoC,pDo,pDoT,RT.val];generalize andI .i64 op 7=m at*;rcases ZOt h7 with rfl|rfl|rfl|rfl|rfl|rfl|rfl|rfl
 case inr.inr.inr.inr.inl=>simp[hl1,hl2,okB,getO]
 case inr.inr.inr.inr.inr.inl=>simp[hl1,hl2,okB,getO]
 case inr.inr.inr.inr.inr.inr.inl=>simp[hl1,hl2,okB,getO]
 all_goals cases hc:chip==2<;>simp[rDo,rDoT,RT.val,ZJt,ZCv,hs,hs2,hd,hd2,okB,getO,he,ZbC,hc,Zss,Zv8,rOf,rOfT,Zx6,hlt]
theorem ZLg (chip op:Int) (h:chip≠2):(ZfL chip op).val=(ZfL 0 op).val:=by
 have h1:(chip==2)=false:=by simpa using h
 have h0:((0:Int)==2)=false:=rfl;simp only[ZfL,RT.val,h1,h0]
theorem ZmW (chip op:Int) (h:chip≠2):(Zhr chip op).val=(Zhr 0 op).val:=by
 have h1:rOn chip=false:=by simpa [ZbC] using h
 have h0:rOn 0=false:=rfl;simp only[Zhr,RT.val,h1,h0]
def decT (chip op:Int):Bool:=okB (ZfL chip op).val&&okB (Zhr chip op).val&&(Zot chip op==Zc chip op)
theorem dec_ok (chip op:Int) (h:inR .u8 op):ZlX chip op=true/\Zot chip op=Zc chip op/\Zsx chip op=true:=by
 have fin:∀c,decT c op=true->ZlX c op=true/\Zot c op=Zc c op/\Zsx c op=true:=by intro c hc;simp only[decT,Yb,Yax] at hc;exact⟨hc.1.1,hc.2,hc.1.2⟩
 by_cases hc:chip=2
 ·subst hc;exact fin 2 (Zf0 (decT 2) (by kernel_rfl) op h)
 ·have:=fin 0 (Zf0 (decT 0) (by kernel_rfl) op h);unfold ZlX Zot Zc Zsx at this|-;rw[ZLg chip op hc,ZmW chip op hc];exact this
def Zty:En:=Zg ZBl ZBm (λ_=>none) (λa=>ZfI a.1 a.2)
theorem Zxu:Zb prog 220 Zty:=ZlW.tot (λa h=>by simp) (λa h=>ZuG _ _)
def ZSL:En:=Zg ZMo ZMp (λ_=>none) (λa=>rGet a.1 a.2)
theorem ZQO:Zb prog 281 ZSL:=ZMn.tot (λa h=>by simp) (λa h=>ZLf _ _)
def Zxk:En:=Zg ZLs ZLt (λ_=>none) (λa=>rSet a.1 a.2.1 a.2.2)
theorem ZEi:Zb prog 290 Zxk:=ZLr.tot (λa h=>by simp) (λa h=>ZKL _ _ _)
def ZLQ:En:=Zg ZAy ZAz (λ_=>none) (λa=>ZbN a.1 a.2)
theorem ZLP:Zb prog 280 ZLQ:=ZQE.tot (λa h=>by simp) (λa h=>ZQa _ _)
def Zcj:En:=Zg Zkn Zko (λ_=>none) (λa=>ZU a.1 a.2.1 a.2.2)
theorem ZeU:Zb prog 291 Zcj:=ZAm.tot (λa h=>by simp) (λa h=>ZzY _ _ _)
def ZLT:En:=Zg ZLS ZEq (λ_=>none) (λa=>rPSW a.1 a.2)
theorem ZQI:Zb prog 288 ZLT:=ZUN.tot (λa h=>by have h1:=(ZKV a.1 a.2).1;simp[h1]) (λa h=>(ZKV _ _).2)
def ZnE:En:=Zg ZnC ZnD (λ_=>none) (λa=>Zm1 a.1 a.2.1 a.2.2)
theorem ZAn:Zb prog 299 ZnE:=ZGG.tot (λa h=>by simp) (λa h=>ZGr _ _ _)
def ZU9:En:=Zg ZU7 ZQS (λ_=>none) (λa=>rDo a.1 a.2.1 a.2.2.1 a.2.2.2.1 a.2.2.2.2)
theorem ZU8:Zb prog 292 ZU9:=ZXl.tot (λa h=>by have h1:=(ZSv a.1 a.2.1 a.2.2.1 a.2.2.2.1 a.2.2.2.2).1;simp[h1]) (λa h=>(ZSv _ _ _ _ _).2)
def ZEC:En:=Zg ZMh ZEA (λ_=>none) (λa=>rInr a.1 a.2.1 a.2.2)
theorem ZEB:Zb prog 282 ZEC:=ZUX.tot (λa h=>by have h1:=(ZLd a.1 a.2.1 a.2.2).1;simp[h1]) (λa h=>(ZLd _ _ _).2)
def ZEQ:En:=Zg ZMK ZEO (λ_=>none) (λa=>rDcr a.1 a.2.1 a.2.2)
theorem ZEP:Zb prog 283 ZEQ:=ZVc.tot (λa h=>by have h1:=(ZLh a.1 a.2.1 a.2.2).1;simp[h1]) (λa h=>(ZLh _ _ _).2)
def ZMg:En:=Zg ZMe ZMf (λ_=>none) (λa=>rInx a.1 a.2.1 a.2.2)
theorem ZQM:Zb prog 294 ZMg:=ZUV.tot (λa h=>by simp) (λa h=>ZUt _ _ _)
def ZMJ:En:=Zg ZMH ZMI (λ_=>none) (λa=>rDcx a.1 a.2.1 a.2.2)
theorem ZQU:Zb prog 295 ZMJ:=ZVa.tot (λa h=>by simp) (λa h=>ZUw _ _ _)
def ZMP:En:=Zg ZMO ZER (λ_=>none) (λa=>rDaa a.1 a.2.1 a.2.2)
theorem ZQY:Zb prog 297 ZMP:=ZVg.tot (λa h=>by have h1:=(ZLi a.1 a.2.1 a.2.2).1;simp[h1]) (λa h=>(ZLi _ _ _).2)
def ZMN:En:=Zg ZML ZMM (λ_=>none) (λa=>rDad a.1 a.2.1 a.2.2.1 a.2.2.2)
theorem ZQW:Zb prog 296 ZMN:=ZVe.tot (λa h=>by simp) (λa h=>ZUx _ _ _ _ h.2.1 h.2.2.1)
def ZBB:En:=Zg ZBA Zug (λ_=>none) (λa=>ZKw a.1 a.2)
theorem ZMD:Zb prog 301 ZBB:=ZQR.tot (λa h=>by have h1:=(ZEd a.1 a.2).1;simp[h1]) (λa h=>(ZEd _ _).2)
def ZBF:En:=Zg ZBD ZBE (λ_=>none) (λa=>ZP6 a)
theorem ZMW:Zb prog 302 ZBF:=ZQ0.tot (λa h=>by simp) (λa h=>ZQm _)
def ZLy:En:=Zg ZLx ZEm (λ_=>none) (λa=>rRot a.1 a.2.1 a.2.2)
theorem ZQy:Zb prog 298 ZLy:=ZUD.tot (λa h=>by have h1:=(ZKN a.1 a.2.1 a.2.2).1;simp[h1]) (λa h=>(ZKN _ _ _).2)
def ZAv:En:=Zg ZAt ZAu (λ_=>none) (λa=>ZKf a.1 a.2)
theorem ZLI:Zb prog 303 ZAv:=ZQB.tot (λa h=>by simp) (λa h=>ZP8 _ _ h.1)
def ZLA:En:=Zg ZLz ZEn (λ_=>none) (λa=>rRim a.1 a.2)
theorem ZQA:Zb prog 231 ZLA:=ZUF.tot (λa h=>by have h1:=(ZKO a.1 a.2).1;simp[h1]) (λa h=>(ZKO _ _).2.1)
def ZLq:En:=Zg ZLo ZLp (λ_=>none) (λa=>rSim a.1 a.2)
theorem ZQu:Zb prog 232 ZLq:=ZUA.tot (λa h=>by simp) (λa h=>ZUn _ _)
def ZEF:En:=Zg Ztz ZtA (λ_=>none) (λa=>Zf8 a.1 a.2)
theorem ZGV:Zb prog 353 ZEF:=ZMl.tot (λa h=>by simp) (λa h=>ZRy _ _)
def Zxd:En:=Zg Znu Znv (λ_=>none) (λa=>Zv a)
theorem ZAg:Zb prog 155 Zxd:=ZGB.tot (λa h=>by simp) (λa h=>ZGn _)
def Zxz:En:=Zg Zjg Zjh (λ_=>none) (λa=>Zc a.1 a.2)
theorem Zos:Zb prog 154 Zxz:=ZHA.tot (λa h=>by have h1:=(dec_ok a.1 a.2 h.2).1;simp[h1]) (λa h=>(dec_ok a.1 a.2 h.2).2.1)
abbrev ZXE:R:=R.Pq (.int .i64) (R.Pq (.int .i64) (R.Pq (.int .i64) (R.Pq (.int .i64) (R.Pq (.int .i64) (R.Pq (.int .i64) (.int .i64))))))
def ZxA (k:Int):En:=pinE Zjg ZXE (λa=>Zc a.1 a.2) k
theorem ZEN (k:Int):Zb Tryz.prog 154 (ZxA k):=ZUu Zos k
def pcOf (c:TC):Int:=c.2.1.2.2.2.2.2.2.2.2.2
def spOf (c:TC):Int:=c.2.1.2.2.2.2.2.2.2.2.1
def rgx (r:TR) (f:TF) (sp pc:Int):TR:=(r.1,r.2.1,r.2.2.1,r.2.2.2.1,r.2.2.2.2.1,r.2.2.2.2.2.1,r.2.2.2.2.2.2.1,f,sp,pc)
def fin3 (g:List Int) (l:List TY):RT (Option (TY×Bool)):=.br (decide (iN (List.length g)>=iN (List.length l))) (.Lf (some (((0,0,0,0),false)))) (.br (Zf (iN (List.length g)) (List.length l)) (.Lf (some ((R.get RY l (iN (List.length g)),true)))) (.Lf none))
end
end Go.Proofs.YtpnjbfjomebppaaGreat
