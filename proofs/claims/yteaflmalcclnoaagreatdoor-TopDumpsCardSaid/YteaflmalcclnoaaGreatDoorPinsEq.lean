import Derived.Test.YteaflmalcclnoaaGreatDoorS3D
import Derived.Test.YteaflmalcclnoaaGreatDoorProg
open Go.Proofs.Tryz (prog)
open Go.IntKind (u8 u16 i64 wrap)
set_option linter.unusedSimpArgs false
open Go Go.S3 Go.Proofs
open Go.S3.R (Pq)
set_option linter.unusedVariables false
set_option maxRecDepth 100000
namespace Go.Proofs.YteaflmalcclnoaaGreatDoor
noncomputable section
abbrev Zwz:List Sh:=[So Ka]
abbrev ZnA:Rs:=Rs.one (So R.bool)
def Zs2 (b:Int):RT (Option (Bool)):=
 let x1:=andI u8 (andI u8 b (u8.wrap (b-1))) (u8.wrap (andI u8 b (u8.wrap (b-1))-1))
 let x2:= !x1 !=0
 let x3:=andI u8 x1 (u8.wrap (x1-1))
 let x4:=x3 !=0
 let x5:=andI u8 x3 (u8.wrap (x3-1))
 let x6:= !x5 !=0
 let x7:=andI u8 x5 (u8.wrap (x5-1))
 let x8:=x7 !=0
 let x9:=andI u8 x7 (u8.wrap (x7-1))
 let x10:= !x9 !=0
 let x11:=andI u8 x9 (u8.wrap (x9-1))
 let x12:=x11 !=0
 let x13:=andI u8 x11 (u8.wrap (x11-1))
 let x14:= !x13 !=0
 .br (!b !=0||(!andI u8 b (u8.wrap (b-1)) !=0||(x2||(!x4||(x6||(!x8||(x10||(!x12||(x14|| !andI u8 x13 (u8.wrap (x13-1)) !=0))))))))) (Ls (!b !=0||andI u8 b (u8.wrap (b-1)) !=0&&(x2||x4&&(x6||x8&&(x10||x12&&x14))))) Ln
def Zs3 (b:Int):Bool:=getO ZnA.Df (Zs2 b).val
def ZlO (b:Int):Bool:=okB (Zs2 b).val
def ZDZ:En:=Zf Zwz ZnA (λa=>some (ZlO a)) (λa=>Zs3 a)
theorem ZGj:Za prog 260 ZDZ:=
 ZgI (P:=prog) (n:=15) (k:=10) (l:=[]) (ol:=[]) trivial Tryz.func260 rfl (by kernel_rfl) Tryz.call260 trivial (ts:=Zwz) (rs:=ZnA) (t:=λa=>Zs2 a) (λa=>by kernel_rfl)
abbrev ZTn:List Sh:=[So R.bool,So R.bool,So R.bool]
def ZYv (a:Bool) (b:Bool) (c:Bool):RT (Bool):=
 .Lf (bif a then b||bif a then c||b&&c else b&&c else bif a then c||b&&c else b&&c)
def pMaj (a:Bool) (b:Bool) (c:Bool):Bool:=(ZYv a b c).val
def ZGt:En:=Zf ZTn ZnA (λ_=>none) (λa=>pMaj a.1 a.2.1 a.2.2)
theorem Zod:Za prog 240 ZGt:=
 pureQ 127 [] [] _ _ trivial Tryz.func240 Tryz.call240 trivial
abbrev ZTk:List Sh:=[So R.bool]
abbrev ZTl:Rs:=Rs.one (So Kc)
def ZYt (b:Bool):RT (Int):=
 .br (b) (.Lf (1)) (.Lf (0))
def pOne (b:Bool):Int:=(ZYt b).val
def ZVL:En:=Zf ZTk ZTl (λ_=>none) (λa=>pOne a)
theorem ZLC:Za prog 257 ZVL:=
 pureQ 7 [] [] _ _ trivial Tryz.func257 Tryz.call257 trivial
abbrev Zwr:List Sh:=[So Kc]
def ZlL (n:Int):RT (Bool):=
 .Lf (decide (n< -128)||decide (n>127))
def Zns (n:Int):Bool:=(ZlL n).val
def ZsP:En:=Zf Zwr ZnA (λ_=>none) (λa=>Zns a)
theorem ZqN:Za prog 258 ZsP:=
 pureQ 7 [] [] _ _ trivial Tryz.func258 Tryz.call258 trivial
abbrev ZTg:List Sh:=[So Ka,So Ka,So R.bool]
abbrev ZTh:Rs:=Rs.tup [So Ka,So R.bool,So R.bool,So R.bool]
def ZVv (a:Int) (b:Int) (c:Bool):RT (QT20):=
 let x1:=i64.wrap (i64.wrap (i64.wrap a+i64.wrap b)+pOne c)
 .Lf ((u8.wrap x1,decide (x1>255),decide (i64.wrap (i64.wrap (i64.wrap (andI u8 a 15)+i64.wrap (andI u8 b 15))+pOne c)>15),Zns (i64.wrap (i64.wrap (i64.wrap (IntKind.i8.wrap a)+i64.wrap (IntKind.i8.wrap b))+pOne c))))
def pSum (a:Int) (b:Int) (c:Bool):QT20:=(ZVv a b c).val
def ZQN:En:=Zf ZTg ZTh (λ_=>none) (λa=>pSum a.1 a.2.1 a.2.2)
theorem ZzJ:Za prog 233 ZQN:=
 pureQ 4095 [(257,ZVL),(258,ZsP)] [] _ _ ⟨ZLC,ZqN,Tv⟩ Tryz.func233 Tryz.call233 trivial
def ZMo (a:Int) (b:Int) (c:Bool):RT (QT20):=
 let x1:=i64.wrap (i64.wrap (i64.wrap a-i64.wrap b)-pOne c)
 .Lf ((u8.wrap x1,decide (x1<0),decide (i64.wrap (i64.wrap (i64.wrap (i64.wrap (i64.wrap (andI u8 a 15)+15)-i64.wrap (andI u8 b 15))+1)-pOne c)>15),Zns (i64.wrap (i64.wrap (i64.wrap (IntKind.i8.wrap a)-i64.wrap (IntKind.i8.wrap b))-pOne c))))
def Zii (a:Int) (b:Int) (c:Bool):QT20:=(ZMo a b c).val
def ZEl:En:=Zf ZTg ZTh (λ_=>none) (λa=>Zii a.1 a.2.1 a.2.2)
theorem Zt3:Za prog 235 ZEl:=
 pureQ 4095 [(257,ZVL),(258,ZsP)] [] _ _ ⟨ZLC,ZqN,Tv⟩ Tryz.func235 Tryz.call235 trivial
abbrev ZAL:List Sh:=[So Ka,So Ka]
abbrev ZAM:Rs:=Rs.one (So Kb)
def ZTr (h:Int) (l:Int):RT (Int):=
 .Lf (orI u16 (shlI u16 (u16.wrap h) 8) (u16.wrap l))
def ZLW (h:Int) (l:Int):Int:=(ZTr h l).val
def ZD8:En:=Zf ZAL ZAM (λ_=>none) (λa=>ZLW a.1 a.2)
theorem ZlP:Za prog 123 ZD8:=
 pureQ 31 [] [] _ _ trivial Tryz.func123 Tryz.call123 trivial
abbrev ZTv:List Sh:=[So R.bool,So Kc]
abbrev ZMD:Rs:=Rs.one (So Ka)
def ZRk (b:Bool) (n:Int):RT (Option (Int)):=
 .br (!b||decide (0<=n)) (.br (b) (Ls (shlI u8 1 n)) (Ls (0))) Ln
def pBit (b:Bool) (n:Int):Int:=getO ZMD.Df (ZRk b n).val
def Ze2 (b:Bool) (n:Int):Bool:=okB (ZRk b n).val
def ZYA:En:=Zf ZTv ZMD (λa=>some (Ze2 a.1 a.2)) (λa=>pBit a.1 a.2)
theorem ZWf:Za prog 259 ZYA:=
 pureP 31 [] [] _ _ trivial Tryz.func259 Tryz.call259 trivial
abbrev ZLz:List Sh:=[So Kc,Sh.agg rcF7]
def ZwA (chip:Int) (f:TF):RT (Option (Int)):=
 let x1:=orI u8 (orI u8 (orI u8 (orI u8 (pBit f.1 7) (pBit f.2.1 6)) (pBit f.2.2.2.1 4)) (pBit f.2.2.2.2.1 2)) (pBit f.2.2.2.2.2.2 0)
 .br (!Ze2 f.1 7||(!Ze2 f.2.1 6||(!Ze2 f.2.2.2.1 4||(!Ze2 f.2.2.2.2.1 2||Ze2 f.2.2.2.2.2.2 0)))) (.br (!Ze2 f.1 7||(!Ze2 f.2.1 6||(!Ze2 f.2.2.2.1 4||Ze2 f.2.2.2.2.1 2))) (.br (!Ze2 f.1 7||(!Ze2 f.2.1 6||Ze2 f.2.2.2.1 4)) (.br (!Ze2 f.1 7||Ze2 f.2.1 6) (.br (Ze2 f.1 7) (.br (!chip==2||(!Ze2 f.2.2.1 5||Ze2 f.2.2.2.2.2.1 1)) (.br (!chip==2||Ze2 f.2.2.1 5) (.br (chip==2) (Ls (orI u8 (orI u8 x1 (pBit f.2.2.1 5)) (pBit f.2.2.2.2.2.1 1))) (Ls (orI u8 x1 2))) Ln) Ln) Ln) Ln) Ln) Ln) Ln
def ZQ0 (chip:Int) (f:TF):Int:=getO ZMD.Df (ZwA chip f).val
def ZD0 (chip:Int) (f:TF):Bool:=okB (ZwA chip f).val
def ZTj:En:=Zf ZLz ZMD (λa=>some (ZD0 a.1 a.2)) (λa=>ZQ0 a.1 a.2)
theorem ZQZ:Za prog 237 ZTj:=
 pureP 63 [(259,ZYA)] [] _ _ ⟨ZWf,Tv⟩ Tryz.func237 Tryz.call237 trivial
abbrev Zwp:List Sh:=[So Kc,So Ka]
abbrev Zwq:Rs:=Rs.one (Sh.agg rcF7)
def ZsM (chip:Int) (b:Int):RT TF:=
 .Lf ((andI u8 b 128 !=0,andI u8 b 64 !=0,chip==2&&andI u8 b 32 !=0,andI u8 b 16 !=0,andI u8 b 4 !=0,chip==2&&andI u8 b 2 !=0,andI u8 b 1 !=0))
def ZsN (chip:Int) (b:Int):TF:=(ZsM chip b).val
def ZDO:En:=Zf Zwp Zwq (λ_=>none) (λa=>ZsN a.1 a.2)
theorem ZGe:Za prog 246 ZDO:=
 pureQ 63 [] [] _ _ trivial Tryz.func246 Tryz.call246 trivial
def pOfT (r:Int):RT (Option TF):=
 .br (ZlO r) (Ls ((decide (r>=128),r==0,false,false,Zs3 r,false,false))) Ln
def pOf (r:Int):TF:=getO Zwq.Df (pOfT r).val
def pOfC (r:Int):Bool:=okB (pOfT r).val
def pOfE:En:=Zf Zwz Zwq (λa=>some (pOfC a)) (λa=>pOf a)
theorem ZwB:Za prog 239 pOfE:=
 pureP 7 [(260,ZDZ)] [] _ _ ⟨ZGj,Tv⟩ Tryz.func239 Tryz.call239 trivial
def Zo5:En:=.tree (Zo (envX prog [] [] 141872468127 8) Tryz.f232)
theorem Zo4:Za prog 232 Zo5:=ZL trivial Tryz.func232 rfl (by kernel_rfl) Tryz.call232 trivial
abbrev ZL7:List Sh:=[Sh.agg ZmP,So Kc]
def ZVW (r:TR) (n:Int):RT (Int):=
 .br (andI i64 n 7==0) (.Lf r.2.1) (.br (andI i64 n 7==1) (.Lf r.2.2.1) (.br (andI i64 n 7==2) (.Lf r.2.2.2.1) (.br (andI i64 n 7==3) (.Lf r.2.2.2.2.1) (.br (andI i64 n 7==4) (.Lf r.2.2.2.2.2.1) (.br (andI i64 n 7==5) (.Lf r.2.2.2.2.2.2.1) (.br (andI i64 n 7==7) (.Lf r.1) (.Lf (0))))))))
def pGet (r:TR) (n:Int):Int:=(ZVW r n).val
def ZYx:En:=Zf ZL7 ZMD (λ_=>none) (λa=>pGet a.1 a.2)
theorem ZL6:Za prog 182 ZYx:=
 pureQ 63 [(232,Zo5)] [] _ _ ⟨Zo4,Tv⟩ Tryz.func182 Tryz.call182 trivial
abbrev ZLb:List Sh:=[Sh.agg ZmP,So Kc,So Ka]
abbrev ZLc:Rs:=Rs.one (Sh.agg ZmP)
def ZVy (r:TR) (n:Int) (v:Int):RT TR:=
 .br (andI i64 n 7==0) (.Lf ((r.1,v,r.2.2))) (.br (andI i64 n 7==1) (.Lf ((r.1,r.2.1,v,r.2.2.2))) (.br (andI i64 n 7==2) (.Lf ((r.1,r.2.1,r.2.2.1,v,r.2.2.2.2))) (.br (andI i64 n 7==3) (.Lf ((r.1,r.2.1,r.2.2.1,r.2.2.2.1,v,r.2.2.2.2.2))) (.br (andI i64 n 7==4) (.Lf ((r.1,r.2.1,r.2.2.1,r.2.2.2.1,r.2.2.2.2.1,v,r.2.2.2.2.2.2))) (.br (andI i64 n 7==5) (.Lf ((r.1,r.2.1,r.2.2.1,r.2.2.2.1,r.2.2.2.2.1,r.2.2.2.2.2.1,v,r.2.2.2.2.2.2.2))) (.br (andI i64 n 7==7) (.Lf ((v,r.2))) (.Lf (r))))))))
def pSet (r:TR) (n:Int) (v:Int):TR:=(ZVy r n v).val
def ZYp:En:=Zf ZLb ZLc (λ_=>none) (λa=>pSet a.1 a.2.1 a.2.2)
theorem ZLa:Za prog 191 ZYp:=
 pureQ 255 [(232,Zo5)] [] _ _ ⟨Zo4,Tv⟩ Tryz.func191 Tryz.call191 trivial
def ZLw (r:TR) (n:Int):RT (Int):=
 .br (andI i64 n 3==3) (.Lf r.2.2.2.2.2.2.2.2.1) (.Lf (ZLW (pGet r (i64.wrap (2*andI i64 n 3))) (pGet r (i64.wrap (i64.wrap (2*andI i64 n 3)+1)))))
def ZVI (r:TR) (n:Int):Int:=(ZLw r n).val
def ZYs:En:=Zf ZL7 ZAM (λ_=>none) (λa=>ZVI a.1 a.2)
theorem ZQY:Za prog 181 ZYs:=
 pureQ 31 [(123,ZD8),(182,ZYx)] [] _ _ ⟨ZlP,ZL6,Tv⟩ Tryz.func181 Tryz.call181 trivial
abbrev Zkh:List Sh:=[Sh.agg ZmP,So Kc,So Kb]
def Znt (r:TR) (n:Int) (v:Int):RT TR:=
 .br (andI i64 n 3==3) (.Lf ((r.1,r.2.1,r.2.2.1,r.2.2.2.1,r.2.2.2.2.1,r.2.2.2.2.2.1,r.2.2.2.2.2.2.1,r.2.2.2.2.2.2.2.1,v,r.2.2.2.2.2.2.2.2.2))) (.Lf (pSet (pSet r (i64.wrap (2*andI i64 n 3)) (u8.wrap (shrI u16 v 8))) (i64.wrap (i64.wrap (2*andI i64 n 3)+1)) (u8.wrap v)))
def ZsQ (r:TR) (n:Int) (v:Int):TR:=(Znt r n v).val
def ZLd:En:=Zf Zkh ZLc (λ_=>none) (λa=>ZsQ a.1 a.2.1 a.2.2)
theorem ZzM:Za prog 192 ZLd:=
 pureQ 127 [(191,ZYp)] [] _ _ ⟨ZLa,Tv⟩ Tryz.func192 Tryz.call192 trivial
abbrev ZLA:List Sh:=[So Kc,Sh.agg ZmP]
def ZQ1 (chip:Int) (r:TR):RT (Option (Int)):=
 .br (ZD0 chip r.2.2.2.2.2.2.2.1) (Ls (ZLW r.1 (ZQ0 chip r.2.2.2.2.2.2.2.1))) Ln
def pPSW (chip:Int) (r:TR):Int:=getO ZAM.Df (ZQ1 chip r).val
def ZVK (chip:Int) (r:TR):Bool:=okB (ZQ1 chip r).val
def pPSWE:En:=Zf ZLA ZAM (λa=>some (ZVK a.1 a.2)) (λa=>pPSW a.1 a.2)
theorem ZVJ:Za prog 189 pPSWE:=
 pureP 31 [(123,ZD8),(237,ZTj)] [] _ _ ⟨ZlP,ZQZ,Tv⟩ Tryz.func189 Tryz.call189 trivial
abbrev Znu:List Sh:=[So Kc,Sh.agg ZmP,So Kb]
def ZsR (chip:Int) (r:TR) (v:Int):RT TR:=
 .Lf ((u8.wrap (shrI u16 v 8),r.2.1,r.2.2.1,r.2.2.2.1,r.2.2.2.2.1,r.2.2.2.2.2.1,r.2.2.2.2.2.2.1,ZsN chip (u8.wrap v),r.2.2.2.2.2.2.2.2))
def ZzO (chip:Int) (r:TR) (v:Int):TR:=(ZsR chip r v).val
def ZQQ:En:=Zf Znu ZLc (λ_=>none) (λa=>ZzO a.1 a.2.1 a.2.2)
theorem ZGg:Za prog 200 ZQQ:=
 pureQ 127 [(246,ZDO)] [] _ _ ⟨ZGe,Tv⟩ Tryz.func200 Tryz.call200 trivial
abbrev ZD3:List Sh:=[So Kc,So Kc,So Ka,So Ka]
abbrev Ztf:Rs:=Rs.tup [So Ka,Sh.agg rcF7]
def Zoe (chip:Int) (op:Int) (a:Int) (b:Int):RT (Option (QT2)):=
 let x1:Int:=bif op==4 then andI u8 a b else bif op==5 then xorI u8 a b else bif op==6 then orI u8 a b else 0
 let x2:=pOf x1
 let x3:=x2.2
 let x4:=x3.2
 .br (pOfC x1) (Ls ((x1,x2.1,x3.1,bif chip==2 then pMaj (decide (a>=128)) (decide (b>=128)) (decide (x1>=128)) else x4.1,op==4&&(chip==2||andI u8 (orI u8 a b) 8 !=0),x4.2.2))) Ln
def ZD4 (chip:Int) (op:Int) (a:Int) (b:Int):QT2:=getO Ztf.Df (Zoe chip op a b).val
def Ztg (chip:Int) (op:Int) (a:Int) (b:Int):Bool:=okB (Zoe chip op a b).val
def ZLP:En:=Zf ZD3 Ztf (λa=>some (Ztg a.1 a.2.1 a.2.2.1 a.2.2.2)) (λa=>ZD4 a.1 a.2.1 a.2.2.1 a.2.2.2)
theorem ZLO:Za prog 238 ZLP:=
 pureP 8858394623 [(239,pOfE),(240,ZGt)] [] _ _ ⟨ZwB,Zod,Tv⟩ Tryz.func238 Tryz.call238 trivial
abbrev ZV3:List Sh:=[So Kc,So Kc,So Ka,So Ka,Sh.agg rcF7]
def pDoT (chip:Int) (op:Int) (a:Int) (b:Int) (f:TF):RT (Option (QT2)):=
 let x1:=decide (andI i64 op 7>=4)&&decide (andI i64 op 7<=6)
 let x2:=f.2.2.2.2.2.2&&(andI i64 op 7==1||andI i64 op 7==3)
 let x3:=Zii a b x2
 let x4:=x3.1
 let x5:=pOf x4
 let x6:=x5.2
 let x7:=x6.2
 let x8:=x3.2
 let x9:=x8.2
 let x10:=x7.2.2
 let x11:TF:=(x5.1,x6.1,bif chip==2 then pMaj (decide (a>=128)) (decide (b<128)) (decide (x4>=128)) else x7.1,x9.1,x10.1,bif chip==2 then x9.2 else x10.2.1,x8.1)
 let x12:=pSum a b x2
 let x13:=x12.1
 let x14:=pOf x13
 let x15:=x14.2
 let x16:=x15.2
 let x17:=x12.2
 let x18:=x17.2
 let x19:=x16.2.2
 let x20:TF:=(x14.1,x15.1,bif chip==2 then pMaj (decide (a>=128)) (decide (b>=128)) (decide (x13>=128)) else x16.1,x18.1,x19.1,bif chip==2 then x18.2 else x19.2.1,x17.1)
 .br (!x1||Ztg chip (andI i64 op 7) a b) (.br (x1) (Ls (ZD4 chip (andI i64 op 7) a b)) (.br (andI i64 op 7 !=0&&andI i64 op 7 !=1) (.br (pOfC x4) (.br (andI i64 op 7==7) (Ls ((a,x11))) (Ls ((x4,x11)))) Ln) (.br (pOfC x13) (.br (andI i64 op 7==7) (Ls ((a,x20))) (Ls ((x13,x20)))) Ln))) Ln
def pDo (chip:Int) (op:Int) (a:Int) (b:Int) (f:TF):QT2:=getO Ztf.Df (pDoT chip op a b f).val
def pDoC (chip:Int) (op:Int) (a:Int) (b:Int) (f:TF):Bool:=okB (pDoT chip op a b f).val
def pDoE:En:=Zf ZV3 Ztf (λa=>some (pDoC a.1 a.2.1 a.2.2.1 a.2.2.2.1 a.2.2.2.2)) (λa=>pDo a.1 a.2.1 a.2.2.1 a.2.2.2.1 a.2.2.2.2)
theorem ZYz:Za prog 193 pDoE:=
 pureP 1048575 [(233,ZQN),(235,ZEl),(238,ZLP),(239,pOfE),(240,ZGt)] [] _ _ ⟨ZzJ,Zt3,ZLO,ZwB,Zod,Tv⟩ Tryz.func193 Tryz.call193 trivial
abbrev Zwx:List Sh:=[So Kc,So Ka,So Ka,So R.bool,So R.bool,So R.bool,Sh.agg rcF7]
def ZlM (chip:Int) (v:Int) (r:Int) (half:Bool) (over:Bool) (x:Bool) (f:TF):RT (Option TF):=
 .br (pOfC r) (Ls (((pOf r).1,(pOf r).2.1,bif chip==2 then pMaj (decide (v>=128)) x (decide (r>=128)) else (pOf r).2.2.1,half,(pOf r).2.2.2.2.1,bif chip==2 then over else (pOf r).2.2.2.2.2.1,f.2.2.2.2.2.2))) Ln
def Zny (chip:Int) (v:Int) (r:Int) (half:Bool) (over:Bool) (x:Bool) (f:TF):TF:=getO Zwq.Df (ZlM chip v r half over x f).val
def Zja (chip:Int) (v:Int) (r:Int) (half:Bool) (over:Bool) (x:Bool) (f:TF):Bool:=okB (ZlM chip v r half over x f).val
def ZsT:En:=Zf Zwx Zwq (λa=>some (Zja a.1 a.2.1 a.2.2.1 a.2.2.2.1 a.2.2.2.2.1 a.2.2.2.2.2.1 a.2.2.2.2.2.2)) (λa=>Zny a.1 a.2.1 a.2.2.1 a.2.2.2.1 a.2.2.2.2.1 a.2.2.2.2.2.1 a.2.2.2.2.2.2)
theorem ZqO:Za prog 234 ZsT:=
 pureP 65535 [(239,pOfE),(240,ZGt)] [] _ _ ⟨ZwB,Zod,Tv⟩ Tryz.func234 Tryz.call234 trivial
abbrev ZL0:List Sh:=[So Kc,So Ka,Sh.agg rcF7]
def ZQ8 (chip:Int) (v:Int) (f:TF):RT (Option (QT2)):=
 .br (Zja chip v (pSum v 1 false).1 (pSum v 1 false).2.2.1 (pSum v 1 false).2.2.2 false f) (Ls (((pSum v 1 false).1,Zny chip v (pSum v 1 false).1 (pSum v 1 false).2.2.1 (pSum v 1 false).2.2.2 false f))) Ln
def pInr (chip:Int) (v:Int) (f:TF):QT2:=getO Ztf.Df (ZQ8 chip v f).val
def ZVU (chip:Int) (v:Int) (f:TF):Bool:=okB (ZQ8 chip v f).val
def pInrE:En:=Zf ZL0 Ztf (λa=>some (ZVU a.1 a.2.1 a.2.2)) (λa=>pInr a.1 a.2.1 a.2.2)
theorem ZVT:Za prog 183 pInrE:=
 pureP 4095 [(233,ZQN),(234,ZsT)] [] _ _ ⟨ZzJ,ZqO,Tv⟩ Tryz.func183 Tryz.call183 trivial
def ZRg (chip:Int) (v:Int) (f:TF):RT (Option (QT2)):=
 .br (Zja chip v (Zii v 1 false).1 (Zii v 1 false).2.2.1 (Zii v 1 false).2.2.2 true f) (Ls (((Zii v 1 false).1,Zny chip v (Zii v 1 false).1 (Zii v 1 false).2.2.1 (Zii v 1 false).2.2.2 true f))) Ln
def pDcr (chip:Int) (v:Int) (f:TF):QT2:=getO Ztf.Df (ZRg chip v f).val
def ZV9 (chip:Int) (v:Int) (f:TF):Bool:=okB (ZRg chip v f).val
def pDcrE:En:=Zf ZL0 Ztf (λa=>some (ZV9 a.1 a.2.1 a.2.2)) (λa=>pDcr a.1 a.2.1 a.2.2)
theorem ZV8:Za prog 184 pDcrE:=
 pureP 4095 [(234,ZsT),(235,ZEl)] [] _ _ ⟨ZqO,Zt3,Tv⟩ Tryz.func184 Tryz.call184 trivial
abbrev ZLX:List Sh:=[So Kc,So Kb,Sh.agg rcF7]
abbrev ZLY:Rs:=Rs.tup [So Kb,Sh.agg rcF7]
def ZVS (chip:Int) (v:Int) (f:TF):RT (QT2):=
 .Lf ((u16.wrap (v+1),f.1,f.2.1,bif chip==2 then v==65535 else f.2.2.1,f.2.2.2))
def pInx (chip:Int) (v:Int) (f:TF):QT2:=(ZVS chip v f).val
def pInxE:En:=Zf ZLX ZLY (λ_=>none) (λa=>pInx a.1 a.2.1 a.2.2)
theorem ZVR:Za prog 195 pInxE:=
 pureQ 255 [] [] _ _ trivial Tryz.func195 Tryz.call195 trivial
def ZV7 (chip:Int) (v:Int) (f:TF):RT (QT2):=
 .Lf ((u16.wrap (v-1),f.1,f.2.1,bif chip==2 then v==0 else f.2.2.1,f.2.2.2))
def pDcx (chip:Int) (v:Int) (f:TF):QT2:=(ZV7 chip v f).val
def pDcxE:En:=Zf ZLX ZLY (λ_=>none) (λa=>pDcx a.1 a.2.1 a.2.2)
theorem ZV6:Za prog 196 pDcxE:=
 pureQ 255 [] [] _ _ trivial Tryz.func196 Tryz.call196 trivial
abbrev ZMu:List Sh:=[So Kc,So Kb,So Kb,Sh.agg rcF7]
def ZWb (chip:Int) (a:Int) (b:Int) (f:TF):RT (QT2):=
 .Lf ((u16.wrap (a+b),f.1,f.2.1,f.2.2.1,f.2.2.2.1,f.2.2.2.2.1,bif chip==2 then andI u16 (andI u16 (xorI u16 a (u16.wrap (a+b))) (xorI u16 b (u16.wrap (a+b)))) 32768 !=0 else f.2.2.2.2.2.1,decide (u16.wrap (a+b)<a)))
def pDad (chip:Int) (a:Int) (b:Int) (f:TF):QT2:=(ZWb chip a b f).val
def pDadE:En:=Zf ZMu ZLY (λ_=>none) (λa=>pDad a.1 a.2.1 a.2.2.1 a.2.2.2)
theorem ZWa:Za prog 197 pDadE:=
 pureQ 2047 [] [] _ _ trivial Tryz.func197 Tryz.call197 trivial
abbrev ZA0:List Sh:=[So Kb,So Kb]
def ZEk (a:Int) (b:Int):RT (Option (QT2)):=
 let x1:=Zii (u8.wrap (shrI u16 a 8)) (u8.wrap (shrI u16 b 8)) (Zii (u8.wrap a) (u8.wrap b) false).2.1
 let x2:=x1.1
 let x3:=pOf x2
 let x4:=x1.2
 let x5:=x4.2
 .br (pOfC x2) (Ls ((ZLW x2 (Zii (u8.wrap a) (u8.wrap b) false).1,x3.1,x2==0&&(Zii (u8.wrap a) (u8.wrap b) false).1==0,pMaj (decide (a>=32768)) (decide (b<32768)) (decide (x2>=128)),x5.1,x3.2.2.2.2.1,x5.2,x4.1))) Ln
def ZV2 (a:Int) (b:Int):QT2:=getO ZLY.Df (ZEk a b).val
def ZMl (a:Int) (b:Int):Bool:=okB (ZEk a b).val
def ZYy:En:=Zf ZA0 ZLY (λa=>some (ZMl a.1 a.2)) (λa=>ZV2 a.1 a.2)
theorem ZRc:Za prog 202 ZYy:=
 pureP 32767 [(123,ZD8),(235,ZEl),(239,pOfE),(240,ZGt)] [] _ _ ⟨ZlP,Zt3,ZwB,Zod,Tv⟩ Tryz.func202 Tryz.call202 trivial
def ZRi (chip:Int) (a:Int) (f:TF):RT (Option (QT2)):=
 let x1:Int:=bif f.2.2.2.1||decide (andI u8 a 15>9) then 6 else 0
 let x2:=pSum a (bif f.2.2.2.2.2.2||decide (a>153) then u8.wrap (x1+96) else x1) false
 let x3:=x2.1
 let x4:=pOf x3
 let x5:=x4.2
 let x6:=x5.2
 let x7:=x2.2.2
 let x8:=x6.2.2
 .br (pOfC x3) (Ls ((x3,x4.1,x5.1,bif chip==2 then pMaj (decide (a>=128)) false (decide (x3>=128)) else x6.1,x7.1,x8.1,bif chip==2 then x7.2 else x8.2.1,f.2.2.2.2.2.2||decide (a>153)))) Ln
def pDaa (chip:Int) (a:Int) (f:TF):QT2:=getO Ztf.Df (ZRi chip a f).val
def ZWd (chip:Int) (a:Int) (f:TF):Bool:=okB (ZRi chip a f).val
def pDaaE:En:=Zf ZL0 Ztf (λa=>some (ZWd a.1 a.2.1 a.2.2)) (λa=>pDaa a.1 a.2.1 a.2.2)
theorem ZWc:Za prog 198 pDaaE:=
 pureP 32767 [(233,ZQN),(239,pOfE),(240,ZGt)] [] _ _ ⟨ZzJ,ZwB,Zod,Tv⟩ Tryz.func198 Tryz.call198 trivial
def ZYw (c:Bool):RT (Int):=
 .br (c) (.Lf (1)) (.Lf (0))
def pLow (c:Bool):Int:=(ZYw c).val
def ZGu:En:=Zf ZTk ZMD (λ_=>none) (λa=>pLow a)
theorem ZAH:Za prog 244 ZGu:=
 pureQ 7 [] [] _ _ trivial Tryz.func244 Tryz.call244 trivial
def ZgW:En:=.tree (Zo (envX prog [] [] 7 8) Tryz.f241)
theorem ZkD:Za prog 241 ZgW:=ZL trivial Tryz.func241 rfl (by kernel_rfl) Tryz.call241 trivial
def ZgV:En:=.tree (Zo (envX prog [] [] 7 8) Tryz.f242)
theorem ZkC:Za prog 242 ZgV:=ZL trivial Tryz.func242 rfl (by kernel_rfl) Tryz.call242 trivial
def ZgU:En:=.tree (Zo (envX prog [(244,ZGu)] [] 15 8) Tryz.f243)
theorem ZkB:Za prog 243 ZgU:=ZL ⟨ZAH,Tv⟩ Tryz.func243 rfl (by kernel_rfl) Tryz.call243 trivial
def ZgT:En:=.tree (Zo (envX prog [(244,ZGu)] [] 15 8) Tryz.f245)
theorem ZkA:Za prog 245 ZgT:=ZL ⟨ZAH,Tv⟩ Tryz.func245 rfl (by kernel_rfl) Tryz.call245 trivial
abbrev ZLg:List Sh:=[So Kc,So Ka,So R.bool]
abbrev ZDV:Rs:=Rs.tup [So Ka,So R.bool]
def ZQS (op:Int) (a:Int) (c:Bool):RT (Option (Int×Bool)):=
 .br (andI i64 op 3==0||(andI i64 op 3== ↑(0+1)||(andI i64 op 3== ↑(0+1+1)||andI i64 op 3== ↑(0+1+1+1)))) (Ls ((bif andI i64 op 3==0 then orI u8 (shlI u8 a 1) (shrI u8 a 7) else bif andI i64 op 3== ↑(0+1) then orI u8 (shrI u8 a 1) (shlI u8 a 7) else bif andI i64 op 3== ↑(0+1+1) then orI u8 (shlI u8 a 1) (pLow c) else orI u8 (shrI u8 a 1) (shlI u8 (pLow c) 7),bif andI i64 op 3==0 then decide (a>=128) else bif andI i64 op 3== ↑(0+1) then andI u8 a 1==1 else bif andI i64 op 3== ↑(0+1+1) then decide (a>=128) else andI u8 a 1==1))) Ln
def pRot (op:Int) (a:Int) (c:Bool):Int×Bool:=getO ZDV.Df (ZQS op a c).val
def ZVA (op:Int) (a:Int) (c:Bool):Bool:=okB (ZQS op a c).val
def pRotE:En:=Zf ZLg ZDV (λa=>some (ZVA a.1 a.2.1 a.2.2)) (λa=>pRot a.1 a.2.1 a.2.2)
theorem ZVz:Za prog 199 pRotE:=
 pureP 511 [(241,ZgW),(242,ZgV),(243,ZgU),(245,ZgT)] [] _ _ ⟨ZkD,ZkC,ZkB,ZkA,Tv⟩ Tryz.func199 Tryz.call199 trivial
abbrev ZA3:List Sh:=[So Kb]
abbrev ZA4:Rs:=Rs.tup [So Kb,So R.bool]
def ZTw (v:Int):RT (Int×Bool):=
 .Lf ((orI u16 (shrI u16 v 1) (andI u16 v 32768),andI u16 v 1==1))
def ZYC (v:Int):Int×Bool:=(ZTw v).val
def ZYB:En:=Zf ZA3 ZA4 (λ_=>none) (λa=>ZYC a)
theorem ZRl:Za prog 203 ZYB:=
 pureQ 15 [] [] _ _ trivial Tryz.func203 Tryz.call203 trivial
abbrev ZzT:List Sh:=[So Kb,So R.bool]
abbrev ZzU:Rs:=Rs.tup [So Kb,So R.bool,So R.bool]
def ZLq (v:Int) (c:Bool):RT (Int×Bool×Bool):=
 .Lf ((orI u16 (shlI u16 v 1) (u16.wrap (pLow c)),decide (v>=32768),andI u16 (xorI u16 (orI u16 (shlI u16 v 1) (u16.wrap (pLow c))) v) 32768 !=0))
def ZVG (v:Int) (c:Bool):Int×Bool×Bool:=(ZLq v c).val
def ZYq:En:=Zf ZzT ZzU (λ_=>none) (λa=>ZVG a.1 a.2)
theorem ZQW:Za prog 204 ZYq:=
 pureQ 127 [(244,ZGu)] [] _ _ ⟨ZAH,Tv⟩ Tryz.func204 Tryz.call204 trivial
def ZDU (b:Bool) (n:Int):RT (Option (Int)):=
 .br (!b||decide (0<=n)) (.br (b) (Ls (shlI u8 1 n)) (Ls (0))) Ln
def Zww (b:Bool) (n:Int):Int:=getO ZMD.Df (ZDU b n).val
def Zc5 (b:Bool) (n:Int):Bool:=okB (ZDU b n).val
def ZTi:En:=Zf ZTv ZMD (λa=>some (Zc5 a.1 a.2)) (λa=>Zww a.1 a.2)
theorem ZQR:Za prog 201 ZTi:=
 pureP 31 [] [] _ _ trivial Tryz.func201 Tryz.call201 trivial
abbrev ZLi:List Sh:=[Sh.agg Zbc,Sh.agg (Pq R.bool (Pq R.bool rcF7))]
abbrev ZDW:Rs:=Rs.tup [So Ka,Sh.agg Zbc]
def ZQU (c:TC) (l:QT1):RT (Option (Int×TC)):=
 let x1:=bif c.2.2.2.2.2.2.2.2.2.2.1 then c.2.2.2.2.2.2.2.2.2.2.2.1 else c.2.2.1
 .br (!Zc5 l.2.2.2.1 7||(!Zc5 c.2.2.2.2.2.2.2.1 6||(!Zc5 l.2.2.2.2.2.2.1 5||(!Zc5 l.2.2.2.2.2.2.2.1 4||Zc5 x1 3)))) (.br (!Zc5 l.2.2.2.1 7||(!Zc5 c.2.2.2.2.2.2.2.1 6||(!Zc5 l.2.2.2.2.2.2.1 5||Zc5 l.2.2.2.2.2.2.2.1 4))) (.br (!Zc5 l.2.2.2.1 7||(!Zc5 c.2.2.2.2.2.2.2.1 6||Zc5 l.2.2.2.2.2.2.1 5)) (.br (!Zc5 l.2.2.2.1 7||Zc5 c.2.2.2.2.2.2.2.1 6) (.br (Zc5 l.2.2.2.1 7) (Ls ((orI u8 (orI u8 (orI u8 (orI u8 (orI u8 (Zww l.2.2.2.1 7) (Zww c.2.2.2.2.2.2.2.1 6)) (Zww l.2.2.2.2.2.2.1 5)) (Zww l.2.2.2.2.2.2.2.1 4)) (Zww x1 3)) (andI u8 c.2.2.2.2.2.1 7),c.1,c.2.1,c.2.2.1,c.2.2.2.1,c.2.2.2.2.1,c.2.2.2.2.2.1,c.2.2.2.2.2.2.1,c.2.2.2.2.2.2.2.1,c.2.2.2.2.2.2.2.2.1,c.2.2.2.2.2.2.2.2.2.1,false,false,c.2.2.2.2.2.2.2.2.2.2.2.2))) Ln) Ln) Ln) Ln) Ln
def pRim (c:TC) (l:QT1):Int×TC:=getO ZDW.Df (ZQU c l).val
def ZVC (c:TC) (l:QT1):Bool:=okB (ZQU c l).val
def pRimE:En:=Zf ZLi ZDW (λa=>some (ZVC a.1 a.2)) (λa=>pRim a.1 a.2)
theorem ZVB:Za prog 130 pRimE:=
 pureP 255 [(201,ZTi)] [] _ _ ⟨ZQR,Tv⟩ Tryz.func130 Tryz.call130 trivial
abbrev ZK7:List Sh:=[Sh.agg Zbc,So Ka]
abbrev ZK8:Rs:=Rs.one (Sh.agg Zbc)
def ZVx (c:TC) (a:Int):RT TC:=
 .Lf ((c.1,c.2.1,c.2.2.1,c.2.2.2.1,c.2.2.2.2.1,bif andI u8 a 8 !=0 then andI u8 a 7 else c.2.2.2.2.2.1,c.2.2.2.2.2.2.1,!andI u8 a 16 !=0&&c.2.2.2.2.2.2.2.1,c.2.2.2.2.2.2.2.2.1,c.2.2.2.2.2.2.2.2.2.1,c.2.2.2.2.2.2.2.2.2.2.1,c.2.2.2.2.2.2.2.2.2.2.2.1,bif andI u8 a 64 !=0 then andI u8 a 128 !=0 else c.2.2.2.2.2.2.2.2.2.2.2.2))
def pSim (c:TC) (a:Int):TC:=(ZVx c a).val
def pSimE:En:=Zf ZK7 ZK8 (λ_=>none) (λa=>pSim a.1 a.2)
theorem ZVw:Za prog 131 pSimE:=
 pureQ 31 [] [] _ _ trivial Tryz.func131 Tryz.call131 trivial
def ZAN (c:Int) (f:TF):RT (Bool):=
 .br (bif c==0 then c==0 else c==1) (.Lf (f.2.1==(c==1))) (.br (bif c==2 then c==2 else c==3) (.Lf (f.2.2.2.2.2.2==(c==3))) (.br (bif c==4 then c==4 else c==5) (.Lf (f.2.2.2.2.1==(c==5))) (.br (bif c==6 then c==6 else c==7) (.Lf (f.1==(c==7))) (.br (bif c==8 then c==8 else c==9) (.Lf (f.2.2.1==(c==9))) (.br (c==10) (.Lf f.2.2.2.2.2.1) (.Lf (c==11)))))))
def ZL5 (c:Int) (f:TF):Bool:=(ZAN c f).val
def ZVV:En:=Zf ZLz ZnA (λ_=>none) (λa=>ZL5 a.1 a.2)
theorem ZL4:Za prog 236 ZVV:=
 pureQ 70644700037215 [] [] _ _ trivial Tryz.func236 Tryz.call236 trivial
def ZsL (s:Int):RT (Int):=
 .br (s==1) (.Lf (36)) (.br (s==2) (.Lf (60)) (.br (s==3) (.Lf (52)) (.br (s==4) (.Lf (44)) (.Lf (0)))))
def ZzH (s:Int):Int:=(ZsL s).val
def ZQL:En:=Zf Zwr ZAM (λ_=>none) (λa=>ZzH a)
theorem ZGb:Za prog 47 ZQL:=
 pureQ 1367 [] [] _ _ trivial Tryz.func47 Tryz.call47 trivial
abbrev ZD6:Rs:=Rs.tup [Sh.agg (Pq Kc (Pq Kc (Pq Kc (Pq Kc (Pq Kc (Pq Kc (Pq Kc Kc))))))),So R.bool]
def ZLR (op:Int):RT (TI×Bool):=
 .br (op==8) (.Lf (((40,1,0,0,0,0,0,0),true))) (.br (op==16) (.Lf (((41,1,0,0,0,0,0,0),true))) (.br (op==24) (.Lf (((42,1,0,0,0,0,0,0),true))) (.br (op==32) (.Lf (((38,1,0,0,0,0,0,0),true))) (.br (op==40) (.Lf (((43,2,0,0,0,0,0,0),true))) (.br (op==48) (.Lf (((39,1,0,0,0,0,0,0),true))) (.br (op==56) (.Lf (((44,2,0,0,0,0,0,0),true))) (.br (op==203) (.Lf (((45,1,0,0,0,0,10,0),true))) (.br (op==217) (.Lf (((46,1,0,0,0,0,0,0),true))) (.br (op==221) (.Lf (((24,3,0,0,0,0,8,0),true))) (.br (op==237) (.Lf (((47,1,0,0,0,0,0,0),true))) (.br (op==253) (.Lf (((24,3,0,0,0,0,9,0),true))) (.Lf (((0,0,0,0,0,0,0,0),false))))))))))))))
def ZLT (op:Int):TI×Bool:=(ZLR op).val
def ZLS:En:=Zf Zwz ZD6 (λ_=>none) (λa=>ZLT a)
theorem ZLQ:Za prog 97 ZLS:=
 pureQ 314146179375 [] [] _ _ trivial Tryz.func97 Tryz.call97 trivial
def ZwG (op:Int):RT (TI×Bool):=
 .br (bif op==0 then op==0 else bif op==8 then op==8 else bif op==16 then op==16 else bif op==24 then op==24 else bif op==32 then op==32 else bif op==40 then op==40 else bif op==48 then op==48 else op==56) (.Lf (((1,1,0,0,0,0,0,0),true))) (.br (bif op==195 then op==195 else op==203) (.Lf (((24,3,0,0,0,0,11,0),true))) (.br (bif op==201 then op==201 else op==217) (.Lf (((26,1,0,0,0,0,11,0),true))) (.br (bif op==205 then op==205 else bif op==221 then op==221 else bif op==237 then op==237 else op==253) (.Lf (((25,3,0,0,0,0,11,0),true))) (.Lf (((0,0,0,0,0,0,0,0),false))))))
def Zjb (op:Int):TI×Bool:=(ZwG op).val
def ZwH:En:=Zf Zwz ZD6 (λ_=>none) (λa=>Zjb a)
theorem ZAZ:Za prog 98 ZwH:=
 pureQ 8945711 [] [] _ _ trivial Tryz.func98 Tryz.call98 trivial
abbrev Zz1:Rs:=Rs.one (Sh.agg (Pq Kc (Pq Kc (Pq Kc (Pq Kc (Pq Kc (Pq Kc (Pq Kc Kc))))))))
def ZLE (op:Int):RT (Option TI):=
 let x1:QT29:=(0,0,i64.wrap (andI u8 (shrI u8 op 4) 3),0,0,0)
 let x2:QT23:=(1,x1)
 let x3:=decide (i64.wrap (andI u8 (shrI u8 op 3) 7)<4)&&andI u8 op 8 !=0
 let x4:=decide (0<=i64.wrap (i64.wrap (andI u8 (shrI u8 op 3) 7)-4)/\i64.wrap (i64.wrap (andI u8 (shrI u8 op 3) 7)-4)<4)
 let x5:=i64.wrap (i64.wrap (andI u8 (shrI u8 op 3) 7)-4)==0
 let x6:=i64.wrap (i64.wrap (andI u8 (shrI u8 op 3) 7)-4)== ↑(0+1)
 let x7:=i64.wrap (i64.wrap (andI u8 (shrI u8 op 3) 7)-4)== ↑(0+1+1)
 let x8:QT29:=(i64.wrap (andI u8 (shrI u8 op 3) 7),0,0,0,0,0)
 let x9:QT23:=(1,x8)
 .br (andI u8 op 7==1) (.br (andI u8 op 8 !=0) (Ls ((18,x2))) (Ls ((4,3,x1)))) (.br (!andI u8 op 7==2||(x3||(decide (i64.wrap (andI u8 (shrI u8 op 3) 7)<4)||x4))) (.br (andI u8 op 7==2) (.br (x3) (Ls ((9,x2))) (.br (decide (i64.wrap (andI u8 (shrI u8 op 3) 7)<4)) (Ls ((10,x2))) (Ls ((bif x5 then 8 else bif x6 then 7 else bif x7 then 6 else 5,3,0,0,0,0,0,0))))) (.br (andI u8 op 7==3) (.br (andI u8 op 8 !=0) (Ls ((17,x2))) (Ls ((16,x2)))) (.br (andI u8 op 7==4) (Ls ((14,x9))) (.br (andI u8 op 7==5) (Ls ((15,x9))) (.br (andI u8 op 7==6) (Ls ((3,2,x8))) (.br (decide (i64.wrap (andI u8 (shrI u8 op 3) 7)<4)) (Ls ((23,1,0,0,0,i64.wrap (andI u8 (shrI u8 op 3) 7),0,0))) (.br (x4) (Ls ((bif x5 then 19 else bif x6 then 20 else bif x7 then 21 else 22,1,0,0,0,0,0,0))) Ln))))))) Ln)
def ZVM (op:Int):QT4:=getO Zz1.Df (ZLE op).val
def ZLF (op:Int):Bool:=okB (ZLE op).val
def ZTm:En:=Zf Zwz Zz1 (λa=>some (ZLF a)) (λa=>ZVM a)
theorem ZQ3:Za prog 99 ZTm:=
 pureP 614758941389750335 [] [] _ _ trivial Tryz.func99 Tryz.call99 trivial
def Zz2 (op:Int):RT (Option TI):=
 let x1:QT29:=(0,0,0,0,i64.wrap (andI u8 (shrI u8 op 3) 7),0)
 let x2:QT23:=(1,0,0,i64.wrap (andI u8 (shrI u8 op 4) 3),0,0,0)
 let x3:=andI u8 op 7==2||(!andI u8 op 7==3||(!decide (i64.wrap (andI u8 (shrI u8 op 3) 7)<4)||decide (0<=i64.wrap (i64.wrap (andI u8 (shrI u8 op 3) 7)-2)/\i64.wrap (i64.wrap (andI u8 (shrI u8 op 3) 7)-2)<2)))
 let x4:QT23:=(3,x1)
 .br (andI u8 op 7==0) (Ls ((26,1,x1))) (.br (andI u8 op 7==1) (.br (!andI u8 op 8 !=0) (Ls ((31,x2))) (.br (i64.wrap (andI u8 (shrI u8 op 3) 7)==5) (Ls ((28,1,0,0,0,0,0,0))) (Ls ((29,1,0,0,0,0,0,0))))) (.br (!x3||(andI u8 op 7==2||(!andI u8 op 7==3||(decide (i64.wrap (andI u8 (shrI u8 op 3) 7)<4)||decide (0<=i64.wrap (i64.wrap (andI u8 (shrI u8 op 3) 7)-4)/\i64.wrap (i64.wrap (andI u8 (shrI u8 op 3) 7)-4)<4))))) (.br (x3) (.br (andI u8 op 7==2) (Ls ((24,x4))) (.br (andI u8 op 7==3) (.br (decide (i64.wrap (andI u8 (shrI u8 op 3) 7)<4)) (Ls ((bif i64.wrap (i64.wrap (andI u8 (shrI u8 op 3) 7)-2)==0 then 34 else 33,2,0,0,0,0,0,0))) (Ls ((bif i64.wrap (i64.wrap (andI u8 (shrI u8 op 3) 7)-4)==0 then 32 else bif i64.wrap (i64.wrap (andI u8 (shrI u8 op 3) 7)-4)== ↑(0+1) then 11 else bif i64.wrap (i64.wrap (andI u8 (shrI u8 op 3) 7)-4)== ↑(0+1+1) then 36 else 35,1,0,0,0,0,0,0)))) (.br (andI u8 op 7==4) (Ls ((25,x4))) (.br (andI u8 op 7==5) (Ls ((30,x2))) (.br (andI u8 op 7==6) (Ls ((13,2,0,0,0,i64.wrap (andI u8 (shrI u8 op 3) 7),0,0))) (Ls ((27,1,0,0,0,0,0,i64.wrap (andI u8 (shrI u8 op 3) 7))))))))) Ln) Ln))
def ZLI (op:Int):QT4:=getO Zz1.Df (Zz2 op).val
def Zz3 (op:Int):Bool:=okB (Zz2 op).val
def ZLH:En:=Zf Zwz Zz1 (λa=>some (Zz3 a)) (λa=>ZLI a)
theorem ZLG:Za prog 100 ZLH:=
 pureP 614741495173873727 [] [] _ _ trivial Tryz.func100 Tryz.call100 trivial
def ZfS (chip:Int) (op:Int):RT (Option TI):=
 let x1:QT4:=(37,1,0,0,0,0,0,0)
 let x2:QT4:=(2,1,i64.wrap (andI u8 (shrI u8 op 3) 7),i64.wrap (andI u8 op 7),0,0,0,0)
 let x3:QT4:=(12,1,0,i64.wrap (andI u8 op 7),0,i64.wrap (andI u8 (shrI u8 op 3) 7),0,0)
 .br (chip==2) (.br (ZLT op).2 (Ls (ZLT op).1) (.br (Zjb op).2 (Ls (Zjb op).1) (.br (!shrI u8 op 6==0||ZLF op) (.br (shrI u8 op 6==0) (Ls (ZVM op)) (.br (shrI u8 op 6==1) (.br (op==118) (Ls (x1)) (Ls (x2))) (.br (shrI u8 op 6==2) (Ls (x3)) (.br (Zz3 op) (Ls (ZLI op)) Ln)))) Ln))) (.br (Zjb op).2 (Ls (Zjb op).1) (.br (!shrI u8 op 6==0||ZLF op) (.br (shrI u8 op 6==0) (Ls (ZVM op)) (.br (shrI u8 op 6==1) (.br (op==118) (Ls (x1)) (Ls (x2))) (.br (shrI u8 op 6==2) (Ls (x3)) (.br (Zz3 op) (Ls (ZLI op)) Ln)))) Ln))
def Zol (chip:Int) (op:Int):QT4:=getO Zz1.Df (ZfS chip op).val
def ZlQ (chip:Int) (op:Int):Bool:=okB (ZfS chip op).val
def ZRe:En:=Zf Zwp Zz1 (λa=>some (ZlQ a.1 a.2)) (λa=>Zol a.1 a.2)
theorem ZHc:Za prog 37 ZRe:=
 pureP 17594467746303 [(97,ZLS),(98,ZwH),(99,ZTm),(100,ZLH)] [] _ _ ⟨ZLQ,ZAZ,ZQ3,ZLG,Tv⟩ Tryz.func37 Tryz.call37 trivial
def rOnT (chip:Int):RT (Bool):=
 .Lf (chip==2)
def rOn (chip:Int):Bool:=(rOnT chip).val
def ZQf (b:Int):RT (Bool):=
 let x1:=i64.wrap (i64.wrap (i64.wrap (i64.wrap (0+1)+1)+1)+1)
 let x2:=i64.wrap (x1+1)
 let x3:=i64.wrap (x2+1)
 let x4:=bif andI u8 (shrI u8 b (i64.wrap (0+1))) 1==1 then !!andI u8 (shrI u8 b 0) 1==1 else !andI u8 (shrI u8 b 0) 1==1
 let x5:=bif andI u8 (shrI u8 b (i64.wrap (i64.wrap (0+1)+1))) 1==1 then !x4 else x4
 let x6:=bif andI u8 (shrI u8 b (i64.wrap (i64.wrap (i64.wrap (0+1)+1)+1))) 1==1 then !x5 else x5
 let x7:=bif andI u8 (shrI u8 b x1) 1==1 then !x6 else x6
 let x8:=bif andI u8 (shrI u8 b x2) 1==1 then !x7 else x7
 let x9:=bif andI u8 (shrI u8 b x3) 1==1 then !x8 else x8
 .Lf (bif andI u8 (shrI u8 b (i64.wrap (x3+1))) 1==1 then !x9 else x9)
def Zsc (b:Int):Bool:=(ZQf b).val
def rMajT (a:Bool) (b:Bool) (c:Bool):RT (Bool):=
 .Lf (bif a then b||bif a then c||b&&c else b&&c else bif a then c||b&&c else b&&c)
def rMaj (a:Bool) (b:Bool) (c:Bool):Bool:=(rMajT a b c).val
def rOneT (b:Bool):RT (Int):=
 .br (b) (.Lf (1)) (.Lf (0))
def rOne (b:Bool):Int:=(rOneT b).val
def Zr9 (n:Int):RT (Int):=
 .Lf (i64.wrap (IntKind.i8.wrap n))
def Ze0 (n:Int):Int:=(Zr9 n).val
def ZU3 (a:Int) (b:Int) (c:Bool):RT (QT20):=
 let x1:=decide (i64.wrap (i64.wrap (Ze0 a+Ze0 b)+rOne c)< -128)
 let x2:=i64.wrap (i64.wrap (i64.wrap a+i64.wrap b)+rOne c)
 let x3:=u8.wrap x2
 let x4:=decide (x2>255)
 let x5:=decide (i64.wrap (i64.wrap (i64.wrap (andI u8 a 15)+i64.wrap (andI u8 b 15))+rOne c)>15)
 .Lf ((bif x1 then x3 else x3,bif x1 then x4 else x4,bif x1 then x5 else x5,x1||decide (i64.wrap (i64.wrap (Ze0 a+Ze0 b)+rOne c)>127)))
def rSum (a:Int) (b:Int) (c:Bool):QT20:=(ZU3 a b c).val
def ZKf (a:Int) (b:Int) (c:Bool):RT (QT20):=
 let x1:=decide (i64.wrap (i64.wrap (Ze0 a-Ze0 b)-rOne c)< -128)
 let x2:=i64.wrap (i64.wrap (i64.wrap a-i64.wrap b)-rOne c)
 let x3:=u8.wrap x2
 let x4:=decide (x2<0)
 let x5:=decide (i64.wrap (i64.wrap (i64.wrap (i64.wrap (andI u8 a 15)+i64.wrap (u8.wrap (15-andI u8 b 15)))+1)-rOne c)>15)
 .Lf ((bif x1 then x3 else x3,bif x1 then x4 else x4,bif x1 then x5 else x5,x1||decide (i64.wrap (i64.wrap (Ze0 a-Ze0 b)-rOne c)>127)))
def Zc2 (a:Int) (b:Int) (c:Bool):QT20:=(ZKf a b c).val
def ZX3 (h:Int) (l:Int):RT (Int):=
 .Lf (orI u16 (shlI u16 (u16.wrap h) 8) (u16.wrap l))
def Zid (h:Int) (l:Int):Int:=(ZX3 h l).val
def ZVf (b:Bool) (n:Int):RT (Option (Int)):=
 .br (!b||decide (0<=n)) (.br (b) (Ls (shlI u8 1 n)) (Ls (0))) Ln
def rBit (b:Bool) (n:Int):Int:=getO ZMD.Df (ZVf b n).val
def Zej (b:Bool) (n:Int):Bool:=okB (ZVf b n).val
def ZDe (chip:Int) (f:TF):RT (Option (Int)):=
 let x1:=orI u8 (orI u8 (orI u8 (orI u8 (rBit f.1 7) (rBit f.2.1 6)) (rBit f.2.2.2.1 4)) (rBit f.2.2.2.2.1 2)) (rBit f.2.2.2.2.2.2 0)
 .br (!Zej f.1 7||(!Zej f.2.1 6||(!Zej f.2.2.2.1 4||(!Zej f.2.2.2.2.1 2||Zej f.2.2.2.2.2.2 0)))) (.br (!Zej f.1 7||(!Zej f.2.1 6||(!Zej f.2.2.2.1 4||Zej f.2.2.2.2.1 2))) (.br (!Zej f.1 7||(!Zej f.2.1 6||Zej f.2.2.2.1 4)) (.br (!Zej f.1 7||Zej f.2.1 6) (.br (Zej f.1 7) (.br (!rOn chip||(!Zej f.2.2.1 5||Zej f.2.2.2.2.2.1 1)) (.br (!rOn chip||Zej f.2.2.1 5) (.br (rOn chip) (Ls (orI u8 (orI u8 x1 (rBit f.2.2.1 5)) (rBit f.2.2.2.2.2.1 1))) (Ls (orI u8 x1 2))) Ln) Ln) Ln) Ln) Ln) Ln) Ln
def ZU8 (chip:Int) (f:TF):Int:=getO ZMD.Df (ZDe chip f).val
def ZJ1 (chip:Int) (f:TF):Bool:=okB (ZDe chip f).val
def ZC2 (chip:Int) (b:Int):RT TF:=
 .Lf ((andI u8 b 128 !=0,andI u8 b 64 !=0,rOn chip&&andI u8 b 32 !=0,andI u8 b 16 !=0,andI u8 b 4 !=0,rOn chip&&andI u8 b 2 !=0,andI u8 b 1 !=0))
def ZyZ (chip:Int) (b:Int):TF:=(ZC2 chip b).val
def rOfT (r:Int):RT TF:=
 .Lf ((decide (r>=128),r==0,false,false,Zsc r,false,false))
def rOf (r:Int):TF:=(rOfT r).val
def ZvW (chip:Int) (f:TF) (k:Bool) (v:Bool):RT TF:=
 .Lf ((f.1,f.2.1,rOn chip&&bif rOn chip then k else k,f.2.2.2.1,f.2.2.2.2.1,bif rOn chip then rOn chip&&v else rOn chip&&v,f.2.2.2.2.2.2))
def Zsd (chip:Int) (f:TF) (k:Bool) (v:Bool):TF:=(ZvW chip f k v).val
def ZQj (r:TR) (n:Int):RT (Option (Int)):=
 .br (decide (0<=andI i64 n 7/\andI i64 n 7<8)) (Ls (bif andI i64 n 7==0 then r.2.1 else bif andI i64 n 7== ↑(0+1) then r.2.2.1 else bif andI i64 n 7== ↑(0+1+1) then r.2.2.2.1 else bif andI i64 n 7== ↑(0+1+1+1) then r.2.2.2.2.1 else bif andI i64 n 7== ↑(0+1+1+1+1) then r.2.2.2.2.2.1 else bif andI i64 n 7== ↑(0+1+1+1+1+1) then r.2.2.2.2.2.2.1 else bif andI i64 n 7== ↑(0+1+1+1+1+1+1) then 0 else r.1)) Ln
def rGet (r:TR) (n:Int):Int:=getO ZMD.Df (ZQj r n).val
def ZKc (r:TR) (n:Int):Bool:=okB (ZQj r n).val
def ZXT (r:TR) (n:Int) (v:Int):RT TR:=
 .Lf ((bif andI i64 n 7==0 then r.1 else bif andI i64 n 7==1 then r.1 else bif andI i64 n 7==2 then r.1 else bif andI i64 n 7==3 then r.1 else bif andI i64 n 7==4 then r.1 else bif andI i64 n 7==5 then r.1 else bif andI i64 n 7==7 then v else r.1,bif andI i64 n 7==0 then v else r.2.1,bif andI i64 n 7==0 then r.2.2.1 else bif andI i64 n 7==1 then v else r.2.2.1,bif andI i64 n 7==0 then r.2.2.2.1 else bif andI i64 n 7==1 then r.2.2.2.1 else bif andI i64 n 7==2 then v else r.2.2.2.1,bif andI i64 n 7==0 then r.2.2.2.2.1 else bif andI i64 n 7==1 then r.2.2.2.2.1 else bif andI i64 n 7==2 then r.2.2.2.2.1 else bif andI i64 n 7==3 then v else r.2.2.2.2.1,bif andI i64 n 7==0 then r.2.2.2.2.2.1 else bif andI i64 n 7==1 then r.2.2.2.2.2.1 else bif andI i64 n 7==2 then r.2.2.2.2.2.1 else bif andI i64 n 7==3 then r.2.2.2.2.2.1 else bif andI i64 n 7==4 then v else r.2.2.2.2.2.1,bif andI i64 n 7==0 then r.2.2.2.2.2.2.1 else bif andI i64 n 7==1 then r.2.2.2.2.2.2.1 else bif andI i64 n 7==2 then r.2.2.2.2.2.2.1 else bif andI i64 n 7==3 then r.2.2.2.2.2.2.1 else bif andI i64 n 7==4 then r.2.2.2.2.2.2.1 else bif andI i64 n 7==5 then v else r.2.2.2.2.2.2.1,r.2.2.2.2.2.2.2))
def rSet (r:TR) (n:Int) (v:Int):TR:=(ZXT r n v).val
def ZS1 (r:TR) (n:Int):RT (Option (Int)):=
 .br (andI i64 n 3==3) (Ls r.2.2.2.2.2.2.2.2.1) (.br (!ZKc r (i64.wrap (2*andI i64 n 3))||ZKc r (i64.wrap (i64.wrap (2*andI i64 n 3)+1))) (.br (ZKc r (i64.wrap (2*andI i64 n 3))) (Ls (Zid (rGet r (i64.wrap (2*andI i64 n 3))) (rGet r (i64.wrap (i64.wrap (2*andI i64 n 3)+1))))) Ln) Ln)
def ZeJ (r:TR) (n:Int):Int:=getO ZAM.Df (ZS1 r n).val
def ZvS (r:TR) (n:Int) (v:Int):RT TR:=
 .br (andI i64 n 3==3) (.Lf ((r.1,r.2.1,r.2.2.1,r.2.2.2.1,r.2.2.2.2.1,r.2.2.2.2.2.1,r.2.2.2.2.2.2.1,r.2.2.2.2.2.2.2.1,v,r.2.2.2.2.2.2.2.2.2))) (.Lf (rSet (rSet r (i64.wrap (2*andI i64 n 3)) (u8.wrap (shrI u16 v 8))) (i64.wrap (i64.wrap (2*andI i64 n 3)+1)) (u8.wrap v)))
def ZX (r:TR) (n:Int) (v:Int):TR:=(ZvS r n v).val
def ZXY (chip:Int) (r:TR):RT (Option (Int)):=
 .br (ZJ1 chip r.2.2.2.2.2.2.2.1) (Ls (Zid r.1 (ZU8 chip r.2.2.2.2.2.2.2.1))) Ln
def rPSW (chip:Int) (r:TR):Int:=getO ZAM.Df (ZXY chip r).val
def ZC5 (chip:Int) (r:TR) (v:Int):RT TR:=
 .Lf ((u8.wrap (shrI u16 v 8),r.2.1,r.2.2.1,r.2.2.2.1,r.2.2.2.2.1,r.2.2.2.2.2.1,r.2.2.2.2.2.2.1,ZyZ chip (u8.wrap v),r.2.2.2.2.2.2.2.2))
def ZmT (chip:Int) (r:TR) (v:Int):TR:=(ZC5 chip r v).val
def rDoT (chip:Int) (op:Int) (a:Int) (b:Int) (f:TF):RT (QT2):=
 let x1:=bif andI i64 op 7==0 then andI i64 op 7==0 else andI i64 op 7==1
 let x2:=bif andI i64 op 7==2 then andI i64 op 7==2 else bif andI i64 op 7==3 then andI i64 op 7==3 else andI i64 op 7==7
 let x3:Int:=bif x1 then bif andI i64 op 7==1 then (rSum a b f.2.2.2.2.2.2).1 else (rSum a b false).1 else bif x2 then bif andI i64 op 7==3 then (Zc2 a b f.2.2.2.2.2.2).1 else (Zc2 a b false).1 else bif andI i64 op 7==4 then bif rOn chip then andI u8 a b else andI u8 a b else bif andI i64 op 7==5 then xorI u8 a b else bif andI i64 op 7==6 then orI u8 a b else 0
 let x4:=rOf x3
 let x5:=x4.2
 let x6:=x5.2
 let x7:=x6.2.2
 let x8:=Zsd chip (x4.1,x5.1,x6.1,bif x1 then bif andI i64 op 7==1 then (rSum a b f.2.2.2.2.2.2).2.2.1 else (rSum a b false).2.2.1 else bif x2 then bif andI i64 op 7==3 then (Zc2 a b f.2.2.2.2.2.2).2.2.1 else (Zc2 a b false).2.2.1 else andI i64 op 7==4&&(rOn chip||andI u8 (orI u8 a b) 8 !=0),x7.1,x7.2.1,bif x1 then bif andI i64 op 7==1 then (rSum a b f.2.2.2.2.2.2).2.1 else (rSum a b false).2.1 else x2&&bif andI i64 op 7==3 then (Zc2 a b f.2.2.2.2.2.2).2.1 else (Zc2 a b false).2.1) (rMaj (decide (a>=128)) (bif x1 then decide (b>=128) else bif x2 then !decide (b>=128) else decide (b>=128)) (decide (x3>=128))) (bif x1 then bif andI i64 op 7==1 then (rSum a b f.2.2.2.2.2.2).2.2.2 else (rSum a b false).2.2.2 else x2&&bif andI i64 op 7==3 then (Zc2 a b f.2.2.2.2.2.2).2.2.2 else (Zc2 a b false).2.2.2)
 .br (andI i64 op 7==7) (.Lf ((a,x8))) (.Lf ((x3,x8)))
def rDo (chip:Int) (op:Int) (a:Int) (b:Int) (f:TF):QT2:=(rDoT chip op a b f).val
def ZX5 (chip:Int) (v:Int) (f:TF):RT (QT2):=
 .Lf (((rSum v 1 false).1,Zsd chip ((rOf (rSum v 1 false).1).1,(rOf (rSum v 1 false).1).2.1,(rOf (rSum v 1 false).1).2.2.1,(rSum v 1 false).2.2.1,(rOf (rSum v 1 false).1).2.2.2.2.1,(rOf (rSum v 1 false).1).2.2.2.2.2.1,f.2.2.2.2.2.2) (rMaj (decide (v>=128)) false (decide ((rSum v 1 false).1>=128))) (rSum v 1 false).2.2.2))
def rInr (chip:Int) (v:Int) (f:TF):QT2:=(ZX5 chip v f).val
def ZX9 (chip:Int) (v:Int) (f:TF):RT (QT2):=
 .Lf (((Zc2 v 1 false).1,Zsd chip ((rOf (Zc2 v 1 false).1).1,(rOf (Zc2 v 1 false).1).2.1,(rOf (Zc2 v 1 false).1).2.2.1,(Zc2 v 1 false).2.2.1,(rOf (Zc2 v 1 false).1).2.2.2.2.1,(rOf (Zc2 v 1 false).1).2.2.2.2.2.1,f.2.2.2.2.2.2) (rMaj (decide (v>=128)) true (decide ((Zc2 v 1 false).1>=128))) (Zc2 v 1 false).2.2.2))
def rDcr (chip:Int) (v:Int) (f:TF):QT2:=(ZX9 chip v f).val
def ZX4 (chip:Int) (v:Int) (f:TF):RT (QT2):=
 .Lf ((u16.wrap (v+1),f.1,f.2.1,bif rOn chip then v==65535 else f.2.2.1,f.2.2.2))
def rInx (chip:Int) (v:Int) (f:TF):QT2:=(ZX4 chip v f).val
def ZX8 (chip:Int) (v:Int) (f:TF):RT (QT2):=
 .Lf ((u16.wrap (v-1),f.1,f.2.1,bif rOn chip then v==0 else f.2.2.1,f.2.2.2))
def rDcx (chip:Int) (v:Int) (f:TF):QT2:=(ZX8 chip v f).val
def ZYa (chip:Int) (a:Int) (b:Int) (f:TF):RT (QT2):=
 .Lf ((u16.wrap (a+b),f.1,f.2.1,f.2.2.1,f.2.2.2.1,f.2.2.2.2.1,bif rOn chip then decide (i64.wrap (i64.wrap (IntKind.i16.wrap a)+i64.wrap (IntKind.i16.wrap b))< -32768)||decide (i64.wrap (i64.wrap (IntKind.i16.wrap a)+i64.wrap (IntKind.i16.wrap b))>32767) else f.2.2.2.2.2.1,decide (i64.wrap (i64.wrap a+i64.wrap b)>65535)))
def rDad (chip:Int) (a:Int) (b:Int) (f:TF):QT2:=(ZYa chip a b f).val
def ZS4 (a:Int) (b:Int):RT (QT2):=
 let x1:=Zc2 (u8.wrap (shrI u16 a 8)) (u8.wrap (shrI u16 b 8)) (Zc2 (u8.wrap a) (u8.wrap b) false).2.1
 let x2:=x1.1
 let x3:=x2==0
 let x4:=Zid x2 (Zc2 (u8.wrap a) (u8.wrap b) false).1
 let x5:=decide (x2>=128)
 let x6:=rMaj (decide (a>=32768)) (decide (b<32768)) x5
 let x7:=x1.2
 let x8:=x7.2
 let x9:=x8.1
 let x10:=Zsc x2
 let x11:=x8.2
 let x12:=x7.1
 .Lf ((bif x3 then x4 else x4,bif x3 then x5 else x5,x3&&(Zc2 (u8.wrap a) (u8.wrap b) false).1==0,bif x3 then x6 else x6,bif x3 then x9 else x9,bif x3 then x10 else x10,bif x3 then x11 else x11,bif x3 then x12 else x12))
def ZKe (a:Int) (b:Int):QT2:=(ZS4 a b).val
def ZYb (chip:Int) (a:Int) (f:TF):RT (QT2):=
 let x1:Int:=bif f.2.2.2.1||decide (andI u8 a 15>9) then 6 else 0
 let x2:=rSum a (bif f.2.2.2.2.2.2||decide (a>153) then u8.wrap (x1+96) else x1) false
 let x3:=x2.1
 let x4:=rOf x3
 let x5:=x4.2
 let x6:=x5.2
 let x7:=x2.2.2
 let x8:=x6.2.2
 .Lf ((x3,Zsd chip (x4.1,x5.1,x6.1,x7.1,x8.1,x8.2.1,f.2.2.2.2.2.2||decide (a>153)) (rMaj (decide (a>=128)) false (decide (x3>=128))) x7.2))
def rDaa (chip:Int) (a:Int) (f:TF):QT2:=(ZYb chip a f).val
def ZXU (op:Int) (a:Int) (c:Bool):RT (Option (Int×Bool)):=
 .br (andI i64 op 3==0||(andI i64 op 3==1||(!andI i64 op 3==2||Zej c 0))) (.br (andI i64 op 3==0) (Ls ((orI u8 (shlI u8 a 1) (shrI u8 a 7),decide (a>=128)))) (.br (andI i64 op 3==1) (Ls ((orI u8 (shrI u8 a 1) (shlI u8 a 7),andI u8 a 1==1))) (.br (andI i64 op 3==2) (Ls ((orI u8 (shlI u8 a 1) (rBit c 0),decide (a>=128)))) (.br (Zej c 7) (Ls ((orI u8 (shrI u8 a 1) (rBit c 7),andI u8 a 1==1))) Ln)))) Ln
def rRot (op:Int) (a:Int) (c:Bool):Int×Bool:=getO ZDV.Df (ZXU op a c).val
def ZYd (v:Int):RT (Int×Bool):=
 .Lf ((orI u16 (shrI u16 v 1) (andI u16 v 32768),andI u16 v 1==1))
def ZQn (v:Int):Int×Bool:=(ZYd v).val
def ZS0 (v:Int) (c:Bool):RT (Option (Int×Bool×Bool)):=
 .br (Zej c 0) (Ls ((orI u16 (shlI u16 v 1) (u16.wrap (rBit c 0)),decide (v>=32768),andI u16 (orI u16 (shlI u16 v 1) (u16.wrap (rBit c 0))) 32768 !=andI u16 v 32768))) Ln
def ZJV (v:Int) (c:Bool):Int×Bool×Bool:=getO ZzU.Df (ZS0 v c).val
def ZKh (b:Bool) (n:Int):RT (Option (Int)):=
 .br (decide (0<=n)) (Ls (u8.wrap (shlI i64 (rOne b) n))) Ln
def ZhS (b:Bool) (n:Int):Int:=getO ZMD.Df (ZKh b n).val
def Zaz (b:Bool) (n:Int):Bool:=okB (ZKh b n).val
def ZQb (c:TC) (l:QT1):RT (Option (Int×TC)):=
 let x1:=bif c.2.2.2.2.2.2.2.2.2.2.1 then c.2.2.2.2.2.2.2.2.2.2.2.1 else c.2.2.1
 .br (!Zaz l.2.2.2.1 7||(!Zaz c.2.2.2.2.2.2.2.1 6||(!Zaz l.2.2.2.2.2.2.1 5||(!Zaz l.2.2.2.2.2.2.2.1 4||Zaz x1 3)))) (.br (!Zaz l.2.2.2.1 7||(!Zaz c.2.2.2.2.2.2.2.1 6||(!Zaz l.2.2.2.2.2.2.1 5||Zaz l.2.2.2.2.2.2.2.1 4))) (.br (!Zaz l.2.2.2.1 7||(!Zaz c.2.2.2.2.2.2.2.1 6||Zaz l.2.2.2.2.2.2.1 5)) (.br (!Zaz l.2.2.2.1 7||Zaz c.2.2.2.2.2.2.2.1 6) (.br (Zaz l.2.2.2.1 7) (Ls ((orI u8 (orI u8 (orI u8 (orI u8 (orI u8 (ZhS l.2.2.2.1 7) (ZhS c.2.2.2.2.2.2.2.1 6)) (ZhS l.2.2.2.2.2.2.1 5)) (ZhS l.2.2.2.2.2.2.2.1 4)) (ZhS x1 3)) (andI u8 c.2.2.2.2.2.1 7),c.1,c.2.1,c.2.2.1,c.2.2.2.1,c.2.2.2.2.1,c.2.2.2.2.2.1,c.2.2.2.2.2.2.1,c.2.2.2.2.2.2.2.1,c.2.2.2.2.2.2.2.2.1,c.2.2.2.2.2.2.2.2.2.1,false,false,c.2.2.2.2.2.2.2.2.2.2.2.2))) Ln) Ln) Ln) Ln) Ln
def rRim (c:TC) (l:QT1):Int×TC:=getO ZDW.Df (ZQb c l).val
def ZXX (c:TC) (l:QT1):Bool:=okB (ZQb c l).val
def ZU4 (c:TC) (a:Int):RT TC:=
 .Lf ((c.1,c.2.1,c.2.2.1,c.2.2.2.1,c.2.2.2.2.1,bif andI u8 a 8 !=0 then andI u8 a 7 else c.2.2.2.2.2.1,c.2.2.2.2.2.2.1,!andI u8 a 16 !=0&&c.2.2.2.2.2.2.2.1,c.2.2.2.2.2.2.2.2.1,c.2.2.2.2.2.2.2.2.2.1,c.2.2.2.2.2.2.2.2.2.2.1,c.2.2.2.2.2.2.2.2.2.2.2.1,bif andI u8 a 64 !=0 then andI u8 a 128 !=0 else c.2.2.2.2.2.2.2.2.2.2.2.2))
def rSim (c:TC) (a:Int):TC:=(ZU4 c a).val
def ZJ8 (c:Int) (f:TF):RT (Bool):=
 .br (c==0) (.Lf (!f.2.1)) (.br (c==1) (.Lf f.2.1) (.br (c==2) (.Lf (!f.2.2.2.2.2.2)) (.br (c==3) (.Lf f.2.2.2.2.2.2) (.br (c==4) (.Lf (!f.2.2.2.2.1)) (.br (c==5) (.Lf f.2.2.2.2.1) (.br (c==6) (.Lf (!f.1)) (.br (c==7) (.Lf f.1) (.br (c==8) (.Lf (!f.2.2.1)) (.br (c==9) (.Lf f.2.2.1) (.br (c==10) (.Lf f.2.2.2.2.2.1) (.Lf (c==11))))))))))))
def Zga (c:Int) (f:TF):Bool:=(ZJ8 c f).val
def ZC1 (s:Int):RT (Int):=
 .br (s==1) (.Lf (36)) (.br (s==2) (.Lf (60)) (.br (s==3) (.Lf (52)) (.br (s==4) (.Lf (44)) (.Lf (0)))))
def Zw (s:Int):Int:=(ZC1 s).val
def Zqx (s:Int):RT (Bool):=
 .Lf (decide (s>=1)&&decide (s<=4))
def Zz (s:Int):Bool:=(Zqx s).val
def ZJU (op:Int):RT (TI×Bool):=
 .br (op==8) (.Lf (((40,1,0,0,0,0,0,0),true))) (.br (op==16) (.Lf (((41,1,0,0,0,0,0,0),true))) (.br (op==24) (.Lf (((42,1,0,0,0,0,0,0),true))) (.br (op==32) (.Lf (((38,1,0,0,0,0,0,0),true))) (.br (op==40) (.Lf (((43,2,0,0,0,0,0,0),true))) (.br (op==48) (.Lf (((39,1,0,0,0,0,0,0),true))) (.br (op==56) (.Lf (((44,2,0,0,0,0,0,0),true))) (.br (op==203) (.Lf (((45,1,0,0,0,0,10,0),true))) (.br (op==217) (.Lf (((46,1,0,0,0,0,0,0),true))) (.br (op==221) (.Lf (((24,3,0,0,0,0,8,0),true))) (.br (op==237) (.Lf (((47,1,0,0,0,0,0,0),true))) (.br (op==253) (.Lf (((24,3,0,0,0,0,9,0),true))) (.Lf (((0,0,0,0,0,0,0,0),false))))))))))))))
def ZC4 (op:Int):TI×Bool:=(ZJU op).val
def ZS2 (y:Int) (z:Int) (p:Int) (q:Int):RT (Option TI):=
 let x1:=decide (0<=i64.wrap (y-4)/\i64.wrap (y-4)<4)
 .br (z==0) (Ls ((1,1,0,0,0,0,0,0))) (.br (z==1) (.br (q==0) (Ls ((4,3,0,0,p,0,0,0))) (Ls ((18,1,0,0,p,0,0,0)))) (.br (!z==2||((bif y==0 then y==0 else y==2)||((bif y==1 then y==1 else y==3)||x1))) (.br (z==2) (.br (bif y==0 then y==0 else y==2) (Ls ((10,1,0,0,p,0,0,0))) (.br (bif y==1 then y==1 else y==3) (Ls ((9,1,0,0,p,0,0,0))) (Ls ((bif i64.wrap (y-4)==0 then 8 else bif i64.wrap (y-4)== ↑(0+1) then 7 else bif i64.wrap (y-4)== ↑(0+1+1) then 6 else 5,3,0,0,0,0,0,0))))) (.br (!z==3||decide (0<=q/\q<2)) (.br (z==3) (Ls ((bif q==0 then 16 else 17,1,0,0,p,0,0,0))) (.br (z==4) (Ls ((14,1,y,0,0,0,0,0))) (.br (z==5) (Ls ((15,1,y,0,0,0,0,0))) (.br (z==6) (Ls ((3,2,y,0,0,0,0,0))) (.br (decide (y<4)) (Ls ((23,1,0,0,0,y,0,0))) (.br (x1) (Ls ((bif i64.wrap (y-4)==0 then 19 else bif i64.wrap (y-4)== ↑(0+1) then 20 else bif i64.wrap (y-4)== ↑(0+1+1) then 21 else 22,1,0,0,0,0,0,0))) Ln)))))) Ln)) Ln))
def rOlow (y:Int) (z:Int) (p:Int) (q:Int):QT4:=getO Zz1.Df (ZS2 y z p q).val
def ZX0 (y:Int) (z:Int) (p:Int) (q:Int):Bool:=okB (ZS2 y z p q).val
def ZJ2 (y:Int) (z:Int) (p:Int) (q:Int):RT (Option TI):=
 .br (z==0) (Ls ((26,1,0,0,0,0,y,0))) (.br (z==1) (.br (q==0) (Ls ((31,1,0,0,p,0,0,0))) (.br (y==5) (Ls ((28,1,0,0,0,0,0,0))) (.br (y==7) (Ls ((29,1,0,0,0,0,0,0))) (Ls ((26,1,0,0,0,0,11,0)))))) (.br (z==2||(!z==3||((bif y==0 then y==0 else y==1)||(y==2||(y==3||decide (0<=i64.wrap (y-4)/\i64.wrap (y-4)<4)))))) (.br (z==2) (Ls ((24,3,0,0,0,0,y,0))) (.br (z==3) (.br (bif y==0 then y==0 else y==1) (Ls ((24,3,0,0,0,0,11,0))) (.br (y==2) (Ls ((34,2,0,0,0,0,0,0))) (.br (y==3) (Ls ((33,2,0,0,0,0,0,0))) (Ls ((bif i64.wrap (y-4)==0 then 32 else bif i64.wrap (y-4)== ↑(0+1) then 11 else bif i64.wrap (y-4)== ↑(0+1+1) then 36 else 35,1,0,0,0,0,0,0)))))) (.br (z==4) (Ls ((25,3,0,0,0,0,y,0))) (.br (z==5) (.br (q==0) (Ls ((30,1,0,0,p,0,0,0))) (Ls ((25,3,0,0,0,0,11,0)))) (.br (z==6) (Ls ((13,2,0,0,0,y,0,0))) (Ls ((27,1,0,0,0,0,0,y)))))))) Ln))
def ZX1 (y:Int) (z:Int) (p:Int) (q:Int):QT4:=getO Zz1.Df (ZJ2 y z p q).val
def ZVa (y:Int) (z:Int) (p:Int) (q:Int):Bool:=okB (ZJ2 y z p q).val
def Zhp (chip:Int) (op:Int):RT (Option TI):=
 .br ((ZC4 op).2&&rOn chip) (Ls (ZC4 op).1) (.br (!shrI u8 op 6==0||ZX0 (i64.wrap (andI u8 (shrI u8 op 3) 7)) (i64.wrap (andI u8 op 7)) (shrI i64 (i64.wrap (andI u8 (shrI u8 op 3) 7)) 1) (andI i64 (i64.wrap (andI u8 (shrI u8 op 3) 7)) 1)) (.br (shrI u8 op 6==0) (Ls (rOlow (i64.wrap (andI u8 (shrI u8 op 3) 7)) (i64.wrap (andI u8 op 7)) (shrI i64 (i64.wrap (andI u8 (shrI u8 op 3) 7)) 1) (andI i64 (i64.wrap (andI u8 (shrI u8 op 3) 7)) 1))) (.br (shrI u8 op 6==1) (.br (op==118) (Ls ((37,1,0,0,0,0,0,0))) (Ls ((2,1,i64.wrap (andI u8 (shrI u8 op 3) 7),i64.wrap (andI u8 op 7),0,0,0,0)))) (.br (shrI u8 op 6==2) (Ls ((12,1,0,i64.wrap (andI u8 op 7),0,i64.wrap (andI u8 (shrI u8 op 3) 7),0,0))) (.br (ZVa (i64.wrap (andI u8 (shrI u8 op 3) 7)) (i64.wrap (andI u8 op 7)) (shrI i64 (i64.wrap (andI u8 (shrI u8 op 3) 7)) 1) (andI i64 (i64.wrap (andI u8 (shrI u8 op 3) 7)) 1)) (Ls (ZX1 (i64.wrap (andI u8 (shrI u8 op 3) 7)) (i64.wrap (andI u8 op 7)) (shrI i64 (i64.wrap (andI u8 (shrI u8 op 3) 7)) 1) (andI i64 (i64.wrap (andI u8 (shrI u8 op 3) 7)) 1))) Ln)))) Ln)
def Zc (chip:Int) (op:Int):QT4:=getO Zz1.Df (Zhp chip op).val
def Zsj (chip:Int) (op:Int):Bool:=okB (Zhp chip op).val
theorem Zwj (b:Int) (h:inR .u8 b):ZlO b=true/\Zs3 b=Zsc b:=by have h1:=Zf5 (λb=>ZlO b&&(Zs3 b==Zsc b)) (by kernel_rfl) b h;simpa using h1
theorem Zxg (a b c:Bool):pMaj a b c=rMaj a b c:=by cases a<;>cases b<;>cases c<;>rfl
theorem ZTy (a:Bool):pOne a=rOne a:=by cases a<;>rfl
theorem ZJc (a b:Int) (c:Bool):pSum a b c=rSum a b c:=by simp only[pSum,ZVv,rSum,ZU3,RT.val,Yax,Zns,ZlL,Ze0,Zr9,ZTy]
theorem ZCc (a b:Int) (c:Bool):Zii a b c=Zc2 a b c:=by
 have h1:=ZZq a;have h2:=ZZq b;have e:wrap .i64 (wrap .i64 (wrap .i64 (wrap .i64 (andI .u8 a 15)+15)-wrap .i64 (andI .u8 b 15))+1)=wrap .i64 (wrap .i64 (wrap .i64 (andI .u8 a 15)+wrap .i64 (wrap .u8 (15-andI .u8 b 15)))+1):=by rw[ZjS];rw[wrap_i64 (andI .u8 a 15) (by omega) (by omega),wrap_i64 (andI .u8 b 15) (by omega) (by omega),wrap_i64 ((15-andI .u8 b 15)%256) (by omega) (by omega),wrap_i64 (andI .u8 a 15+15) (by omega) (by omega)];congr 1;rw[wrap_i64 _ (by omega) (by omega),wrap_i64 _ (by omega) (by omega)];omega
 simp only[Zii,ZMo,Zc2,ZKf,RT.val,Yax,Zns,ZlL,Ze0,Zr9,ZTy,e]
theorem Zus (a b:Int):ZLW a b=Zid a b:=rfl
theorem ZO4 (b:Bool) (n:Int) (h:0<=n):Ze2 b n=true/\pBit b n=bif b then shlI .u8 1 n else 0:=by cases b<;>simp[Ze2,pBit,ZRk,RT.val,h,okB,getO]
theorem ZgA (b:Bool) (n:Int) (h:0<=n):Zej b n=true/\rBit b n=bif b then shlI .u8 1 n else 0:=by cases b<;>simp[Zej,rBit,ZVf,RT.val,h,okB,getO]
theorem Zbv (chip:Int):rOn chip=(chip==2):=rfl
theorem ZYo (chip:Int) (f):ZD0 chip f=true:=by cases h:chip==2<;>simp[ZD0,ZwA,RT.val,ZO4,okB,h]
theorem ZUT (chip:Int) (f):ZJ1 chip f=true:=by cases h:chip==2<;>simp[ZJ1,ZDe,RT.val,ZgA,Zbv,okB,h]
theorem ZVu (chip:Int) (f):ZQ0 chip f=ZU8 chip f:=by simp only[ZQ0,ZwA,ZU8,ZDe,RT.val,ZO4,ZgA,Zbv];cases chip==2<;>simp[ZO4,ZgA,getO]
theorem of_C (r:Int) (h:inR .u8 r):pOfC r=true:=by simp[pOfC,pOfT,RT.val,Zwj r h,okB]
theorem of_eq (r:Int) (h:inR .u8 r):pOf r=rOf r:=by simp[pOf,pOfT,rOf,rOfT,RT.val,Zwj r h,getO]
theorem get_C (r) (n:Int):ZKc r n=true:=by
 have:=and7 n;have h:decide (0<=andI .i64 n 7/\andI .i64 n 7<8)=true:=by simp;omega
 simp only[ZKc,ZQj,RT.val,h,Ya,okB]
theorem ZOr {m:Int} (h:0<=m/\m<=7):m=0\/m=1\/m=2\/m=3\/m=4\/m=5\/m=6\/m=7:=by omega
theorem ZKZ (r) (n:Int):pGet r n=rGet r n:=by
 have h7:=and7 n;have h:decide (0<=andI .i64 n 7/\andI .i64 n 7<8)=true:=by simp;omega
 simp only[pGet,ZVW,rGet,ZQj,RT.val,h,Ya,getO];generalize andI .i64 n 7=m at*;rcases ZOr h7 with rfl|rfl|rfl|rfl|rfl|rfl|rfl|rfl<;>rfl
theorem ZKt (r) (n v:Int):pSet r n v=rSet r n v:=by have h7:=and7 n;simp only[pSet,ZVy,rSet,ZXT,RT.val,Ya,getO];generalize andI .i64 n 7=m at*;rcases ZOr h7 with rfl|rfl|rfl|rfl|rfl|rfl|rfl|rfl<;>rfl
theorem ZQr (r) (n:Int):ZVI r n=ZeJ r n:=by simp only[ZVI,ZLw,ZeJ,ZS1,RT.val,ZKZ,get_C,Zus];cases andI .i64 n 3==3<;>simp[okB,getO]
theorem Zzh (r) (n v:Int):ZsQ r n v=ZX r n v:=by simp only[ZsQ,Znt,ZX,ZvS,RT.val,ZKt]
theorem ZKD (chip:Int) (r):ZVK chip r=true/\pPSW chip r=rPSW chip r:=by simp[ZVK,pPSW,ZQ1,rPSW,ZXY,RT.val,ZYo,ZUT,ZVu,Zus,okB,getO]
theorem ZIx (chip:Int) (b:Int):ZsN chip b=ZyZ chip b:=by simp only[ZsN,ZsM,ZyZ,ZC2,RT.val,Zbv]
theorem ZFZ (chip:Int) (r) (v:Int):ZzO chip r v=ZmT chip r v:=by simp only[ZzO,ZsR,ZmT,ZC5,RT.val,ZIx]
theorem ZRU (c:Int) (f):ZL5 c f=Zga c f:=by
 simp only[ZL5,ZAN,Zga,ZJ8,RT.val];by_cases h:0<=c/\c<=11
 ·have:c=0\/c=1\/c=2\/c=3\/c=4\/c=5\/c=6\/c=7\/c=8\/c=9\/c=10\/c=11:=by omega
  rcases this with rfl|rfl|rfl|rfl|rfl|rfl|rfl|rfl|rfl|rfl|rfl|rfl<;>simp
 ·have e:∀k:Int,0<=k->k<=11->(c==k)=false:=λk h1 h2=>by simp;omega
  simp[e]
theorem Zvs (a b:Int) (c:Bool):inR .u8 (rSum a b c).1:=by simp only[rSum,ZU3,RT.val,Yax];exact Zaq _ _
theorem Zps (a b:Int) (c:Bool):inR .u8 (Zc2 a b c).1:=by simp only[Zc2,ZKf,RT.val,Yax];exact Zaq _ _
theorem ZkR (a b:Int):inR .u8 (andI .u8 a b)/\inR .u8 (orI .u8 a b)/\inR .u8 (xorI .u8 a b):=Zhy _ _ _
theorem ZvN (chip v r:Int) (half over x:Bool) (f) (h:inR .u8 r):Zja chip v r half over x f=true/\
  Zny chip v r half over x f=Zsd chip ((rOf r).1,(rOf r).2.1,(rOf r).2.2.1,half,(rOf r).2.2.2.2.1,(rOf r).2.2.2.2.2.1,f.2.2.2.2.2.2) (rMaj (decide (v>=128)) x (decide (r>=128))) over:=by cases hc:chip==2<;>simp[Zja,Zny,ZlM,Zsd,ZvW,RT.val,of_C r h,of_eq r h,okB,getO,Zbv,hc,Zxg,rOf,rOfT]
theorem ZKW (chip v:Int) (f):ZVU chip v f=true/\pInr chip v f=rInr chip v f:=by have h:=ZvN chip v (rSum v 1 false).1 (rSum v 1 false).2.2.1 (rSum v 1 false).2.2.2 false f (Zvs _ _ _);simp only[ZVU,pInr,ZQ8,rInr,ZX5,RT.val,ZJc,h.1,h.2,Ya,okB,getO,and_self]
theorem ZK1 (chip v:Int) (f):ZV9 chip v f=true/\pDcr chip v f=rDcr chip v f:=by have h:=ZvN chip v (Zc2 v 1 false).1 (Zc2 v 1 false).2.2.1 (Zc2 v 1 false).2.2.2 true f (Zps _ _ _);simp only[ZV9,pDcr,ZRg,rDcr,ZX9,RT.val,ZCc,h.1,h.2,Ya,okB,getO,and_self]
theorem ZVo (chip v:Int) (f):pInx chip v f=rInx chip v f:=by simp only[pInx,ZVS,rInx,ZX4,RT.val,Zbv]
theorem ZVs (chip v:Int) (f):pDcx chip v f=rDcx chip v f:=by simp only[pDcx,ZV7,rDcx,ZX8,RT.val,Zbv]
theorem ZK2 (chip a:Int) (f):ZWd chip a f=true/\pDaa chip a f=rDaa chip a f:=by
 have h:=λx=>of_C _ (Zvs a x false)
 have h2:=λx=>of_eq _ (Zvs a x false)
 cases hc:chip==2<;>simp[ZWd,pDaa,ZRi,rDaa,ZYb,Zsd,ZvW,RT.val,ZJc,h,h2,okB,getO,Zbv,hc,Zxg,rOf,rOfT]
theorem ZDK (a b:Int):ZMl a b=true/\ZV2 a b=ZKe a b:=by
 have h:=λx y z=>of_C _ (Zps x y z)
 have h2:=λx y z=>of_eq _ (Zps x y z)
 simp[ZMl,ZV2,ZEk,ZKe,ZS4,RT.val,ZCc,h,h2,okB,getO,Zxg,Zus,rOf,rOfT,Yax]
theorem ZQH (v:Int):ZYC v=ZQn v:=rfl
theorem ZTF (c:Bool):pLow c=bif c then 1 else 0:=by cases c<;>rfl
theorem ZKv (op a:Int) (c:Bool):ZVA op a c=true/\pRot op a c=rRot op a c:=by
 have h3:=and3 op;simp only[ZVA,pRot,ZQS,rRot,ZXU,RT.val,ZTF,(ZgA c 0 (by decide)).1,(ZgA c 0 (by decide)).2,(ZgA c 7 (by decide)).1,(ZgA c 7 (by decide)).2];generalize andI .i64 op 3=m at*;have:m=0\/m=1\/m=2\/m=3:=by omega
 rcases this with rfl|rfl|rfl|rfl<;>cases c<;>exact⟨rfl,rfl⟩
theorem ZQp (v:Int) (c:Bool) (h:inR .u16 v):ZVG v c=ZJV v c:=by
 have hb:=ZgA c 0 (by decide);have e:wrap .u16 (bif c then 1 else 0)=wrap .u16 (bif c then shlI .u8 1 0 else 0):=by cases c<;>rfl
 have hr:∀x,inR .u16 (orI .u16 x (wrap .u16 (bif c then shlI .u8 1 0 else 0))):=λx=>(Zhy _ _ _).2.1
 simp only[ZVG,ZLq,ZJV,ZS0,RT.val,ZTF,hb.1,hb.2,Ya,getO,e];rw[Zrn _ (Zhy _ _ _).2.2,ZI8 _ _ (hr _) h,ZCj _ (hr _),ZCj _ h];cases tb (orI .u16 (shlI .u16 v 1) (wrap .u16 (bif c then shlI .u8 1 0 else 0)))<;>cases tb v<;>rfl
theorem ZVt (chip a b:Int) (f) (ha:inR .u16 a) (hb:inR .u16 b):pDad chip a b f=rDad chip a b f:=by
 have hr:inR .u16 (wrap .u16 (a+b)):=Zaq _ _;have ha':=ZfV.1 ha;have hb':=ZfV.1 hb;simp only[pDad,ZWb,rDad,ZYa,RT.val,Zbv];rw[Zrn _ (Zhy _ _ _).1,ZSR _ _ (Zhy _ _ _).2.2 (Zhy _ _ _).2.2,ZI8 _ _ ha hr,ZI8 _ _ hb hr];have e1:decide (wrap .u16 (a+b)<a)=decide (wrap .i64 (wrap .i64 a+wrap .i64 b)>65535):=by rw[Zls,wrap_i64 a (by omega) (by omega),wrap_i64 b (by omega) (by omega),wrap_i64 (a+b) (by omega) (by omega)];simp only[decide_eq_decide];omega
 have e2:(((tb a)^^(tb (wrap .u16 (a+b))))&&((tb b)^^(tb (wrap .u16 (a+b)))))=(decide (wrap .i64 (wrap .i64 (wrap .i16 a)+wrap .i64 (wrap .i16 b))< -32768)||decide (wrap .i64 (wrap .i64 (wrap .i16 a)+wrap .i64 (wrap .i16 b))>32767)):=by
  have ia:=ZCl a;have ib:=ZCl b;have hia: -32768<=wrap .i16 a/\wrap .i16 a<=32767:=by rw[ia];split<;>omega
  have hib: -32768<=wrap .i16 b/\wrap .i16 b<=32767:=by rw[ib];split<;>omega
  rw[wrap_i64 (wrap .i16 a) (by omega) (by omega),wrap_i64 (wrap .i16 b) (by omega) (by omega),wrap_i64 (wrap .i16 a+wrap .i16 b) (by omega) (by omega)];rw[ia,ib,Zls];unfold tb;by_cases h1:a>=32768<;>by_cases h2:b>=32768<;>by_cases h3:(a+b)%65536>=32768<;>simp[h1,h2,h3]<;>(try split)<;>(try split)<;>omega
 rw[e1,e2]
theorem ZKw (c l):ZVC c l=true/\pRim c l=rRim c l/\ZXX c l=true:=by
 have h:∀b n,0<=n->Zc5 b n=true/\Zww b n=bif b then shlI .u8 1 n else 0:=λb n h=>by cases b<;>simp[Zc5,Zww,ZDU,RT.val,h,okB,getO]
 have h3:∀b,Zaz b 3=true/\ZhS b 3=bif b then shlI .u8 1 3 else 0:=λb=>by cases b<;>exact⟨rfl,rfl⟩
 have h4:∀b,Zaz b 4=true/\ZhS b 4=bif b then shlI .u8 1 4 else 0:=λb=>by cases b<;>exact⟨rfl,rfl⟩
 have h5:∀b,Zaz b 5=true/\ZhS b 5=bif b then shlI .u8 1 5 else 0:=λb=>by cases b<;>exact⟨rfl,rfl⟩
 have h6:∀b,Zaz b 6=true/\ZhS b 6=bif b then shlI .u8 1 6 else 0:=λb=>by cases b<;>exact⟨rfl,rfl⟩
 have h7:∀b,Zaz b 7=true/\ZhS b 7=bif b then shlI .u8 1 7 else 0:=λb=>by cases b<;>exact⟨rfl,rfl⟩
 simp[ZVC,pRim,ZQU,ZXX,rRim,ZQb,RT.val,h,h3,h4,h5,h6,h7,okB,getO]
theorem ZVh (c) (a:Int):pSim c a=rSim c a:=by simp only[pSim,ZVx,rSim,ZU4,RT.val]
theorem ZFV (s:Int):ZzH s=Zw s:=by simp only[ZzH,ZsL,Zw,ZC1,RT.val]
theorem ZKE (chip op a b:Int):Ztg chip op a b=true/\∀f,(andI .i64 op 7=op)->4<=op->op<=6->ZD4 chip op a b=rDo chip op a b f:=by
 have h:=λx y=>of_C _ (ZkR x y).1
 have h':=λx y=>of_C _ (ZkR x y).2.1
 have h'':=λx y=>of_C _ (ZkR x y).2.2
 have g:=λx y=>of_eq _ (ZkR x y).1
 have g':=λx y=>of_eq _ (ZkR x y).2.1
 have g'':=λx y=>of_eq _ (ZkR x y).2.2
 have h0:=of_C 0 (by rw[Zgc];omega);constructor
 ·cases h4:op==4<;>cases h5:op==5<;>cases h6:op==6<;>simp[Ztg,Zoe,RT.val,h,h',h'',h0,okB,h4,h5,h6]
 ·intro f e h4 h6;have:op=4\/op=5\/op=6:=by omega
  rcases this with rfl|rfl|rfl<;>cases hc:chip==2<;>simp[ZD4,Zoe,rDo,rDoT,RT.val,h,h',h'',g,g',g'',getO,e,Zbv,hc,Zsd,ZvW,rOf,rOfT,Zxg]
theorem ZTd (chip op a b:Int) (f):pDoC chip op a b f=true/\pDo chip op a b f=rDo chip op a b f:=by
 have h7:=and7 op;have hs:=λx=>of_C _ (Zvs a b x)
 have hs2:=λx=>of_eq _ (Zvs a b x)
 have hd:=λx=>of_C _ (Zps a b x)
 have hd2:=λx=>of_eq _ (Zps a b x)
 have hl:=ZKE chip (andI .i64 op 7) a b;have hlt:decide (b<128)= !decide (128<=b):=by
  by_cases h:b<128
  ·have:¬128<=b:=by omega
   simp[h,this]
  ·have:128<=b:=by omega
   simp[h,this]
 have hr:rDo chip (andI .i64 op 7) a b f=rDo chip op a b f:=by
  have:andI .i64 (andI .i64 op 7) 7=andI .i64 op 7:=by generalize andI .i64 op 7=m at*;rcases ZOr h7 with rfl|rfl|rfl|rfl|rfl|rfl|rfl|rfl<;>rfl
  simp only[rDo,rDoT,this]
 have he:andI .i64 (andI .i64 op 7) 7=andI .i64 op 7:=by generalize andI .i64 op 7=m at*;rcases ZOr h7 with rfl|rfl|rfl|rfl|rfl|rfl|rfl|rfl<;>rfl
 rw[<-hr];have hl2:=hl.2 f he;have hl1:=hl.1;clear hl hr;simp only[pDoC,pDo,pDoT,RT.val];generalize andI .i64 op 7=m at*;rcases ZOr h7 with rfl|rfl|rfl|rfl|rfl|rfl|rfl|rfl
 case inr.inr.inr.inr.inl=>simp[hl1,hl2,okB,getO]
 case inr.inr.inr.inr.inr.inl=>simp[hl1,hl2,okB,getO]
 case inr.inr.inr.inr.inr.inr.inl=>simp[hl1,hl2,okB,getO]
 all_goals cases hc:chip==2<;>simp[rDo,rDoT,RT.val,ZJc,ZCc,hs,hs2,hd,hd2,okB,getO,he,Zbv,hc,Zsd,ZvW,rOf,rOfT,Zxg,hlt]
theorem ZK0 (chip op:Int) (h:chip≠2):(ZfS chip op).val=(ZfS 0 op).val:=by
 have h1:(chip==2)=false:=by simpa using h
 have h0:((0:Int)==2)=false:=rfl;simp only[ZfS,RT.val,h1,h0]
theorem ZmO (chip op:Int) (h:chip≠2):(Zhp chip op).val=(Zhp 0 op).val:=by
 have h1:rOn chip=false:=by simpa [Zbv] using h
 have h0:rOn 0=false:=rfl;simp only[Zhp,RT.val,h1,h0]
def decT (chip op:Int):Bool:=okB (ZfS chip op).val&&okB (Zhp chip op).val&&(Zol chip op==Zc chip op)
theorem dec_ok (chip op:Int) (h:inR .u8 op):ZlQ chip op=true/\Zol chip op=Zc chip op/\Zsj chip op=true:=by
 have fin:∀c,decT c op=true->ZlQ c op=true/\Zol c op=Zc c op/\Zsj c op=true:=by intro c hc;simp only[decT,Yb,YaA] at hc;exact⟨hc.1.1,hc.2,hc.1.2⟩
 by_cases hc:chip=2
 ·subst hc;exact fin 2 (Zf5 (decT 2) (by kernel_rfl) op h)
 ·have:=fin 0 (Zf5 (decT 0) (by kernel_rfl) op h);unfold ZlQ Zol Zc Zsj at this|-;rw[ZK0 chip op hc,ZmO chip op hc];exact this
def Ztk:En:=Zf ZAL ZAM (λ_=>none) (λa=>Zid a.1 a.2)
theorem ZwD:Za prog 123 Ztk:=ZlP.tot (λa h=>by simp) (λa h=>Zus _ _)
def ZTs:En:=Zf ZL7 ZMD (λ_=>none) (λa=>rGet a.1 a.2)
theorem ZQ9:Za prog 182 ZTs:=ZL6.tot (λa h=>by simp) (λa h=>ZKZ _ _)
def Zwt:En:=Zf ZLb ZLc (λ_=>none) (λa=>rSet a.1 a.2.1 a.2.2)
theorem ZDR:Za prog 191 Zwt:=ZLa.tot (λa h=>by simp) (λa h=>ZKt _ _ _)
def ZLy:En:=Zf ZL7 ZAM (λ_=>none) (λa=>ZeJ a.1 a.2)
theorem ZLx:Za prog 181 ZLy:=ZQY.tot (λa h=>by simp) (λa h=>ZQr _ _)
def Zca:En:=Zf Zkh ZLc (λ_=>none) (λa=>ZX a.1 a.2.1 a.2.2)
theorem ZeQ:Za prog 192 Zca:=ZzM.tot (λa h=>by simp) (λa h=>Zzh _ _ _)
def ZLB:En:=Zf ZLA ZAM (λ_=>none) (λa=>rPSW a.1 a.2)
theorem ZQ2:Za prog 189 ZLB:=ZVJ.tot (λa h=>by have h1:=(ZKD a.1 a.2).1;simp[h1]) (λa h=>(ZKD _ _).2)
def Znw:En:=Zf Znu ZLc (λ_=>none) (λa=>ZmT a.1 a.2.1 a.2.2)
theorem ZzN:Za prog 200 Znw:=ZGg.tot (λa h=>by simp) (λa h=>ZFZ _ _ _)
def ZV5:En:=Zf ZV3 Ztf (λ_=>none) (λa=>rDo a.1 a.2.1 a.2.2.1 a.2.2.2.1 a.2.2.2.2)
theorem ZV4:Za prog 193 ZV5:=ZYz.tot (λa h=>by have h1:=(ZTd a.1 a.2.1 a.2.2.1 a.2.2.2.1 a.2.2.2.2).1;simp[h1]) (λa h=>(ZTd _ _ _ _ _).2)
def ZEb:En:=Zf ZL0 Ztf (λ_=>none) (λa=>rInr a.1 a.2.1 a.2.2)
theorem ZEa:Za prog 183 ZEb:=ZVT.tot (λa h=>by have h1:=(ZKW a.1 a.2.1 a.2.2).1;simp[h1]) (λa h=>(ZKW _ _ _).2)
def ZEp:En:=Zf ZL0 Ztf (λ_=>none) (λa=>rDcr a.1 a.2.1 a.2.2)
theorem ZEo:Za prog 184 ZEp:=ZV8.tot (λa h=>by have h1:=(ZK1 a.1 a.2.1 a.2.2).1;simp[h1]) (λa h=>(ZK1 _ _ _).2)
def ZLZ:En:=Zf ZLX ZLY (λ_=>none) (λa=>rInx a.1 a.2.1 a.2.2)
theorem ZQ7:Za prog 195 ZLZ:=ZVR.tot (λa h=>by simp) (λa h=>ZVo _ _ _)
def ZMs:En:=Zf ZLX ZLY (λ_=>none) (λa=>rDcx a.1 a.2.1 a.2.2)
theorem ZRf:Za prog 196 ZMs:=ZV6.tot (λa h=>by simp) (λa h=>ZVs _ _ _)
def ZMy:En:=Zf ZL0 Ztf (λ_=>none) (λa=>rDaa a.1 a.2.1 a.2.2)
theorem ZRj:Za prog 198 ZMy:=ZWc.tot (λa h=>by have h1:=(ZK2 a.1 a.2.1 a.2.2).1;simp[h1]) (λa h=>(ZK2 _ _ _).2)
def ZMw:En:=Zf ZMu ZLY (λ_=>none) (λa=>rDad a.1 a.2.1 a.2.2.1 a.2.2.2)
theorem ZRh:Za prog 197 ZMw:=ZWa.tot (λa h=>by simp) (λa h=>ZVt _ _ _ _ h.2.1 h.2.2.1)
def ZA1:En:=Zf ZA0 ZLY (λ_=>none) (λa=>ZKe a.1 a.2)
theorem ZMm:Za prog 202 ZA1:=ZRc.tot (λa h=>by have h1:=(ZDK a.1 a.2).1;simp[h1]) (λa h=>(ZDK _ _).2)
def ZA5:En:=Zf ZA3 ZA4 (λ_=>none) (λa=>ZQn a)
theorem ZMF:Za prog 203 ZA5:=ZRl.tot (λa h=>by simp) (λa h=>ZQH _)
def ZLh:En:=Zf ZLg ZDV (λ_=>none) (λa=>rRot a.1 a.2.1 a.2.2)
theorem ZQT:Za prog 199 ZLh:=ZVz.tot (λa h=>by have h1:=(ZKv a.1 a.2.1 a.2.2).1;simp[h1]) (λa h=>(ZKv _ _ _).2)
def ZzV:En:=Zf ZzT ZzU (λ_=>none) (λa=>ZJV a.1 a.2)
theorem ZLr:Za prog 204 ZzV:=ZQW.tot (λa h=>by simp) (λa h=>ZQp _ _ h.1)
def ZLj:En:=Zf ZLi ZDW (λ_=>none) (λa=>rRim a.1 a.2)
theorem ZQV:Za prog 130 ZLj:=ZVB.tot (λa h=>by have h1:=(ZKw a.1 a.2).1;simp[h1]) (λa h=>(ZKw _ _).2.1)
def ZK9:En:=Zf ZK7 ZK8 (λ_=>none) (λa=>rSim a.1 a.2)
theorem ZQP:Za prog 131 ZK9:=ZVw.tot (λa h=>by simp) (λa h=>ZVh _ _)
def ZEe:En:=Zf ZLz ZnA (λ_=>none) (λa=>Zga a.1 a.2)
theorem ZGx:Za prog 236 ZEe:=ZL4.tot (λa h=>by simp) (λa h=>ZRU _ _)
def Zwm:En:=Zf Zwr ZAM (λ_=>none) (λa=>Zw a)
theorem ZzG:Za prog 47 Zwm:=ZGb.tot (λa h=>by simp) (λa h=>ZFV _)
def ZwI:En:=Zf Zwp Zz1 (λ_=>none) (λa=>Zc a.1 a.2)
theorem Zok:Za prog 37 ZwI:=ZHc.tot (λa h=>by have h1:=(dec_ok a.1 a.2 h.2).1;simp[h1]) (λa h=>(dec_ok a.1 a.2 h.2).2.1)
abbrev ZY1:R:=Pq (.int .i64) (Pq (.int .i64) (Pq (.int .i64) (Pq (.int .i64) (Pq (.int .i64) (Pq (.int .i64) (.int .i64))))))
def ZwJ (k:Int):En:=pinE Zwp ZY1 (λa=>Zc a.1 a.2) k
theorem ZEm (k:Int):Za Tryz.prog 37 (ZwJ k):=ZVq Zok k
def pcOf (c:TC):Int:=c.2.1.2.2.2.2.2.2.2.2.2
def spOf (c:TC):Int:=c.2.1.2.2.2.2.2.2.2.2.1
def rgx (r:TR) (f:TF) (sp pc:Int):TR:=(r.1,r.2.1,r.2.2.1,r.2.2.2.1,r.2.2.2.2.1,r.2.2.2.2.2.1,r.2.2.2.2.2.2.1,f,sp,pc)
def fin3 (g:List Int) (l:List TY):RT (Option (TY×Bool)):=.br (decide (iN (Le g)>=iN (Le l))) (Ls (((0,0,0,0),false))) (.br (Zh (iN (Le g)) (Le l)) (Ls ((R.get RY l (iN (Le g)),true))) Ln)
def ZqQ (s:Int):RT (Bool):=
 .Lf (decide (s>=1)&&decide (s<=4))
def Zd (s:Int):Bool:=(ZqQ s).val
def Zkj:En:=Zf Zwr ZnA (λ_=>none) (λa=>Zd a)
theorem Zk1:Za prog 44 Zkj:=
 pureQ 7 [] [] _ _ trivial Tryz.func44 Tryz.call44 trivial
abbrev ZYg:R:=Pq Zbc (Pq R.bool (Pq (R.sl Ka) (Pq (Pq Kc (Pq Kc (Pq Kc (Pq Kc (Pq Kc (Pq Kc (Pq Kc Kc))))))) (R.sl (RY)))))
def qAtT (s:QT0) (n:Int):RT (Option (Int)):=
 .br (!decide (n< ↑(Le s.2.2.1))||Zh n (Le s.2.2.1)) (.br (decide (n< ↑(Le s.2.2.1))) (Ls (R.get Ka s.2.2.1 n)) (Ls (0))) Ln
def qAt (s:QT0) (n:Int):Int:=getO ZMD.Df (qAtT s n).val
def qAtC (s:QT0) (n:Int):Bool:=okB (qAtT s n).val
def qAtE:En:=ZmN ZYg Zwr ZMD (λa=>some (qAtC a.1 a.2)) (λa=>qAt a.1 a.2)
theorem ZiZ:Za prog 116 qAtE:=
 ZiL (P:=prog) (n:=31) (k:=8) (l:=[]) (ol:=[]) trivial Tryz.func116 rfl (by kernel_rfl) Tryz.call116 trivial (rb:=ZYg) (ts:=Zwr) (rs:=ZMD) (by kernel_rfl) (t:=λa=>qAtT a.1 a.2) (λa=>by kernel_rfl)
def Zv4 (s:QT0) (n:Int):RT (Option (Int)):=
 .br (!qAtC s (i64.wrap (n+1))||qAtC s n) (.br (qAtC s (i64.wrap (n+1))) (Ls (Zid (qAt s (i64.wrap (n+1))) (qAt s n))) Ln) Ln
def ZgG (s:QT0) (n:Int):Int:=getO ZAM.Df (Zv4 s n).val
def Zc4 (s:QT0) (n:Int):Bool:=okB (Zv4 s n).val
def Zm0:En:=ZmN ZYg Zwr ZAM (λa=>some (Zc4 a.1 a.2)) (λa=>ZgG a.1 a.2)
theorem Zsl:Za prog 185 Zm0:=
 ZiL (P:=prog) (n:=31) (k:=8) (l:=[(116,qAtE),(123,Ztk)]) (ol:=[]) ⟨ZiZ,ZwD,Tv⟩ Tryz.func185 rfl (by kernel_rfl) Tryz.call185 trivial (rb:=ZYg) (ts:=Zwr) (rs:=ZAM) (by kernel_rfl) (t:=λa=>Zv4 a.1 a.2) (λa=>by kernel_rfl)
abbrev Zv5:List Sh:=[]
def ZDl (s:QT0):RT (Int):=
 .br s.2.1 (.Lf s.1.2.1.2.2.2.2.2.2.2.2.2) (.Lf (u16.wrap (s.1.2.1.2.2.2.2.2.2.2.2.2+u16.wrap s.2.2.2.1.2.1)))
def Zx (s:QT0):Int:=(ZDl s).val
def ZiY:En:=ZmN ZYg Zv5 ZAM (λ_=>none) (λa=>Zx a.1)
theorem ZqE:Za prog 126 ZiY:=
 ZlC (P:=prog) (n:=7) (k:=8) (l:=[]) (ol:=[]) trivial Tryz.func126 rfl (by kernel_rfl) Tryz.call126 trivial (rb:=ZYg) (ts:=Zv5) (rs:=ZAM) (by kernel_rfl) (t:=λa=>ZDl a.1) (λa=>by kernel_rfl)
def ZKi (s:QT0):RT (Bool):=
 .Lf (Zga s.2.2.2.1.2.2.2.2.2.2.1 s.1.2.1.2.2.2.2.2.2.2.1)
def ZhT (s:QT0):Bool:=(ZKi s).val
def Zie:En:=ZmN ZYg Zv5 ZnA (λ_=>none) (λa=>ZhT a.1)
theorem ZmY:Za prog 187 Zie:=
 ZlC (P:=prog) (n:=7) (k:=8) (l:=[(236,ZEe)]) (ol:=[]) ⟨ZGx,Tv⟩ Tryz.func187 rfl (by kernel_rfl) Tryz.call187 trivial (rb:=ZYg) (ts:=Zv5) (rs:=ZnA) (by kernel_rfl) (t:=λa=>ZKi a.1) (λa=>by kernel_rfl)
def ZYe (s:QT0) (n:Int):RT (Int):=
 .Lf (rGet s.1.2.1 n)
def qReg (s:QT0) (n:Int):Int:=(ZYe s n).val
def Zv3:En:=ZmN ZYg Zwr ZMD (λ_=>none) (λa=>qReg a.1 a.2)
theorem Zsk:Za prog 119 Zv3:=
 ZlC (P:=prog) (n:=31) (k:=8) (l:=[(182,ZTs)]) (ol:=[]) ⟨ZQ9,Tv⟩ Tryz.func119 rfl (by kernel_rfl) Tryz.call119 trivial (rb:=ZYg) (ts:=Zwr) (rs:=ZMD) (by kernel_rfl) (t:=λa=>ZYe a.1 a.2) (λa=>by kernel_rfl)
def ZS9 (s:QT0) (n:Int):RT (Int):=
 .Lf (ZeJ s.1.2.1 n)
def Zek (s:QT0) (n:Int):Int:=(ZS9 s n).val
def ZgE:En:=ZmN ZYg Zwr ZAM (λ_=>none) (λa=>Zek a.1 a.2)
theorem ZiT:Za prog 118 ZgE:=
 ZlC (P:=prog) (n:=31) (k:=8) (l:=[(181,ZLy)]) (ol:=[]) ⟨ZLx,Tv⟩ Tryz.func118 rfl (by kernel_rfl) Tryz.call118 trivial (rb:=ZYg) (ts:=Zwr) (rs:=ZAM) (by kernel_rfl) (t:=λa=>ZS9 a.1 a.2) (λa=>by kernel_rfl)
def ZiW (s:QT0):RT (Option (Int)):=
 .br (qAtC s 1) (Ls (bif s.2.2.2.1.1==14 then (rInr s.1.1 (qAt s 1) s.1.2.1.2.2.2.2.2.2.2.1).1 else (rDcr s.1.1 (qAt s 1) s.1.2.1.2.2.2.2.2.2.2.1).1)) Ln
def ZiX (s:QT0):Int:=getO ZMD.Df (ZiW s).val
def ZgH (s:QT0):Bool:=okB (ZiW s).val
def Zm1:En:=ZmN ZYg Zv5 ZMD (λa=>some (ZgH a.1)) (λa=>ZiX a.1)
theorem Zze:Za prog 121 Zm1:=
 ZiL (P:=prog) (n:=15) (k:=8) (l:=[(116,qAtE),(183,ZEb),(184,ZEp)]) (ol:=[]) ⟨ZiZ,ZEa,ZEo,Tv⟩ Tryz.func121 rfl (by kernel_rfl) Tryz.call121 trivial (rb:=ZYg) (ts:=Zv5) (rs:=ZMD) (by kernel_rfl) (t:=λa=>ZiW a.1) (λa=>by kernel_rfl)
def ZiU (s:QT0):RT (Option (Int)):=
 let x1:=s.2.2.2.1.1==13||s.2.2.2.1.2.2.2.1==6
 .br (!x1||qAtC s 1) (.br (x1) (Ls (qAt s 1)) (Ls (qReg s s.2.2.2.1.2.2.2.1))) Ln
def ZiV (s:QT0):Int:=getO ZMD.Df (ZiU s).val
def ZgF (s:QT0):Bool:=okB (ZiU s).val
def ZmZ:En:=ZmN ZYg Zv5 ZMD (λa=>some (ZgF a.1)) (λa=>ZiV a.1)
theorem Zzc:Za prog 194 ZmZ:=
 ZiL (P:=prog) (n:=7) (k:=8) (l:=[(116,qAtE),(119,Zv3)]) (ol:=[]) ⟨ZiZ,Zsk,Tv⟩ Tryz.func194 rfl (by kernel_rfl) Tryz.call194 trivial (rb:=ZYg) (ts:=Zv5) (rs:=ZMD) (by kernel_rfl) (t:=λa=>ZiU a.1) (λa=>by kernel_rfl)
abbrev mAtRs:Rs:=Rs.one (So Ka)
def mAtT (s:QT13) (n:Int):RT (Option (Int)):=
 .br (!decide (n< ↑(Le s.2.2.1))||Zh n (Le s.2.2.1)) (.br (decide (n< ↑(Le s.2.2.1))) (Ls (R.get Ka s.2.2.1 n)) (Ls (0))) Ln
def mAt (s:QT13) (n:Int):Int:=getO mAtRs.Df (mAtT s n).val
def mAtC (s:QT13) (n:Int):Bool:=okB (mAtT s n).val
def ZNf (s:QT13) (n:Int):RT (Option (Int)):=
 .br (!mAtC s (i64.wrap (n+1))||mAtC s n) (.br (mAtC s (i64.wrap (n+1))) (Ls (Zid (mAt s (i64.wrap (n+1))) (mAt s n))) Ln) Ln
def ZYN (s:QT13) (n:Int):Int:=getO ZAM.Df (ZNf s n).val
def ZTC (s:QT13) (n:Int):Bool:=okB (ZNf s n).val
def ZRD (s:QT13) (n:Int):RT (Int):=
 .br s.2.1 (.Lf s.1.2.1.2.2.2.2.2.2.2.2.2) (.Lf (u16.wrap (s.1.2.1.2.2.2.2.2.2.2.2.2+u16.wrap n)))
def ZWC (s:QT13) (n:Int):Int:=(ZRD s n).val
def ZWy (s:QT13) (i:QT4):RT (Bool):=
 .Lf (Zga i.2.2.2.2.2.2.1 s.1.2.1.2.2.2.2.2.2.2.1)
def ZYP (s:QT13) (i:QT4):Bool:=(ZWy s i).val
def ZJT (c:TC) (i:QT4) (v:Int):RT (QT2):=
 .br (i.1==14) (.Lf (rInr c.1 v c.2.1.2.2.2.2.2.2.2.1)) (.Lf (rDcr c.1 v c.2.1.2.2.2.2.2.2.2.1))
def ZQa (c:TC) (i:QT4) (v:Int):QT2:=(ZJT c i v).val
def ZAO (chip:Int) (op:Int):RT (Int):=
 .br ((Zc chip op).1==2) (.br (!chip==2&&((Zc chip op).2.2.1 !=6&&(Zc chip op).2.2.2.1 !=6)) (.Lf (5)) (.Lf (4))) (.br (bif (Zc chip op).1==14 then (Zc chip op).1==14 else (Zc chip op).1==15) (.br (!chip==2&&(Zc chip op).2.2.1 !=6) (.Lf (5)) (.Lf (4))) (.br ((Zc chip op).1==37) (.br (chip==2) (.Lf (5)) (.Lf (4))) (.br ((Zc chip op).1==26) (.br ((Zc chip op).2.2.2.2.2.2.1==11) (.Lf (4)) (.br (chip==2) (.Lf (6)) (.Lf (5)))) (.br (bif (Zc chip op).1==16 then (Zc chip op).1==16 else bif (Zc chip op).1==17 then (Zc chip op).1==17 else bif (Zc chip op).1==28 then (Zc chip op).1==28 else bif (Zc chip op).1==29 then (Zc chip op).1==29 else bif (Zc chip op).1==25 then (Zc chip op).1==25 else bif (Zc chip op).1==27 then (Zc chip op).1==27 else bif (Zc chip op).1==45 then (Zc chip op).1==45 else (Zc chip op).1==30) (.br (chip==2) (.Lf (6)) (.Lf (5))) (.Lf (4))))))
def ZqR (chip:Int) (op:Int):Int:=(ZAO chip op).val
def ZVX:En:=Zf Zwp ZTl (λ_=>none) (λa=>ZqR a.1 a.2)
theorem ZL9:Za prog 17 ZVX:=
 pureQ 72842913792127 [(37,ZwI)] [] _ _ ⟨Zok,Tv⟩ Tryz.func17 Tryz.call17 trivial
def Zzb (chip:Int) (op:Int):RT (Int):=
 let x1:=bif (Zc chip op).1==14 then (Zc chip op).1==14 else (Zc chip op).1==15
 let x2:= !(Zc chip op).1==2&&(!x1&&((bif (Zc chip op).1==16 then (Zc chip op).1==16 else bif (Zc chip op).1==17 then (Zc chip op).1==17 else bif (Zc chip op).1==28 then (Zc chip op).1==28 else bif (Zc chip op).1==29 then (Zc chip op).1==29 else bif (Zc chip op).1==25 then (Zc chip op).1==25 else bif (Zc chip op).1==27 then (Zc chip op).1==27 else bif (Zc chip op).1==30 then (Zc chip op).1==30 else (Zc chip op).1==45)||(Zc chip op).1==26&&(Zc chip op).2.2.2.2.2.2.1 !=11))
 .br (rOn chip&&x2) (.Lf (6)) (.br (rOn chip&&(Zc chip op).1==37) (.Lf (5)) (.br (!rOn chip&&(x2||bif (Zc chip op).1==2 then (Zc chip op).2.2.1 !=6&&(Zc chip op).2.2.2.1 !=6 else x1&&(Zc chip op).2.2.1 !=6)) (.Lf (5)) (.Lf (4))))
def ZeP (chip:Int) (op:Int):Int:=(Zzb chip op).val
def ZAK (c:TC) (l:QT1):RT TC:=
 .br (c.1 !=2)
 (.Lf (c))
 (.Lf ((c.1,c.2.1,c.2.2.1,c.2.2.2.1,c.2.2.2.2.1,c.2.2.2.2.2.1,l.2.2.2.2.1&&(c.2.2.2.2.2.2.1|| !c.2.2.2.2.2.2.2.2.1),c.2.2.2.2.2.2.2.1||l.2.2.2.2.2.1&& !c.2.2.2.2.2.2.2.2.2.1,l.2.2.2.2.1,l.2.2.2.2.2.1,c.2.2.2.2.2.2.2.2.2.2)))
def ZLV (c:TC) (l:QT1):TC:=(ZAK c l).val
def ZVQ:En:=Zf ZLi ZK8 (λ_=>none) (λa=>ZLV a.1 a.2)
theorem ZLU:Za prog 144 ZVQ:=
 pureQ 31 [] [] _ _ trivial Tryz.func144 Tryz.call144 trivial
def Zsh (c:TC) (l:QT1):RT TC:=
 .br (!rOn c.1)
 (.Lf (c))
 (.Lf ((c.1,c.2.1,c.2.2.1,c.2.2.2.1,c.2.2.2.2.1,c.2.2.2.2.2.1,l.2.2.2.2.1&&(c.2.2.2.2.2.2.1|| !c.2.2.2.2.2.2.2.2.1),c.2.2.2.2.2.2.2.1||l.2.2.2.2.2.1&& !c.2.2.2.2.2.2.2.2.2.1,l.2.2.2.2.1,l.2.2.2.2.2.1,c.2.2.2.2.2.2.2.2.2.2)))
def Ze (c:TC) (l:QT1):TC:=(Zsh c l).val
def ZLv (c:TC) (l:QT1):RT (Int):=
 .br (c.1==2&&c.2.2.2.2.2.2.1)
 (.Lf (1))
 (.br (!c.2.2.1||c.2.2.2.1)
  (.Lf (0))
  (.br (c.1==2&&(c.2.2.2.2.2.2.2.1&&andI u8 c.2.2.2.2.2.1 4==0))
  (.Lf (2))
  (.br (c.1==2&&(l.2.2.2.2.2.2.1&&andI u8 c.2.2.2.2.2.1 2==0))
   (.Lf (3))
   (.br (c.1==2&&(l.2.2.2.2.2.2.2.1&&andI u8 c.2.2.2.2.2.1 1==0))
   (.Lf (4))
   (.br l.2.2.2.2.2.2.2.2
    (.Lf (5))
    (.Lf (0)))))))
def ZVH (c:TC) (l:QT1):Int:=(ZLv c l).val
def ZYr:En:=Zf ZLi ZTl (λ_=>none) (λa=>ZVH a.1 a.2)
theorem ZQX:Za prog 148 ZYr:=
 pureQ 576601524159939135 [] [] _ _ trivial Tryz.func148 Tryz.call148 trivial
def ZDd (c:TC) (l:QT1):RT (Int):=
 .br (rOn c.1&&c.2.2.2.2.2.2.1)
 (.Lf (1))
 (.br (!c.2.2.1||c.2.2.2.1)
  (.Lf (0))
  (.br (rOn c.1&&(c.2.2.2.2.2.2.2.1&&andI u8 c.2.2.2.2.2.1 4==0))
  (.Lf (2))
  (.br (rOn c.1&&(l.2.2.2.2.2.2.1&&andI u8 c.2.2.2.2.2.1 2==0))
   (.Lf (3))
   (.br (rOn c.1&&(l.2.2.2.2.2.2.2.1&&andI u8 c.2.2.2.2.2.1 1==0))
   (.Lf (4))
   (.br l.2.2.2.2.2.2.2.2
    (.Lf (5))
    (.Lf (0)))))))
def ZbP (c:TC) (l:QT1):Int:=(ZDd c l).val
abbrev Zon:List Sh:=[Sh.agg Zbc,So Kc]
def ZlS (c:TC) (s:Int):RT TC:=
 .br (decide (s<1)||decide (s>5))
 (.Lf (c))
 (.Lf ((c.1,c.2.1,false,false,false,c.2.2.2.2.2.1,!s==1&&c.2.2.2.2.2.2.1,bif s==1 then c.2.2.2.2.2.2.2.1 else !s==2&&c.2.2.2.2.2.2.2.1,c.2.2.2.2.2.2.2.2.1,c.2.2.2.2.2.2.2.2.2.1,s==1||c.2.2.2.2.2.2.2.2.2.2.1,bif s==1 then c.2.2.1 else c.2.2.2.2.2.2.2.2.2.2.2.1,c.2.2.2.2.2.2.2.2.2.2.2.2)))
def Zt8 (c:TC) (s:Int):TC:=(ZlS c s).val
def ZRn:En:=Zf Zon ZK8 (λ_=>none) (λa=>Zt8 a.1 a.2)
theorem ZHe:Za prog 206 ZRn:=
 pureQ 1056799 [] [] _ _ trivial Tryz.func206 Tryz.call206 trivial
def ZiS (c:TC) (s:Int):RT TC:=
 .br (decide (s<1)||decide (s>5))
 (.Lf (c))
 (.Lf ((c.1,c.2.1,false,false,false,c.2.2.2.2.2.1,!s==1&&c.2.2.2.2.2.2.1,!s==2&&c.2.2.2.2.2.2.2.1,c.2.2.2.2.2.2.2.2.1,c.2.2.2.2.2.2.2.2.2.1,s==1||c.2.2.2.2.2.2.2.2.2.2.1,bif s==1 then c.2.2.1 else c.2.2.2.2.2.2.2.2.2.2.2.1,c.2.2.2.2.2.2.2.2.2.2.2.2)))
def ZA (c:TC) (s:Int):TC:=(ZiS c s).val
abbrev ZsU:List Sh:=[Sh.agg Zbc]
def ZzQ (c:TC):RT TC:=
 .Lf ((c.1,(c.2.1.1,c.2.1.2.1,c.2.1.2.2.1,c.2.1.2.2.2.1,c.2.1.2.2.2.2.1,c.2.1.2.2.2.2.2.1,c.2.1.2.2.2.2.2.2.1,c.2.1.2.2.2.2.2.2.2.1,c.2.1.2.2.2.2.2.2.2.2.1,0),false,false,false,bif c.1==2 then 7 else 0,false,false,false,false,false,false,false))
def ZLl (c:TC):TC:=(ZzQ c).val
def ZVD:En:=Zf ZsU ZK8 (λ_=>none) (λa=>ZLl a)
theorem ZLk:Za prog 142 ZVD:=
 pureQ 15 [] [] _ _ trivial Tryz.func142 Tryz.call142 trivial
def ZmV (c:TC):RT TC:=
 .Lf ((c.1,(c.2.1.1,c.2.1.2.1,c.2.1.2.2.1,c.2.1.2.2.2.1,c.2.1.2.2.2.2.1,c.2.1.2.2.2.2.2.1,c.2.1.2.2.2.2.2.2.1,c.2.1.2.2.2.2.2.2.2.1,c.2.1.2.2.2.2.2.2.2.2.1,0),false,false,false,bif rOn c.1 then 7 else 0,false,false,false,false,false,false,false))
def ZY (c:TC):TC:=(ZmV c).val
def Zy1 (k:Int):RT (Bool):=
 .Lf (k==1||(k==2||(k==4||(k==6||(k==8||k==9)))))
def Zba (k:Int):Bool:=(Zy1 k).val
def ZzR (k:Int):RT (Bool):=
 .br (bif k==1 then k==1 else bif k==2 then k==2 else bif k==4 then k==4 else bif k==6 then k==6 else bif k==8 then k==8 else k==9)
 (.Lf (true))
 (.Lf (false))
def ZLn (k:Int):Bool:=(ZzR k).val
def ZVE:En:=Zf Zwr ZnA (λ_=>none) (λa=>ZLn a)
theorem ZLm:Za prog 70 ZVE:=
 pureQ 23 [] [] _ _ trivial Tryz.func70 Tryz.call70 trivial
def ZC0 (k:Int):RT (Bool):=
 .Lf (k==3||(k==5||k==7))
def ZbU (k:Int):Bool:=(ZC0 k).val
def ZsI (k:Int):RT (Bool):=
 .Lf (k==3||(k==5||k==7))
def ZzB (k:Int):Bool:=(ZsI k).val
def ZQI:En:=Zf Zwr ZnA (λ_=>none) (λa=>ZzB a)
theorem ZF8:Za prog 73 ZQI:=
 pureQ 7 [] [] _ _ trivial Tryz.func73 Tryz.call73 trivial
def ZsO (k:Int):RT (Int):=
 .br (k==1)
 (.Lf (162))
 (.br (k==2)
  (.Lf (130))
  (.br (k==4)
  (.Lf (134))
  (.br (k==5)
   (.Lf (4))
   (.br (k==6)
   (.Lf (66))
   (.br (k==7)
    (.Lf (16))
    (.br (k==8)
    (.Lf (35))
    (.br (k==9)
     (.Lf (3))
     (.br (k==10)
     (.Lf (138))
     (.Lf (0))))))))))
def ZzL (k:Int):Int:=(ZsO k).val
def ZQO:En:=Zf Zwr ZMD (λ_=>none) (λa=>ZzL a)
theorem ZGf:Za prog 169 ZQO:=
 pureQ 1398103 [] [] _ _ trivial Tryz.func169 Tryz.call169 trivial
def ZC3 (k:Int):RT (Int):=
 .br (k==1)
 (.Lf (162))
 (.br (k==2)
  (.Lf (130))
  (.br (k==4)
  (.Lf (134))
  (.br (k==5)
   (.Lf (4))
   (.br (k==6)
   (.Lf (66))
   (.br (k==7)
    (.Lf (16))
    (.br (k==8)
    (.Lf (35))
    (.br (k==9)
     (.Lf (3))
     (.br (k==10)
     (.Lf (138))
     (.Lf (0))))))))))
def ZmS (k:Int):Int:=(ZC3 k).val
abbrev Zog:Rs:=Rs.tup [So R.bool,So R.bool,So R.bool]
def Zth (k:Int):RT (QT30):=
 .br (k==1)
 (.Lf ((false,true,true)))
 (.br (bif k==2 then k==2 else bif k==4 then k==4 else k==11)
  (.Lf ((false,true,false)))
  (.br (bif k==3 then k==3 else k==5)
  (.Lf ((false,false,true)))
  (.br (k==6)
   (.Lf ((true,true,false)))
   (.br (k==7)
   (.Lf ((true,false,true)))
   (.br (bif k==8 then k==8 else bif k==9 then k==9 else k==12)
    (.Lf ((true,true,true)))
    (.Lf ((false,false,false))))))))
def ZAJ (k:Int):QT30:=(Zth k).val
def ZQ6:En:=Zf Zwr Zog (λ_=>none) (λa=>ZAJ a)
theorem ZGv:Za prog 168 ZQ6:=
 pureQ 692575 [] [] _ _ trivial Tryz.func168 Tryz.call168 trivial
def ZDg (k:Int):RT (QT30):=
 .br (k==1)
 (.Lf ((false,true,true)))
 (.br (bif k==2 then k==2 else bif k==4 then k==4 else k==11)
  (.Lf ((false,true,false)))
  (.br (bif k==3 then k==3 else k==5)
  (.Lf ((false,false,true)))
  (.br (k==6)
   (.Lf ((true,true,false)))
   (.br (k==7)
   (.Lf ((true,false,true)))
   (.br (bif k==8 then k==8 else bif k==9 then k==9 else k==12)
    (.Lf ((true,true,true)))
    (.Lf ((false,false,false))))))))
def ZfP (k:Int):QT30:=(ZDg k).val
def Zom (k:Int):RT (Bool):=
 .Lf (k !=10&&(k !=11&&k !=12))
def Zt7 (k:Int):Bool:=(Zom k).val
def ZML:En:=Zf Zwr ZnA (λ_=>none) (λa=>Zt7 a)
theorem ZA7:Za prog 145 ZML:=
 pureQ 7 [] [] _ _ trivial Tryz.func145 Tryz.call145 trivial
def Zv2 (k:Int):RT (Bool):=
 .Lf (k !=10&&(k !=11&&k !=12))
def Zg (k:Int):Bool:=(Zv2 k).val
theorem ZRG (c l):ZLV c l=Ze c l:=by simp only[ZLV,ZAK,Ze,Zsh,RT.val,Zbv,bne]
theorem ZVr (c l):ZVH c l=ZbP c l:=by simp[ZVH,ZLv,ZbP,ZDd,RT.val,Zbv]
theorem ZPh (c) (s:Int):Zt8 c s=ZA c s:=by
 by_cases h:s=1
 ·subst h;simp[Zt8,ZlS,ZA,ZiS,RT.val]
 ·have h':(s==1)=false:=by simpa using h
  simp[Zt8,ZlS,ZA,ZiS,RT.val,h']
theorem ZP4 (c):ZLl c=ZY c:=by simp[ZLl,ZzQ,ZY,ZmV,RT.val,Zbv]
theorem ZP5 (k):ZLn k=Zba k:=by simp[ZLn,ZzR,Zba,Zy1,RT.val]
theorem ZIc (k):ZzB k=ZbU k:=by simp[ZzB,ZsI,ZbU,ZC0,RT.val]
theorem ZJi (k):ZzL k=ZmS k:=by simp[ZzL,ZsO,ZmS,ZC3,RT.val]
theorem ZNu (k):ZAJ k=ZfP k:=by simp[ZAJ,Zth,ZfP,ZDg,RT.val]
theorem ZH6 (k):Zt7 k=Zg k:=by simp[Zt7,Zom,Zg,Zv2,RT.val]
def ZD7:En:=Zf ZLi ZK8 (λ_=>none) (λa=>Ze a.1 a.2)
theorem ZGw:Za prog 144 ZD7:=ZLU.tot (λa h=>by simp) (λa h=>ZRG _ _)
def Zs1:En:=Zf ZLi ZTl (λ_=>none) (λa=>ZbP a.1 a.2)
theorem Zwy:Za prog 148 Zs1:=ZQX.tot (λa h=>by simp) (λa h=>ZVr _ _)
def ZwN:En:=Zf Zon ZK8 (λ_=>none) (λa=>ZA a.1 a.2)
theorem ZA8:Za prog 206 ZwN:=ZHe.tot (λa h=>by simp) (λa h=>ZPh _ _)
def ZsW:En:=Zf ZsU ZK8 (λ_=>none) (λa=>ZY a)
theorem ZqP:Za prog 142 ZsW:=ZLk.tot (λa h=>by simp) (λa h=>ZP4 _)
def ZdY:En:=Zf Zwr ZnA (λ_=>none) (λa=>Zba a)
theorem Zfm:Za prog 70 ZdY:=ZLm.tot (λa h=>by simp) (λa h=>ZP5 _)
def Zdx:En:=Zf Zwr ZnA (λ_=>none) (λa=>ZbU a)
theorem ZfR:Za prog 73 Zdx:=ZF8.tot (λa h=>by simp) (λa h=>ZIc _)
def Znp:En:=Zf Zwr ZMD (λ_=>none) (λa=>ZmS a)
theorem ZzK:Za prog 169 Znp:=ZGf.tot (λa h=>by simp) (λa h=>ZJi _)
def Zoh:En:=Zf Zwr Zog (λ_=>none) (λa=>ZfP a)
theorem ZAI:Za prog 168 Zoh:=ZGv.tot (λa h=>by simp) (λa h=>ZNu _)
def ZqU:En:=Zf Zwr ZnA (λ_=>none) (λa=>Zg a)
theorem ZwM:Za prog 145 ZqU:=ZA7.tot (λa h=>by simp) (λa h=>ZH6 _)
def Zcg:En:=.tree (Zo (envX prog [] [] 7 8) Tryz.f90)
theorem ZeC:Za prog 90 Zcg:=ZL trivial Tryz.func90 rfl (by kernel_rfl) Tryz.call90 trivial
def Zbs:En:=.tree (Zo (envX prog [] [] 7 8) Tryz.f91)
theorem Zdl:Za prog 91 Zbs:=ZL trivial Tryz.func91 rfl (by kernel_rfl) Tryz.call91 trivial
def Zg2:En:=.tree (Zo (envX prog [(70,ZdY),(73,Zdx),(90,Zcg),(91,Zbs),(168,Zoh)] [] 63 8) Tryz.f92)
theorem ZkP:Za prog 92 Zg2:=ZL ⟨Zfm,ZfR,ZeC,Zdl,ZAI,Tv⟩ Tryz.func92 rfl (by kernel_rfl) Tryz.call92 trivial
def ZfA:En:=.tree (Zo (envX prog [(70,ZdY),(73,Zdx),(91,Zbs),(169,Znp)] [] 63 8) Tryz.f93)
theorem Zir:Za prog 93 ZfA:=ZL ⟨Zfm,ZfR,Zdl,ZzK,Tv⟩ Tryz.func93 rfl (by kernel_rfl) Tryz.call93 trivial
abbrev ZLs:List Sh:=[So Kc,Sh.agg (Pq Kc (Pq (RY) (Pq Ka (Pq Kb (Pq R.bool R.bool)))))]
abbrev ZLu:Rs:=Rs.one (Sh.agg (Pq Kc (Pq Kb (Pq Ka (Pq R.bool (Pq R.bool (Pq R.bool (Pq R.bool (Pq R.bool (Pq R.bool (Pq R.bool rcF7)))))))))))
def ZLt (chip:Int) (s:Int×TY×Int×Int×Bool×Bool):RT (QT8):=
 let x1:Int:=bif decide (s.1>=1)&&decide (s.1<=7) then s.2.1.2.1 else 0
 let x2:=s.1==2||(s.1==7||s.1==3)
 let x3:=x2&&ZbU s.2.1.1
 let x4:Int:=bif s.1==3&&Zba s.2.1.1 then s.2.2.1 else bif x3 then s.2.1.2.2.1 else 0
 let x5:=s.1==1&&(s.2.1.1 !=11&&s.2.1.1 !=12)
 .br (chip==2)
 (.Lf ((s.1,x1,bif s.1==1 then u8.wrap s.2.1.2.1 else x4,false,false,false,false,s.1==1,decide (s.1>=1)&&decide (s.1<=7)&&(ZfP s.2.1.1).1,decide (s.1>=1)&&decide (s.1<=7)&&(ZfP s.2.1.1).2.1,decide (s.1>=1)&&decide (s.1<=7)&&(ZfP s.2.1.1).2.2,x2&&(Zba s.2.1.1&& !(s.2.1.1==8||s.2.1.1==9)),x2&&(s.2.1.1==8||s.2.1.1==9),s.2.2.2.2.2,x3,s.1==8,s.1==8||(s.1==9||s.1==10))))
 (.Lf ((s.1,bif s.1==9 then s.2.2.2.1 else x1,bif x5 then ZmS s.2.1.1 else x4,x5,x2&&Zba s.2.1.1,s.1==7||s.1==9,s.2.2.2.2.1,false,false,false,false,false,false,false,bif s.1==7 then ZbU s.2.1.1 else s.1==3&&ZbU s.2.1.1,s.1==8,s.1==8)))
def ZGi (chip:Int) (s:Int×TY×Int×Int×Bool×Bool):QT8:=(ZLt chip s).val
def ZDY:En:=Zf ZLs ZLu (λ_=>none) (λa=>ZGi a.1 a.2)
theorem ZDX:Za prog 32 ZDY:=
 pureQ 63 [(70,ZdY),(73,Zdx),(90,Zcg),(91,Zbs),(92,Zg2),(93,ZfA)] [] _ _ ⟨Zfm,ZfR,ZeC,Zdl,ZkP,Zir,Tv⟩ Tryz.func32 Tryz.call32 trivial
def ZhR (chip:Int) (t:Int) (x:QT15) (d:Int) (i:Bool) (o:Bool):RT (QT8):=
 let x1:Bool×Bool×Bool×Bool×Bool×Bool×Bool×Bool×Bool×Bool×Bool:=(!rOn chip&&bif rOn chip then i else i,false,false,false,false,false,false,bif !rOn chip then rOn chip&&o else rOn chip&&o,false,false,rOn chip)
 let x2:=(t==2||(t==7||t==3))&&ZbU x.1
 let x3:Int:=bif t==3&&Zba x.1 then d else bif x2 then x.2.2.1 else 0
 .br (t==8)
 (.Lf ((t,0,0,false,false,false,!rOn chip&&bif rOn chip then i else i,false,false,false,false,false,false,bif !rOn chip then rOn chip&&o else rOn chip&&o,false,true,true)))
 (.br (t==9)
  (.Lf ((t,bif !rOn chip then x.2.1 else 0,0,false,false,!rOn chip,x1)))
  (.br (t==10)
  (.Lf ((t,0,0,false,false,false,x1)))
  (.br (rOn chip)
   (.Lf ((t,x.2.1,bif t==1 then u8.wrap x.2.1 else x3,false,false,false,!rOn chip&&bif rOn chip then i else i,t==1,(ZfP x.1).1,(ZfP x.1).2.1,(ZfP x.1).2.2,(t==2||(t==7||t==3))&&(Zba x.1&& !(x.1==8||x.1==9)),(t==2||(t==7||t==3))&&(x.1==8||x.1==9),bif !rOn chip then rOn chip&&o else rOn chip&&o,x2,false,false)))
   (.Lf ((t,x.2.1,bif t==1&&(x.1 !=11&&x.1 !=12) then ZmS x.1 else x3,t==1&&(x.1 !=11&&x.1 !=12),(t==2||(t==7||t==3))&&Zba x.1,t==7,!rOn chip&&bif rOn chip then i else i,false,false,false,false,false,false,bif !rOn chip then rOn chip&&o else rOn chip&&o,ZbU x.1&&(t==7||t==3),false,false))))))
def ZaZ (chip:Int) (t:Int) (x:QT15) (d:Int) (i:Bool) (o:Bool):QT8:=(ZhR chip t x d i o).val
abbrev ZMB:List Sh:=[Sh.agg (Pq Zbc (Pq Kc (Pq (R.sl Ka) (Pq (RY) (Pq Kc R.bool)))))]
def ZTu (c:QT24):RT (Bool):=
 let x1:=decide (iN (Le c.2.2.1)>0)||c.2.1 !=0
 .Lf (bif decide (c.2.2.2.2.1>=2) then decide (c.2.2.2.2.1<=7)||x1 else x1)
def Zt6 (c:QT24):Bool:=(ZTu c).val
def ZwK:En:=Zf ZMB ZnA (λ_=>none) (λa=>Zt6 a)
theorem ZEr:Za prog 78 ZwK:=
 pureQ 7 [] [] _ _ trivial Tryz.func78 Tryz.call78 trivial
def ZS5 (c:QT24):RT (Bool):=
 let x1:=decide (iN (Le c.2.2.1)>0)||c.2.1 !=0
 .Lf (bif decide (c.2.2.2.2.1>=2) then decide (c.2.2.2.2.1<=7)||x1 else x1)
def Zgg (c:QT24):Bool:=(ZS5 c).val
theorem Zzx (chip t:Int) (h1:1<=t) (h2:t<=10) (x:QT15) (d d' pc:Int) (i o:Bool) (hd:t≠10->d'=d):
  ZGi chip (t,x,d,pc,i,o)=ZaZ chip t (bif t==9 then (0,pc,0,0) else x) d' i o:=by
 obtain⟨x1,x2,x3,x4⟩:=x;simp only[ZGi,ZLt,ZaZ,ZhR,RT.val,Zbv];generalize (chip==2)=b;have:t=1\/t=2\/t=3\/t=4\/t=5\/t=6\/t=7\/t=8\/t=9\/t=10:=by omega
 by_cases h:t=10
 ·subst h;cases b<;>simp
 ·rw[hd h];rcases this with rfl|rfl|rfl|rfl|rfl|rfl|rfl|rfl|rfl|rfl<;>cases b<;>simp<;>(try cases ZbU x1)<;>(try cases Zba x1)<;>simp
