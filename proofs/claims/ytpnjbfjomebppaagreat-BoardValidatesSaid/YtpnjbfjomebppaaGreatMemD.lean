import Derived.Test.YtpnjbfjomebppaaGreatCloneC
open Go.Proofs.Tryz (prog)
open Go.IntKind (u8 u16 i64)
set_option linter.unusedSimpArgs false
open Go Go.S3 Go.Proofs
set_option linter.unusedVariables false
set_option maxRecDepth 100000
namespace Go.Proofs.YtpnjbfjomebppaaGreat
noncomputable section
abbrev Zlg:R:=R.Pq (R.int u16) (R.int u8)
abbrev Zlh:Nat:=75
abbrev ZIi:List Sh:=[]
def ZuK (s:List (Int×Int)):RT (Option (List (Int×Int))):=
 .br (Zlo (Stg.l (Zc8 Zlg Zlh s)) (iN (List.length (Stg.l (Zc8 Zlg Zlh s))))) (.Lf (some (Cells.isort (Stg.l (Zc8 Zlg Zlh s))))) (.Lf none)
def ZxF (s:List (Int×Int)):List (Int×Int):=getO [] (ZuK s).val
def ZCk (s:List (Int×Int)):Bool:=okB (ZuK s).val
def ZIj:En:=stE Zlg Zlh 160 ZIi (λa=>some (ZCk a.1)) (λa=>ZxF a.1)
theorem ZCj:Za prog 159 ZIj:=
 Zlp (P:=prog) (n:=15) (k:=8) (l:=[(234,ZIh),(160,ZbA)]) (ol:=[]) ⟨ZIg,Zam,Tv⟩ Tryz.func159 rfl (by kernel_rfl) Tryz.call159 trivial (r:=Zlg) (T:=Zlh) (g0:=160) (ts:=ZIi) (t:=λa=>ZuK a.1) (λa=>by kernel_rfl)
abbrev ZNb:List Sh:=[Sh.one rcCE]
abbrev ZBn:Rs:=Rs.one (Sh.one rcCE)
def ZQE:LS:={n:=45,Sl:=[(3,.tip 0),(4,.tip 1),(11,.tip 0),(12,.code (Sh.one (R.int i64))),(13,.code (Sh.one (R.int i64)))],Bx:=[],Sg:=[⟨R.Pq (R.int u16) (R.int u8),75,true⟩,⟨(R.Pq (R.int u16) (R.int u8)),75,true⟩]}
def Zin (a:QT27):RT (Option (Go1 (QT27))):=
 let x1:=(R.get (R.Pq (R.int u16) (R.int u8)) a.2.2.1 a.2.1).2 !=0
 let x2:=i64.wrap (a.2.1+1)==iN (List.length a.2.2.1)
 let x3:= !x1||(x2||Zf (i64.wrap (a.2.1+1)) (List.length a.2.2.1))
 let x4:=x1&&(x2||(R.get (R.Pq (R.int u16) (R.int u8)) a.2.2.1 (i64.wrap (a.2.1+1))).1 !=(R.get (R.Pq (R.int u16) (R.int u8)) a.2.2.1 a.2.1).1)
 let x5:List (Int×Int):=a.2.2.2.1++[R.get (R.Pq (R.int u16) (R.int u8)) a.2.2.1 a.2.1]
 .br (decide (a.2.1<a.1)) (.br (!Zf a.2.1 (List.length a.2.2.1)||(!x3||(!x4||Nat.ble (List.length x5) most))) (.br (!Zf a.2.1 (List.length a.2.2.1)||x3) (.br (Zf a.2.1 (List.length a.2.2.1)) (.Lf (some (Go1.cont (a.1,i64.wrap (a.2.1+1),a.2.2.1,bif x4 then x5 else a.2.2.2.1,PUnit.unit)))) (.Lf none)) (.Lf none)) (.Lf none)) (.Lf (some (Go1.brk (a.1,a.2.1,a.2.2.1,a.2.2.2.1,PUnit.unit))))
def ZEx:Ora:=Zbo false ZQE Zin (λa=>(a.1-a.2.1).toNat+1)
theorem ZHk:Za3 (envX prog [(98,Zug),(159,ZIj),(160,ZbA)] [] 127 8) (.block 0 (.loop (Z2 Tryz.f90.body 0))) ZEx:=
 loopP ⟨ZoT,ZCj,Zam,Tv⟩
def ZwL (l:List (Int×Int)):RT (Option (List (Int×Int))):=
 let x1:=runF false Zin (λa=>Int.toNat (a.1-a.2.1)+1) (iN (List.length (ZxF l)),0,ZxF l,[],())
 .br (Nat.ble (List.length l) most) (.br (ZCk l) (.br (okB x1) (.Lf (some (getO (false,iN (List.length (ZxF l)),0,ZxF l,[],()) x1).2.2.2.2.1)) (.Lf none)) (.Lf none)) (.Lf none)
def ZNd (l:List (Int×Int)):List (Int×Int):=getO ZBn.Df (ZwL l).val
def ZwM (l:List (Int×Int)):Bool:=okB (ZwL l).val
def ZNc:En:=Zg ZNb ZBn (λa=>some (ZwM a)) (λa=>ZNd a)
theorem ZEw:Za prog 90 ZNc:=
 pureP 127 [(98,Zug),(159,ZIj),(160,ZbA)] [(0,ZEx)] ZNb ZBn ⟨ZoT,ZCj,Zam,Tv⟩ Tryz.func90 Tryz.call90 ⟨ZHk,Tv⟩ (t:=λa=>ZwL a)
abbrev ZtO:List Sh:=[Sh.one rcCE]
abbrev ZkU:Rs:=Rs.one (Sh.one R.bool)
def ZM7:LS:={n:=31,Sl:=[(0,.code (Sh.one rcCE)),(2,.code (Sh.one R.bool)),(5,.code (Sh.one rcCE)),(6,.code (Sh.one (R.int i64))),(7,.code (Sh.one (R.int i64)))],Bx:=[],Sg:=[]}
def ZdW (a:List (Int×Int)×Bool×List (Int×Int)×Int×Int×PUnit):RT (Option (Go1 (List (Int×Int)×Bool×List (Int×Int)×Int×Int×PUnit))):=
 let x1:Int×Int:=R.get (R.Pq (R.int u16) (R.int u8)) a.2.2.1 a.2.2.2.2.1
 let x2:=x1.2==0
 let x3:List (Int×Int)×Int×Int×PUnit:=(a.2.2.1,a.2.2.2.1,a.2.2.2.2.1,PUnit.unit)
 .br (decide (a.2.2.2.2.1<a.2.2.2.1)) (.br (!Zf a.2.2.2.2.1 (List.length a.2.2.1)||(x2||(!decide (a.2.2.2.2.1>0)||Zf (i64.wrap (a.2.2.2.2.1-1)) (List.length a.1)))) (.br (Zf a.2.2.2.2.1 (List.length a.2.2.1)) (.br (x2||decide (a.2.2.2.2.1>0)&&decide (x1.1<=(R.get (R.Pq (R.int u16) (R.int u8)) a.1 (i64.wrap (a.2.2.2.2.1-1))).1)) (.Lf (some (Go1.ret (a.1,false,x3)))) (.Lf (some (Go1.cont (a.1,a.2.1,a.2.2.1,a.2.2.2.1,i64.wrap (a.2.2.2.2.1+1),PUnit.unit))))) (.Lf none)) (.Lf none)) (.Lf (some (Go1.brk (a.1,a.2.1,x3))))
def ZwH:Ora:=Zbo true ZM7 ZdW (λa=>1000000000000)
theorem ZBl:Za3 (envX prog [] [] 31 8) (.block 0 (.loop (Z2 Tryz.f103.body 0))) ZwH:=
 loopP trivial
def Zjp (m:List (Int×Int)):RT (Option (Bool)):=
 let x1:=runF true ZdW (λa=>1000000000000) (m,false,m,iN (List.length m),0,())
 let x2:=getO (false,m,false,m,iN (List.length m),0,()) x1
 .br (okB x1) (.br x2.1 (.Lf (some x2.2.2.1)) (.Lf (some (true)))) (.Lf none)
def Zod (m:List (Int×Int)):Bool:=getO ZkU.Df (Zjp m).val
def ZtP (m:List (Int×Int)):Bool:=okB (Zjp m).val
def ZM8:En:=Zg ZtO ZkU (λa=>some (ZtP a)) (λa=>Zod a)
theorem ZwG:Za prog 103 ZM8:=
 pureP 31 [] [(0,ZwH)] ZtO ZkU trivial Tryz.func103 Tryz.call103 ⟨ZBl,Tv⟩ (t:=λa=>Zjp a)
abbrev Zro:List Sh:=[Sh.one rcCE]
abbrev Zku:Rs:=Rs.one (Sh.one R.bool)
def ZI6:LS:={n:=34,Sl:=[(0,.code (Sh.one rcCE)),(2,.code (Sh.one R.bool)),(5,.code (Sh.one (R.int i64))),(6,.code (Sh.one (R.int i64)))],Bx:=[],Sg:=[]}
def ZdJ (a:List (Int×Int)×Bool×Int×Int×PUnit):RT (Option (Go1 (List (Int×Int)×Bool×Int×Int×PUnit))):=
 let x1:=(R.get (R.Pq (R.int u16) (R.int u8)) a.1 a.2.2.2.1).2==0
 let x2:= !Zf a.2.2.2.1 (List.length a.1)||(x1||(!decide (a.2.2.2.1>0)||(!Zf a.2.2.2.1 (List.length a.1)||Zf (i64.wrap (a.2.2.2.1-1)) (List.length a.1))))
 let x3:= !x2
 let x4:= !Zf a.2.2.2.1 (List.length a.1)||(x1||(!decide (a.2.2.2.1>0)||Zf a.2.2.2.1 (List.length a.1)))
 .br (decide (a.2.2.2.1<a.2.2.1)) (.br (x3||(!x4||Zf a.2.2.2.1 (List.length a.1))) (.br (x3||x4) (.br (x2) (.br (x1||decide (a.2.2.2.1>0)&&decide ((R.get (R.Pq (R.int u16) (R.int u8)) a.1 a.2.2.2.1).1<=(R.get (R.Pq (R.int u16) (R.int u8)) a.1 (i64.wrap (a.2.2.2.1-1))).1)) (.Lf (some (Go1.ret (a.1,false,a.2.2.1,a.2.2.2.1,PUnit.unit)))) (.Lf (some (Go1.cont (a.1,a.2.1,a.2.2.1,i64.wrap (a.2.2.2.1+1),PUnit.unit))))) (.Lf none)) (.Lf none)) (.Lf none)) (.Lf (some (Go1.brk (a.1,a.2.1,a.2.2.1,a.2.2.2.1,PUnit.unit))))
def Zvd:Ora:=Zbo true ZI6 ZdJ (λa=>1000000000000)
theorem Zx5:Za3 (envX prog [] [] 15 8) (.block 0 (.loop (Z2 Tryz.f105.body 0))) Zvd:=
 loopP trivial
def ZiY (m:List (Int×Int)):RT (Option (Bool)):=
 let x1:=runF true ZdJ (λa=>1000000000000) (m,false,iN (List.length m),0,())
 let x2:=getO (false,m,false,iN (List.length m),0,()) x1
 .br (okB x1) (.br x2.1 (.Lf (some x2.2.2.1)) (.Lf (some (true)))) (.Lf none)
def ZlA (m:List (Int×Int)):Bool:=getO Zku.Df (ZiY m).val
def ZiZ (m:List (Int×Int)):Bool:=okB (ZiY m).val
def Zx6:En:=Zg Zro Zku (λa=>some (ZiZ a)) (λa=>ZlA a)
theorem Zly:Za prog 105 Zx6:=
 pureP 15 [] [(0,Zvd)] Zro Zku trivial Tryz.func105 Tryz.call105 ⟨Zx5,Tv⟩ (t:=λa=>ZiY a)
abbrev ZJj:List Sh:=[Sh.one rcCE,Sh.agg (R.Pq (R.int u16) (R.int u8))]
abbrev Zye:Rs:=Rs.one (Sh.one rcCE)
def ZPe:LS:={n:=53,Sl:=[(3,.fix (A.loc 0 0)),(5,.tip 0),(6,.code (Sh.one R.bool)),(9,.code (Sh.one rcCE)),(10,.code (Sh.one (R.int i64))),(11,.code (Sh.one (R.int i64)))],Bx:=[[.many (R.Pq (R.int u16) (R.int u8))]],Sg:=[⟨(R.Pq (R.int u16) (R.int u8)),75,true⟩]}
def ZhR (a:QT9):RT (Option (Go1 (QT9))):=
 let x1:Int×Int:=R.get (R.Pq (R.int u16) (R.int u8)) a.2.1 a.2.2.2.1
 let x2:=x1.1
 let x3:= !a.1&&decide (x2>=a.2.2.2.2.1.1)
 let x4:List (Int×Int):=a.2.2.2.2.2.1++[a.2.2.2.2.1]
 let x5:= !x3||(!a.2.2.2.2.1.2 !=0||Nat.ble (List.length x4) most)
 let x6:=x2 !=a.2.2.2.2.1.1
 let x7:List (Int×Int):=bif x3 then bif a.2.2.2.2.1.2 !=0 then x4 else a.2.2.2.2.2.1 else a.2.2.2.2.2.1
 let x8:List (Int×Int):=x7++[x1]
 .br (decide (a.2.2.2.1<a.2.2.1)) (.br (!Zf a.2.2.2.1 (List.length a.2.1)||(!x5||(!x6||Nat.ble (List.length x8) most))) (.br (!Zf a.2.2.2.1 (List.length a.2.1)||x5) (.br (Zf a.2.2.2.1 (List.length a.2.1)) (.Lf (some (Go1.cont (x3||a.1,a.2.1,a.2.2.1,i64.wrap (a.2.2.2.1+1),a.2.2.2.2.1,bif x6 then x8 else x7,PUnit.unit)))) (.Lf none)) (.Lf none)) (.Lf none)) (.Lf (some (Go1.brk (a.1,a.2.1,a.2.2.1,a.2.2.2.1,a.2.2.2.2.1,a.2.2.2.2.2.1,PUnit.unit))))
def ZCQ:Ora:=Zbo false ZPe ZhR (λa=>1000000000000)
theorem ZFr:Za3 (envX prog [] [] 511 8) (.block 0 (.loop (Z2 Tryz.f165.body 0))) ZCQ:=
 loopP trivial
def ZpQ (m:List (Int×Int)) (c:Int×Int):RT (Option (List (Int×Int))):=
 let x1:QT9:=(false,m,iN (List.length m),0,c,[],())
 let x2:=runF false ZhR (λa=>1000000000000) x1
 let x3:QT9:=(getO (false,x1) x2).2
 let x4:=x3.2.2.2.2
 let x5:=x4.1
 let x6:= !x3.1&&x5.2 !=0
 let x7:=x4.2.1
 let x8:List (Int×Int):=x7++[x5]
 .br (okB x2) (.br (!x6||Nat.ble (List.length x8) most) (.Lf (some (bif x6 then x8 else x7))) (.Lf none)) (.Lf none)
def ZJl (m:List (Int×Int)) (c:Int×Int):List (Int×Int):=getO Zye.Df (ZpQ m c).val
def Zvl (m:List (Int×Int)) (c:Int×Int):Bool:=okB (ZpQ m c).val
def ZJk:En:=Zg ZJj Zye (λa=>some (Zvl a.1 a.2)) (λa=>ZJl a.1 a.2)
theorem ZCP:Za prog 165 ZJk:=
 pureP 511 [] [(0,ZCQ)] ZJj Zye trivial Tryz.func165 Tryz.call165 ⟨ZFr,Tv⟩ (t:=λa=>ZpQ a.1 a.2)
abbrev Zyk:List Sh:=[Sh.one rcCE]
abbrev Zrx:Rs:=Rs.one (Sh.one rcCE)
def ZPl:LS:={n:=21,Sl:=[(3,.code (Sh.one rcCE)),(10,.code (Sh.one rcCE)),(11,.code (Sh.one (R.int i64))),(12,.code (Sh.one (R.int i64)))],Bx:=[],Sg:=[]}
def ZhT (a:List (Int×Int)×List (Int×Int)×Int×Int×PUnit):RT (Option (Go1 (List (Int×Int)×List (Int×Int)×Int×Int×PUnit))):=
 let x1:Int×Int:=R.get (R.Pq (R.int u16) (R.int u8)) a.2.1 a.2.2.2.1
 .br (decide (a.2.2.2.1<a.2.2.1)) (.br (!Zf a.2.2.2.1 (List.length a.2.1)||Zvl a.1 x1) (.br (Zf a.2.2.2.1 (List.length a.2.1)) (.Lf (some (Go1.cont (ZJl a.1 x1,a.2.1,a.2.2.1,i64.wrap (a.2.2.2.1+1),PUnit.unit)))) (.Lf none)) (.Lf none)) (.Lf (some (Go1.brk (a.1,a.2.1,a.2.2.1,a.2.2.2.1,PUnit.unit))))
def ZCX:Ora:=Zbo false ZPl ZhT (λa=>1000000000000)
theorem ZFv:Za3 (envX prog [(105,Zx6),(165,ZJk)] [] 63 8) (.block 0 (.loop (Z2 Tryz.f93.body 0))) ZCX:=
 loopP ⟨Zly,ZCP,Tv⟩
def ZpT (l:List (Int×Int)):RT (Option (List (Int×Int))):=
 let x1:=runF false ZhT (λa=>1000000000000) ([],l,iN (List.length l),0,())
 .br (ZiZ l) (.br (!ZlA l||Nat.ble (List.length ([]++l)) most) (.br (ZlA l) (.Lf (some ([]++l))) (.br (okB x1) (.Lf (some (getO (false,[],l,iN (List.length l),0,()) x1).2.1)) (.Lf none))) (.Lf none)) (.Lf none)
def ZTP (l:List (Int×Int)):List (Int×Int):=getO Zrx.Df (ZpT l).val
def ZJD (l:List (Int×Int)):Bool:=okB (ZpT l).val
def ZWq:En:=Zg Zyk Zrx (λa=>some (ZJD a)) (λa=>ZTP a)
theorem ZPk:Za prog 93 ZWq:=
 pureP 63 [(105,Zx6),(165,ZJk)] [(0,ZCX)] Zyk Zrx ⟨Zly,ZCP,Tv⟩ Tryz.func93 Tryz.call93 ⟨ZFv,Tv⟩ (t:=λa=>ZpT a)
abbrev Zrs:List Sh:=[Sh.one rcCE,Sh.one rcCE]
abbrev Zkz:Rs:=Rs.one (Sh.one R.bool)
def ZJb:LS:={n:=26,Sl:=[(0,.code (Sh.one rcCE)),(1,.code (Sh.one rcCE)),(4,.code (Sh.one R.bool)),(12,.code (Sh.one (R.int i64))),(13,.code (Sh.one (R.int i64)))],Bx:=[],Sg:=[]}
def ZeA (a:List (Int×Int)×List (Int×Int)×Bool×Int×Int×PUnit):RT (Option (Go1 (List (Int×Int)×List (Int×Int)×Bool×Int×Int×PUnit))):=
 let x1:= !Zf a.2.2.2.2.1 (List.length a.1)||Zf a.2.2.2.2.1 (List.length a.2.1)
 let x2:Int×Int:=R.get (R.Pq (R.int u16) (R.int u8)) a.1 a.2.2.2.2.1
 let x3:Int×Int:=R.get (R.Pq (R.int u16) (R.int u8)) a.2.1 a.2.2.2.2.1
 let x4:Int×Int×PUnit:=(a.2.2.2.1,a.2.2.2.2.1,PUnit.unit)
 .br (decide (a.2.2.2.2.1<a.2.2.2.1)) (.br (!x1||Zf a.2.2.2.2.1 (List.length a.1)) (.br (x1) (.br (!(x2.1==x3.1&&(x2.2==x3.2&&true))) (.Lf (some (Go1.ret (a.1,a.2.1,false,x4)))) (.Lf (some (Go1.cont (a.1,a.2.1,a.2.2.1,a.2.2.2.1,i64.wrap (a.2.2.2.2.1+1),PUnit.unit))))) (.Lf none)) (.Lf none)) (.Lf (some (Go1.brk (a.1,a.2.1,a.2.2.1,x4))))
def Zvk:Ora:=Zbo true ZJb ZeA (λa=>1000000000000)
theorem Zya:Za3 (envX prog [] [] 63 8) (.block 0 (.loop (Z2 Tryz.f34.body 0))) Zvk:=
 loopP trivial
def Zhi (a:List (Int×Int)) (b:List (Int×Int)):RT (Option (Bool)):=
 let x1:=runF true ZeA (λa_1=>1000000000000) (a,b,false,iN (List.length a),0,())
 let x2:=getO (false,a,b,false,iN (List.length a),0,()) x1
 .br (iN (List.length a) !=iN (List.length b)) (.Lf (some (false))) (.br (okB x1) (.br x2.1 (.Lf (some x2.2.2.2.1)) (.Lf (some (true)))) (.Lf none))
def ZJc (a:List (Int×Int)) (b:List (Int×Int)):Bool:=getO Zkz.Df (Zhi a b).val
def Zyb (a:List (Int×Int)) (b:List (Int×Int)):Bool:=okB (Zhi a b).val
def ZTK:En:=Zg Zrs Zkz (λa=>some (Zyb a.1 a.2)) (λa=>ZJc a.1 a.2)
theorem ZJa:Za prog 34 ZTK:=
 pureP 63 [] [(0,Zvk)] Zrs Zkz trivial Tryz.func34 Tryz.call34 ⟨Zya,Tv⟩ (t:=λa=>Zhi a.1 a.2)
abbrev ZTV:Rs:=Rs.one (Sh.one (R.int i64))
def ZhU (a:QT15):RT (Option (Go1 (QT15))):=
 let x1:QT7:=R.get (R.Pq (R.int u16) (R.Pq (R.int u16) (R.Pq R.bool (R.int i64)))) a.2.2.1 a.2.2.2.2.1
 let x2:List (QT7)×Int×Int×PUnit:=(a.2.2.1,a.2.2.2.1,a.2.2.2.2.1,PUnit.unit)
 .br (decide (a.2.2.2.2.1<a.2.2.2.1)) (.br (Zf a.2.2.2.2.1 (List.length a.2.2.1)) (.br (decide (x1.1<=a.1)&&decide (a.1<=x1.2.1)) (.Lf (some (Go1.ret (a.1,a.2.2.2.2.1,x2)))) (.Lf (some (Go1.cont (a.1,a.2.1,a.2.2.1,a.2.2.2.1,i64.wrap (a.2.2.2.2.1+1),PUnit.unit))))) (.Lf none)) (.Lf (some (Go1.brk (a.1,a.2.1,x2))))
def ZpX (l:List (QT7)) (t:Int):RT (Option (Int)):=
 let x1:=runF true ZhU (λa=>1000000000000) (t,0,l,iN (List.length l),0,())
 let x2:=getO (false,t,0,l,iN (List.length l),0,()) x1
 .br (okB x1) (.br x2.1 (.Lf (some x2.2.2.1)) (.Lf (some (-1)))) (.Lf none)
def ZTW (l:List (QT7)) (t:Int):Int:=getO ZTV.Df (ZpX l t).val
def ZJV (l:List (QT7)) (t:Int):Bool:=okB (ZpX l t).val
abbrev ZLY:List Sh:=[Sh.one rcRG,Sh.one (R.int u16)]
abbrev ZAF:Rs:=Rs.one (Sh.one (R.int i64))
def ZQe:LS:={n:=26,Sl:=[(1,.code (Sh.one (R.int u16))),(4,.code (Sh.one (R.int i64))),(7,.code (Sh.one rcRG)),(8,.code (Sh.one (R.int i64))),(9,.code (Sh.one (R.int i64)))],Bx:=[],Sg:=[]}
def ZD1 (a:QT15):RT (Option (Go1 (QT15))):=
 let x1:QT7:=R.get (R.Pq (R.int u16) (R.Pq (R.int u16) (R.Pq R.bool (R.int i64)))) a.2.2.1 a.2.2.2.2.1
 let x2:List (QT7)×Int×Int×PUnit:=(a.2.2.1,a.2.2.2.1,a.2.2.2.2.1,PUnit.unit)
 .br (decide (a.2.2.2.2.1<a.2.2.2.1)) (.br (Zf a.2.2.2.2.1 (List.length a.2.2.1)) (.br (decide (x1.1<=a.1)&&decide (a.1<=x1.2.1)) (.Lf (some (Go1.ret (a.1,a.2.2.2.2.1,x2)))) (.Lf (some (Go1.cont (a.1,a.2.1,a.2.2.1,a.2.2.2.1,i64.wrap (a.2.2.2.2.1+1),PUnit.unit))))) (.Lf none)) (.Lf (some (Go1.brk (a.1,a.2.1,x2))))
def ZD2:Ora:=Zbo true ZQe ZD1 (λa=>1000000000000)
theorem ZGm:Za3 (envX prog [] [] 127 8) (.block 0 (.loop (Z2 Tryz.f209.body 0))) ZD2:=
 loopP trivial
def ZD0 (l:List (QT7)) (t:Int):RT (Option (Int)):=
 let x1:=runF true ZD1 (λa=>1000000000000) (t,0,l,iN (List.length l),0,())
 let x2:=getO (false,t,0,l,iN (List.length l),0,()) x1
 .br (okB x1) (.br x2.1 (.Lf (some x2.2.2.1)) (.Lf (some (-1)))) (.Lf none)
def Zpa (l:List (QT7)) (t:Int):Int:=getO ZAF.Df (ZD0 l t).val
def Zv8 (l:List (QT7)) (t:Int):Bool:=okB (ZD0 l t).val
def ZD3:En:=Zg ZLY ZAF (λa=>some (Zv8 a.1 a.2)) (λa=>Zpa a.1 a.2)
theorem ZsS:Za prog 209 ZD3:=
 pureP 127 [] [(0,ZD2)] ZLY ZAF trivial Tryz.func209 Tryz.call209 ⟨ZGm,Tv⟩ (t:=λa=>ZD0 a.1 a.2)
end
end Go.Proofs.YtpnjbfjomebppaaGreat
namespace Go.Proofs.Cells
def getX (l:List Cell) (a:Int):Int:=((flt a l).getLast?.map Prod.snd).getD 0
def Vld (m:List Cell):Prop:=m.Pairwise (λa b=>a.1<b.1)/\∀c∈m,c.2≠0
variable {l:List Cell}
theorem ZHw {l':List Cell} (h:Sm l l') (a:Int):getX l a=getX l' a:=by rw[getX,getX,h a]
variable {m:List Cell}
theorem Vld.srt (h:Vld m):Srt m:=h.1.imp λh=>Int.le_of_lt h
theorem Vld.tail {c:Cell} (h:Vld (c::m)):Vld m:=⟨(Yu.1 h.1).2,λx hx=>h.2 x (YP _ hx)⟩
theorem ZEJ (a:Int):getX [] a=0:=rfl
theorem ZkX (a:Int) (c:Cell) (l:List Cell):flt a (c::l)=if c.1=a then c::flt a l else flt a l:=by by_cases h:c.1=a<;>simp[flt,h]
theorem Zd0 (c:Cell) (l:List Cell) (a:Int):getX (c::l) a=if c.1=a/\flt a l=[] then c.2 else getX l a:=by
 simp only[getX,ZkX];by_cases h:c.1=a
 ·simp only[h,if_true,true_and];cases hf:flt a l with
  |nil=>simp
  |cons x r=>simp[List.getLast?_cons_cons]
 ·simp[h]
theorem Vld.flt {m:List Cell} (h:Vld m) (a:Int):Cells.flt a m=if getX m a=0 then [] else [(a,getX m a)]:=by
 induction m with
 |nil=>simp[Cells.flt,ZEJ]
 |cons c m ih=>
  have ih:=ih h.tail;have h1:=Yu.1 h.1;by_cases hc:c.1=a
  ·have hn:Cells.flt a m=[]:=Zd1 λx hx=>by have:=h1.1 x hx;omega
   have hz:=h.2 c (by simp);rw[ZkX,Zd0];simp only[hc,hn,and_self,if_true,hz,if_false];rw[<-hc]
  ·rw[ZkX,Zd0];simp only[hc,false_and,if_false,ih]
theorem ZS4 {m':List Cell} (h:Vld m) (h':Vld m') (e:∀a,getX m a=getX m' a):m=m':=
 uniq h.srt h'.srt λk=>by rw[h.flt,h'.flt,e k]
def dd:List Cell->List Cell
 |[]=>[]
 |x::r=>match r with
  |[]=>if x.2=0 then [] else [x]
  |y::_=>if x.1=y.1 then dd r else if x.2=0 then dd r else x::dd r
theorem ZqA:∀{l:List Cell} {c:Cell},c∈dd l->c∈l/\c.2≠0
 |[],c,h=>by simp[dd] at h
 |[x],c,h=>by
  simp only[dd] at h;split at h
  ·simp at h
  ·rename_i hz;simp at h;subst h;exact⟨by simp,hz⟩
 |x::y::r,c,h=>by
  rw[dd] at h;split at h
  ·have:=ZqA h;exact⟨YP _ this.1,this.2⟩
  ·split at h
   ·have:=ZqA h;exact⟨YP _ this.1,this.2⟩
   ·rename_i hz;rcases Yv.1 h with e|e
    ·subst e;exact⟨by simp,hz⟩
    ·have:=ZqA e;exact⟨YP _ this.1,this.2⟩
theorem ZSQ:∀{l:List Cell},Srt l->Vld (dd l)
 |[],_=>⟨Yad,λc h=>by simp[dd] at h⟩
 |[x],_=>by refine⟨?_,λc h=>(ZqA h).2⟩;simp only[dd];split<;>simp
 |x::y::r,h=>by
  have h1:=Yu.1 h;have ih:=ZSQ (l:=y::r) h1.2;have h2:=Yu.1 h1.2;rw[dd];split
  ·exact ih
  ·rename_i hne;split
   ·exact ih
   ·rename_i hz;refine⟨Yu.2 ⟨λc hc=> ?_,ih.1⟩,λc hc=> ?_⟩
    ·have hxy:=h1.1 y (by simp);rcases Yv.1 (ZqA hc).1 with e|e
     ·rw[e];omega
     ·have:=h2.1 c e;omega
    ·rcases Yv.1 hc with e|e
     ·rw[e];exact hz
     ·exact ih.2 c e
theorem ZSR:∀{l:List Cell},Srt l->∀a,getX (dd l) a=getX l a
 |[],_,_=>rfl
 |[x],_,a=>by
  simp only[dd];split
  ·rename_i hz;rw[Zd0];simp[flt,getX,hz]
  ·rfl
 |x::y::r,h,a=>by
  have h1:=Yu.1 h;have ih:=ZSR (l:=y::r) h1.2 a;have h2:=Yu.1 h1.2;rw[dd,Zd0 x (y::r)];by_cases hxy:x.1=y.1
  ·rw[YS hxy,ih];by_cases hc:x.1=a/\flt a (y::r)=[]
   ·obtain⟨e,e2⟩:=hc;rw[ZkX,YS (by rw[<-hxy];exact e)] at e2;simp at e2
   ·rw[YV hc]
  ·rw[YV hxy];have hlt:∀c∈y::r,x.1<c.1:=λc hc=>by
    have:=h1.1 y (by simp);rcases Yv.1 hc with e|e
    ·rw[e];omega
    ·have:=h2.1 c e;omega
   by_cases hc:x.1=a
   ·have hn:flt a (y::r)=[]:=Zd1 λc hc'=>by have:=hlt c hc';omega
    have hn2:flt a (dd (y::r))=[]:=Zd1 λc hc'=>by have:=hlt c (ZqA hc').1;omega
    by_cases hz:x.2=0
    ·rw[YS hz,YS ⟨hc,hn⟩,hz,getX,hn2];rfl
    ·rw[YV hz,YS ⟨hc,hn⟩,Zd0,YS ⟨hc,hn2⟩]
   ·by_cases hz:x.2=0
    ·rw[YS hz,YV (λh=>hc h.1),ih]
    ·rw[YV hz,YV (λh=>hc h.1),Zd0,YV (λh=>hc h.1),ih]
def putX:List Cell->Cell->List Cell
 |[],c=>if c.2=0 then [] else [c]
 |x::r,c=>if x.1<c.1 then x::putX r c else if c.2=0 then (if x.1=c.1 then r else x::r) else if x.1=c.1 then c::r else c::x::r
theorem ZrP:∀{m:List Cell} {c x:Cell},x∈putX m c->x=c\/x∈m
 |[],c,x,h=>by
  simp only[putX] at h;split at h
  ·simp at h
  ·left;simpa using h
 |y::r,c,x,h=>by
  simp only[putX] at h;split at h
  ·rcases Yv.1 h with e|e
   ·right;simp[e]
   ·rcases ZrP e with e|e
    ·exact .inl e
    ·right;simp[e]
  ·split at h
   ·split at h
    ·right;simp[h]
    ·right;exact h
   ·split at h
    ·rcases Yv.1 h with e|e
     ·exact .inl e
     ·right;simp[e]
    ·rcases Yv.1 h with e|e
     ·exact .inl e
     ·right;exact e
theorem ZC9:∀{m:List Cell} {c:Cell},Vld m->Vld (putX m c)
 |[],c,_=>by
  simp only[putX];split
  ·exact⟨Yad,λc h=>by simp at h⟩
  ·rename_i hz;exact⟨by simp,λx h=>by simp at h;rw[h];exact hz⟩
 |y::r,c,h=>by
  have h1:=Yu.1 h.1;have hy:=h.2 y (by simp);simp only[putX];split
  ·rename_i hlt;have ih:=ZC9 (c:=c) h.tail;refine⟨Yu.2 ⟨λx hx=> ?_,ih.1⟩,λx hx=> ?_⟩
   ·rcases ZrP hx with e|e
    ·rw[e];exact hlt
    ·exact h1.1 x e
   ·rcases Yv.1 hx with e|e
    ·rw[e];exact hy
    ·exact ih.2 x e
  ·rename_i hge;split
   ·split
    ·exact h.tail
    ·exact h
   ·rename_i hz;split
    ·rename_i he;refine⟨Yu.2 ⟨λx hx=> ?_,h1.2⟩,λx hx=> ?_⟩
     ·have:=h1.1 x hx;omega
     ·rcases Yv.1 hx with e|e
      ·rw[e];exact hz
      ·exact h.2 x (YP _ e)
    ·rename_i hne;refine⟨Yu.2 ⟨λx hx=> ?_,h.1⟩,λx hx=> ?_⟩
     ·rcases Yv.1 hx with e|e
      ·rw[e];omega
      ·have:=h1.1 x e;omega
     ·rcases Yv.1 hx with e|e
      ·rw[e];exact hz
      ·exact h.2 x e
theorem ZkW {a:Int} (h:∀c∈l,c.1≠a):getX l a=0:=by rw[getX,Zd1 h];rfl
theorem ZdE {x:Cell} {r:List Cell} (h:∀c∈r,x.1<c.1) (a:Int):getX (x::r) a=if x.1=a then x.2 else getX r a:=by
 rw[Zd0];by_cases hx:x.1=a
 ·have:flt a r=[]:=Zd1 λc hc=>by have:=h c hc;omega
  simp[hx,this]
 ·simp[hx]
theorem ZDb:∀{m:List Cell} {c:Cell},Vld m->∀a,getX (putX m c) a=if c.1=a then c.2 else getX m a
 |[],c,_,a=>by
  simp only[putX];split
  ·rename_i hz;rw[ZEJ,hz];simp
  ·rw[ZdE (by simp)]
 |y::r,c,h,a=>by
  have h1:=Yu.1 h.1;simp only[putX];split
  ·rename_i hlt
   rw[ZdE (λx hx=>by
    rcases ZrP hx with e|e
    ·rw[e];exact hlt
    ·exact h1.1 x e),ZdE h1.1,ZDb h.tail a]
   by_cases e1:y.1=a
   ·simp only[e1,if_true];rw[YV (by omega)]
   ·simp[e1]
  ·rename_i hge;split
   ·rename_i hz;split
    ·rename_i he;rw[ZdE h1.1];by_cases e:c.1=a
     ·rw[YS e,hz];exact ZkW λx hx=>by have:=h1.1 x hx;omega
     ·rw[YV e,YV (by omega)]
    ·rename_i hne;by_cases e:c.1=a
     ·rw[YS e,hz];exact ZkW λx hx=>by
       rcases Yv.1 hx with e'|e'
       ·rw[e'];omega
       ·have:=h1.1 x e';omega
     ·rw[YV e]
   ·split
    ·rename_i he;rw[ZdE (λx hx=>by have:=h1.1 x hx;omega),ZdE h1.1];by_cases e:c.1=a
     ·simp[e]
     ·rw[YV e,YV e,YV (by omega)]
    ·rename_i hne
     rw[ZdE (λx hx=>by
      rcases Yv.1 hx with e|e
      ·rw[e];omega
      ·have:=h1.1 x e;omega)]
def normX (l:List Cell):List Cell:=l.foldl putX []
theorem ZNB (l:List Cell) (c:Cell) (a:Int):getX (l++[c]) a=if c.1=a then c.2 else getX l a:=by
 rw[getX,getX,Zdc];by_cases h:c.1=a
 ·have:flt a [c]=[c]:=by simp[flt,h]
  rw[this,List.getLast?_append];simp[h]
 ·have:flt a [c]=[]:=Zd1 λx hx=>by simp at hx;rw[hx];exact h
  rw[this];simp[h]
theorem ZoE:∀(l:List Cell) {m:List Cell},Vld m->Vld (l.foldl putX m)/\∀a,getX (l.foldl putX m) a=getX (m++l) a
 |[],m,h=>⟨h,λa=>by simp⟩
 |c::l,m,h=>by
  obtain⟨h1,h2⟩:=ZoE l (ZC9 (c:=c) h);refine⟨h1,λa=> ?_⟩;rw[List.foldl_cons,h2 a];have e:m++c::l=(m++[c])++l:=by simp
  rw[e];have key:∀{p q:List Cell},(∀b,getX p b=getX q b)->∀l b,getX (p++l) b=getX (q++l) b:=by
   intro p q hpq l b;simp only[getX,Zdc,List.getLast?_append];cases hl:(flt b l).getLast? with
   |none=>simpa [getX] using hpq b
   |some x=>simp
  exact key (λb=>by rw[ZDb h,ZNB]) l a
theorem ZnR (l:List Cell):Vld (normX l):=(ZoE l ⟨Yad,λc h=>by simp at h⟩).1
theorem ZMH (l:List Cell) (a:Int):getX (normX l) a=getX l a:=(ZoE l ⟨Yad,λc h=>by simp at h⟩).2 a
theorem ZEg (h:Vld m) (e:∀a,getX m a=getX l a):normX l=m:=ZS4 (ZnR l) h λa=>by rw[ZMH,e]
theorem ZgA (h:Vld m):normX m=m:=ZEg h λ_=>rfl
theorem ZG4 (l:List Cell):dd (isort l)=normX l:=
 (ZEg (ZSQ (ZbG l)) λa=>by rw[ZSR (ZbG l),ZHw (Zfa l)]).symm
end Go.Proofs.Cells
open Go Go.S3 Go.Proofs Go.Proofs.Cells
namespace Go.Proofs.YtpnjbfjomebppaaGreat
noncomputable section
abbrev Z0:=QT7
theorem Zt8 (l:List Cell) (i:Nat) (h:i<l.length):l.drop i=el l i::l.drop (i+1):=by rw[Y4 h];have:=Zct l i h;rw[Yi h,oinj] at this;rw[this]
theorem ZxI (l:List Cell) (i:Nat) (h:i<l.length):l.take (i+1)=l.take i++[el l i]:=by rw[List.take_add_one,Zct l i h];rfl
theorem ZXm (l:List Cell) (i:Nat) (h:i<l.length):el l i∈l:=List.mem_iff_getElem?.2 ⟨i,Zct l i h⟩
def okAt (m:List Cell) (i:Nat):Bool:= !((el m i).2==0||(decide ((i:Int)>0)&&decide ((el m i).1<=(el m (i-1)).1)))
def vldB (m:List Cell):Bool:=(List.range m.length).all (okAt m)
variable {m:List Cell} {i:Nat}
theorem Zpj (hi:i<m.length) (h:okAt m i=false):vldB m=false:=by rw[Yy];intro he;have:=YR.1 he i (Yaz.2 hi);rw[h] at this;exact absurd this (by simp)
theorem Zk8 (h:∀i,i<m.length->okAt m i=true):vldB m=true:=YR.2 λi hi=>h i (Yaz.1 hi)
theorem Zkn:vldB m=true↔Vld m:=by
 constructor
 ·intro h;have ha:∀i,i<m.length->okAt m i=true:=λi hi=>YR.1 h i (Yaz.2 hi)
  have hs:∀i,i+1<m.length->(el m i).1<(el m (i+1)).1:=λi hi=>by
   have:=ha (i+1) hi;simp only[okAt,Yz,Ym,Yaj,Yac,Nat.add_sub_cancel] at this;rcases this.2 with e|e
   ·omega
   ·omega
  refine⟨?_,λc hc=> ?_⟩
  ·rw[Yav];have key:∀d i,i+d+1<m.length->(el m i).1<(el m (i+d+1)).1:=by
    intro d
    induction d with
    |zero=>intro i hi;exact hs i hi
    |succ d ih=>intro i hi;have h1:=ih i (by omega);have h2:=hs (i+d+1) (by omega);rw[show i+(d+1)+1=i+d+1+1 by omega];omega
   intro i j hi hj hij;have:=key (j-i-1) i (by omega);rw[show i+(j-i-1)+1=j by omega] at this;have e1:=Zct m i hi;have e2:=Zct m j hj;rw[Yi hi,oinj] at e1;rw[Yi hj,oinj] at e2;rw[e1,e2];exact this
  ·obtain⟨i,hi⟩:=List.mem_iff_getElem?.1 hc;have hlt:=(YC.1 hi).1;rw[Zct m i hlt,oinj] at hi;have:=ha i hlt;rw[<-hi];simp only[okAt,Yz,Ym,beq_eq_false_iff_ne] at this;exact this.1
 ·intro h;refine Zk8 λi hi=> ?_
  simp only[okAt,Yz,Ym,beq_eq_false_iff_ne,Yaj,Yac];refine⟨h.2 _ (ZXm m i hi),?_⟩;by_cases h0:i=0
  ·left;omega
  ·right;have:=Yav.1 h.1 (i-1) i (by omega) hi (by omega);have e1:=Zct m (i-1) (by omega);have e2:=Zct m i hi;rw[Yi (by omega),oinj] at e1;rw[Yi hi,oinj] at e2;rw[e1,e2] at this;omega
theorem ZVK (i:Nat) (h:0<i) (h2:i<=4611686018427387904):IntKind.wrap .i64 ((i:Int)-1)=((i-1:Nat):Int):=by rw[wrap_i64 _ (by omega) (by omega)];omega
theorem ZME (m:List Cell) (i:Nat):((el m i).2==0||(decide ((i:Int)>0)&&decide ((el m i).1<=(el m (i-1)).1)))= !okAt m i:=by simp only[okAt,Bool.not_not]
theorem ZHf (m:List Cell) (hm:m.length<=most):(Zjp m).val=some (vldB m):=by
 have hms:=mst;obtain⟨r,hr,hR⟩:=ZO (fl:=true) (t:=ZdW) (fuel:=λa=>1000000000000)
  (I:=λa=>∃i:Nat,i<=m.length/\(∀k,k<i->okAt m k=true)/\a=(m,false,m,(m.length:Int),(i:Int),()))
  (m:=λa=>Int.toNat (a.2.2.2.1-a.2.2.2.2.1)) (R:=λr=>(r.1=false/\vldB m=true)\/(r.1=true/\vldB m=false/\r.2.2.1=false))
  (λa hi=>by
   obtain⟨i,hi,hk,rfl⟩:=hi;by_cases hlt:i<m.length
   ·have d:decide ((i:Int)<(m.length:Int))=true:=by simpa using hlt
    have r1:=Zaq m i hlt;have hw:decide ((i:Int)>0)=true->Zf (IntKind.wrap .i64 ((i:Int)-1)) m.length=true/\IntKind.wrap .i64 ((i:Int)-1)=((i-1:Nat):Int):=λh=>by simp only[Yf] at h;have e:=ZVK i (by omega) (by omega);exact⟨by rw[e];exact Zaq m (i-1) (by omega),e⟩
    have hck:((el m i).2==0||(!decide ((i:Int)>0)||Zf (IntKind.wrap .i64 ((i:Int)-1)) m.length))=true:=by
     cases h:decide ((i:Int)>0) with
     |false=>simp
     |true=>rw[(hw h).1];simp
    have hcd:((el m i).2==0||(decide ((i:Int)>0)&&decide ((el m i).1<=(R.get CR m (IntKind.wrap .i64 ((i:Int)-1))).1)))= !okAt m i:=by
     rw[<-ZME];cases h:decide ((i:Int)>0) with
     |false=>simp
     |true=>rw[(hw h).2,Zcs]
    cases ho:okAt m i with
    |true=>
     left;refine⟨(m,false,m,(m.length:Int),((i+1:Nat):Int),()),?_,⟨i+1,hlt,λk hk'=> ?_,rfl⟩,by simp only;omega⟩
     ·rw[ho] at hcd;simp only[ZdW,RT.val,d,r1,Zcs,hck,hcd,Yg,Yj,Yb,Ye,ZgN i (by omega)]
     ·by_cases e:k=i
      ·subst e;exact ho
      ·exact hk k (by omega)
    |false=>
     right;right;refine⟨(m,false,m,(m.length:Int),(i:Int),()),rfl,?_,.inr ⟨rfl,Zpj hlt ho,rfl⟩⟩;rw[ho] at hcd;simp only[ZdW,RT.val,d,r1,Zcs,hck,hcd,Yg,Yq,Yj,Yb,Ye]
   ·right;left;have d:decide ((i:Int)<(m.length:Int))=false:=by simpa using hlt
    exact⟨(m,false,m,(m.length:Int),(i:Int),()),by simp only[ZdW,RT.val,d,Ye],.inl ⟨rfl,Zk8 λk hk'=>hk k (by omega)⟩⟩)
  (m,false,m,(m.length:Int),0,()) ⟨0,YE _,λk h=>by omega,rfl⟩ (by simp only;omega)
 have hr':runF true ZdW (λa=>1000000000000) (m,false,m,iN m.length,0,())=some r:=hr;rcases hR with ⟨h1,h2⟩|⟨h1,h2,h3⟩
 ·simp only[Zjp,RT.val,hr',okB,getO,Yb,h1,Ye,h2]
 ·simp only[Zjp,RT.val,hr',okB,getO,Yb,h1,h2,h3]
theorem ZpF (m:List Cell) (hm:m.length<=most):(ZiY m).val=some (vldB m):=by
 have hms:=mst;obtain⟨r,hr,hR⟩:=ZO (fl:=true) (t:=ZdJ) (fuel:=λa=>1000000000000)
  (I:=λa=>∃i:Nat,i<=m.length/\(∀k,k<i->okAt m k=true)/\a=(m,false,(m.length:Int),(i:Int),()))
  (m:=λa=>Int.toNat (a.2.2.1-a.2.2.2.1)) (R:=λr=>(r.1=false/\vldB m=true)\/(r.1=true/\vldB m=false/\r.2.2.1=false))
  (λa hi=>by
   obtain⟨i,hi,hk,rfl⟩:=hi;by_cases hlt:i<m.length
   ·have d:decide ((i:Int)<(m.length:Int))=true:=by simpa using hlt
    have r1:=Zaq m i hlt;have hw:decide ((i:Int)>0)=true->Zf (IntKind.wrap .i64 ((i:Int)-1)) m.length=true/\IntKind.wrap .i64 ((i:Int)-1)=((i-1:Nat):Int):=λh=>by simp only[Yf] at h;have e:=ZVK i (by omega) (by omega);exact⟨by rw[e];exact Zaq m (i-1) (by omega),e⟩
    have hck:((el m i).2==0||(!decide ((i:Int)>0)||Zf (IntKind.wrap .i64 ((i:Int)-1)) m.length))=true:=by
     cases h:decide ((i:Int)>0) with
     |false=>simp
     |true=>rw[(hw h).1];simp
    have hcd:((el m i).2==0||(decide ((i:Int)>0)&&decide ((el m i).1<=(R.get CR m (IntKind.wrap .i64 ((i:Int)-1))).1)))= !okAt m i:=by
     rw[<-ZME];cases h:decide ((i:Int)>0) with
     |false=>simp
     |true=>rw[(hw h).2,Zcs]
    cases ho:okAt m i with
    |true=>
     left;refine⟨(m,false,(m.length:Int),((i+1:Nat):Int),()),?_,⟨i+1,hlt,λk hk'=> ?_,rfl⟩,by simp only;omega⟩
     ·rw[ho] at hcd;simp only[ZdJ,RT.val,d,r1,Zcs,hck,hcd,Yg,Yj,Yk,Yb,Ye,ZgN i (by omega)]
     ·by_cases e:k=i
      ·subst e;exact ho
      ·exact hk k (by omega)
    |false=>
     right;right;refine⟨(m,false,(m.length:Int),(i:Int),()),rfl,?_,.inr ⟨rfl,Zpj hlt ho,rfl⟩⟩;rw[ho] at hcd;simp only[ZdJ,RT.val,d,r1,Zcs,hck,hcd,Yg,Yq,Yj,Yk,Yb,Ye]
   ·right;left;have d:decide ((i:Int)<(m.length:Int))=false:=by simpa using hlt
    exact⟨(m,false,(m.length:Int),(i:Int),()),by simp only[ZdJ,RT.val,d,Ye],.inl ⟨rfl,Zk8 λk hk'=>hk k (by omega)⟩⟩)
  (m,false,(m.length:Int),0,()) ⟨0,YE _,λk h=>by omega,rfl⟩ (by simp only;omega)
 have hr':runF true ZdJ (λa=>1000000000000) (m,false,iN m.length,0,())=some r:=hr;rcases hR with ⟨h1,h2⟩|⟨h1,h2,h3⟩
 ·simp only[ZiY,RT.val,hr',okB,getO,Yb,h1,Ye,h2]
 ·simp only[ZiY,RT.val,hr',okB,getO,Yb,h1,h2,h3]
variable {t:Int}
theorem ZVn (hi:i<m.length) (he:(el m i).1=t) (hk:∀k,i<k->k<m.length->(el m k).1≠t):getX m t=(el m i).2:=by
 have e:m=m.take i++[el m i]++m.drop (i+1):=by rw[Yn,List.singleton_append,<-Zt8 m i hi,Yai]
 have h0:flt t (m.drop (i+1))=[]:=Zd1 λc hc=>by obtain⟨k,h1,h2,rfl⟩:=Zim hc;exact hk k (by omega) h2
 have h1:flt t [el m i]=[el m i]:=by simp[flt,he]
 have h2:flt t m=flt t (m.take i)++[el m i]:=by conv=>lhs;rw[e,Zdc,Zdc,h0,h1,YW]
 rw[getX,h2,List.getLast?_append];simp
def pst (c:Cell) (s:Bool×List Cell) (x:Cell):Bool×List Cell:=
 let t:= !s.1&&decide (x.1>=c.1)
 let o:=bif t then (bif c.2 !=0 then s.2++[c] else s.2) else s.2
 (t||s.1,bif x.1 !=c.1 then o++[x] else o)
def pfin (c:Cell) (s:Bool×List Cell):List Cell:=bif !s.1&&c.2 !=0 then s.2++[c] else s.2
theorem ZDf (c:Cell):∀(m:List Cell) (o:List Cell),(∀x∈m,x.1≠c.1)->m.foldl (pst c) (true,o)=(true,o++m)
 |[],o,_=>by simp
 |x::m,o,h=>by
  have hx:(x.1 !=c.1)=true:=by simpa using h x (by simp)
  simp only[List.foldl_cons,pst,Yg,Y7,Ye,Yk,hx,Yb];rw[ZDf c m (o++[x]) λy hy=>h y (YP _ hy)];simp
theorem ZKf (c:Cell):∀(m:List Cell) (o:List Cell),m.Pairwise (λa b=>a.1<b.1)->pfin c (m.foldl (pst c) (false,o))=o++putX m c
 |[],o,_=>by
  simp only[List.foldl_nil,pfin,putX,Yq,YZ];by_cases h:c.2=0
  ·simp[h]
  ·have:(c.2 !=0)=true:=by simpa using h
   simp[h,this]
 |x::m,o,h=>by
  have h1:=Yu.1 h;by_cases hx:x.1<c.1
  ·have e1:decide (x.1>=c.1)=false:=by simp;omega
   have e2:(x.1 !=c.1)=true:=by simp;omega
   simp only[List.foldl_cons,pst,e1,Yah,Ye,YJ,e2,Yb];rw[ZKf c m (o++[x]) h1.2,putX,YS hx];simp
  ·have e1:decide (x.1>=c.1)=true:=by simp;omega
   have hne:∀y∈m,y.1≠c.1:=λy hy=>by have:=h1.1 y hy;omega
   simp only[List.foldl_cons,pst,e1,Yq,Y6,Yb,YB];rw[ZDf c m _ hne,putX,YV hx];simp only[pfin,Yg,Y7,Ye];by_cases hz:c.2=0
   ·by_cases hk:x.1=c.1
    ·simp[hz,hk]
    ·have:(x.1 !=c.1)=true:=by simpa using hk
     simp[hz,hk,this]
   ·have hz1:(c.2 !=0)=true:=by simpa using hz
    by_cases hk:x.1=c.1
    ·simp[hz,hk,hz1]
    ·have:(x.1 !=c.1)=true:=by simpa using hk
     simp[hz,hk,this,hz1]
theorem Zy8 (c:Cell):∀(m:List Cell) (s:Bool×List Cell),(m.foldl (pst c) s).2.length+(bif (m.foldl (pst c) s).1 then 0 else 1)<=s.2.length+(bif s.1 then 0 else 1)+m.length
 |[],s=>by simp
 |x::m,s=>by
  rw[List.foldl_cons];have ih:=Zy8 c m (pst c s x);have:(pst c s x).2.length+(bif (pst c s x).1 then 0 else 1)<=s.2.length+(bif s.1 then 0 else 1)+1:=by obtain⟨d,o⟩:=s;simp only[pst];generalize decide (x.1>=c.1)=b1;generalize (c.2 !=0)=b2;generalize (x.1 !=c.1)=b3;cases d<;>cases b1<;>cases b2<;>cases b3<;>simp<;>omega
  simp only[List.length_cons];omega
theorem Zu4 (m:List Cell) (c:Cell) (hv:Vld m) (hm:m.length+1<=most):Zvl m c=true/\ZJl m c=putX m c:=by
 have hms:=mst;obtain⟨r,hr,h1,i,hR⟩:=ZO (fl:=false) (t:=ZhR) (fuel:=λa=>1000000000000)
  (λa=>∃i:Nat,i<=m.length/\a=(((m.take i).foldl (pst c) (false,[])).1,m,(m.length:Int),(i:Int),c,((m.take i).foldl (pst c) (false,[])).2,()))
  (λa=>Int.toNat (a.2.2.1-a.2.2.2.1)) (λr=>r.1=false/\∃i:Nat,r.2=((m.foldl (pst c) (false,[])).1,m,(m.length:Int),(i:Int),c,(m.foldl (pst c) (false,[])).2,()))
  (by
   rintro a ⟨i,hi,rfl⟩;by_cases hlt:i<m.length
   ·left;have d:decide ((i:Int)<(m.length:Int))=true:=by simpa using hlt
    have r1:=Zaq m i hlt;have hl:=Zy8 c (m.take i) (false,[]);have hs:(m.take (i+1)).foldl (pst c) (false,[])=pst c ((m.take i).foldl (pst c) (false,[])) (el m i):=by rw[ZxI m i hlt,List.foldl_append];rfl
    rw[YD,YaL (by omega)] at hl;refine⟨_,?_,⟨i+1,hlt,rfl⟩,by simp only;omega⟩;rw[hs];generalize (m.take i).foldl (pst c) (false,[])=s at hl|-;obtain⟨dn,o⟩:=s;simp only[List.length_nil,Ye] at hl;simp only[ZhR,RT.val,d,r1,Zcs,Yb,Yg,Yj,pst,ZgN i (by omega)];generalize decide ((el m i).1>=c.1)=b1;generalize hb2:(c.2 !=0)=b2;generalize hb3:((el m i).1 !=c.1)=b3;have l1:Nat.ble (o++[c]).length most=true\/dn=true:=by
     cases dn with
     |true=>exact .inr rfl
     |false=>left;rw[YF];simp only[Ye] at hl;simp only[Yc,List.length_singleton];omega
    have l2:Nat.ble (o++[el m i]).length most=true:=by rw[YF];simp only[Yc,List.length_singleton];cases dn<;>simp only[Yb,Ye] at hl<;>omega
    have l3:Nat.ble (o++[c]++[el m i]).length most=true\/dn=true:=by
     cases dn with
     |true=>exact .inr rfl
     |false=>left;rw[YF];simp only[Ye] at hl;simp only[Yc,List.length_singleton];omega
    cases dn with
    |true=>
     cases b3<;>simp only[l2,Yg,Yq,Y7,YB,Yj,Yk,Yb,Ye]
    |false=>
     have l1:Nat.ble (o++[c]).length most=true:=by simpa using l1
     have l3:Nat.ble (o++[c]++[el m i]).length most=true:=by simpa using l3
     cases b1<;>cases b2<;>cases b3<;>simp only[l1,l2,l3,Yg,Yq,Y7,YZ,YB,Yj,Yk,YJ,Y6,Yb,Ye]
   ·right;left;have d:decide ((i:Int)<(m.length:Int))=false:=by simpa using hlt
    have e:m.take i=m:=YT (by omega);rw[e]
    exact⟨_,by simp only[ZhR,RT.val,d,Ye],rfl,i,rfl⟩)
  (false,m,iN m.length,0,c,[],()) ⟨0,YE _,rfl⟩ (by simp only[iN];omega)
 have hl:=Zy8 c m (false,[]);have hp:=ZKf c m [] hv.1;simp only[List.nil_append] at hp;obtain⟨r1,r2⟩:=r;simp only at h1 hR;subst h1 hR;generalize m.foldl (pst c) (false,[])=s at hl hp hr;obtain⟨dn,o⟩:=s;have hb:(!(!dn&&c.2 !=0)||Nat.ble (o++[c]).length most)=true:=by
  cases dn with
  |true=>rfl
  |false=>
   have:Nat.ble (o++[c]).length most=true:=by rw[YF];simp only[Ye,List.length_nil] at hl;simp only[Yc,List.length_singleton];omega
   rw[this];simp
 have hv:(ZpQ m c).val=some (putX m c):=by simp only[ZpQ,RT.val,hr,okB,getO,Yb,hb,<-hp,pfin]
 exact⟨by simp only[Zvl,hv];rfl,by simp only[ZJl,hv,getO]⟩
theorem ZDa (c:Cell):∀m:List Cell,(putX m c).length<=m.length+1
 |[]=>by simp only[putX];split<;>simp
 |x::m=>by
  have:=ZDa c m;simp only[putX];repeat' split
  all_goals simp only[List.length_cons];omega
theorem Zjk (l:List Cell) (c:Cell):normX (l++[c])=putX (normX l) c:=by simp[normX,List.foldl_append]
theorem ZEM:∀(l m:List Cell),(l.foldl putX m).length<=m.length+l.length
 |[],m=>by simp
 |x::l,m=>by have:=ZEM l (putX m x);have:=ZDa x m;simp only[List.foldl_cons,List.length_cons];omega
theorem ZeH (l:List Cell):(normX l).length<=l.length:=by have:=ZEM l [];simpa [normX] using this
theorem ZI0 (l:List Cell) (hl:l.length+1<=most):ZJD l=true/\ZTP l=normX l:=by
 have hms:=mst;have h1:=ZpF l (by omega);have hc:ZiZ l=true:=by simp only[ZiZ,h1];rfl
 have hv0:ZlA l=vldB l:=by simp only[ZlA,h1,getO]
 have hv:(ZpT l).val=some (normX l):=by
  cases hb:vldB l with
  |true=>
   have e:Nat.ble l.length most=true:=by rw[YF];omega
   simp only[ZpT,RT.val,hc,hv0,hb,List.nil_append,e,Yb,Yg,Yj,ZgA (Zkn.1 hb)]
  |false=>
   obtain⟨r,hr,h1,i,hR⟩:=ZO (fl:=false) (t:=ZhT) (fuel:=λa=>1000000000000)
    (λa=>∃i:Nat,i<=l.length/\a=(normX (l.take i),l,(l.length:Int),(i:Int),()))
    (λa=>Int.toNat (a.2.2.1-a.2.2.2.1)) (λr=>r.1=false/\∃i:Nat,r.2=(normX l,l,(l.length:Int),(i:Int),()))
    (by
     rintro a ⟨i,hi,rfl⟩;by_cases hlt:i<l.length
     ·left;have d:decide ((i:Int)<(l.length:Int))=true:=by simpa using hlt
      have r1:=Zaq l i hlt;have hlen:=ZeH (l.take i);rw[YD] at hlen;have hp:=Zu4 (normX (l.take i)) (el l i) (ZnR _) (by omega);refine⟨_,?_,⟨i+1,hlt,rfl⟩,by simp only;omega⟩;rw[ZxI l i hlt,Zjk];simp only[ZhT,RT.val,d,r1,Zcs,hp.1,hp.2,Yb,Yk,ZgN i (by omega)]
     ·right;left;have d:decide ((i:Int)<(l.length:Int))=false:=by simpa using hlt
      have e:l.take i=l:=YT (by omega);rw[e]
      exact⟨_,by simp only[ZhT,RT.val,d,Ye],rfl,i,rfl⟩)
    ([],l,iN l.length,0,()) ⟨0,YE _,rfl⟩ (by simp only[iN];omega)
   obtain⟨r1,r2⟩:=r;simp only at h1 hR;subst h1 hR;simp only[ZpT,RT.val,hc,hv0,hb,hr,okB,getO,Yb,Ye,Yq,YB]
 exact⟨by simp only[ZJD,hv];rfl,by simp only[ZTP,hv,getO]⟩
def ZBs (s:List Cell) (i:Nat):Bool:=(el s i).2 !=0&&(decide (i+1=s.length)||(el s (i+1)).1 !=(el s i).1)
theorem ZVB (s:List Cell) (i:Nat) (h:i<s.length):dd (s.drop i)=(bif ZBs s i then [el s i] else [])++dd (s.drop (i+1)):=by
 rw[Zt8 s i h];by_cases hl:i+1<s.length
 ·rw[Zt8 s (i+1) hl,dd];have e:decide (i+1=s.length)=false:=by simp;omega
  simp only[ZBs,e,Yj];by_cases h1:(el s i).1=(el s (i+1)).1
  ·have:((el s (i+1)).1 !=(el s i).1)=false:=by simp[h1]
   simp only[this,Yah,Ye,List.nil_append,YS h1]
  ·have:((el s (i+1)).1 !=(el s i).1)=true:=by simpa using λe=>h1 e.symm
   simp only[this,Y1,YV h1];by_cases h2:(el s i).2=0
   ·have:((el s i).2 !=0)=false:=by simp[h2]
    simp only[this,YS h2,Ye,List.nil_append]
   ·have:((el s i).2 !=0)=true:=by simpa using h2
    simp only[this,YV h2,Yb,List.singleton_append]
 ·have hn:s.drop (i+1)=[]:=YY (by omega);have e:decide (i+1=s.length)=true:=by simp;omega
  rw[hn];simp only[ZBs,e,YB,Y1,dd,YW];by_cases h2:(el s i).2=0
  ·have:((el s i).2 !=0)=false:=by simp[h2]
   simp only[this,YS h2,Ye]
  ·have:((el s i).2 !=0)=true:=by simpa using h2
   simp only[this,YV h2,Yb]
theorem ZH2 (l:List Cell) (hl:l.length<=most):ZCk l=true/\ZxF l=isort l:=by
 have hs:Zlo l (iN l.length)=true:=by simp[Zlo,iN];omega
 have hv:(ZuK l).val=some (isort l):=by simp only[ZuK,RT.val,Zc8,hs,Yb]
 exact⟨by simp only[ZCk,hv];rfl,by simp only[ZxF,hv,getO]⟩
theorem Zwy (l:List Cell) (hl:l.length<=most):ZwM l=true/\ZNd l=normX l:=by
 have hms:=mst;have h1:=ZH2 l hl;have hlen:=ZdY l;generalize hs:isort l=s at hlen h1;obtain⟨r,hr,h2,i,hR⟩:=ZO (fl:=false) (t:=Zin) (fuel:=λa=>Int.toNat (a.1-a.2.1)+1)
  (λa=>∃(i:Nat) (o:List Cell),i<=s.length/\o.length<=i/\o++dd (s.drop i)=dd s/\a=((s.length:Int),(i:Int),s,o,()))
  (λa=>Int.toNat (a.1-a.2.1)) (λr=>r.1=false/\∃i:Nat,r.2=((s.length:Int),(i:Int),s,dd s,()))
  (by
   rintro a ⟨i,o,hi,ho,hd,rfl⟩;by_cases hlt:i<s.length
   ·left;have d:decide ((i:Int)<(s.length:Int))=true:=by simpa using hlt
    have r1:=Zaq s i hlt;have w:=ZgN i (by omega);have e1:(((i+1:Nat):Int)==iN s.length)=decide (i+1=s.length):=by rw[Bool.eq_iff_iff];simp[iN];omega
    have hst:=ZVB s i hlt;have hle:∀x:Cell,Nat.ble (o++[x]).length most=true:=λx=>by rw[YF];simp only[Yc,List.length_singleton];omega
    refine⟨((s.length:Int),((i+1:Nat):Int),s,o++(bif ZBs s i then [el s i] else []),()),?_,⟨i+1,_,hlt,?_,?_,rfl⟩,by simp only;omega⟩
    ·have e3:(!((el s i).2 !=0)||(decide (i+1=s.length)||Zf ((i+1:Nat):Int) s.length))=true:=by
      by_cases hq:i+1=s.length
      ·simp[hq]
      ·rw[Zaq s (i+1) (by omega)];simp
     have e4:((el s i).2 !=0&&(decide (i+1=s.length)||(el s (i+1)).1 !=(el s i).1))=ZBs s i:=rfl;have g1:=Zcs s i;have g2:=Zcs s (i+1);simp only[Zin,RT.val,d,r1,w,g1,g2,e1,e3,e4,hle,Yb,Yg,Yj,Yk];cases ZBs s i<;>simp
    ·cases ZBs s i<;>simp only[Yb,Ye,YW,Yc,List.length_singleton]<;>omega
    ·rw[Yn,<-hst,hd]
   ·right;left;have d:decide ((i:Int)<(s.length:Int))=false:=by simpa using hlt
    have e:s.drop i=[]:=YY (by omega);rw[e] at hd;simp only[dd,YW] at hd;subst hd
    exact⟨_,by simp only[Zin,RT.val,d,Ye],rfl,i,rfl⟩)
  (iN s.length,0,s,[],()) ⟨0,[],YE _,by simp,by simp,rfl⟩ (by simp only[iN];omega)
 obtain⟨r1,r2⟩:=r;simp only at h2 hR;subst h2 hR;have hb:Nat.ble l.length most=true:=by rw[YF];exact hl
 have hv:(ZwL l).val=some (normX l):=by simp only[ZwL,RT.val,hb,h1.1,h1.2,hr,okB,getO,Yb];rw[<-hs,ZG4]
 exact⟨by simp only[ZwM,hv];rfl,by simp only[ZNd,hv,getO]⟩
abbrev BR:R:=R.int u8
theorem get_d (l:List Int) (i:Nat):R.get BR l (i:Int)=l.getD i 0:=by simp[R.get,R.Df]
def Zol (t:Int) (b:List Int) (n:Nat):List Cell:=(List.range n).map λi:Nat=>(IntKind.wrap .u16 (t+IntKind.wrap .u16 (i:Int)),b.getD i 0)
theorem ZHn (t:Int) (b:List Int) (n:Nat):Zol t b (n+1)=Zol t b n++[(IntKind.wrap .u16 (t+IntKind.wrap .u16 (n:Int)),b.getD n 0)]:=by simp[Zol,List.range_succ]
theorem Zok (t:Int) (b:List Int) (n:Nat):(Zol t b n).length=n:=by simp[Zol]
def Zpe (t:Int) (b:List Int):List Cell:=normX (Zol t b b.length)
theorem ZIU (a b:List Cell) (ha:a.length<=most):Zyb a b=true/\ZJc a b=decide (a=b):=by
 have hms:=mst;have hv:(Zhi a b).val=some (decide (a=b)):=by
  by_cases hl:a.length=b.length
  ·have hn:(iN a.length !=iN b.length)=false:=by simp[iN,hl]
   obtain⟨r,hr,hR⟩:=ZO (fl:=true) (t:=ZeA) (fuel:=λ_=>1000000000000)
    (λx=>∃i:Nat,i<=a.length/\(∀k,k<i->el a k=el b k)/\x=(a,b,false,(a.length:Int),(i:Int),()))
    (λx=>Int.toNat (x.2.2.2.1-x.2.2.2.2.1)) (λr=>(r.1=false/\a=b)\/(r.1=true/\a≠b/\r.2.2.2.1=false))
    (by
     rintro x ⟨i,hi,hk,rfl⟩;by_cases hlt:i<a.length
     ·have d:decide ((i:Int)<(a.length:Int))=true:=by simpa using hlt
      have r1:=Zaq a i hlt;have r2:=Zaq b i (by omega);have g1:=Zcs a i;have g2:=Zcs b i;by_cases he:el a i=el b i
      ·left;refine⟨(a,b,false,(a.length:Int),((i+1:Nat):Int),()),?_,⟨i+1,hlt,λk hk'=> ?_,rfl⟩,by simp only;omega⟩
       ·simp only[ZeA,RT.val,d,r1,r2,g1,g2,he,Yat,Y6,Yg,Yk,Yb,Ye,ZgN i (by omega)]
       ·by_cases e:k=i
        ·subst e;exact he
        ·exact hk k (by omega)
      ·right;right;have hne:((el a i).1==(el b i).1&&((el a i).2==(el b i).2&&true))=false:=by rw[Yy];intro h;simp only[Ya,YaB,and_true] at h;exact he (Prod.ext h.1 h.2)
       refine⟨(a,b,false,(a.length:Int),(i:Int),()),rfl,?_,.inr ⟨rfl,λh=>he (by rw[h]),rfl⟩⟩;simp only[ZeA,RT.val,d,r1,r2,g1,g2,hne,Yg,Yq,Yk,Yb]
     ·right;left;have d:decide ((i:Int)<(a.length:Int))=false:=by simpa using hlt
      refine⟨_,by simp only[ZeA,RT.val,d,Ye];rfl,.inl ⟨rfl,List.ext_getElem? λk=> ?_⟩⟩;by_cases hk':k<a.length
      ·rw[Zct a k hk',Zct b k (by omega),hk k (by omega)]
      ·rw[YN (by omega),YN (by omega)])
    (a,b,false,iN a.length,0,()) ⟨0,YE _,λk h=>by omega,rfl⟩ (by simp only[iN];omega)
   rcases hR with ⟨h1,h2⟩|⟨h1,h2,h3⟩
   ·have hd:decide (a=b)=true:=YQ h2;simp only[Zhi,RT.val,hn,hr,okB,getO,Yb,Ye,h1,hd]
   ·have hd:decide (a=b)=false:=Yak h2;simp only[Zhi,RT.val,hn,hr,okB,getO,Yb,Ye,h1,h3,hd]
  ·have hn:(iN a.length !=iN b.length)=true:=by simp only[iN,bne_iff_ne,ne_eq];omega
   have hne:a≠b:=λh=>hl (by rw[h])
   simp only[Zhi,RT.val,hn,Yb,hne,decide_false]
 exact⟨by simp only[Zyb,hv];rfl,by simp only[ZJc,hv,getO]⟩
theorem Zwx (m:List Cell) (hm:m.length<=most):ZtP m=true/\Zod m=vldB m:=by have h:=ZHf m hm;exact⟨by simp only[ZtP,h];rfl,by simp only[Zod,h,getO]⟩
theorem ZIR (m:List Cell) (hm:m.length<=most):ZiZ m=true/\ZlA m=vldB m:=by have h:=ZpF m hm;exact⟨by simp only[ZiZ,h];rfl,by simp only[ZlA,h,getO]⟩
abbrev GR:R:=R.Pq (R.int u16) (R.Pq (R.int u16) (R.Pq R.bool (R.int i64)))
def hitB (t:Int) (r:Z0):Bool:=decide (r.1<=t)&&decide (t<=r.2.1)
def Zch (l:List Z0) (t:Int):Int:=if l.findIdx (hitB t)<l.length then (l.findIdx (hitB t):Int) else-1
def rg (l:List Z0) (i:Nat):Z0:=l.getD i (0,0,false,0)
theorem ZSL (l:List Z0) (i:Nat):R.get GR l (i:Int)=rg l i:=by simp[R.get,R.Df,rg]
theorem Zu5 (l:List Z0) (i:Nat) (h:i<l.length):l[i]=rg l i:=by simp[rg,h]
theorem ZVs {l:List Z0} (hi:i<l.length) (h:hitB t (rg l i)=true) (hk:∀k,k<i->hitB t (rg l k)=false):Zch l t=i:=by have:l.findIdx (hitB t)=i:=(List.findIdx_eq hi).2 ⟨by rw[Zu5 l i hi];exact h,λj hj=>by rw[Zu5 l j (by omega)];exact hk j hj⟩;simp only[Zch,this,hi,if_true]
theorem ZVr {l:List Z0} (hk:∀k,k<l.length->hitB t (rg l k)=false):Zch l t= -1:=by
 have:¬l.findIdx (hitB t)<l.length:=by rw[List.findIdx_lt_length];rintro⟨x,hx,hp⟩;obtain⟨i,hi,rfl⟩:=YaC.1 hx;rw[Zu5 l i hi,hk i hi] at hp;exact absurd hp (by simp)
 simp only[Zch,this,if_false]
theorem ZI1 (l:List Z0) (t:Int) (hl:l.length<=most):ZJV l t=true/\ZTW l t=Zch l t:=by
 have hms:=mst;obtain⟨r,hr,hR⟩:=ZO (fl:=true) (t:=ZhU) (fuel:=λ_=>1000000000000)
  (λx=>∃i:Nat,i<=l.length/\(∀k,k<i->hitB t (rg l k)=false)/\x=(t,0,l,(l.length:Int),(i:Int),()))
  (λx=>Int.toNat (x.2.2.2.1-x.2.2.2.2.1)) (λr=>(r.1=false/\Zch l t= -1)\/(r.1=true/\r.2.2.1=Zch l t))
  (by
   rintro x ⟨i,hi,hk,rfl⟩;by_cases hlt:i<l.length
   ·have d:decide ((i:Int)<(l.length:Int))=true:=by simpa using hlt
    have r1:=Zaq l i hlt;have g1:=ZSL l i;cases hh:hitB t (rg l i) with
    |false=>
     left;refine⟨(t,0,l,(l.length:Int),((i+1:Nat):Int),()),?_,⟨i+1,hlt,λk hk'=> ?_,rfl⟩,by simp only;omega⟩
     ·simp only[hitB] at hh;simp only[ZhU,RT.val,d,r1,g1,hh,Yb,Ye,ZgN i (by omega)]
     ·by_cases e:k=i
      ·subst e;exact hh
      ·exact hk k (by omega)
    |true=>
     right;right;refine⟨(t,(i:Int),l,(l.length:Int),(i:Int),()),rfl,?_,.inr ⟨rfl,(ZVs hlt hh hk).symm⟩⟩;simp only[hitB] at hh;simp only[ZhU,RT.val,d,r1,g1,hh,Yb]
   ·right;left;have d:decide ((i:Int)<(l.length:Int))=false:=by simpa using hlt
    exact⟨_,by simp only[ZhU,RT.val,d,Ye];rfl,.inl ⟨rfl,ZVr λk h=>hk k (by omega)⟩⟩)
  (t,0,l,iN l.length,0,()) ⟨0,YE _,λk h=>by omega,rfl⟩ (by simp only[iN];omega)
 have hv:(ZpX l t).val=some (Zch l t):=by
  rcases hR with ⟨h1,h2⟩|⟨h1,h2⟩
  ·simp only[ZpX,RT.val,hr,okB,getO,Yb,h1,Ye,h2]
  ·simp only[ZpX,RT.val,hr,okB,getO,Yb,h1,h2]
 exact⟨by simp only[ZJV,hv];rfl,by simp only[ZTW,hv,getO]⟩
theorem ZmB (l:List Z0) (t:Int) (hl:l.length<=most):Zv8 l t=true/\Zpa l t=Zch l t:=by have h:=ZI1 l t hl;have e:ZD0 l t=ZpX l t:=rfl;simp only[ZJV,ZTW,<-e] at h;exact h
def Zva (l:List Z0) (m:List Cell) (t:Int):Int:=bif decide (Zch l t<0) then 255 else getX m t
end
end Go.Proofs.YtpnjbfjomebppaaGreat
