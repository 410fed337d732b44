import Derived.Test.YtpnjbfjomebppaaGreatCloneC
open Go.Proofs.Tryz (prog)
open Go.IntKind (u8 u16 i64)
set_option linter.unusedSimpArgs false
open Go Go.S3 Go.Proofs
set_option linter.unusedVariables false
set_option maxRecDepth 100000
namespace Go.Proofs.YtpnjbfjomebppaaGreat
noncomputable section
abbrev ZmD:R:=R.Pq (R.int u16) (R.int u8)
abbrev ZmE:Nat:=75
abbrev ZI8:List Sh:=[]
def Zvy (s:List (Int×Int)):RT (Option (List (Int×Int))):=
 .br (ZmM (Stg.l (ZdE ZmD ZmE s)) (iN (List.length (Stg.l (ZdE ZmD ZmE s))))) (.Lf (some (Cells.isort (Stg.l (ZdE ZmD ZmE s))))) (.Lf none)
def Zzc (s:List (Int×Int)):List (Int×Int):=getO [] (Zvy s).val
def ZCZ (s:List (Int×Int)):Bool:=okB (Zvy s).val
def ZI9:En:=stE ZmD ZmE 160 ZI8 (λa=>some (ZCZ a.1)) (λa=>Zzc a.1)
theorem ZCY:Zb prog 159 ZI9:=
 ZmN (P:=prog) (n:=15) (k:=8) (l:=[(234,ZI7),(160,ZbZ)]) (ol:=[]) ⟨ZI6,Zaz,Tv⟩ Tryz.func159 rfl (by kernel_rfl) Tryz.call159 trivial (r:=ZmD) (T:=ZmE) (g0:=160) (ts:=ZI8) (t:=λa=>Zvy a.1) (λa=>by kernel_rfl)
abbrev ZNB:List Sh:=[Sh.one rcCE]
abbrev ZB7:Rs:=Rs.one (Sh.one rcCE)
def ZRd:LS:={n:=45,Sl:=[(3,.tip 0),(4,.tip 1),(11,.tip 0),(12,.code (Sh.one (R.int i64))),(13,.code (Sh.one (R.int i64)))],Bx:=[],Sg:=[⟨R.Pq (R.int u16) (R.int u8),75,true⟩,⟨(R.Pq (R.int u16) (R.int u8)),75,true⟩]}
def Zjs (a:QT29):RT (Option (Go1 (QT29))):=
 let x1:=(R.get (R.Pq (R.int u16) (R.int u8)) a.2.2.1 a.2.1).2 !=0
 let x2:=i64.wrap (a.2.1+1)==iN (List.length a.2.2.1)
 let x3:= !x1||(x2||Zf (i64.wrap (a.2.1+1)) (List.length a.2.2.1))
 let x4:=x1&&(x2||(R.get (R.Pq (R.int u16) (R.int u8)) a.2.2.1 (i64.wrap (a.2.1+1))).1 !=(R.get (R.Pq (R.int u16) (R.int u8)) a.2.2.1 a.2.1).1)
 let x5:List (Int×Int):=a.2.2.2.1++[R.get (R.Pq (R.int u16) (R.int u8)) a.2.2.1 a.2.1]
 .br (decide (a.2.1<a.1)) (.br (!Zf a.2.1 (List.length a.2.2.1)||(!x3||(!x4||Nat.ble (List.length x5) most))) (.br (!Zf a.2.1 (List.length a.2.2.1)||x3) (.br (Zf a.2.1 (List.length a.2.2.1)) (.Lf (some (Go1.cont (a.1,i64.wrap (a.2.1+1),a.2.2.1,bif x4 then x5 else a.2.2.2.1,PUnit.unit)))) (.Lf none)) (.Lf none)) (.Lf none)) (.Lf (some (Go1.brk (a.1,a.2.1,a.2.2.1,a.2.2.2.1,PUnit.unit))))
def ZFc:Ora:=ZbI false ZRd Zjs (λa=>(a.1-a.2.1).toNat+1)
theorem ZHV:Zbg (envX prog [(98,ZuZ),(159,ZI9),(160,ZbZ)] [] 127 8) (.block 0 (.loop (Z7 Tryz.f90.body 0))) ZFc:=
 loopP ⟨Zpz,ZCY,Zaz,Tv⟩
def Zx9 (l:List (Int×Int)):RT (Option (List (Int×Int))):=
 let x1:=runF false Zjs (λa=>Int.toNat (a.1-a.2.1)+1) (iN (List.length (Zzc l)),0,Zzc l,[],())
 .br (Nat.ble (List.length l) most) (.br (ZCZ l) (.br (okB x1) (.Lf (some (getO (false,iN (List.length (Zzc l)),0,Zzc l,[],()) x1).2.2.2.2.1)) (.Lf none)) (.Lf none)) (.Lf none)
def ZND (l:List (Int×Int)):List (Int×Int):=getO ZB7.Df (Zx9 l).val
def Zya (l:List (Int×Int)):Bool:=okB (Zx9 l).val
def ZNC:En:=Zg ZNB ZB7 (λa=>some (Zya a)) (λa=>ZND a)
theorem ZFb:Zb prog 90 ZNC:=
 pureP 127 [(98,ZuZ),(159,ZI9),(160,ZbZ)] [(0,ZFc)] ZNB ZB7 ⟨Zpz,ZCY,Zaz,Tv⟩ Tryz.func90 Tryz.call90 ⟨ZHV,Tv⟩ (t:=λa=>Zx9 a)
abbrev Zuy:List Sh:=[Sh.one rcCE]
abbrev Zl5:Rs:=Rs.one (Sh.one R.bool)
def ZNv:LS:={n:=31,Sl:=[(0,.code (Sh.one rcCE)),(2,.code (Sh.one R.bool)),(5,.code (Sh.one rcCE)),(6,.code (Sh.one (R.int i64))),(7,.code (Sh.one (R.int i64)))],Bx:=[],Sg:=[]}
def Zeu (a:List (Int×Int)×Bool×List (Int×Int)×Int×Int×PUnit):RT (Option (Go1 (List (Int×Int)×Bool×List (Int×Int)×Int×Int×PUnit))):=
 let x1:Int×Int:=R.get (R.Pq (R.int u16) (R.int u8)) a.2.2.1 a.2.2.2.2.1
 let x2:=x1.2==0
 let x3:List (Int×Int)×Int×Int×PUnit:=(a.2.2.1,a.2.2.2.1,a.2.2.2.2.1,PUnit.unit)
 .br (decide (a.2.2.2.2.1<a.2.2.2.1)) (.br (!Zf a.2.2.2.2.1 (List.length a.2.2.1)||(x2||(!decide (a.2.2.2.2.1>0)||Zf (i64.wrap (a.2.2.2.2.1-1)) (List.length a.1)))) (.br (Zf a.2.2.2.2.1 (List.length a.2.2.1)) (.br (x2||decide (a.2.2.2.2.1>0)&&decide (x1.1<=(R.get (R.Pq (R.int u16) (R.int u8)) a.1 (i64.wrap (a.2.2.2.2.1-1))).1)) (.Lf (some (Go1.ret (a.1,false,x3)))) (.Lf (some (Go1.cont (a.1,a.2.1,a.2.2.1,a.2.2.2.1,i64.wrap (a.2.2.2.2.1+1),PUnit.unit))))) (.Lf none)) (.Lf none)) (.Lf (some (Go1.brk (a.1,a.2.1,x3))))
def Zx8:Ora:=ZbI true ZNv Zeu (λa=>1000000000000)
theorem ZB6:Zbg (envX prog [] [] 31 8) (.block 0 (.loop (Z7 Tryz.f103.body 0))) Zx8:=
 loopP trivial
def ZkC (m:List (Int×Int)):RT (Option (Bool)):=
 let x1:=runF true Zeu (λa=>1000000000000) (m,false,m,iN (List.length m),0,())
 let x2:=getO (false,m,false,m,iN (List.length m),0,()) x1
 .br (okB x1) (.br x2.1 (.Lf (some x2.2.2.1)) (.Lf (some (true)))) (.Lf none)
def ZoV (m:List (Int×Int)):Bool:=getO Zl5.Df (ZkC m).val
def Zuz (m:List (Int×Int)):Bool:=okB (ZkC m).val
def ZNw:En:=Zg Zuy Zl5 (λa=>some (Zuz a)) (λa=>ZoV a)
theorem Zx7:Zb prog 103 ZNw:=
 pureP 31 [] [(0,Zx8)] Zuy Zl5 trivial Tryz.func103 Tryz.call103 ⟨ZB6,Tv⟩ (t:=λa=>ZkC a)
abbrev Zsh:List Sh:=[Sh.one rcCE]
abbrev ZlJ:Rs:=Rs.one (Sh.one R.bool)
def ZJ3:LS:={n:=34,Sl:=[(0,.code (Sh.one rcCE)),(2,.code (Sh.one R.bool)),(5,.code (Sh.one (R.int i64))),(6,.code (Sh.one (R.int i64)))],Bx:=[],Sg:=[]}
def Zeg (a:List (Int×Int)×Bool×Int×Int×PUnit):RT (Option (Go1 (List (Int×Int)×Bool×Int×Int×PUnit))):=
 let x1:=(R.get (R.Pq (R.int u16) (R.int u8)) a.1 a.2.2.2.1).2==0
 let x2:= !Zf a.2.2.2.1 (List.length a.1)||(x1||(!decide (a.2.2.2.1>0)||(!Zf a.2.2.2.1 (List.length a.1)||Zf (i64.wrap (a.2.2.2.1-1)) (List.length a.1))))
 let x3:= !x2
 let x4:= !Zf a.2.2.2.1 (List.length a.1)||(x1||(!decide (a.2.2.2.1>0)||Zf a.2.2.2.1 (List.length a.1)))
 .br (decide (a.2.2.2.1<a.2.2.1)) (.br (x3||(!x4||Zf a.2.2.2.1 (List.length a.1))) (.br (x3||x4) (.br (x2) (.br (x1||decide (a.2.2.2.1>0)&&decide ((R.get (R.Pq (R.int u16) (R.int u8)) a.1 a.2.2.2.1).1<=(R.get (R.Pq (R.int u16) (R.int u8)) a.1 (i64.wrap (a.2.2.2.1-1))).1)) (.Lf (some (Go1.ret (a.1,false,a.2.2.1,a.2.2.2.1,PUnit.unit)))) (.Lf (some (Go1.cont (a.1,a.2.1,a.2.2.1,i64.wrap (a.2.2.2.1+1),PUnit.unit))))) (.Lf none)) (.Lf none)) (.Lf none)) (.Lf (some (Go1.brk (a.1,a.2.1,a.2.2.1,a.2.2.2.1,PUnit.unit))))
def Zv3:Ora:=ZbI true ZJ3 Zeg (λa=>1000000000000)
theorem ZzC:Zbg (envX prog [] [] 15 8) (.block 0 (.loop (Z7 Tryz.f105.body 0))) Zv3:=
 loopP trivial
def Zkd (m:List (Int×Int)):RT (Option (Bool)):=
 let x1:=runF true Zeg (λa=>1000000000000) (m,false,iN (List.length m),0,())
 let x2:=getO (false,m,false,iN (List.length m),0,()) x1
 .br (okB x1) (.br x2.1 (.Lf (some x2.2.2.1)) (.Lf (some (true)))) (.Lf none)
def ZmZ (m:List (Int×Int)):Bool:=getO ZlJ.Df (Zkd m).val
def Zke (m:List (Int×Int)):Bool:=okB (Zkd m).val
def ZzD:En:=Zg Zsh ZlJ (λa=>some (Zke a)) (λa=>ZmZ a)
theorem ZmY:Zb prog 105 ZzD:=
 pureP 15 [] [(0,Zv3)] Zsh ZlJ trivial Tryz.func105 Tryz.call105 ⟨ZzC,Tv⟩ (t:=λa=>Zkd a)
abbrev ZKi:List Sh:=[Sh.one rcCE,Sh.agg (R.Pq (R.int u16) (R.int u8))]
abbrev ZzL:Rs:=Rs.one (Sh.one rcCE)
def ZPZ:LS:={n:=53,Sl:=[(3,.fix (A.loc 0 0)),(5,.tip 0),(6,.code (Sh.one R.bool)),(9,.code (Sh.one rcCE)),(10,.code (Sh.one (R.int i64))),(11,.code (Sh.one (R.int i64)))],Bx:=[[.many (R.Pq (R.int u16) (R.int u8))]],Sg:=[⟨(R.Pq (R.int u16) (R.int u8)),75,true⟩]}
def ZiS (a:QT9):RT (Option (Go1 (QT9))):=
 let x1:Int×Int:=R.get (R.Pq (R.int u16) (R.int u8)) a.2.1 a.2.2.2.1
 let x2:=x1.1
 let x3:= !a.1&&decide (x2>=a.2.2.2.2.1.1)
 let x4:List (Int×Int):=a.2.2.2.2.2.1++[a.2.2.2.2.1]
 let x5:= !x3||(!a.2.2.2.2.1.2 !=0||Nat.ble (List.length x4) most)
 let x6:=x2 !=a.2.2.2.2.1.1
 let x7:List (Int×Int):=bif x3 then bif a.2.2.2.2.1.2 !=0 then x4 else a.2.2.2.2.2.1 else a.2.2.2.2.2.1
 let x8:List (Int×Int):=x7++[x1]
 .br (decide (a.2.2.2.1<a.2.2.1)) (.br (!Zf a.2.2.2.1 (List.length a.2.1)||(!x5||(!x6||Nat.ble (List.length x8) most))) (.br (!Zf a.2.2.2.1 (List.length a.2.1)||x5) (.br (Zf a.2.2.2.1 (List.length a.2.1)) (.Lf (some (Go1.cont (x3||a.1,a.2.1,a.2.2.1,i64.wrap (a.2.2.2.1+1),a.2.2.2.2.1,bif x6 then x8 else x7,PUnit.unit)))) (.Lf none)) (.Lf none)) (.Lf none)) (.Lf (some (Go1.brk (a.1,a.2.1,a.2.2.1,a.2.2.2.1,a.2.2.2.2.1,a.2.2.2.2.2.1,PUnit.unit))))
def ZDy:Ora:=ZbI false ZPZ ZiS (λa=>1000000000000)
theorem ZGh:Zbg (envX prog [] [] 511 8) (.block 0 (.loop (Z7 Tryz.f165.body 0))) ZDy:=
 loopP trivial
def Zqx (m:List (Int×Int)) (c:Int×Int):RT (Option (List (Int×Int))):=
 let x1:QT9:=(false,m,iN (List.length m),0,c,[],())
 let x2:=runF false ZiS (λa=>1000000000000) x1
 let x3:QT9:=(getO (false,x1) x2).2
 let x4:=x3.2.2.2.2
 let x5:=x4.1
 let x6:= !x3.1&&x5.2 !=0
 let x7:=x4.2.1
 let x8:List (Int×Int):=x7++[x5]
 .br (okB x2) (.br (!x6||Nat.ble (List.length x8) most) (.Lf (some (bif x6 then x8 else x7))) (.Lf none)) (.Lf none)
def ZKk (m:List (Int×Int)) (c:Int×Int):List (Int×Int):=getO ZzL.Df (Zqx m c).val
def Zv6 (m:List (Int×Int)) (c:Int×Int):Bool:=okB (Zqx m c).val
def ZKj:En:=Zg ZKi ZzL (λa=>some (Zv6 a.1 a.2)) (λa=>ZKk a.1 a.2)
theorem ZDx:Zb prog 165 ZKj:=
 pureP 511 [] [(0,ZDy)] ZKi ZzL trivial Tryz.func165 Tryz.call165 ⟨ZGh,Tv⟩ (t:=λa=>Zqx a.1 a.2)
abbrev ZzM:List Sh:=[Sh.one rcCE]
abbrev Zst:Rs:=Rs.one (Sh.one rcCE)
def ZP3:LS:={n:=21,Sl:=[(3,.code (Sh.one rcCE)),(10,.code (Sh.one rcCE)),(11,.code (Sh.one (R.int i64))),(12,.code (Sh.one (R.int i64)))],Bx:=[],Sg:=[]}
def ZiT (a:List (Int×Int)×List (Int×Int)×Int×Int×PUnit):RT (Option (Go1 (List (Int×Int)×List (Int×Int)×Int×Int×PUnit))):=
 let x1:Int×Int:=R.get (R.Pq (R.int u16) (R.int u8)) a.2.1 a.2.2.2.1
 .br (decide (a.2.2.2.1<a.2.2.1)) (.br (!Zf a.2.2.2.1 (List.length a.2.1)||Zv6 a.1 x1) (.br (Zf a.2.2.2.1 (List.length a.2.1)) (.Lf (some (Go1.cont (ZKk a.1 x1,a.2.1,a.2.2.1,i64.wrap (a.2.2.2.1+1),PUnit.unit)))) (.Lf none)) (.Lf none)) (.Lf (some (Go1.brk (a.1,a.2.1,a.2.2.1,a.2.2.2.1,PUnit.unit))))
def ZDB:Ora:=ZbI false ZP3 ZiT (λa=>1000000000000)
theorem ZGj:Zbg (envX prog [(105,ZzD),(165,ZKj)] [] 63 8) (.block 0 (.loop (Z7 Tryz.f93.body 0))) ZDB:=
 loopP ⟨ZmY,ZDx,Tv⟩
def Zqy (l:List (Int×Int)):RT (Option (List (Int×Int))):=
 let x1:=runF false ZiT (λa=>1000000000000) ([],l,iN (List.length l),0,())
 .br (Zke l) (.br (!ZmZ l||Nat.ble (List.length ([]++l)) most) (.br (ZmZ l) (.Lf (some ([]++l))) (.br (okB x1) (.Lf (some (getO (false,[],l,iN (List.length l),0,()) x1).2.1)) (.Lf none))) (.Lf none)) (.Lf none)
def ZUi (l:List (Int×Int)):List (Int×Int):=getO Zst.Df (Zqy l).val
def ZKo (l:List (Int×Int)):Bool:=okB (Zqy l).val
def ZWO:En:=Zg ZzM Zst (λa=>some (ZKo a)) (λa=>ZUi a)
theorem ZP2:Zb prog 93 ZWO:=
 pureP 63 [(105,ZzD),(165,ZKj)] [(0,ZDB)] ZzM Zst ⟨ZmY,ZDx,Tv⟩ Tryz.func93 Tryz.call93 ⟨ZGj,Tv⟩ (t:=λa=>Zqy a)
abbrev Zsm:List Sh:=[Sh.one rcCE,Sh.one rcCE]
abbrev ZlK:Rs:=Rs.one (Sh.one R.bool)
def ZKa:LS:={n:=26,Sl:=[(0,.code (Sh.one rcCE)),(1,.code (Sh.one rcCE)),(4,.code (Sh.one R.bool)),(12,.code (Sh.one (R.int i64))),(13,.code (Sh.one (R.int i64)))],Bx:=[],Sg:=[]}
def Zfi (a:List (Int×Int)×List (Int×Int)×Bool×Int×Int×PUnit):RT (Option (Go1 (List (Int×Int)×List (Int×Int)×Bool×Int×Int×PUnit))):=
 let x1:= !Zf a.2.2.2.2.1 (List.length a.1)||Zf a.2.2.2.2.1 (List.length a.2.1)
 let x2:Int×Int:=R.get (R.Pq (R.int u16) (R.int u8)) a.1 a.2.2.2.2.1
 let x3:Int×Int:=R.get (R.Pq (R.int u16) (R.int u8)) a.2.1 a.2.2.2.2.1
 let x4:Int×Int×PUnit:=(a.2.2.2.1,a.2.2.2.2.1,PUnit.unit)
 .br (decide (a.2.2.2.2.1<a.2.2.2.1)) (.br (!x1||Zf a.2.2.2.2.1 (List.length a.1)) (.br (x1) (.br (!(x2.1==x3.1&&(x2.2==x3.2&&true))) (.Lf (some (Go1.ret (a.1,a.2.1,false,x4)))) (.Lf (some (Go1.cont (a.1,a.2.1,a.2.2.1,a.2.2.2.1,i64.wrap (a.2.2.2.2.1+1),PUnit.unit))))) (.Lf none)) (.Lf none)) (.Lf (some (Go1.brk (a.1,a.2.1,a.2.2.1,x4))))
def Zv5:Ora:=ZbI true ZKa Zfi (λa=>1000000000000)
theorem ZzG:Zbg (envX prog [] [] 63 8) (.block 0 (.loop (Z7 Tryz.f34.body 0))) Zv5:=
 loopP trivial
def Zib (a:List (Int×Int)) (b:List (Int×Int)):RT (Option (Bool)):=
 let x1:=runF true Zfi (λa_1=>1000000000000) (a,b,false,iN (List.length a),0,())
 let x2:=getO (false,a,b,false,iN (List.length a),0,()) x1
 .br (iN (List.length a) !=iN (List.length b)) (.Lf (some (false))) (.br (okB x1) (.br x2.1 (.Lf (some x2.2.2.2.1)) (.Lf (some (true)))) (.Lf none))
def ZKb (a:List (Int×Int)) (b:List (Int×Int)):Bool:=getO ZlK.Df (Zib a b).val
def ZzH (a:List (Int×Int)) (b:List (Int×Int)):Bool:=okB (Zib a b).val
def ZUa:En:=Zg Zsm ZlK (λa=>some (ZzH a.1 a.2)) (λa=>ZKb a.1 a.2)
theorem ZJ9:Zb prog 34 ZUa:=
 pureP 63 [] [(0,Zv5)] Zsm ZlK trivial Tryz.func34 Tryz.call34 ⟨ZzG,Tv⟩ (t:=λa=>Zib a.1 a.2)
abbrev ZUj:Rs:=Rs.one (Sh.one (R.int i64))
def ZiU (a:QT16):RT (Option (Go1 (QT16))):=
 let x1:QT7:=R.get (R.Pq (R.int u16) (R.Pq (R.int u16) (R.Pq R.bool (R.int i64)))) a.2.2.1 a.2.2.2.2.1
 let x2:List (QT7)×Int×Int×PUnit:=(a.2.2.1,a.2.2.2.1,a.2.2.2.2.1,PUnit.unit)
 .br (decide (a.2.2.2.2.1<a.2.2.2.1)) (.br (Zf a.2.2.2.2.1 (List.length a.2.2.1)) (.br (decide (x1.1<=a.1)&&decide (a.1<=x1.2.1)) (.Lf (some (Go1.ret (a.1,a.2.2.2.2.1,x2)))) (.Lf (some (Go1.cont (a.1,a.2.1,a.2.2.1,a.2.2.2.1,i64.wrap (a.2.2.2.2.1+1),PUnit.unit))))) (.Lf none)) (.Lf (some (Go1.brk (a.1,a.2.1,x2))))
def ZqB (l:List (QT7)) (t:Int):RT (Option (Int)):=
 let x1:=runF true ZiU (λa=>1000000000000) (t,0,l,iN (List.length l),0,())
 let x2:=getO (false,t,0,l,iN (List.length l),0,()) x1
 .br (okB x1) (.br x2.1 (.Lf (some x2.2.2.1)) (.Lf (some (-1)))) (.Lf none)
def ZUk (l:List (QT7)) (t:Int):Int:=getO ZUj.Df (ZqB l t).val
def ZKv (l:List (QT7)) (t:Int):Bool:=okB (ZqB l t).val
abbrev ZMr:List Sh:=[Sh.one rcRG,Sh.one (R.int u16)]
abbrev ZBp:Rs:=Rs.one (Sh.one (R.int i64))
def ZQP:LS:={n:=26,Sl:=[(1,.code (Sh.one (R.int u16))),(4,.code (Sh.one (R.int i64))),(7,.code (Sh.one rcRG)),(8,.code (Sh.one (R.int i64))),(9,.code (Sh.one (R.int i64)))],Bx:=[],Sg:=[]}
def ZEI (a:QT16):RT (Option (Go1 (QT16))):=
 let x1:QT7:=R.get (R.Pq (R.int u16) (R.Pq (R.int u16) (R.Pq R.bool (R.int i64)))) a.2.2.1 a.2.2.2.2.1
 let x2:List (QT7)×Int×Int×PUnit:=(a.2.2.1,a.2.2.2.1,a.2.2.2.2.1,PUnit.unit)
 .br (decide (a.2.2.2.2.1<a.2.2.2.1)) (.br (Zf a.2.2.2.2.1 (List.length a.2.2.1)) (.br (decide (x1.1<=a.1)&&decide (a.1<=x1.2.1)) (.Lf (some (Go1.ret (a.1,a.2.2.2.2.1,x2)))) (.Lf (some (Go1.cont (a.1,a.2.1,a.2.2.1,a.2.2.2.1,i64.wrap (a.2.2.2.2.1+1),PUnit.unit))))) (.Lf none)) (.Lf (some (Go1.brk (a.1,a.2.1,x2))))
def ZEJ:Ora:=ZbI true ZQP ZEI (λa=>1000000000000)
theorem ZGX:Zbg (envX prog [] [] 127 8) (.block 0 (.loop (Z7 Tryz.f209.body 0))) ZEJ:=
 loopP trivial
def ZEH (l:List (QT7)) (t:Int):RT (Option (Int)):=
 let x1:=runF true ZEI (λa=>1000000000000) (t,0,l,iN (List.length l),0,())
 let x2:=getO (false,t,0,l,iN (List.length l),0,()) x1
 .br (okB x1) (.br x2.1 (.Lf (some x2.2.2.1)) (.Lf (some (-1)))) (.Lf none)
def ZpR (l:List (QT7)) (t:Int):Int:=getO ZBp.Df (ZEH l t).val
def Zxw (l:List (QT7)) (t:Int):Bool:=okB (ZEH l t).val
def ZEK:En:=Zg ZMr ZBp (λa=>some (Zxw a.1 a.2)) (λa=>ZpR a.1 a.2)
theorem ZtD:Zb prog 209 ZEK:=
 pureP 127 [] [(0,ZEJ)] ZMr ZBp trivial Tryz.func209 Tryz.call209 ⟨ZGX,Tv⟩ (t:=λa=>ZEH a.1 a.2)
end
end Go.Proofs.YtpnjbfjomebppaaGreat
namespace Go.Proofs.Cells
def getX (l:List Cell) (a:Int):Int:=((flt a l).getLast?.map Prod.snd).getD 0
def Vld (m:List Cell):Prop:=m.Pairwise (λa b=>a.1<b.1)/\∀c∈m,c.2≠0
variable {l:List Cell}
theorem ZH7 {l':List Cell} (h:Sm l l') (a:Int):getX l a=getX l' a:=by rw[getX,getX,h a]
variable {m:List Cell}
theorem Vld.srt (h:Vld m):Srt m:=h.1.imp λh=>Int.le_of_lt h
theorem Vld.tail {c:Cell} (h:Vld (c::m)):Vld m:=⟨(Yx.1 h.1).2,λx hx=>h.2 x (YU _ hx)⟩
theorem ZFq (a:Int):getX [] a=0:=rfl
theorem Zl9 (a:Int) (c:Cell) (l:List Cell):flt a (c::l)=if c.1=a then c::flt a l else flt a l:=by by_cases h:c.1=a<;>simp[flt,h]
theorem Zey (c:Cell) (l:List Cell) (a:Int):getX (c::l) a=if c.1=a/\flt a l=[] then c.2 else getX l a:=by
 simp only[getX,Zl9];by_cases h:c.1=a
 ·simp only[h,if_true,true_and];cases hf:flt a l with
  |nil=>simp
  |cons x r=>simp[List.getLast?_cons_cons]
 ·simp[h]
theorem Vld.flt {m:List Cell} (h:Vld m) (a:Int):Cells.flt a m=if getX m a=0 then [] else [(a,getX m a)]:=by
 induction m with
 |nil=>simp[Cells.flt,ZFq]
 |cons c m ih=>
  have ih:=ih h.tail;have h1:=Yx.1 h.1;by_cases hc:c.1=a
  ·have hn:Cells.flt a m=[]:=Zez λx hx=>by have:=h1.1 x hx;omega
   have hz:=h.2 c (by simp);rw[Zl9,Zey];simp only[hc,hn,and_self,if_true,hz,if_false];rw[<-hc]
  ·rw[Zl9,Zey];simp only[hc,false_and,if_false,ih]
theorem ZTp {m':List Cell} (h:Vld m) (h':Vld m') (e:∀a,getX m a=getX m' a):m=m':=
 uniq h.srt h'.srt λk=>by rw[h.flt,h'.flt,e k]
def dd:List Cell->List Cell
 |[]=>[]
 |x::r=>match r with
  |[]=>if x.2=0 then [] else [x]
  |y::_=>if x.1=y.1 then dd r else if x.2=0 then dd r else x::dd r
theorem Zrk:∀{l:List Cell} {c:Cell},c∈dd l->c∈l/\c.2≠0
 |[],c,h=>by simp[dd] at h
 |[x],c,h=>by
  simp only[dd] at h;split at h
  ·simp at h
  ·rename_i hz;simp at h;subst h;exact⟨by simp,hz⟩
 |x::y::r,c,h=>by
  rw[dd] at h;split at h
  ·have:=Zrk h;exact⟨YU _ this.1,this.2⟩
  ·split at h
   ·have:=Zrk h;exact⟨YU _ this.1,this.2⟩
   ·rename_i hz;rcases Yy.1 h with e|e
    ·subst e;exact⟨by simp,hz⟩
    ·have:=Zrk e;exact⟨YU _ this.1,this.2⟩
theorem ZS7:∀{l:List Cell},Srt l->Vld (dd l)
 |[],_=>⟨Yaj,λc h=>by simp[dd] at h⟩
 |[x],_=>by refine⟨?_,λc h=>(Zrk h).2⟩;simp only[dd];split<;>simp
 |x::y::r,h=>by
  have h1:=Yx.1 h;have ih:=ZS7 (l:=y::r) h1.2;have h2:=Yx.1 h1.2;rw[dd];split
  ·exact ih
  ·rename_i hne;split
   ·exact ih
   ·rename_i hz;refine⟨Yx.2 ⟨λc hc=> ?_,ih.1⟩,λc hc=> ?_⟩
    ·have hxy:=h1.1 y (by simp);rcases Yy.1 (Zrk hc).1 with e|e
     ·rw[e];omega
     ·have:=h2.1 c e;omega
    ·rcases Yy.1 hc with e|e
     ·rw[e];exact hz
     ·exact ih.2 c e
theorem ZS8:∀{l:List Cell},Srt l->∀a,getX (dd l) a=getX l a
 |[],_,_=>rfl
 |[x],_,a=>by
  simp only[dd];split
  ·rename_i hz;rw[Zey];simp[flt,getX,hz]
  ·rfl
 |x::y::r,h,a=>by
  have h1:=Yx.1 h;have ih:=ZS8 (l:=y::r) h1.2 a;have h2:=Yx.1 h1.2;rw[dd,Zey x (y::r)];by_cases hxy:x.1=y.1
  ·rw[YX hxy,ih];by_cases hc:x.1=a/\flt a (y::r)=[]
   ·obtain⟨e,e2⟩:=hc;rw[Zl9,YX (by rw[<-hxy];exact e)] at e2;simp at e2
   ·rw[Y1 hc]
  ·rw[Y1 hxy];have hlt:∀c∈y::r,x.1<c.1:=λc hc=>by
    have:=h1.1 y (by simp);rcases Yy.1 hc with e|e
    ·rw[e];omega
    ·have:=h2.1 c e;omega
   by_cases hc:x.1=a
   ·have hn:flt a (y::r)=[]:=Zez λc hc'=>by have:=hlt c hc';omega
    have hn2:flt a (dd (y::r))=[]:=Zez λc hc'=>by have:=hlt c (Zrk hc').1;omega
    by_cases hz:x.2=0
    ·rw[YX hz,YX ⟨hc,hn⟩,hz,getX,hn2];rfl
    ·rw[Y1 hz,YX ⟨hc,hn⟩,Zey,YX ⟨hc,hn2⟩]
   ·by_cases hz:x.2=0
    ·rw[YX hz,Y1 (λh=>hc h.1),ih]
    ·rw[Y1 hz,Y1 (λh=>hc h.1),Zey,Y1 (λh=>hc h.1),ih]
def putX:List Cell->Cell->List Cell
 |[],c=>if c.2=0 then [] else [c]
 |x::r,c=>if x.1<c.1 then x::putX r c else if c.2=0 then (if x.1=c.1 then r else x::r) else if x.1=c.1 then c::r else c::x::r
theorem ZsC:∀{m:List Cell} {c x:Cell},x∈putX m c->x=c\/x∈m
 |[],c,x,h=>by
  simp only[putX] at h;split at h
  ·simp at h
  ·left;simpa using h
 |y::r,c,x,h=>by
  simp only[putX] at h;split at h
  ·rcases Yy.1 h with e|e
   ·right;simp[e]
   ·rcases ZsC e with e|e
    ·exact .inl e
    ·right;simp[e]
  ·split at h
   ·split at h
    ·right;simp[h]
    ·right;exact h
   ·split at h
    ·rcases Yy.1 h with e|e
     ·exact .inl e
     ·right;simp[e]
    ·rcases Yy.1 h with e|e
     ·exact .inl e
     ·right;exact e
theorem ZDQ:∀{m:List Cell} {c:Cell},Vld m->Vld (putX m c)
 |[],c,_=>by
  simp only[putX];split
  ·exact⟨Yaj,λc h=>by simp at h⟩
  ·rename_i hz;exact⟨by simp,λx h=>by simp at h;rw[h];exact hz⟩
 |y::r,c,h=>by
  have h1:=Yx.1 h.1;have hy:=h.2 y (by simp);simp only[putX];split
  ·rename_i hlt;have ih:=ZDQ (c:=c) h.tail;refine⟨Yx.2 ⟨λx hx=> ?_,ih.1⟩,λx hx=> ?_⟩
   ·rcases ZsC hx with e|e
    ·rw[e];exact hlt
    ·exact h1.1 x e
   ·rcases Yy.1 hx with e|e
    ·rw[e];exact hy
    ·exact ih.2 x e
  ·rename_i hge;split
   ·split
    ·exact h.tail
    ·exact h
   ·rename_i hz;split
    ·rename_i he;refine⟨Yx.2 ⟨λx hx=> ?_,h1.2⟩,λx hx=> ?_⟩
     ·have:=h1.1 x hx;omega
     ·rcases Yy.1 hx with e|e
      ·rw[e];exact hz
      ·exact h.2 x (YU _ e)
    ·rename_i hne;refine⟨Yx.2 ⟨λx hx=> ?_,h.1⟩,λx hx=> ?_⟩
     ·rcases Yy.1 hx with e|e
      ·rw[e];omega
      ·have:=h1.1 x e;omega
     ·rcases Yy.1 hx with e|e
      ·rw[e];exact hz
      ·exact h.2 x e
theorem Zl8 {a:Int} (h:∀c∈l,c.1≠a):getX l a=0:=by rw[getX,Zez h];rfl
theorem Zea {x:Cell} {r:List Cell} (h:∀c∈r,x.1<c.1) (a:Int):getX (x::r) a=if x.1=a then x.2 else getX r a:=by
 rw[Zey];by_cases hx:x.1=a
 ·have:flt a r=[]:=Zez λc hc=>by have:=h c hc;omega
  simp[hx,this]
 ·simp[hx]
theorem ZDR:∀{m:List Cell} {c:Cell},Vld m->∀a,getX (putX m c) a=if c.1=a then c.2 else getX m a
 |[],c,_,a=>by
  simp only[putX];split
  ·rename_i hz;rw[ZFq,hz];simp
  ·rw[Zea (by simp)]
 |y::r,c,h,a=>by
  have h1:=Yx.1 h.1;simp only[putX];split
  ·rename_i hlt
   rw[Zea (λx hx=>by
    rcases ZsC hx with e|e
    ·rw[e];exact hlt
    ·exact h1.1 x e),Zea h1.1,ZDR h.tail a]
   by_cases e1:y.1=a
   ·simp only[e1,if_true];rw[Y1 (by omega)]
   ·simp[e1]
  ·rename_i hge;split
   ·rename_i hz;split
    ·rename_i he;rw[Zea h1.1];by_cases e:c.1=a
     ·rw[YX e,hz];exact Zl8 λx hx=>by have:=h1.1 x hx;omega
     ·rw[Y1 e,Y1 (by omega)]
    ·rename_i hne;by_cases e:c.1=a
     ·rw[YX e,hz];exact Zl8 λx hx=>by
       rcases Yy.1 hx with e'|e'
       ·rw[e'];omega
       ·have:=h1.1 x e';omega
     ·rw[Y1 e]
   ·split
    ·rename_i he;rw[Zea (λx hx=>by have:=h1.1 x hx;omega),Zea h1.1];by_cases e:c.1=a
     ·simp[e]
     ·rw[Y1 e,Y1 e,Y1 (by omega)]
    ·rename_i hne
     rw[Zea (λx hx=>by
      rcases Yy.1 hx with e|e
      ·rw[e];omega
      ·have:=h1.1 x e;omega)]
def normX (l:List Cell):List Cell:=l.foldl putX []
theorem ZOb (l:List Cell) (c:Cell) (a:Int):getX (l++[c]) a=if c.1=a then c.2 else getX l a:=by
 rw[getX,getX,ZdG];by_cases h:c.1=a
 ·have:flt a [c]=[c]:=by simp[flt,h]
  rw[this,List.getLast?_append];simp[h]
 ·have:flt a [c]=[]:=Zez λx hx=>by simp at hx;rw[hx];exact h
  rw[this];simp[h]
theorem Zpj:∀(l:List Cell) {m:List Cell},Vld m->Vld (l.foldl putX m)/\∀a,getX (l.foldl putX m) a=getX (m++l) a
 |[],m,h=>⟨h,λa=>by simp⟩
 |c::l,m,h=>by
  obtain⟨h1,h2⟩:=Zpj l (ZDQ (c:=c) h);refine⟨h1,λa=> ?_⟩;rw[List.foldl_cons,h2 a];have e:m++c::l=(m++[c])++l:=by simp
  rw[e];have key:∀{p q:List Cell},(∀b,getX p b=getX q b)->∀l b,getX (p++l) b=getX (q++l) b:=by
   intro p q hpq l b;simp only[getX,ZdG,List.getLast?_append];cases hl:(flt b l).getLast? with
   |none=>simpa [getX] using hpq b
   |some x=>simp
  exact key (λb=>by rw[ZDR h,ZOb]) l a
theorem Zjj (l:List Cell):Vld (normX l):=(Zpj l ⟨Yaj,λc h=>by simp at h⟩).1
theorem ZNa (l:List Cell) (a:Int):getX (normX l) a=getX l a:=(Zpj l ⟨Yaj,λc h=>by simp at h⟩).2 a
theorem ZEX (h:Vld m) (e:∀a,getX m a=getX l a):normX l=m:=ZTp (Zjj l) h λa=>by rw[ZNa,e]
theorem Zfl (h:Vld m):normX m=m:=ZEX h λ_=>rfl
theorem ZHF (l:List Cell):dd (isort l)=normX l:=
 (ZEX (ZS7 (Zb8 l)) λa=>by rw[ZS8 (Zb8 l),ZH7 (ZfO l)]).symm
end Go.Proofs.Cells
open Go Go.S3 Go.Proofs Go.Proofs.Cells
namespace Go.Proofs.YtpnjbfjomebppaaGreat
noncomputable section
abbrev ZO:=QT7
theorem ZuS (l:List Cell) (i:Nat) (h:i<l.length):l.drop i=el l i::l.drop (i+1):=by rw[Y8 h];have:=Zc1 l i h;rw[Yk h,oinj] at this;rw[this]
theorem Zzf (l:List Cell) (i:Nat) (h:i<l.length):l.take (i+1)=l.take i++[el l i]:=by rw[YaP,Zc1 l i h];rfl
theorem ZXK (l:List Cell) (i:Nat) (h:i<l.length):el l i∈l:=List.mem_iff_getElem?.2 ⟨i,Zc1 l i h⟩
def okAt (m:List Cell) (i:Nat):Bool:= !((el m i).2==0||(decide ((i:Int)>0)&&decide ((el m i).1<=(el m (i-1)).1)))
def vldB (m:List Cell):Bool:=(List.range m.length).all (okAt m)
variable {m:List Cell} {i:Nat}
theorem Zp5 (hi:i<m.length) (h:okAt m i=false):vldB m=false:=by rw[YD];intro he;have:=YW.1 he i (YaG.2 hi);rw[h] at this;exact absurd this (by simp)
theorem Zms (h:∀i,i<m.length->okAt m i=true):vldB m=true:=YW.2 λi hi=>h i (YaG.1 hi)
theorem Zg9:vldB m=true↔Vld m:=by
 constructor
 ·intro h;have ha:∀i,i<m.length->okAt m i=true:=λi hi=>YW.1 h i (YaG.2 hi)
  have hs:∀i,i+1<m.length->(el m i).1<(el m (i+1)).1:=λi hi=>by
   have:=ha (i+1) hi;simp only[okAt,YE,Yo,Yaa,Y6,Nat.add_sub_cancel] at this;rcases this.2 with e|e
   ·omega
   ·omega
  refine⟨?_,λc hc=> ?_⟩
  ·rw[YaB];have key:∀d i,i+d+1<m.length->(el m i).1<(el m (i+d+1)).1:=by
    intro d
    induction d with
    |zero=>intro i hi;exact hs i hi
    |succ d ih=>intro i hi;have h1:=ih i (by omega);have h2:=hs (i+d+1) (by omega);rw[show i+(d+1)+1=i+d+1+1 by omega];omega
   intro i j hi hj hij;have:=key (j-i-1) i (by omega);rw[show i+(j-i-1)+1=j by omega] at this;have e1:=Zc1 m i hi;have e2:=Zc1 m j hj;rw[Yk hi,oinj] at e1;rw[Yk hj,oinj] at e2;rw[e1,e2];exact this
  ·obtain⟨i,hi⟩:=List.mem_iff_getElem?.1 hc;have hlt:=(YG.1 hi).1;rw[Zc1 m i hlt,oinj] at hi;have:=ha i hlt;rw[<-hi];simp only[okAt,YE,Yo,beq_eq_false_iff_ne] at this;exact this.1
 ·intro h;refine Zms λi hi=> ?_
  simp only[okAt,YE,Yo,beq_eq_false_iff_ne,Yaa,Y6];refine⟨h.2 _ (ZXK m i hi),?_⟩;by_cases h0:i=0
  ·left;omega
  ·right;have:=YaB.1 h.1 (i-1) i (by omega) hi (by omega);have e1:=Zc1 m (i-1) (by omega);have e2:=Zc1 m i hi;rw[Yk (by omega),oinj] at e1;rw[Yk hi,oinj] at e2;rw[e1,e2] at this;omega
theorem ZWd (i:Nat) (h:0<i) (h2:i<=4611686018427387904):IntKind.wrap .i64 ((i:Int)-1)=((i-1:Nat):Int):=by rw[wrap_i64 _ (by omega) (by omega)];omega
theorem ZM7 (m:List Cell) (i:Nat):((el m i).2==0||(decide ((i:Int)>0)&&decide ((el m i).1<=(el m (i-1)).1)))= !okAt m i:=by simp only[okAt,Bool.not_not]
theorem ZHQ (m:List Cell) (hm:m.length<=most):(ZkC m).val=some (vldB m):=by
 have hms:=mst;obtain⟨r,hr,hR⟩:=ZC (fl:=true) (t:=Zeu) (fuel:=λa=>1000000000000)
  (I:=λa=>∃i:Nat,i<=m.length/\(∀k,k<i->okAt m k=true)/\a=(m,false,m,(m.length:Int),(i:Int),()))
  (m:=λa=>Int.toNat (a.2.2.2.1-a.2.2.2.2.1)) (R:=λr=>(r.1=false/\vldB m=true)\/(r.1=true/\vldB m=false/\r.2.2.1=false))
  (λa hi=>by
   obtain⟨i,hi,hk,rfl⟩:=hi;by_cases hlt:i<m.length
   ·have d:decide ((i:Int)<(m.length:Int))=true:=by simpa using hlt
    have r1:=ZaD m i hlt;have hw:decide ((i:Int)>0)=true->Zf (IntKind.wrap .i64 ((i:Int)-1)) m.length=true/\IntKind.wrap .i64 ((i:Int)-1)=((i-1:Nat):Int):=λh=>by simp only[Yj] at h;have e:=ZWd i (by omega) (by omega);exact⟨by rw[e];exact ZaD m (i-1) (by omega),e⟩
    have hck:((el m i).2==0||(!decide ((i:Int)>0)||Zf (IntKind.wrap .i64 ((i:Int)-1)) m.length))=true:=by
     cases h:decide ((i:Int)>0) with
     |false=>simp
     |true=>rw[(hw h).1];simp
    have hcd:((el m i).2==0||(decide ((i:Int)>0)&&decide ((el m i).1<=(R.get CR m (IntKind.wrap .i64 ((i:Int)-1))).1)))= !okAt m i:=by
     rw[<-ZM7];cases h:decide ((i:Int)>0) with
     |false=>simp
     |true=>rw[(hw h).2,Zc0]
    cases ho:okAt m i with
    |true=>
     left;refine⟨(m,false,m,(m.length:Int),((i+1:Nat):Int),()),?_,⟨i+1,hlt,λk hk'=> ?_,rfl⟩,by simp only;omega⟩
     ·rw[ho] at hcd;simp only[Zeu,RT.val,d,r1,Zc0,hck,hcd,Yf,Yi,Ya,Yc,ZhH i (by omega)]
     ·by_cases e:k=i
      ·subst e;exact ho
      ·exact hk k (by omega)
    |false=>
     right;right;refine⟨(m,false,m,(m.length:Int),(i:Int),()),rfl,?_,.inr ⟨rfl,Zp5 hlt ho,rfl⟩⟩;rw[ho] at hcd;simp only[Zeu,RT.val,d,r1,Zc0,hck,hcd,Yf,Ym,Yi,Ya,Yc]
   ·right;left;have d:decide ((i:Int)<(m.length:Int))=false:=by simpa using hlt
    exact⟨(m,false,m,(m.length:Int),(i:Int),()),by simp only[Zeu,RT.val,d,Yc],.inl ⟨rfl,Zms λk hk'=>hk k (by omega)⟩⟩)
  (m,false,m,(m.length:Int),0,()) ⟨0,Yu _,λk h=>by omega,rfl⟩ (by simp only;omega)
 have hr':runF true Zeu (λa=>1000000000000) (m,false,m,iN m.length,0,())=some r:=hr;rcases hR with ⟨h1,h2⟩|⟨h1,h2,h3⟩
 ·simp only[ZkC,RT.val,hr',okB,getO,Ya,h1,Yc,h2]
 ·simp only[ZkC,RT.val,hr',okB,getO,Ya,h1,h2,h3]
theorem Zqr (m:List Cell) (hm:m.length<=most):(Zkd m).val=some (vldB m):=by
 have hms:=mst;obtain⟨r,hr,hR⟩:=ZC (fl:=true) (t:=Zeg) (fuel:=λa=>1000000000000)
  (I:=λa=>∃i:Nat,i<=m.length/\(∀k,k<i->okAt m k=true)/\a=(m,false,(m.length:Int),(i:Int),()))
  (m:=λa=>Int.toNat (a.2.2.1-a.2.2.2.1)) (R:=λr=>(r.1=false/\vldB m=true)\/(r.1=true/\vldB m=false/\r.2.2.1=false))
  (λa hi=>by
   obtain⟨i,hi,hk,rfl⟩:=hi;by_cases hlt:i<m.length
   ·have d:decide ((i:Int)<(m.length:Int))=true:=by simpa using hlt
    have r1:=ZaD m i hlt;have hw:decide ((i:Int)>0)=true->Zf (IntKind.wrap .i64 ((i:Int)-1)) m.length=true/\IntKind.wrap .i64 ((i:Int)-1)=((i-1:Nat):Int):=λh=>by simp only[Yj] at h;have e:=ZWd i (by omega) (by omega);exact⟨by rw[e];exact ZaD m (i-1) (by omega),e⟩
    have hck:((el m i).2==0||(!decide ((i:Int)>0)||Zf (IntKind.wrap .i64 ((i:Int)-1)) m.length))=true:=by
     cases h:decide ((i:Int)>0) with
     |false=>simp
     |true=>rw[(hw h).1];simp
    have hcd:((el m i).2==0||(decide ((i:Int)>0)&&decide ((el m i).1<=(R.get CR m (IntKind.wrap .i64 ((i:Int)-1))).1)))= !okAt m i:=by
     rw[<-ZM7];cases h:decide ((i:Int)>0) with
     |false=>simp
     |true=>rw[(hw h).2,Zc0]
    cases ho:okAt m i with
    |true=>
     left;refine⟨(m,false,(m.length:Int),((i+1:Nat):Int),()),?_,⟨i+1,hlt,λk hk'=> ?_,rfl⟩,by simp only;omega⟩
     ·rw[ho] at hcd;simp only[Zeg,RT.val,d,r1,Zc0,hck,hcd,Yf,Yi,Yh,Ya,Yc,ZhH i (by omega)]
     ·by_cases e:k=i
      ·subst e;exact ho
      ·exact hk k (by omega)
    |false=>
     right;right;refine⟨(m,false,(m.length:Int),(i:Int),()),rfl,?_,.inr ⟨rfl,Zp5 hlt ho,rfl⟩⟩;rw[ho] at hcd;simp only[Zeg,RT.val,d,r1,Zc0,hck,hcd,Yf,Ym,Yi,Yh,Ya,Yc]
   ·right;left;have d:decide ((i:Int)<(m.length:Int))=false:=by simpa using hlt
    exact⟨(m,false,(m.length:Int),(i:Int),()),by simp only[Zeg,RT.val,d,Yc],.inl ⟨rfl,Zms λk hk'=>hk k (by omega)⟩⟩)
  (m,false,(m.length:Int),0,()) ⟨0,Yu _,λk h=>by omega,rfl⟩ (by simp only;omega)
 have hr':runF true Zeg (λa=>1000000000000) (m,false,iN m.length,0,())=some r:=hr;rcases hR with ⟨h1,h2⟩|⟨h1,h2,h3⟩
 ·simp only[Zkd,RT.val,hr',okB,getO,Ya,h1,Yc,h2]
 ·simp only[Zkd,RT.val,hr',okB,getO,Ya,h1,h2,h3]
variable {t:Int}
theorem ZVP (hi:i<m.length) (he:(el m i).1=t) (hk:∀k,i<k->k<m.length->(el m k).1≠t):getX m t=(el m i).2:=by
 have e:m=m.take i++[el m i]++m.drop (i+1):=by rw[Yp,List.singleton_append,<-ZuS m i hi,Yaf]
 have h0:flt t (m.drop (i+1))=[]:=Zez λc hc=>by obtain⟨k,h1,h2,rfl⟩:=Zjp hc;exact hk k (by omega) h2
 have h1:flt t [el m i]=[el m i]:=by simp[flt,he]
 have h2:flt t m=flt t (m.take i)++[el m i]:=by conv=>lhs;rw[e,ZdG,ZdG,h0,h1,Y0]
 rw[getX,h2,List.getLast?_append];simp
def pst (c:Cell) (s:Bool×List Cell) (x:Cell):Bool×List Cell:=
 let t:= !s.1&&decide (x.1>=c.1)
 let o:=bif t then (bif c.2 !=0 then s.2++[c] else s.2) else s.2
 (t||s.1,bif x.1 !=c.1 then o++[x] else o)
def pfin (c:Cell) (s:Bool×List Cell):List Cell:=bif !s.1&&c.2 !=0 then s.2++[c] else s.2
theorem ZDV (c:Cell):∀(m:List Cell) (o:List Cell),(∀x∈m,x.1≠c.1)->m.foldl (pst c) (true,o)=(true,o++m)
 |[],o,_=>by simp
 |x::m,o,h=>by
  have hx:(x.1 !=c.1)=true:=by simpa using h x (by simp)
  simp only[List.foldl_cons,pst,Yf,YT,Yc,Yh,hx,Ya];rw[ZDV c m (o++[x]) λy hy=>h y (YU _ hy)];simp
theorem ZKK (c:Cell):∀(m:List Cell) (o:List Cell),m.Pairwise (λa b=>a.1<b.1)->pfin c (m.foldl (pst c) (false,o))=o++putX m c
 |[],o,_=>by
  simp only[List.foldl_nil,pfin,putX,Ym,YK];by_cases h:c.2=0
  ·simp[h]
  ·have:(c.2 !=0)=true:=by simpa using h
   simp[h,this]
 |x::m,o,h=>by
  have h1:=Yx.1 h;by_cases hx:x.1<c.1
  ·have e1:decide (x.1>=c.1)=false:=by simp;omega
   have e2:(x.1 !=c.1)=true:=by simp;omega
   simp only[List.foldl_cons,pst,e1,Yab,Yc,Yt,e2,Ya];rw[ZKK c m (o++[x]) h1.2,putX,YX hx];simp
  ·have e1:decide (x.1>=c.1)=true:=by simp;omega
   have hne:∀y∈m,y.1≠c.1:=λy hy=>by have:=h1.1 y hy;omega
   simp only[List.foldl_cons,pst,e1,Ym,YQ,Ya,Yv];rw[ZDV c m _ hne,putX,Y1 hx];simp only[pfin,Yf,YT,Yc];by_cases hz:c.2=0
   ·by_cases hk:x.1=c.1
    ·simp[hz,hk]
    ·have:(x.1 !=c.1)=true:=by simpa using hk
     simp[hz,hk,this]
   ·have hz1:(c.2 !=0)=true:=by simpa using hz
    by_cases hk:x.1=c.1
    ·simp[hz,hk,hz1]
    ·have:(x.1 !=c.1)=true:=by simpa using hk
     simp[hz,hk,this,hz1]
theorem ZzX (c:Cell):∀(m:List Cell) (s:Bool×List Cell),(m.foldl (pst c) s).2.length+(bif (m.foldl (pst c) s).1 then 0 else 1)<=s.2.length+(bif s.1 then 0 else 1)+m.length
 |[],s=>by simp
 |x::m,s=>by
  rw[List.foldl_cons];have ih:=ZzX c m (pst c s x);have:(pst c s x).2.length+(bif (pst c s x).1 then 0 else 1)<=s.2.length+(bif s.1 then 0 else 1)+1:=by obtain⟨d,o⟩:=s;simp only[pst];generalize decide (x.1>=c.1)=b1;generalize (c.2 !=0)=b2;generalize (x.1 !=c.1)=b3;cases d<;>cases b1<;>cases b2<;>cases b3<;>simp<;>omega
  simp only[List.length_cons];omega
theorem ZvW (m:List Cell) (c:Cell) (hv:Vld m) (hm:m.length+1<=most):Zv6 m c=true/\ZKk m c=putX m c:=by
 have hms:=mst;obtain⟨r,hr,h1,i,hR⟩:=ZC (fl:=false) (t:=ZiS) (fuel:=λa=>1000000000000)
  (λa=>∃i:Nat,i<=m.length/\a=(((m.take i).foldl (pst c) (false,[])).1,m,(m.length:Int),(i:Int),c,((m.take i).foldl (pst c) (false,[])).2,()))
  (λa=>Int.toNat (a.2.2.1-a.2.2.2.1)) (λr=>r.1=false/\∃i:Nat,r.2=((m.foldl (pst c) (false,[])).1,m,(m.length:Int),(i:Int),c,(m.foldl (pst c) (false,[])).2,()))
  (by
   rintro a ⟨i,hi,rfl⟩;by_cases hlt:i<m.length
   ·left;have d:decide ((i:Int)<(m.length:Int))=true:=by simpa using hlt
    have r1:=ZaD m i hlt;have hl:=ZzX c (m.take i) (false,[]);have hs:(m.take (i+1)).foldl (pst c) (false,[])=pst c ((m.take i).foldl (pst c) (false,[])) (el m i):=by rw[Zzf m i hlt,YaF];rfl
    rw[YI,YaT (by omega)] at hl;refine⟨_,?_,⟨i+1,hlt,rfl⟩,by simp only;omega⟩;rw[hs];generalize (m.take i).foldl (pst c) (false,[])=s at hl|-;obtain⟨dn,o⟩:=s;simp only[List.length_nil,Yc] at hl;simp only[ZiS,RT.val,d,r1,Zc0,Ya,Yf,Yi,pst,ZhH i (by omega)];generalize decide ((el m i).1>=c.1)=b1;generalize hb2:(c.2 !=0)=b2;generalize hb3:((el m i).1 !=c.1)=b3;have l1:Nat.ble (o++[c]).length most=true\/dn=true:=by
     cases dn with
     |true=>exact .inr rfl
     |false=>left;rw[YB];simp only[Yc] at hl;simp only[Yd,List.length_singleton];omega
    have l2:Nat.ble (o++[el m i]).length most=true:=by rw[YB];simp only[Yd,List.length_singleton];cases dn<;>simp only[Ya,Yc] at hl<;>omega
    have l3:Nat.ble (o++[c]++[el m i]).length most=true\/dn=true:=by
     cases dn with
     |true=>exact .inr rfl
     |false=>left;rw[YB];simp only[Yc] at hl;simp only[Yd,List.length_singleton];omega
    cases dn with
    |true=>
     cases b3<;>simp only[l2,Yf,Ym,YT,Yv,Yi,Yh,Ya,Yc]
    |false=>
     have l1:Nat.ble (o++[c]).length most=true:=by simpa using l1
     have l3:Nat.ble (o++[c]++[el m i]).length most=true:=by simpa using l3
     cases b1<;>cases b2<;>cases b3<;>simp only[l1,l2,l3,Yf,Ym,YT,YK,Yv,Yi,Yh,Yt,YQ,Ya,Yc]
   ·right;left;have d:decide ((i:Int)<(m.length:Int))=false:=by simpa using hlt
    have e:m.take i=m:=YZ (by omega);rw[e]
    exact⟨_,by simp only[ZiS,RT.val,d,Yc],rfl,i,rfl⟩)
  (false,m,iN m.length,0,c,[],()) ⟨0,Yu _,rfl⟩ (by simp only[iN];omega)
 have hl:=ZzX c m (false,[]);have hp:=ZKK c m [] hv.1;simp only[List.nil_append] at hp;obtain⟨r1,r2⟩:=r;simp only at h1 hR;subst h1 hR;generalize m.foldl (pst c) (false,[])=s at hl hp hr;obtain⟨dn,o⟩:=s;have hb:(!(!dn&&c.2 !=0)||Nat.ble (o++[c]).length most)=true:=by
  cases dn with
  |true=>rfl
  |false=>
   have:Nat.ble (o++[c]).length most=true:=by rw[YB];simp only[Yc,List.length_nil] at hl;simp only[Yd,List.length_singleton];omega
   rw[this];simp
 have hv:(Zqx m c).val=some (putX m c):=by simp only[Zqx,RT.val,hr,okB,getO,Ya,hb,<-hp,pfin]
 exact⟨by simp only[Zv6,hv];rfl,by simp only[ZKk,hv,getO]⟩
theorem ZsD (c:Cell):∀m:List Cell,(putX m c).length<=m.length+1
 |[]=>by simp only[putX];split<;>simp
 |x::m=>by
  have:=ZsD c m;simp only[putX];repeat' split
  all_goals simp only[List.length_cons];omega
theorem Zkx (l:List Cell) (c:Cell):normX (l++[c])=putX (normX l) c:=by simp[normX,YaF]
theorem ZFt:∀(l m:List Cell),(l.foldl putX m).length<=m.length+l.length
 |[],m=>by simp
 |x::l,m=>by have:=ZFt l (putX m x);have:=ZsD x m;simp only[List.foldl_cons,List.length_cons];omega
theorem Zep (l:List Cell):(normX l).length<=l.length:=by have:=ZFt l [];simpa [normX] using this
theorem ZJU (l:List Cell) (hl:l.length+1<=most):ZKo l=true/\ZUi l=normX l:=by
 have hms:=mst;have h1:=Zqr l (by omega);have hc:Zke l=true:=by simp only[Zke,h1];rfl
 have hv0:ZmZ l=vldB l:=by simp only[ZmZ,h1,getO]
 have hv:(Zqy l).val=some (normX l):=by
  cases hb:vldB l with
  |true=>
   have e:Nat.ble l.length most=true:=by rw[YB];omega
   simp only[Zqy,RT.val,hc,hv0,hb,List.nil_append,e,Ya,Yf,Yi,Zfl (Zg9.1 hb)]
  |false=>
   obtain⟨r,hr,h1,i,hR⟩:=ZC (fl:=false) (t:=ZiT) (fuel:=λa=>1000000000000)
    (λa=>∃i:Nat,i<=l.length/\a=(normX (l.take i),l,(l.length:Int),(i:Int),()))
    (λa=>Int.toNat (a.2.2.1-a.2.2.2.1)) (λr=>r.1=false/\∃i:Nat,r.2=(normX l,l,(l.length:Int),(i:Int),()))
    (by
     rintro a ⟨i,hi,rfl⟩;by_cases hlt:i<l.length
     ·left;have d:decide ((i:Int)<(l.length:Int))=true:=by simpa using hlt
      have r1:=ZaD l i hlt;have hlen:=Zep (l.take i);rw[YI] at hlen;have hp:=ZvW (normX (l.take i)) (el l i) (Zjj _) (by omega);refine⟨_,?_,⟨i+1,hlt,rfl⟩,by simp only;omega⟩;rw[Zzf l i hlt,Zkx];simp only[ZiT,RT.val,d,r1,Zc0,hp.1,hp.2,Ya,Yh,ZhH i (by omega)]
     ·right;left;have d:decide ((i:Int)<(l.length:Int))=false:=by simpa using hlt
      have e:l.take i=l:=YZ (by omega);rw[e]
      exact⟨_,by simp only[ZiT,RT.val,d,Yc],rfl,i,rfl⟩)
    ([],l,iN l.length,0,()) ⟨0,Yu _,rfl⟩ (by simp only[iN];omega)
   obtain⟨r1,r2⟩:=r;simp only at h1 hR;subst h1 hR;simp only[Zqy,RT.val,hc,hv0,hb,hr,okB,getO,Ya,Yc,Ym,Yv]
 exact⟨by simp only[ZKo,hv];rfl,by simp only[ZUi,hv,getO]⟩
def ZCa (s:List Cell) (i:Nat):Bool:=(el s i).2 !=0&&(decide (i+1=s.length)||(el s (i+1)).1 !=(el s i).1)
theorem ZV4 (s:List Cell) (i:Nat) (h:i<s.length):dd (s.drop i)=(bif ZCa s i then [el s i] else [])++dd (s.drop (i+1)):=by
 rw[ZuS s i h];by_cases hl:i+1<s.length
 ·rw[ZuS s (i+1) hl,dd];have e:decide (i+1=s.length)=false:=by simp;omega
  simp only[ZCa,e,Yi];by_cases h1:(el s i).1=(el s (i+1)).1
  ·have:((el s (i+1)).1 !=(el s i).1)=false:=by simp[h1]
   simp only[this,Yab,Yc,List.nil_append,YX h1]
  ·have:((el s (i+1)).1 !=(el s i).1)=true:=by simpa using λe=>h1 e.symm
   simp only[this,YY,Y1 h1];by_cases h2:(el s i).2=0
   ·have:((el s i).2 !=0)=false:=by simp[h2]
    simp only[this,YX h2,Yc,List.nil_append]
   ·have:((el s i).2 !=0)=true:=by simpa using h2
    simp only[this,Y1 h2,Ya,List.singleton_append]
 ·have hn:s.drop (i+1)=[]:=Y4 (by omega);have e:decide (i+1=s.length)=true:=by simp;omega
  rw[hn];simp only[ZCa,e,Yv,YY,dd,Y0];by_cases h2:(el s i).2=0
  ·have:((el s i).2 !=0)=false:=by simp[h2]
   simp only[this,YX h2,Yc]
  ·have:((el s i).2 !=0)=true:=by simpa using h2
   simp only[this,Y1 h2,Ya]
theorem ZIS (l:List Cell) (hl:l.length<=most):ZCZ l=true/\Zzc l=isort l:=by
 have hs:ZmM l (iN l.length)=true:=by simp[ZmM,iN];omega
 have hv:(Zvy l).val=some (isort l):=by simp only[Zvy,RT.val,ZdE,hs,Ya]
 exact⟨by simp only[ZCZ,hv];rfl,by simp only[Zzc,hv,getO]⟩
theorem ZxZ (l:List Cell) (hl:l.length<=most):Zya l=true/\ZND l=normX l:=by
 have hms:=mst;have h1:=ZIS l hl;have hlen:=Zew l;generalize hs:isort l=s at hlen h1;obtain⟨r,hr,h2,i,hR⟩:=ZC (fl:=false) (t:=Zjs) (fuel:=λa=>Int.toNat (a.1-a.2.1)+1)
  (λa=>∃(i:Nat) (o:List Cell),i<=s.length/\o.length<=i/\o++dd (s.drop i)=dd s/\a=((s.length:Int),(i:Int),s,o,()))
  (λa=>Int.toNat (a.1-a.2.1)) (λr=>r.1=false/\∃i:Nat,r.2=((s.length:Int),(i:Int),s,dd s,()))
  (by
   rintro a ⟨i,o,hi,ho,hd,rfl⟩;by_cases hlt:i<s.length
   ·left;have d:decide ((i:Int)<(s.length:Int))=true:=by simpa using hlt
    have r1:=ZaD s i hlt;have w:=ZhH i (by omega);have e1:(((i+1:Nat):Int)==iN s.length)=decide (i+1=s.length):=by rw[Bool.eq_iff_iff];simp[iN];omega
    have hst:=ZV4 s i hlt;have hle:∀x:Cell,Nat.ble (o++[x]).length most=true:=λx=>by rw[YB];simp only[Yd,List.length_singleton];omega
    refine⟨((s.length:Int),((i+1:Nat):Int),s,o++(bif ZCa s i then [el s i] else []),()),?_,⟨i+1,_,hlt,?_,?_,rfl⟩,by simp only;omega⟩
    ·have e3:(!((el s i).2 !=0)||(decide (i+1=s.length)||Zf ((i+1:Nat):Int) s.length))=true:=by
      by_cases hq:i+1=s.length
      ·simp[hq]
      ·rw[ZaD s (i+1) (by omega)];simp
     have e4:((el s i).2 !=0&&(decide (i+1=s.length)||(el s (i+1)).1 !=(el s i).1))=ZCa s i:=rfl;have g1:=Zc0 s i;have g2:=Zc0 s (i+1);simp only[Zjs,RT.val,d,r1,w,g1,g2,e1,e3,e4,hle,Ya,Yf,Yi,Yh];cases ZCa s i<;>simp
    ·cases ZCa s i<;>simp only[Ya,Yc,Y0,Yd,List.length_singleton]<;>omega
    ·rw[Yp,<-hst,hd]
   ·right;left;have d:decide ((i:Int)<(s.length:Int))=false:=by simpa using hlt
    have e:s.drop i=[]:=Y4 (by omega);rw[e] at hd;simp only[dd,Y0] at hd;subst hd
    exact⟨_,by simp only[Zjs,RT.val,d,Yc],rfl,i,rfl⟩)
  (iN s.length,0,s,[],()) ⟨0,[],Yu _,by simp,by simp,rfl⟩ (by simp only[iN];omega)
 obtain⟨r1,r2⟩:=r;simp only at h2 hR;subst h2 hR;have hb:Nat.ble l.length most=true:=by rw[YB];exact hl
 have hv:(Zx9 l).val=some (normX l):=by simp only[Zx9,RT.val,hb,h1.1,h1.2,hr,okB,getO,Ya];rw[<-hs,ZHF]
 exact⟨by simp only[Zya,hv];rfl,by simp only[ZND,hv,getO]⟩
abbrev BR:R:=R.int u8
theorem get_d (l:List Int) (i:Nat):R.get BR l (i:Int)=l.getD i 0:=by simp[R.get,R.Df]
def Zo2 (t:Int) (b:List Int) (n:Nat):List Cell:=(List.range n).map λi:Nat=>(IntKind.wrap .u16 (t+IntKind.wrap .u16 (i:Int)),b.getD i 0)
theorem ZHX (t:Int) (b:List Int) (n:Nat):Zo2 t b (n+1)=Zo2 t b n++[(IntKind.wrap .u16 (t+IntKind.wrap .u16 (n:Int)),b.getD n 0)]:=by simp[Zo2,List.range_succ]
theorem Zo1 (t:Int) (b:List Int) (n:Nat):(Zo2 t b n).length=n:=by simp[Zo2]
def ZpV (t:Int) (b:List Int):List Cell:=normX (Zo2 t b b.length)
theorem ZJP (a b:List Cell) (ha:a.length<=most):ZzH a b=true/\ZKb a b=decide (a=b):=by
 have hms:=mst;have hv:(Zib a b).val=some (decide (a=b)):=by
  by_cases hl:a.length=b.length
  ·have hn:(iN a.length !=iN b.length)=false:=by simp[iN,hl]
   obtain⟨r,hr,hR⟩:=ZC (fl:=true) (t:=Zfi) (fuel:=λ_=>1000000000000)
    (λx=>∃i:Nat,i<=a.length/\(∀k,k<i->el a k=el b k)/\x=(a,b,false,(a.length:Int),(i:Int),()))
    (λx=>Int.toNat (x.2.2.2.1-x.2.2.2.2.1)) (λr=>(r.1=false/\a=b)\/(r.1=true/\a≠b/\r.2.2.2.1=false))
    (by
     rintro x ⟨i,hi,hk,rfl⟩;by_cases hlt:i<a.length
     ·have d:decide ((i:Int)<(a.length:Int))=true:=by simpa using hlt
      have r1:=ZaD a i hlt;have r2:=ZaD b i (by omega);have g1:=Zc0 a i;have g2:=Zc0 b i;by_cases he:el a i=el b i
      ·left;refine⟨(a,b,false,(a.length:Int),((i+1:Nat):Int),()),?_,⟨i+1,hlt,λk hk'=> ?_,rfl⟩,by simp only;omega⟩
       ·simp only[Zfi,RT.val,d,r1,r2,g1,g2,he,Yau,YQ,Yf,Yh,Ya,Yc,ZhH i (by omega)]
       ·by_cases e:k=i
        ·subst e;exact he
        ·exact hk k (by omega)
      ·right;right;have hne:((el a i).1==(el b i).1&&((el a i).2==(el b i).2&&true))=false:=by rw[YD];intro h;simp only[Yb,Yax,and_true] at h;exact he (Prod.ext h.1 h.2)
       refine⟨(a,b,false,(a.length:Int),(i:Int),()),rfl,?_,.inr ⟨rfl,λh=>he (by rw[h]),rfl⟩⟩;simp only[Zfi,RT.val,d,r1,r2,g1,g2,hne,Yf,Ym,Yh,Ya]
     ·right;left;have d:decide ((i:Int)<(a.length:Int))=false:=by simpa using hlt
      refine⟨_,by simp only[Zfi,RT.val,d,Yc];rfl,.inl ⟨rfl,List.ext_getElem? λk=> ?_⟩⟩;by_cases hk':k<a.length
      ·rw[Zc1 a k hk',Zc1 b k (by omega),hk k (by omega)]
      ·rw[YP (by omega),YP (by omega)])
    (a,b,false,iN a.length,0,()) ⟨0,Yu _,λk h=>by omega,rfl⟩ (by simp only[iN];omega)
   rcases hR with ⟨h1,h2⟩|⟨h1,h2,h3⟩
   ·have hd:decide (a=b)=true:=YA h2;simp only[Zib,RT.val,hn,hr,okB,getO,Ya,Yc,h1,hd]
   ·have hd:decide (a=b)=false:=YV h2;simp only[Zib,RT.val,hn,hr,okB,getO,Ya,Yc,h1,h3,hd]
  ·have hn:(iN a.length !=iN b.length)=true:=by simp only[iN,bne_iff_ne,ne_eq];omega
   have hne:a≠b:=λh=>hl (by rw[h])
   simp only[Zib,RT.val,hn,Ya,hne,decide_false]
 exact⟨by simp only[ZzH,hv];rfl,by simp only[ZKb,hv,getO]⟩
theorem ZxY (m:List Cell) (hm:m.length<=most):Zuz m=true/\ZoV m=vldB m:=by have h:=ZHQ m hm;exact⟨by simp only[Zuz,h];rfl,by simp only[ZoV,h,getO]⟩
theorem ZJL (m:List Cell) (hm:m.length<=most):Zke m=true/\ZmZ m=vldB m:=by have h:=Zqr m hm;exact⟨by simp only[Zke,h];rfl,by simp only[ZmZ,h,getO]⟩
abbrev GR:R:=R.Pq (R.int u16) (R.Pq (R.int u16) (R.Pq R.bool (R.int i64)))
def hitB (t:Int) (r:ZO):Bool:=decide (r.1<=t)&&decide (t<=r.2.1)
def ZcC (l:List ZO) (t:Int):Int:=if l.findIdx (hitB t)<l.length then (l.findIdx (hitB t):Int) else-1
def rg (l:List ZO) (i:Nat):ZO:=l.getD i (0,0,false,0)
theorem ZS2 (l:List ZO) (i:Nat):R.get GR l (i:Int)=rg l i:=by simp[R.get,R.Df,rg]
theorem ZvY (l:List ZO) (i:Nat) (h:i<l.length):l[i]=rg l i:=by simp[rg,h]
theorem ZVT {l:List ZO} (hi:i<l.length) (h:hitB t (rg l i)=true) (hk:∀k,k<i->hitB t (rg l k)=false):ZcC l t=i:=by have:l.findIdx (hitB t)=i:=(List.findIdx_eq hi).2 ⟨by rw[ZvY l i hi];exact h,λj hj=>by rw[ZvY l j (by omega)];exact hk j hj⟩;simp only[ZcC,this,hi,if_true]
theorem ZVS {l:List ZO} (hk:∀k,k<l.length->hitB t (rg l k)=false):ZcC l t= -1:=by
 have:¬l.findIdx (hitB t)<l.length:=by rw[List.findIdx_lt_length];rintro⟨x,hx,hp⟩;obtain⟨i,hi,rfl⟩:=YaI.1 hx;rw[ZvY l i hi,hk i hi] at hp;exact absurd hp (by simp)
 simp only[ZcC,this,if_false]
theorem ZJV (l:List ZO) (t:Int) (hl:l.length<=most):ZKv l t=true/\ZUk l t=ZcC l t:=by
 have hms:=mst;obtain⟨r,hr,hR⟩:=ZC (fl:=true) (t:=ZiU) (fuel:=λ_=>1000000000000)
  (λx=>∃i:Nat,i<=l.length/\(∀k,k<i->hitB t (rg l k)=false)/\x=(t,0,l,(l.length:Int),(i:Int),()))
  (λx=>Int.toNat (x.2.2.2.1-x.2.2.2.2.1)) (λr=>(r.1=false/\ZcC l t= -1)\/(r.1=true/\r.2.2.1=ZcC l t))
  (by
   rintro x ⟨i,hi,hk,rfl⟩;by_cases hlt:i<l.length
   ·have d:decide ((i:Int)<(l.length:Int))=true:=by simpa using hlt
    have r1:=ZaD l i hlt;have g1:=ZS2 l i;cases hh:hitB t (rg l i) with
    |false=>
     left;refine⟨(t,0,l,(l.length:Int),((i+1:Nat):Int),()),?_,⟨i+1,hlt,λk hk'=> ?_,rfl⟩,by simp only;omega⟩
     ·simp only[hitB] at hh;simp only[ZiU,RT.val,d,r1,g1,hh,Ya,Yc,ZhH i (by omega)]
     ·by_cases e:k=i
      ·subst e;exact hh
      ·exact hk k (by omega)
    |true=>
     right;right;refine⟨(t,(i:Int),l,(l.length:Int),(i:Int),()),rfl,?_,.inr ⟨rfl,(ZVT hlt hh hk).symm⟩⟩;simp only[hitB] at hh;simp only[ZiU,RT.val,d,r1,g1,hh,Ya]
   ·right;left;have d:decide ((i:Int)<(l.length:Int))=false:=by simpa using hlt
    exact⟨_,by simp only[ZiU,RT.val,d,Yc];rfl,.inl ⟨rfl,ZVS λk h=>hk k (by omega)⟩⟩)
  (t,0,l,iN l.length,0,()) ⟨0,Yu _,λk h=>by omega,rfl⟩ (by simp only[iN];omega)
 have hv:(ZqB l t).val=some (ZcC l t):=by
  rcases hR with ⟨h1,h2⟩|⟨h1,h2⟩
  ·simp only[ZqB,RT.val,hr,okB,getO,Ya,h1,Yc,h2]
  ·simp only[ZqB,RT.val,hr,okB,getO,Ya,h1,h2]
 exact⟨by simp only[ZKv,hv];rfl,by simp only[ZUk,hv,getO]⟩
theorem Znn (l:List ZO) (t:Int) (hl:l.length<=most):Zxw l t=true/\ZpR l t=ZcC l t:=by have h:=ZJV l t hl;have e:ZEH l t=ZqB l t:=rfl;simp only[ZKv,ZUk,<-e] at h;exact h
def Zgw (l:List ZO) (m:List Cell) (t:Int):Int:=bif decide (ZcC l t<0) then 255 else getX m t
end
end Go.Proofs.YtpnjbfjomebppaaGreat
