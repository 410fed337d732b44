import Derived.Test.YtghoimllhpjkjaaGreatS3D
import Derived.Test.YtghoimllhpjkjaaGreatProg
import Derived.Test.YtghoimllhpjkjaaGreatCloneC
import Derived.Test.YtghoimllhpjkjaaGreatSortA
open Go.Proofs.Tryz (prog)
open Go.IntKind (u8 u16 i64)
set_option linter.unusedSimpArgs false
open Go Go.S3 Go.Proofs
set_option linter.unusedVariables false
set_option maxRecDepth 100000
namespace Go.Proofs.YtghoimllhpjkjaaGreat
noncomputable section
abbrev Zmi:R:=R.pair (R.int u16) (R.int u8)
abbrev Zmj:Nat:=106
abbrev ZMy:List Sh:=[]
def Zw1 (s:List (Int×Int)):RT (Option (List (Int×Int))):=
 .br (Zmq (Stg.l (Zdr Zmi Zmj s)) (iN (List.length (Stg.l (Zdr Zmi Zmj s))))) (.leaf (some (Cells.isort (Stg.l (Zdr Zmi Zmj s))))) (.leaf none)
def Zz6 (s:List (Int×Int)):List (Int×Int):=getO [] (Zw1 s).val
def ZE1 (s:List (Int×Int)):Bool:=okB (Zw1 s).val
def ZMz:Entry:=stE Zmi Zmj 185 ZMy (λa=>some (ZE1 a.1)) (λa=>Zz6 a.1)
theorem ZE0:Za prog 184 ZMz:=
 Zmr (P:=prog) (n:=15) (k:=8) (l:=[(243,ZMx),(185,ZbM)]) (ol:=[]) ⟨ZMw,ZaC,Tv⟩ Tryz.func184 rfl (by kernel_rfl) Tryz.call184 trivial (r:=Zmi) (T:=Zmj) (g0:=185) (ts:=ZMy) (t:=λa=>Zw1 a.1) (λa=>by kernel_rfl)
abbrev ZDG:List Sh:=[Sh.one rcCE]
abbrev ZvS:Rs:=Rs.one (Sh.one rcCE)
def ZUF:LS:={n:=45,slots:=[(3,.tip 0),(4,.tip 1),(11,.tip 0),(12,.code (Sh.one (R.int i64))),(13,.code (Sh.one (R.int i64)))],boxes:=[],stgs:=[⟨R.pair (R.int u16) (R.int u8),106,true⟩,⟨(R.pair (R.int u16) (R.int u8)),106,true⟩]}
def Zjd (a:QT25):RT (Option (Go1 (QT25))):=
 let x1:=(R.get (R.pair (R.int u16) (R.int u8)) a.2.2.1 a.2.1).2 !=0
 let x2:=i64.wrap (a.2.1+1)==iN (List.length a.2.2.1)
 let x3:= !x1||(x2||Zf (i64.wrap (a.2.1+1)) (List.length a.2.2.1))
 let x4:=x1&&(x2||(R.get (R.pair (R.int u16) (R.int u8)) a.2.2.1 (i64.wrap (a.2.1+1))).1 !=(R.get (R.pair (R.int u16) (R.int u8)) a.2.2.1 a.2.1).1)
 let x5:List (Int×Int):=a.2.2.2.1++[R.get (R.pair (R.int u16) (R.int u8)) a.2.2.1 a.2.1]
 .br (decide (a.2.1<a.1)) (.br (!Zf a.2.1 (List.length a.2.2.1)||(!x3||(!x4||Nat.ble (List.length x5) most))) (.br (!Zf a.2.1 (List.length a.2.2.1)||x3) (.br (Zf a.2.1 (List.length a.2.2.1)) (.leaf (some (Go1.cont (a.1,i64.wrap (a.2.1+1),a.2.2.1,bif x4 then x5 else a.2.2.2.1,PUnit.unit)))) (.leaf none)) (.leaf none)) (.leaf none)) (.leaf (some (Go1.brk (a.1,a.2.1,a.2.2.1,a.2.2.2.1,PUnit.unit))))
def ZHi:Ora:=Za5 false ZUF Zjd (λa=>(a.1-a.2.1).toNat+1)
theorem ZKL:ZaJ (envX prog [(183,Zwh),(184,ZMz),(185,ZbM)] [] 127 8) (.block 0 (.loop (Z6 Tryz.f117.body 0))) ZHi:=
 loopP ⟨ZpU,ZE0,ZaC,Tv⟩
def ZyO (l:List (Int×Int)):RT (Option (List (Int×Int))):=
 let x1:=runF false Zjd (λa=>Int.toNat (a.1-a.2.1)+1) (iN (List.length (Zz6 l)),0,Zz6 l,[],())
 .br (Nat.ble (List.length l) most) (.br (ZE1 l) (.br (okB x1) (.leaf (some (getO (false,iN (List.length (Zz6 l)),0,Zz6 l,[],()) x1).2.2.2.2.1)) (.leaf none)) (.leaf none)) (.leaf none)
def ZRh (l:List (Int×Int)):List (Int×Int):=getO ZvS.dflt (ZyO l).val
def ZyP (l:List (Int×Int)):Bool:=okB (ZyO l).val
def ZRg:Entry:=Zg ZDG ZvS (λa=>some (ZyP a)) (λa=>ZRh a)
theorem ZvR:Za prog 117 ZRg:=
 pureP 127 [(183,Zwh),(184,ZMz),(185,ZbM)] [(0,ZHi)] ZDG ZvS ⟨ZpU,ZE0,ZaC,Tv⟩ Tryz.func117 Tryz.call117 ⟨ZKL,Tv⟩ (t:=λa=>ZyO a)
abbrev ZHc:List Sh:=[Sh.one rcCE]
abbrev ZvM:Rs:=Rs.one (Sh.one R.bool)
def ZQ9:LS:={n:=31,slots:=[(0,.code (Sh.one rcCE)),(2,.code (Sh.one R.bool)),(5,.code (Sh.one rcCE)),(6,.code (Sh.one (R.int i64))),(7,.code (Sh.one (R.int i64)))],boxes:=[],stgs:=[]}
def Zei (a:List (Int×Int)×Bool×List (Int×Int)×Int×Int×PUnit):RT (Option (Go1 (List (Int×Int)×Bool×List (Int×Int)×Int×Int×PUnit))):=
 let x1:Int×Int:=R.get (R.pair (R.int u16) (R.int u8)) a.2.2.1 a.2.2.2.2.1
 let x2:=x1.2==0
 let x3:List (Int×Int)×Int×Int×PUnit:=(a.2.2.1,a.2.2.2.1,a.2.2.2.2.1,PUnit.unit)
 .br (decide (a.2.2.2.2.1<a.2.2.2.1)) (.br (!Zf a.2.2.2.2.1 (List.length a.2.2.1)||(x2||(!decide (a.2.2.2.2.1>0)||Zf (i64.wrap (a.2.2.2.2.1-1)) (List.length a.1)))) (.br (Zf a.2.2.2.2.1 (List.length a.2.2.1)) (.br (x2||decide (a.2.2.2.2.1>0)&&decide (x1.1<=(R.get (R.pair (R.int u16) (R.int u8)) a.1 (i64.wrap (a.2.2.2.2.1-1))).1)) (.leaf (some (Go1.ret (a.1,false,x3)))) (.leaf (some (Go1.cont (a.1,a.2.1,a.2.2.1,a.2.2.2.1,i64.wrap (a.2.2.2.2.1+1),PUnit.unit))))) (.leaf none)) (.leaf none)) (.leaf (some (Go1.brk (a.1,a.2.1,x3))))
def ZyN:Ora:=Za5 true ZQ9 Zei (λa=>1000000000000)
theorem ZDF:ZaJ (envX prog [] [] 31 8) (.block 0 (.loop (Z6 Tryz.f294.body 0))) ZyN:=
 loopP trivial
def Zkh (m:List (Int×Int)):RT (Option (Bool)):=
 let x1:=runF true Zei (λa=>1000000000000) (m,false,m,iN (List.length m),0,())
 let x2:=getO (false,m,false,m,iN (List.length m),0,()) x1
 .br (okB x1) (.br x2.1 (.leaf (some x2.2.2.1)) (.leaf (some (true)))) (.leaf none)
def Zpc (m:List (Int×Int)):Bool:=getO ZvM.dflt (Zkh m).val
def ZvN (m:List (Int×Int)):Bool:=okB (Zkh m).val
def ZRa:Entry:=Zg ZHc ZvM (λa=>some (ZvN a)) (λa=>Zpc a)
theorem ZQ8:Za prog 294 ZRa:=
 pureP 31 [] [(0,ZyN)] ZHc ZvM trivial Tryz.func294 Tryz.call294 ⟨ZDF,Tv⟩ (t:=λa=>Zkh a)
abbrev ZsV:List Sh:=[Sh.one rcCE]
abbrev Zlr:Rs:=Rs.one (Sh.one R.bool)
def ZNy:LS:={n:=34,slots:=[(0,.code (Sh.one rcCE)),(2,.code (Sh.one R.bool)),(5,.code (Sh.one (R.int i64))),(6,.code (Sh.one (R.int i64)))],boxes:=[],stgs:=[]}
def Zd6 (a:List (Int×Int)×Bool×Int×Int×PUnit):RT (Option (Go1 (List (Int×Int)×Bool×Int×Int×PUnit))):=
 let x1:=(R.get (R.pair (R.int u16) (R.int u8)) a.1 a.2.2.2.1).2==0
 let x2:= !Zf a.2.2.2.1 (List.length a.1)||(x1||(!decide (a.2.2.2.1>0)||(!Zf a.2.2.2.1 (List.length a.1)||Zf (i64.wrap (a.2.2.2.1-1)) (List.length a.1))))
 let x3:= !x2
 let x4:= !Zf a.2.2.2.1 (List.length a.1)||(x1||(!decide (a.2.2.2.1>0)||Zf a.2.2.2.1 (List.length a.1)))
 .br (decide (a.2.2.2.1<a.2.2.1)) (.br (x3||(!x4||Zf a.2.2.2.1 (List.length a.1))) (.br (x3||x4) (.br (x2) (.br (x1||decide (a.2.2.2.1>0)&&decide ((R.get (R.pair (R.int u16) (R.int u8)) a.1 a.2.2.2.1).1<=(R.get (R.pair (R.int u16) (R.int u8)) a.1 (i64.wrap (a.2.2.2.1-1))).1)) (.leaf (some (Go1.ret (a.1,false,a.2.2.1,a.2.2.2.1,PUnit.unit)))) (.leaf (some (Go1.cont (a.1,a.2.1,a.2.2.1,i64.wrap (a.2.2.2.1+1),PUnit.unit))))) (.leaf none)) (.leaf none)) (.leaf none)) (.leaf (some (Go1.brk (a.1,a.2.1,a.2.2.1,a.2.2.2.1,PUnit.unit))))
def Zxs:Ora:=Za5 true ZNy Zd6 (λa=>1000000000000)
theorem ZAw:ZaJ (envX prog [] [] 15 8) (.block 0 (.loop (Z6 Tryz.f44.body 0))) Zxs:=
 loopP trivial
def ZjU (m:List (Int×Int)):RT (Option (Bool)):=
 let x1:=runF true Zd6 (λa=>1000000000000) (m,false,iN (List.length m),0,())
 let x2:=getO (false,m,false,iN (List.length m),0,()) x1
 .br (okB x1) (.br x2.1 (.leaf (some x2.2.2.1)) (.leaf (some (true)))) (.leaf none)
def ZmI (m:List (Int×Int)):Bool:=getO Zlr.dflt (ZjU m).val
def ZjV (m:List (Int×Int)):Bool:=okB (ZjU m).val
def ZAx:Entry:=Zg ZsV Zlr (λa=>some (ZjV a)) (λa=>ZmI a)
theorem ZmG:Za prog 44 ZAx:=
 pureP 15 [] [(0,Zxs)] ZsV Zlr trivial Tryz.func44 Tryz.call44 ⟨ZAw,Tv⟩ (t:=λa=>ZjU a)
abbrev ZOr:List Sh:=[Sh.one rcCE,Sh.one (R.int u16)]
abbrev ZBD:Rs:=Rs.one (Sh.one (R.int u8))
def ZTI:LS:={n:=25,slots:=[(0,.code (Sh.one rcCE)),(1,.code (Sh.one (R.int u16))),(4,.code (Sh.one (R.int u8))),(5,.code (Sh.one (R.int i64)))],boxes:=[],stgs:=[]}
def Zg4 (a:List (Int×Int)×Int×Int×Int×PUnit):RT (Option (Go1 (List (Int×Int)×Int×Int×Int×PUnit))):=
 let x1:=(R.get (R.pair (R.int u16) (R.int u8)) a.1 a.2.2.2.1).1==a.2.1
 .br (decide (a.2.2.2.1>=0)) (.br (!Zf a.2.2.2.1 (List.length a.1)||(!x1||Zf a.2.2.2.1 (List.length a.1))) (.br (Zf a.2.2.2.1 (List.length a.1)) (.br (x1) (.leaf (some (Go1.ret (a.1,a.2.1,(R.get (R.pair (R.int u16) (R.int u8)) a.1 a.2.2.2.1).2,a.2.2.2.1,PUnit.unit)))) (.leaf (some (Go1.cont (a.1,a.2.1,a.2.2.1,i64.wrap (a.2.2.2.1-1),PUnit.unit))))) (.leaf none)) (.leaf none)) (.leaf (some (Go1.brk (a.1,a.2.1,a.2.2.1,a.2.2.2.1,PUnit.unit))))
def ZF2:Ora:=Za5 true ZTI Zg4 (λa=>1000000000000)
theorem ZIF:ZaJ (envX prog [] [] 63 8) (.block 0 (.loop (Z6 Tryz.f35.body 0))) ZF2:=
 loopP trivial
def Zrg (m:List (Int×Int)) (t:Int):RT (Option (Int)):=
 let x1:List (Int×Int)×Int×Int×Int×PUnit:=(m,t,0,i64.wrap (iN (List.length m)-1),())
 let x2:=runF true Zg4 (λa=>1000000000000) x1
 let x3:=getO (false,x1) x2
 .br (okB x2) (.br x3.1 (.leaf (some x3.2.2.2.1)) (.leaf (some (0)))) (.leaf none)
def ZTJ (m:List (Int×Int)) (t:Int):Int:=getO ZBD.dflt (Zrg m t).val
def ZF3 (m:List (Int×Int)) (t:Int):Bool:=okB (Zrg m t).val
def ZWf:Entry:=Zg ZOr ZBD (λa=>some (ZF3 a.1 a.2)) (λa=>ZTJ a.1 a.2)
theorem ZTH:Za prog 35 ZWf:=
 pureP 63 [] [(0,ZF2)] ZOr ZBD trivial Tryz.func35 Tryz.call35 ⟨ZIF,Tv⟩ (t:=λa=>Zrg a.1 a.2)
abbrev ZNT:List Sh:=[Sh.one rcCE,Sh.agg (R.pair (R.int u16) (R.int u8))]
abbrev ZAM:Rs:=Rs.one (Sh.one rcCE)
def ZTw:LS:={n:=53,slots:=[(3,.fix (A.loc 0 0)),(5,.tip 0),(6,.code (Sh.one R.bool)),(9,.code (Sh.one rcCE)),(10,.code (Sh.one (R.int i64))),(11,.code (Sh.one (R.int i64)))],boxes:=[[.many (R.pair (R.int u16) (R.int u8))]],stgs:=[⟨(R.pair (R.int u16) (R.int u8)),106,true⟩]}
def ZiK (a:QT9):RT (Option (Go1 (QT9))):=
 let x1:Int×Int:=R.get (R.pair (R.int u16) (R.int u8)) a.2.1 a.2.2.2.1
 let x2:=x1.1
 let x3:= !a.1&&decide (x2>=a.2.2.2.2.1.1)
 let x4:List (Int×Int):=a.2.2.2.2.2.1++[a.2.2.2.2.1]
 let x5:= !x3||(!a.2.2.2.2.1.2 !=0||Nat.ble (List.length x4) most)
 let x6:=x2 !=a.2.2.2.2.1.1
 let x7:List (Int×Int):=bif x3 then bif a.2.2.2.2.1.2 !=0 then x4 else a.2.2.2.2.2.1 else a.2.2.2.2.2.1
 let x8:List (Int×Int):=x7++[x1]
 .br (decide (a.2.2.2.1<a.2.2.1)) (.br (!Zf a.2.2.2.1 (List.length a.2.1)||(!x5||(!x6||Nat.ble (List.length x8) most))) (.br (!Zf a.2.2.2.1 (List.length a.2.1)||x5) (.br (Zf a.2.2.2.1 (List.length a.2.1)) (.leaf (some (Go1.cont (x3||a.1,a.2.1,a.2.2.1,i64.wrap (a.2.2.2.1+1),a.2.2.2.2.1,bif x6 then x8 else x7,PUnit.unit)))) (.leaf none)) (.leaf none)) (.leaf none)) (.leaf (some (Go1.brk (a.1,a.2.1,a.2.2.1,a.2.2.2.1,a.2.2.2.2.1,a.2.2.2.2.2.1,PUnit.unit))))
def ZFI:Ora:=Za5 false ZTw ZiK (λa=>1000000000000)
theorem ZIo:ZaJ (envX prog [] [] 511 8) (.block 0 (.loop (Z6 Tryz.f149.body 0))) ZFI:=
 loopP trivial
def Zq8 (m:List (Int×Int)) (c:Int×Int):RT (Option (List (Int×Int))):=
 let x1:QT9:=(false,m,iN (List.length m),0,c,[],())
 let x2:=runF false ZiK (λa=>1000000000000) x1
 let x3:QT9:=(getO (false,x1) x2).2
 let x4:=x3.2.2.2.2
 let x5:=x4.1
 let x6:= !x3.1&&x5.2 !=0
 let x7:=x4.2.1
 let x8:List (Int×Int):=x7++[x5]
 .br (okB x2) (.br (!x6||Nat.ble (List.length x8) most) (.leaf (some (bif x6 then x8 else x7))) (.leaf none)) (.leaf none)
def ZIp (m:List (Int×Int)) (c:Int×Int):List (Int×Int):=getO ZAM.dflt (Zq8 m c).val
def Zq9 (m:List (Int×Int)) (c:Int×Int):Bool:=okB (Zq8 m c).val
def ZFJ:Entry:=Zg ZNT ZAM (λa=>some (Zq9 a.1 a.2)) (λa=>ZIp a.1 a.2)
theorem Zs8:Za prog 149 ZFJ:=
 pureP 511 [] [(0,ZFI)] ZNT ZAM trivial Tryz.func149 Tryz.call149 ⟨ZIo,Tv⟩ (t:=λa=>Zq8 a.1 a.2)
abbrev ZAS:List Sh:=[Sh.one rcCE]
abbrev Ztd:Rs:=Rs.one (Sh.one rcCE)
def ZTE:LS:={n:=21,slots:=[(3,.code (Sh.one rcCE)),(10,.code (Sh.one rcCE)),(11,.code (Sh.one (R.int i64))),(12,.code (Sh.one (R.int i64)))],boxes:=[],stgs:=[]}
def ZiM (a:List (Int×Int)×List (Int×Int)×Int×Int×PUnit):RT (Option (Go1 (List (Int×Int)×List (Int×Int)×Int×Int×PUnit))):=
 let x1:Int×Int:=R.get (R.pair (R.int u16) (R.int u8)) a.2.1 a.2.2.2.1
 .br (decide (a.2.2.2.1<a.2.2.1)) (.br (!Zf a.2.2.2.1 (List.length a.2.1)||Zq9 a.1 x1) (.br (Zf a.2.2.2.1 (List.length a.2.1)) (.leaf (some (Go1.cont (ZIp a.1 x1,a.2.1,a.2.2.1,i64.wrap (a.2.2.2.1+1),PUnit.unit)))) (.leaf none)) (.leaf none)) (.leaf (some (Go1.brk (a.1,a.2.1,a.2.2.1,a.2.2.2.1,PUnit.unit))))
def ZFR:Ora:=Za5 false ZTE ZiM (λa=>1000000000000)
theorem ZIr:ZaJ (envX prog [(44,ZAx),(149,ZFJ)] [] 63 8) (.block 0 (.loop (Z6 Tryz.f92.body 0))) ZFR:=
 loopP ⟨ZmG,Zs8,Tv⟩
def Zrd (l:List (Int×Int)):RT (Option (List (Int×Int))):=
 let x1:=runF false ZiM (λa=>1000000000000) ([],l,iN (List.length l),0,())
 .br (ZjV l) (.br (!ZmI l||Nat.ble (List.length ([]++l)) most) (.br (ZmI l) (.leaf (some ([]++l))) (.br (okB x1) (.leaf (some (getO (false,[],l,iN (List.length l),0,()) x1).2.1)) (.leaf none))) (.leaf none)) (.leaf none)
def ZIs (l:List (Int×Int)):List (Int×Int):=getO Ztd.dflt (Zrd l).val
def Zre (l:List (Int×Int)):Bool:=okB (Zrd l).val
def ZOc:Entry:=Zg ZAS Ztd (λa=>some (Zre a)) (λa=>ZIs a)
theorem Ztc:Za prog 92 ZOc:=
 pureP 63 [(44,ZAx),(149,ZFJ)] [(0,ZFR)] ZAS Ztd ⟨ZmG,Zs8,Tv⟩ Tryz.func92 Tryz.call92 ⟨ZIr,Tv⟩ (t:=λa=>Zrd a)
abbrev ZNS:List Sh:=[Sh.one rcCE,Sh.one (R.int u16),Sh.one (R.int u8)]
abbrev ZAL:Rs:=Rs.one (Sh.one rcCE)
def ZxI (m:List (Int×Int)) (t:Int) (v:Int):RT (Option (List (Int×Int))):=
 .br (!Zre m||Zq9 (ZIs m) (t,v)) (.br (Zre m) (.leaf (some (ZIp (ZIs m) (t,v)))) (.leaf none)) (.leaf none)
def ZTv (m:List (Int×Int)) (t:Int) (v:Int):List (Int×Int):=getO ZAL.dflt (ZxI m t v).val
def ZFH (m:List (Int×Int)) (t:Int) (v:Int):Bool:=okB (ZxI m t v).val
def ZVY:Entry:=Zg ZNS ZAL (λa=>some (ZFH a.1 a.2.1 a.2.2)) (λa=>ZTv a.1 a.2.1 a.2.2)
theorem ZTu:Za prog 161 ZVY:=
 pureP 127 [(92,ZOc),(149,ZFJ)] [] ZNS ZAL ⟨Ztc,Zs8,Tv⟩ Tryz.func161 Tryz.call161 trivial (t:=λa=>ZxI a.1 a.2.1 a.2.2)
abbrev Zs2:List Sh:=[Sh.one rcCE,Sh.one rcCE]
abbrev Zlv:Rs:=Rs.one (Sh.one R.bool)
def ZND:LS:={n:=26,slots:=[(0,.code (Sh.one rcCE)),(1,.code (Sh.one rcCE)),(4,.code (Sh.one R.bool)),(12,.code (Sh.one (R.int i64))),(13,.code (Sh.one (R.int i64)))],boxes:=[],stgs:=[]}
def ZeV (a:List (Int×Int)×List (Int×Int)×Bool×Int×Int×PUnit):RT (Option (Go1 (List (Int×Int)×List (Int×Int)×Bool×Int×Int×PUnit))):=
 let x1:= !Zf a.2.2.2.2.1 (List.length a.1)||Zf a.2.2.2.2.1 (List.length a.2.1)
 let x2:Int×Int:=R.get (R.pair (R.int u16) (R.int u8)) a.1 a.2.2.2.2.1
 let x3:Int×Int:=R.get (R.pair (R.int u16) (R.int u8)) a.2.1 a.2.2.2.2.1
 let x4:Int×Int×PUnit:=(a.2.2.2.1,a.2.2.2.2.1,PUnit.unit)
 .br (decide (a.2.2.2.2.1<a.2.2.2.1)) (.br (!x1||Zf a.2.2.2.2.1 (List.length a.1)) (.br (x1) (.br (!(x2.1==x3.1&&(x2.2==x3.2&&true))) (.leaf (some (Go1.ret (a.1,a.2.1,false,x4)))) (.leaf (some (Go1.cont (a.1,a.2.1,a.2.2.1,a.2.2.2.1,i64.wrap (a.2.2.2.2.1+1),PUnit.unit))))) (.leaf none)) (.leaf none)) (.leaf (some (Go1.brk (a.1,a.2.1,a.2.2.1,x4))))
def ZxF:Ora:=Za5 true ZND ZeV (λa=>1000000000000)
theorem ZAD:ZaJ (envX prog [] [] 63 8) (.block 0 (.loop (Z6 Tryz.f39.body 0))) ZxF:=
 loopP trivial
def ZhS (a:List (Int×Int)) (b:List (Int×Int)):RT (Option (Bool)):=
 let x1:=runF true ZeV (λa_1=>1000000000000) (a,b,false,iN (List.length a),0,())
 let x2:=getO (false,a,b,false,iN (List.length a),0,()) x1
 .br (iN (List.length a) !=iN (List.length b)) (.leaf (some (false))) (.br (okB x1) (.br x2.1 (.leaf (some x2.2.2.2.1)) (.leaf (some (true)))) (.leaf none))
def ZNE (a:List (Int×Int)) (b:List (Int×Int)):Bool:=getO Zlv.dflt (ZhS a b).val
def ZAE (a:List (Int×Int)) (b:List (Int×Int)):Bool:=okB (ZhS a b).val
def ZX7:Entry:=Zg Zs2 Zlv (λa=>some (ZAE a.1 a.2)) (λa=>ZNE a.1 a.2)
theorem ZNC:Za prog 39 ZX7:=
 pureP 63 [] [(0,ZxF)] Zs2 Zlv trivial Tryz.func39 Tryz.call39 ⟨ZAD,Tv⟩ (t:=λa=>ZhS a.1 a.2)
abbrev ZOs:List Sh:=[Sh.one rcRG,Sh.one (R.int u16)]
abbrev ZBH:Rs:=Rs.one (Sh.one (R.int i64))
def ZTK:LS:={n:=26,slots:=[(1,.code (Sh.one (R.int u16))),(4,.code (Sh.one (R.int i64))),(7,.code (Sh.one rcRG)),(8,.code (Sh.one (R.int i64))),(9,.code (Sh.one (R.int i64)))],boxes:=[],stgs:=[]}
def Zg5 (a:QT15):RT (Option (Go1 (QT15))):=
 let x1:QT4:=R.get (R.pair (R.int u16) (R.pair (R.int u16) (R.pair R.bool (R.int i64)))) a.2.2.1 a.2.2.2.2.1
 let x2:List (QT4)×Int×Int×PUnit:=(a.2.2.1,a.2.2.2.1,a.2.2.2.2.1,PUnit.unit)
 .br (decide (a.2.2.2.2.1<a.2.2.2.1)) (.br (Zf a.2.2.2.2.1 (List.length a.2.2.1)) (.br (decide (x1.1<=a.1)&&decide (a.1<=x1.2.1)) (.leaf (some (Go1.ret (a.1,a.2.2.2.2.1,x2)))) (.leaf (some (Go1.cont (a.1,a.2.1,a.2.2.1,a.2.2.2.1,i64.wrap (a.2.2.2.2.1+1),PUnit.unit))))) (.leaf none)) (.leaf (some (Go1.brk (a.1,a.2.1,x2))))
def ZF6:Ora:=Za5 true ZTK Zg5 (λa=>1000000000000)
theorem ZIG:ZaJ (envX prog [] [] 127 8) (.block 0 (.loop (Z6 Tryz.f43.body 0))) ZF6:=
 loopP trivial
def ZnE (l:List (QT4)) (t:Int):RT (Option (Int)):=
 let x1:=runF true Zg5 (λa=>1000000000000) (t,0,l,iN (List.length l),0,())
 let x2:=getO (false,t,0,l,iN (List.length l),0,()) x1
 .br (okB x1) (.br x2.1 (.leaf (some x2.2.2.1)) (.leaf (some (-1)))) (.leaf none)
def Zj0 (l:List (QT4)) (t:Int):Int:=getO ZBH.dflt (ZnE l t).val
def ZnF (l:List (QT4)) (t:Int):Bool:=okB (ZnE l t).val
def ZF7:Entry:=Zg ZOs ZBH (λa=>some (ZnF a.1 a.2)) (λa=>Zj0 a.1 a.2)
theorem Ztu:Za prog 43 ZF7:=
 pureP 127 [] [(0,ZF6)] ZOs ZBH trivial Tryz.func43 Tryz.call43 ⟨ZIG,Tv⟩ (t:=λa=>ZnE a.1 a.2)
abbrev Zs4:List Sh:=[Sh.one rcRG,Sh.one rcCE,Sh.one (R.int u16)]
abbrev Zlw:Rs:=Rs.one (Sh.one (R.int u8))
def ZmP (l:List (QT4)) (m:List (Int×Int)) (t:Int):RT (Option (Int)):=
 .br (ZnF l t) (.br (decide (Zj0 l t<0)) (.leaf (some (255))) (.br (ZF3 m t) (.leaf (some (ZTJ m t))) (.leaf none))) (.leaf none)
def ZNM (l:List (QT4)) (m:List (Int×Int)) (t:Int):Int:=getO Zlw.dflt (ZmP l m t).val
def ZAH (l:List (QT4)) (m:List (Int×Int)) (t:Int):Bool:=okB (ZmP l m t).val
def ZYc:Entry:=Zg Zs4 Zlw (λa=>some (ZAH a.1 a.2.1 a.2.2)) (λa=>ZNM a.1 a.2.1 a.2.2)
theorem ZNL:Za prog 102 ZYc:=
 pureP 127 [(35,ZWf),(43,ZF7)] [] Zs4 Zlw ⟨ZTH,Ztu,Tv⟩ Tryz.func102 Tryz.call102 trivial (t:=λa=>ZmP a.1 a.2.1 a.2.2)
abbrev ZmC:List Sh:=[Sh.one rcRG,Sh.one rcCE,Sh.one (R.int u16),Sh.one (R.int u8)]
abbrev ZiE:Rs:=Rs.one (Sh.one rcCE)
def ZiD (l:List (QT4)) (m:List (Int×Int)) (t:Int) (v:Int):RT (Option (List (Int×Int))):=
 let x1:=decide (Zj0 l t>=0)&&(R.get (R.pair (R.int u16) (R.pair (R.int u16) (R.pair R.bool (R.int i64)))) l (Zj0 l t)).2.2.1
 .br (ZnF l t) (.br (!decide (Zj0 l t>=0)||Zf (Zj0 l t) (List.length l)) (.br (!x1||ZFH m t v) (.br (x1) (.leaf (some (ZTv m t v))) (.br (Zre m) (.leaf (some (ZIs m))) (.leaf none))) (.leaf none)) (.leaf none)) (.leaf none)
def ZAs (l:List (QT4)) (m:List (Int×Int)) (t:Int) (v:Int):List (Int×Int):=getO ZiE.dflt (ZiD l m t v).val
def ZsS (l:List (QT4)) (m:List (Int×Int)) (t:Int) (v:Int):Bool:=okB (ZiD l m t v).val
def ZTk:Entry:=Zg ZmC ZiE (λa=>some (ZsS a.1 a.2.1 a.2.2.1 a.2.2.2)) (λa=>ZAs a.1 a.2.1 a.2.2.1 a.2.2.2)
theorem ZIc:Za prog 101 ZTk:=
 pureP 1023 [(43,ZF7),(92,ZOc),(161,ZVY)] [] ZmC ZiE ⟨Ztu,Ztc,ZTu,Tv⟩ Tryz.func101 Tryz.call101 trivial (t:=λa=>ZiD a.1 a.2.1 a.2.2.1 a.2.2.2)
abbrev ZQb:List Sh:=[Sh.one rcRG,Sh.one (R.int u16)]
abbrev ZC2:Rs:=Rs.one (Sh.one (R.int i64))
def ZUj:LS:={n:=26,slots:=[(1,.code (Sh.one (R.int u16))),(4,.code (Sh.one (R.int i64))),(7,.code (Sh.one rcRG)),(8,.code (Sh.one (R.int i64))),(9,.code (Sh.one (R.int i64)))],boxes:=[],stgs:=[]}
def ZGQ (a:QT15):RT (Option (Go1 (QT15))):=
 let x1:QT4:=R.get (R.pair (R.int u16) (R.pair (R.int u16) (R.pair R.bool (R.int i64)))) a.2.2.1 a.2.2.2.2.1
 let x2:List (QT4)×Int×Int×PUnit:=(a.2.2.1,a.2.2.2.1,a.2.2.2.2.1,PUnit.unit)
 .br (decide (a.2.2.2.2.1<a.2.2.2.1)) (.br (Zf a.2.2.2.2.1 (List.length a.2.2.1)) (.br (decide (x1.1<=a.1)&&decide (a.1<=x1.2.1)) (.leaf (some (Go1.ret (a.1,a.2.2.2.2.1,x2)))) (.leaf (some (Go1.cont (a.1,a.2.1,a.2.2.1,a.2.2.2.1,i64.wrap (a.2.2.2.2.1+1),PUnit.unit))))) (.leaf none)) (.leaf (some (Go1.brk (a.1,a.2.1,x2))))
def ZGR:Ora:=Za5 true ZUj ZGQ (λa=>1000000000000)
theorem ZJN:ZaJ (envX prog [] [] 127 8) (.block 0 (.loop (Z6 Tryz.f245.body 0))) ZGR:=
 loopP trivial
def ZGP (l:List (QT4)) (t:Int):RT (Option (Int)):=
 let x1:=runF true ZGQ (λa=>1000000000000) (t,0,l,iN (List.length l),0,())
 let x2:=getO (false,t,0,l,iN (List.length l),0,()) x1
 .br (okB x1) (.br x2.1 (.leaf (some x2.2.2.1)) (.leaf (some (-1)))) (.leaf none)
def ZJO (l:List (QT4)) (t:Int):Int:=getO ZC2.dflt (ZGP l t).val
def ZQc (l:List (QT4)) (t:Int):Bool:=okB (ZGP l t).val
def ZWO:Entry:=Zg ZQb ZC2 (λa=>some (ZQc a.1 a.2)) (λa=>ZJO a.1 a.2)
theorem ZUi:Za prog 245 ZWO:=
 pureP 127 [] [(0,ZGR)] ZQb ZC2 trivial Tryz.func245 Tryz.call245 ⟨ZJN,Tv⟩ (t:=λa=>ZGP a.1 a.2)
end
end Go.Proofs.YtghoimllhpjkjaaGreat
namespace Go.Proofs.Cells
def getX (l:List Cell) (a:Int):Int:=((flt a l).getLast?.map Prod.snd).getD 0
def Vld (m:List Cell):Prop:=m.Pairwise (λa b=>a.1<b.1)/\∀c∈m,c.2≠0
theorem ZKT {l l':List Cell} (h:Sm l l') (a:Int):getX l a=getX l' a:=by rw[getX,getX,h a]
theorem Vld.srt {m:List Cell} (h:Vld m):Srt m:=h.1.imp λh=>Int.le_of_lt h
theorem Vld.tail {c:Cell} {m:List Cell} (h:Vld (c::m)):Vld m:=⟨(List.pairwise_cons.1 h.1).2,λx hx=>h.2 x (List.mem_cons_of_mem _ hx)⟩
theorem ZHw (a:Int):getX [] a=0:=rfl
theorem ZlP (a:Int) (c:Cell) (l:List Cell):flt a (c::l)=if c.1=a then c::flt a l else flt a l:=by
 by_cases h:c.1=a<;>simp[flt,h]
theorem Zem (c:Cell) (l:List Cell) (a:Int):getX (c::l) a=if c.1=a/\flt a l=[] then c.2 else getX l a:=by
 simp only[getX,ZlP]
 by_cases h:c.1=a
 ·simp only[h,if_true,true_and]
  cases hf:flt a l with
  |nil=>simp
  |cons x r=>simp[List.getLast?_cons_cons]
 ·simp[h]
theorem Vld.flt {m:List Cell} (h:Vld m) (a:Int):Cells.flt a m=if getX m a=0 then [] else [(a,getX m a)]:=by
 induction m with
 |nil=>simp[Cells.flt,ZHw]
 |cons c m ih=>
  have ih:=ih h.tail
  have h1:=List.pairwise_cons.1 h.1
  by_cases hc:c.1=a
  ·have hn:Cells.flt a m=[]:=Zen λx hx=>by have:=h1.1 x hx;omega
   have hz:=h.2 c (by simp)
   rw[ZlP,Zem]
   simp only[hc,hn,and_self,if_true,hz,if_false]
   rw[<-hc]
  ·rw[ZlP,Zem]
   simp only[hc,false_and,if_false,ih]
theorem ZXo {m m':List Cell} (h:Vld m) (h':Vld m') (e:∀a,getX m a=getX m' a):m=m':=
 uniq h.srt h'.srt λk=>by rw[h.flt,h'.flt,e k]
def dd:List Cell->List Cell
 |[]=>[]
 |x::r=>match r with
  |[]=>if x.2=0 then [] else [x]
  |y::_=>if x.1=y.1 then dd r else if x.2=0 then dd r else x::dd r
theorem ZrP:∀{l:List Cell} {c:Cell},c∈dd l->c∈l/\c.2≠0
 |[],c,h=>by simp[dd] at h
 |[x],c,h=>by
  simp only[dd] at h
  split at h
  ·simp at h
  ·rename_i hz;simp at h;subst h;exact⟨by simp,hz⟩
 |x::y::r,c,h=>by
  rw[dd] at h
  split at h
  ·have:=ZrP h;exact⟨List.mem_cons_of_mem _ this.1,this.2⟩
  ·split at h
   ·have:=ZrP h;exact⟨List.mem_cons_of_mem _ this.1,this.2⟩
   ·rename_i hz
    rcases List.mem_cons.1 h with e|e
    ·subst e;exact⟨by simp,hz⟩
    ·have:=ZrP e;exact⟨List.mem_cons_of_mem _ this.1,this.2⟩
theorem ZW4:∀{l:List Cell},Srt l->Vld (dd l)
 |[],_=>⟨List.Pairwise.nil,λc h=>by simp[dd] at h⟩
 |[x],_=>by
  refine⟨?_,λc h=>(ZrP h).2⟩
  simp only[dd];split<;>simp
 |x::y::r,h=>by
  have h1:=List.pairwise_cons.1 h
  have ih:=ZW4 (l:=y::r) h1.2
  have h2:=List.pairwise_cons.1 h1.2
  rw[dd]
  split
  ·exact ih
  ·rename_i hne
   split
   ·exact ih
   ·rename_i hz
    refine⟨List.pairwise_cons.2 ⟨λc hc=> ?_,ih.1⟩,λc hc=> ?_⟩
    ·have hxy:=h1.1 y (by simp)
     rcases List.mem_cons.1 (ZrP hc).1 with e|e
     ·rw[e];omega
     ·have:=h2.1 c e;omega
    ·rcases List.mem_cons.1 hc with e|e
     ·rw[e];exact hz
     ·exact ih.2 c e
theorem ZW5:∀{l:List Cell},Srt l->∀a,getX (dd l) a=getX l a
 |[],_,_=>rfl
 |[x],_,a=>by
  simp only[dd]
  split
  ·rename_i hz;rw[Zem];simp[flt,getX,hz]
  ·rfl
 |x::y::r,h,a=>by
  have h1:=List.pairwise_cons.1 h
  have ih:=ZW5 (l:=y::r) h1.2 a
  have h2:=List.pairwise_cons.1 h1.2
  rw[dd,Zem x (y::r)]
  by_cases hxy:x.1=y.1
  ·rw[if_pos hxy,ih]
   by_cases hc:x.1=a/\flt a (y::r)=[]
   ·obtain⟨e,e2⟩:=hc
    rw[ZlP,if_pos (by rw[<-hxy];exact e)] at e2;simp at e2
   ·rw[if_neg hc]
  ·rw[if_neg hxy]
   have hlt:∀c∈y::r,x.1<c.1:=λc hc=>by
    have:=h1.1 y (by simp)
    rcases List.mem_cons.1 hc with e|e
    ·rw[e];omega
    ·have:=h2.1 c e;omega
   by_cases hc:x.1=a
   ·have hn:flt a (y::r)=[]:=Zen λc hc'=>by have:=hlt c hc';omega
    have hn2:flt a (dd (y::r))=[]:=Zen λc hc'=>by have:=hlt c (ZrP hc').1;omega
    by_cases hz:x.2=0
    ·rw[if_pos hz,if_pos ⟨hc,hn⟩,hz,getX,hn2];rfl
    ·rw[if_neg hz,if_pos ⟨hc,hn⟩,Zem,if_pos ⟨hc,hn2⟩]
   ·by_cases hz:x.2=0
    ·rw[if_pos hz,if_neg (λh=>hc h.1),ih]
    ·rw[if_neg hz,if_neg (λh=>hc h.1),Zem,if_neg (λh=>hc h.1),ih]
def putX:List Cell->Cell->List Cell
 |[],c=>if c.2=0 then [] else [c]
 |x::r,c=>if x.1<c.1 then x::putX r c else if c.2=0 then (if x.1=c.1 then r else x::r) else if x.1=c.1 then c::r else c::x::r
theorem Zug:∀{m:List Cell} {c x:Cell},x∈putX m c->x=c\/x∈m
 |[],c,x,h=>by
  simp only[putX] at h
  split at h
  ·simp at h
  ·left;simpa using h
 |y::r,c,x,h=>by
  simp only[putX] at h
  split at h
  ·rcases List.mem_cons.1 h with e|e
   ·right;simp[e]
   ·rcases Zug e with e|e
    ·exact .inl e
    ·right;simp[e]
  ·split at h
   ·split at h
    ·right;simp[h]
    ·right;exact h
   ·split at h
    ·rcases List.mem_cons.1 h with e|e
     ·exact .inl e
     ·right;simp[e]
    ·rcases List.mem_cons.1 h with e|e
     ·exact .inl e
     ·right;exact e
theorem ZGm:∀{m:List Cell} {c:Cell},Vld m->Vld (putX m c)
 |[],c,_=>by
  simp only[putX]
  split
  ·exact⟨List.Pairwise.nil,λc h=>by simp at h⟩
  ·rename_i hz;exact⟨by simp,λx h=>by simp at h;rw[h];exact hz⟩
 |y::r,c,h=>by
  have h1:=List.pairwise_cons.1 h.1
  have hy:=h.2 y (by simp)
  simp only[putX]
  split
  ·rename_i hlt
   have ih:=ZGm (c:=c) h.tail
   refine⟨List.pairwise_cons.2 ⟨λx hx=> ?_,ih.1⟩,λx hx=> ?_⟩
   ·rcases Zug hx with e|e
    ·rw[e];exact hlt
    ·exact h1.1 x e
   ·rcases List.mem_cons.1 hx with e|e
    ·rw[e];exact hy
    ·exact ih.2 x e
  ·rename_i hge
   split
   ·split
    ·exact h.tail
    ·exact h
   ·rename_i hz
    split
    ·rename_i he
     refine⟨List.pairwise_cons.2 ⟨λx hx=> ?_,h1.2⟩,λx hx=> ?_⟩
     ·have:=h1.1 x hx;omega
     ·rcases List.mem_cons.1 hx with e|e
      ·rw[e];exact hz
      ·exact h.2 x (List.mem_cons_of_mem _ e)
    ·rename_i hne
     refine⟨List.pairwise_cons.2 ⟨λx hx=> ?_,h.1⟩,λx hx=> ?_⟩
     ·rcases List.mem_cons.1 hx with e|e
      ·rw[e];omega
      ·have:=h1.1 x e;omega
     ·rcases List.mem_cons.1 hx with e|e
      ·rw[e];exact hz
      ·exact h.2 x e
theorem Zv3 {l:List Cell} {a:Int} (h:∀c∈l,c.1≠a):getX l a=0:=by rw[getX,Zen h];rfl
theorem ZdZ {x:Cell} {r:List Cell} (h:∀c∈r,x.1<c.1) (a:Int):getX (x::r) a=if x.1=a then x.2 else getX r a:=by
 rw[Zem]
 by_cases hx:x.1=a
 ·have:flt a r=[]:=Zen λc hc=>by have:=h c hc;omega
  simp[hx,this]
 ·simp[hx]
theorem ZGn:∀{m:List Cell} {c:Cell},Vld m->∀a,getX (putX m c) a=if c.1=a then c.2 else getX m a
 |[],c,_,a=>by
  simp only[putX]
  split
  ·rename_i hz;rw[ZHw,hz];simp
  ·rw[ZdZ (by simp)]
 |y::r,c,h,a=>by
  have h1:=List.pairwise_cons.1 h.1
  simp only[putX]
  split
  ·rename_i hlt
   rw[ZdZ (λx hx=>by
    rcases Zug hx with e|e
    ·rw[e];exact hlt
    ·exact h1.1 x e),ZdZ h1.1,ZGn h.tail a]
   by_cases e1:y.1=a
   ·simp only[e1,if_true];rw[if_neg (by omega)]
   ·simp[e1]
  ·rename_i hge
   split
   ·rename_i hz
    split
    ·rename_i he
     rw[ZdZ h1.1]
     by_cases e:c.1=a
     ·rw[if_pos e,hz]
      exact Zv3 λx hx=>by have:=h1.1 x hx;omega
     ·rw[if_neg e,if_neg (by omega)]
    ·rename_i hne
     by_cases e:c.1=a
     ·rw[if_pos e,hz]
      exact Zv3 λx hx=>by
       rcases List.mem_cons.1 hx with e'|e'
       ·rw[e'];omega
       ·have:=h1.1 x e';omega
     ·rw[if_neg e]
   ·split
    ·rename_i he
     rw[ZdZ (λx hx=>by have:=h1.1 x hx;omega),ZdZ h1.1]
     by_cases e:c.1=a
     ·simp[e]
     ·rw[if_neg e,if_neg e,if_neg (by omega)]
    ·rename_i hne
     rw[ZdZ (λx hx=>by
      rcases List.mem_cons.1 hx with e|e
      ·rw[e];omega
      ·have:=h1.1 x e;omega)]
def normX (l:List Cell):List Cell:=l.foldl putX []
theorem ZRE (l:List Cell) (c:Cell) (a:Int):getX (l++[c]) a=if c.1=a then c.2 else getX l a:=by
 rw[getX,getX,Zdv]
 by_cases h:c.1=a
 ·have:flt a [c]=[c]:=by simp[flt,h]
  rw[this,List.getLast?_append];simp[h]
 ·have:flt a [c]=[]:=Zen λx hx=>by simp at hx;rw[hx];exact h
  rw[this];simp[h]
theorem ZpH:∀(l:List Cell) {m:List Cell},Vld m->Vld (l.foldl putX m)/\∀a,getX (l.foldl putX m) a=getX (m++l) a
 |[],m,h=>⟨h,λa=>by simp⟩
 |c::l,m,h=>by
  obtain⟨h1,h2⟩:=ZpH l (ZGm (c:=c) h)
  refine⟨h1,λa=> ?_⟩
  rw[List.foldl_cons,h2 a]
  have e:m++c::l=(m++[c])++l:=by simp
  rw[e]
  have key:∀{p q:List Cell},(∀b,getX p b=getX q b)->∀l b,getX (p++l) b=getX (q++l) b:=by
   intro p q hpq l b
   simp only[getX,Zdv,List.getLast?_append]
   cases hl:(flt b l).getLast? with
   |none=>simpa [getX] using hpq b
   |some x=>simp
  exact key (λb=>by rw[ZGn h,ZRE]) l a
theorem Zi5 (l:List Cell):Vld (normX l):=(ZpH l ⟨List.Pairwise.nil,λc h=>by simp at h⟩).1
theorem ZQI (l:List Cell) (a:Int):getX (normX l) a=getX l a:=(ZpH l ⟨List.Pairwise.nil,λc h=>by simp at h⟩).2 a
theorem ZG0 {l m:List Cell} (h:Vld m) (e:∀a,getX m a=getX l a):normX l=m:=ZXo (Zi5 l) h λa=>by rw[ZQI,e]
theorem Zkc {m:List Cell} (h:Vld m):normX m=m:=ZG0 h λ_=>rfl
theorem ZKw (l:List Cell):dd (isort l)=normX l:=
 (ZG0 (ZW4 (ZbU l)) λa=>by rw[ZW5 (ZbU l),ZKT (Zfy l)]).symm
end Go.Proofs.Cells
open Go Go.S3 Go.Proofs Go.Proofs.Cells
namespace Go.Proofs.YtghoimllhpjkjaaGreat
noncomputable section
abbrev Zag:=QT4
theorem Zwc (l:List Cell) (i:Nat) (h:i<l.length):l.drop i=el l i::l.drop (i+1):=by
 rw[List.drop_eq_getElem_cons h]
 have:=ZcJ l i h
 rw[List.getElem?_eq_getElem h,oinj] at this
 rw[this]
theorem Zz8 (l:List Cell) (i:Nat) (h:i<l.length):l.take (i+1)=l.take i++[el l i]:=by
 rw[List.take_add_one,ZcJ l i h];rfl
theorem Z1j (l:List Cell) (i:Nat) (h:i<l.length):el l i∈l:=List.mem_iff_getElem?.2 ⟨i,ZcJ l i h⟩
def okAt (m:List Cell) (i:Nat):Bool:= !((el m i).2==0||(decide ((i:Int)>0)&&decide ((el m i).1<=(el m (i-1)).1)))
def vldB (m:List Cell):Bool:=(List.range m.length).all (okAt m)
theorem Zqt {m:List Cell} {i:Nat} (hi:i<m.length) (h:okAt m i=false):vldB m=false:=by
 rw[Bool.eq_false_iff];intro he
 have:=List.all_eq_true.1 he i (List.mem_range.2 hi)
 rw[h] at this;exact absurd this (by simp)
theorem Zl8 {m:List Cell} (h:∀i,i<m.length->okAt m i=true):vldB m=true:=List.all_eq_true.2 λi hi=>h i (List.mem_range.1 hi)
theorem Zse {m:List Cell}:vldB m=true↔Vld m:=by
 constructor
 ·intro h
  have ha:∀i,i<m.length->okAt m i=true:=λi hi=>List.all_eq_true.1 h i (List.mem_range.2 hi)
  have hs:∀i,i+1<m.length->(el m i).1<(el m (i+1)).1:=λi hi=>by
   have:=ha (i+1) hi
   simp only[okAt,Bool.not_eq_true',Bool.or_eq_false_iff,Bool.and_eq_false_iff,decide_eq_false_iff_not,Nat.add_sub_cancel] at this
   rcases this.2 with e|e
   ·omega
   ·omega
  refine⟨?_,λc hc=> ?_⟩
  ·rw[List.pairwise_iff_getElem]
   have key:∀d i,i+d+1<m.length->(el m i).1<(el m (i+d+1)).1:=by
    intro d
    induction d with
    |zero=>intro i hi;exact hs i hi
    |succ d ih=>intro i hi;have h1:=ih i (by omega);have h2:=hs (i+d+1) (by omega);rw[show i+(d+1)+1=i+d+1+1 by omega];omega
   intro i j hi hj hij
   have:=key (j-i-1) i (by omega)
   rw[show i+(j-i-1)+1=j by omega] at this
   have e1:=ZcJ m i hi
   have e2:=ZcJ m j hj
   rw[List.getElem?_eq_getElem hi,oinj] at e1
   rw[List.getElem?_eq_getElem hj,oinj] at e2
   rw[e1,e2];exact this
  ·obtain⟨i,hi⟩:=List.mem_iff_getElem?.1 hc
   have hlt:=(List.getElem?_eq_some_iff.1 hi).1
   rw[ZcJ m i hlt,oinj] at hi
   have:=ha i hlt
   rw[<-hi]
   simp only[okAt,Bool.not_eq_true',Bool.or_eq_false_iff,beq_eq_false_iff_ne] at this
   exact this.1
 ·intro h
  refine Zl8 λi hi=> ?_
  simp only[okAt,Bool.not_eq_true',Bool.or_eq_false_iff,beq_eq_false_iff_ne,Bool.and_eq_false_iff,decide_eq_false_iff_not]
  refine⟨h.2 _ (Z1j m i hi),?_⟩
  by_cases h0:i=0
  ·left;omega
  ·right
   have:=List.pairwise_iff_getElem.1 h.1 (i-1) i (by omega) hi (by omega)
   have e1:=ZcJ m (i-1) (by omega)
   have e2:=ZcJ m i hi
   rw[List.getElem?_eq_getElem (by omega),oinj] at e1
   rw[List.getElem?_eq_getElem hi,oinj] at e2
   rw[e1,e2] at this;omega
theorem ZZ1 (i:Nat) (h:0<i) (h2:i<=4611686018427387904):IntKind.wrap .i64 ((i:Int)-1)=((i-1:Nat):Int):=by rw[wrap_i64 _ (by omega) (by omega)];omega
theorem ZQG (m:List Cell) (i:Nat):((el m i).2==0||(decide ((i:Int)>0)&&decide ((el m i).1<=(el m (i-1)).1)))= !okAt m i:=by simp only[okAt,Bool.not_not]
theorem ZKH (m:List Cell) (hm:m.length<=most):(Zkh m).val=some (vldB m):=by
 have hms:=mst
 obtain⟨r,hr,hR⟩:=ZM (fl:=true) (t:=Zei) (fuel:=λa=>1000000000000)
  (I:=λa=>∃i:Nat,i<=m.length/\(∀k,k<i->okAt m k=true)/\a=(m,false,m,(m.length:Int),(i:Int),()))
  (m:=λa=>Int.toNat (a.2.2.2.1-a.2.2.2.2.1)) (R:=λr=>(r.1=false/\vldB m=true)\/(r.1=true/\vldB m=false/\r.2.2.1=false))
  (λa hi=>by
   obtain⟨i,hi,hk,rfl⟩:=hi
   by_cases hlt:i<m.length
   ·have d:decide ((i:Int)<(m.length:Int))=true:=by simpa using hlt
    have r1:=ZaF m i hlt
    have hw:decide ((i:Int)>0)=true->Zf (IntKind.wrap .i64 ((i:Int)-1)) m.length=true/\IntKind.wrap .i64 ((i:Int)-1)=((i-1:Nat):Int):=λh=>by
     simp only[decide_eq_true_eq] at h
     have e:=ZZ1 i (by omega) (by omega)
     exact⟨by rw[e];exact ZaF m (i-1) (by omega),e⟩
    have hck:((el m i).2==0||(!decide ((i:Int)>0)||Zf (IntKind.wrap .i64 ((i:Int)-1)) m.length))=true:=by
     cases h:decide ((i:Int)>0) with
     |false=>simp
     |true=>rw[(hw h).1];simp
    have hcd:((el m i).2==0||(decide ((i:Int)>0)&&decide ((el m i).1<=(R.get CR m (IntKind.wrap .i64 ((i:Int)-1))).1)))= !okAt m i:=by
     rw[<-ZQG]
     cases h:decide ((i:Int)>0) with
     |false=>simp
     |true=>rw[(hw h).2,Zcf]
    cases ho:okAt m i with
    |true=>
     left
     refine⟨(m,false,m,(m.length:Int),((i+1:Nat):Int),()),?_,⟨i+1,hlt,λk hk'=> ?_,rfl⟩,by simp only;omega⟩
     ·rw[ho] at hcd
      simp only[Zei,RT.val,d,r1,Zcf,hck,hcd,Bool.not_true,Bool.false_or,cond_true,cond_false,ZhD i (by omega)]
     ·by_cases e:k=i
      ·subst e;exact ho
      ·exact hk k (by omega)
    |false=>
     right;right
     refine⟨(m,false,m,(m.length:Int),(i:Int),()),rfl,?_,.inr ⟨rfl,Zqt hlt ho,rfl⟩⟩
     rw[ho] at hcd
     simp only[Zei,RT.val,d,r1,Zcf,hck,hcd,Bool.not_true,Bool.not_false,Bool.false_or,cond_true,cond_false]
   ·right;left
    have d:decide ((i:Int)<(m.length:Int))=false:=by simpa using hlt
    exact⟨(m,false,m,(m.length:Int),(i:Int),()),by simp only[Zei,RT.val,d,cond_false],.inl ⟨rfl,Zl8 λk hk'=>hk k (by omega)⟩⟩)
  (m,false,m,(m.length:Int),0,()) ⟨0,Nat.zero_le _,λk h=>by omega,rfl⟩ (by simp only;omega)
 have hr':runF true Zei (λa=>1000000000000) (m,false,m,iN m.length,0,())=some r:=hr
 rcases hR with ⟨h1,h2⟩|⟨h1,h2,h3⟩
 ·simp only[Zkh,RT.val,hr',okB,getO,cond_true,h1,cond_false,h2]
 ·simp only[Zkh,RT.val,hr',okB,getO,cond_true,h1,h2,h3]
theorem ZqR (m:List Cell) (hm:m.length<=most):(ZjU m).val=some (vldB m):=by
 have hms:=mst
 obtain⟨r,hr,hR⟩:=ZM (fl:=true) (t:=Zd6) (fuel:=λa=>1000000000000)
  (I:=λa=>∃i:Nat,i<=m.length/\(∀k,k<i->okAt m k=true)/\a=(m,false,(m.length:Int),(i:Int),()))
  (m:=λa=>Int.toNat (a.2.2.1-a.2.2.2.1)) (R:=λr=>(r.1=false/\vldB m=true)\/(r.1=true/\vldB m=false/\r.2.2.1=false))
  (λa hi=>by
   obtain⟨i,hi,hk,rfl⟩:=hi
   by_cases hlt:i<m.length
   ·have d:decide ((i:Int)<(m.length:Int))=true:=by simpa using hlt
    have r1:=ZaF m i hlt
    have hw:decide ((i:Int)>0)=true->Zf (IntKind.wrap .i64 ((i:Int)-1)) m.length=true/\IntKind.wrap .i64 ((i:Int)-1)=((i-1:Nat):Int):=λh=>by
     simp only[decide_eq_true_eq] at h
     have e:=ZZ1 i (by omega) (by omega)
     exact⟨by rw[e];exact ZaF m (i-1) (by omega),e⟩
    have hck:((el m i).2==0||(!decide ((i:Int)>0)||Zf (IntKind.wrap .i64 ((i:Int)-1)) m.length))=true:=by
     cases h:decide ((i:Int)>0) with
     |false=>simp
     |true=>rw[(hw h).1];simp
    have hcd:((el m i).2==0||(decide ((i:Int)>0)&&decide ((el m i).1<=(R.get CR m (IntKind.wrap .i64 ((i:Int)-1))).1)))= !okAt m i:=by
     rw[<-ZQG]
     cases h:decide ((i:Int)>0) with
     |false=>simp
     |true=>rw[(hw h).2,Zcf]
    cases ho:okAt m i with
    |true=>
     left
     refine⟨(m,false,(m.length:Int),((i+1:Nat):Int),()),?_,⟨i+1,hlt,λk hk'=> ?_,rfl⟩,by simp only;omega⟩
     ·rw[ho] at hcd
      simp only[Zd6,RT.val,d,r1,Zcf,hck,hcd,Bool.not_true,Bool.false_or,Bool.or_true,cond_true,cond_false,ZhD i (by omega)]
     ·by_cases e:k=i
      ·subst e;exact ho
      ·exact hk k (by omega)
    |false=>
     right;right
     refine⟨(m,false,(m.length:Int),(i:Int),()),rfl,?_,.inr ⟨rfl,Zqt hlt ho,rfl⟩⟩
     rw[ho] at hcd
     simp only[Zd6,RT.val,d,r1,Zcf,hck,hcd,Bool.not_true,Bool.not_false,Bool.false_or,Bool.or_true,cond_true,cond_false]
   ·right;left
    have d:decide ((i:Int)<(m.length:Int))=false:=by simpa using hlt
    exact⟨(m,false,(m.length:Int),(i:Int),()),by simp only[Zd6,RT.val,d,cond_false],.inl ⟨rfl,Zl8 λk hk'=>hk k (by omega)⟩⟩)
  (m,false,(m.length:Int),0,()) ⟨0,Nat.zero_le _,λk h=>by omega,rfl⟩ (by simp only;omega)
 have hr':runF true Zd6 (λa=>1000000000000) (m,false,iN m.length,0,())=some r:=hr
 rcases hR with ⟨h1,h2⟩|⟨h1,h2,h3⟩
 ·simp only[ZjU,RT.val,hr',okB,getO,cond_true,h1,cond_false,h2]
 ·simp only[ZjU,RT.val,hr',okB,getO,cond_true,h1,h2,h3]
theorem ZZL {m:List Cell} {t:Int} {i:Nat} (hi:i<m.length) (he:(el m i).1=t) (hk:∀k,i<k->k<m.length->(el m k).1≠t):getX m t=(el m i).2:=by
 have e:m=m.take i++[el m i]++m.drop (i+1):=by rw[List.append_assoc,List.singleton_append,<-Zwc m i hi,List.take_append_drop]
 have h0:flt t (m.drop (i+1))=[]:=Zen λc hc=>by
  obtain⟨k,h1,h2,rfl⟩:=Zjc hc
  exact hk k (by omega) h2
 have h1:flt t [el m i]=[el m i]:=by simp[flt,he]
 have h2:flt t m=flt t (m.take i)++[el m i]:=by
  conv=>lhs;rw[e,Zdv,Zdv,h0,h1,List.append_nil]
 rw[getX,h2,List.getLast?_append];simp
theorem ZTg (m:List Cell) (t:Int) (hm:m.length<=most):(Zrg m t).val=some (getX m t):=by
 have hms:=mst
 obtain⟨r,hr,hR⟩:=ZM (fl:=true) (t:=Zg4) (fuel:=λa=>1000000000000)
  (I:=λa=>∃i:Nat,i<=m.length/\(∀k,i<=k->k<m.length->(el m k).1≠t)/\a=(m,t,0,(i:Int)-1,()))
  (m:=λa=>Int.toNat (a.2.2.2.1+1)) (R:=λr=>(r.1=false/\getX m t=0)\/(r.1=true/\r.2.2.2.1=getX m t))
  (λa hi=>by
   obtain⟨i,hi,hk,rfl⟩:=hi
   cases i with
   |zero=>
    right;left
    refine⟨(m,t,0,((0:Nat):Int)-1,()),by simp[Zg4,RT.val],.inl ⟨rfl,Zv3 λc hc=> ?_⟩⟩
    obtain⟨k,hk'⟩:=List.mem_iff_getElem?.1 hc
    have hlt:=(List.getElem?_eq_some_iff.1 hk').1
    rw[ZcJ m k hlt,oinj] at hk'
    rw[<-hk'];exact hk k (Nat.zero_le _) hlt
   |succ i=>
    have ei:((i+1:Nat):Int)-1=(i:Int):=by omega
    rw[ei]
    have d:decide ((i:Int)>=0)=true:=by simp
    have r1:=ZaF m i (by omega)
    cases he:((el m i).1==t) with
    |true=>
     right;right
     refine⟨(m,t,(el m i).2,(i:Int),()),rfl,by simp only[Zg4,RT.val,d,r1,Zcf,he,cond_true,Bool.not_true,Bool.false_or],.inr ⟨rfl,?_⟩⟩
     exact (ZZL (by omega) (by simpa using he) λk h1 h2=>hk k (by omega) h2).symm
    |false=>
     left
     refine⟨(m,t,0,(i:Int)-1,()),?_,⟨i,by omega,λk h1 h2=> ?_,rfl⟩,by simp only;omega⟩
     ·have w:IntKind.wrap .i64 ((i:Int)-1)=(i:Int)-1:=wrap_i64 _ (by omega) (by omega)
      simp only[Zg4,RT.val,d,r1,Zcf,he,cond_true,cond_false,Bool.not_true,Bool.not_false,Bool.true_or,Bool.false_or,w]
     ·by_cases e:k=i
      ·subst e;simpa using he
      ·exact hk k (by omega) h2)
  (m,t,0,(m.length:Int)-1,()) ⟨m.length,Nat.le_refl _,λk h1 h2=>by omega,rfl⟩ (by simp only;omega)
 have w:IntKind.wrap .i64 (iN m.length-1)=(m.length:Int)-1:=wrap_i64 _ (by simp only[iN];omega) (by simp only[iN];omega)
 rcases hR with ⟨h1,h2⟩|⟨h1,h2⟩
 ·simp only[Zrg,RT.val,w,hr,okB,getO,cond_true,h1,cond_false,h2]
 ·simp only[Zrg,RT.val,w,hr,okB,getO,cond_true,h1,h2]
def pst (c:Cell) (s:Bool×List Cell) (x:Cell):Bool×List Cell:=
 let t:= !s.1&&decide (x.1>=c.1)
 let o:=bif t then (bif c.2 !=0 then s.2++[c] else s.2) else s.2
 (t||s.1,bif x.1 !=c.1 then o++[x] else o)
def pfin (c:Cell) (s:Bool×List Cell):List Cell:=bif !s.1&&c.2 !=0 then s.2++[c] else s.2
theorem ZGr (c:Cell):∀(m:List Cell) (o:List Cell),(∀x∈m,x.1≠c.1)->m.foldl (pst c) (true,o)=(true,o++m)
 |[],o,_=>by simp
 |x::m,o,h=>by
  have hx:(x.1 !=c.1)=true:=by simpa using h x (by simp)
  simp only[List.foldl_cons,pst,Bool.not_true,Bool.false_and,cond_false,Bool.or_true,hx,cond_true]
  rw[ZGr c m (o++[x]) λy hy=>h y (List.mem_cons_of_mem _ hy)]
  simp
theorem ZO8 (c:Cell):∀(m:List Cell) (o:List Cell),m.Pairwise (λa b=>a.1<b.1)->pfin c (m.foldl (pst c) (false,o))=o++putX m c
 |[],o,_=>by
  simp only[List.foldl_nil,pfin,putX,Bool.not_false,Bool.true_and]
  by_cases h:c.2=0
  ·simp[h]
  ·have:(c.2 !=0)=true:=by simpa using h
   simp[h,this]
 |x::m,o,h=>by
  have h1:=List.pairwise_cons.1 h
  by_cases hx:x.1<c.1
  ·have e1:decide (x.1>=c.1)=false:=by simp;omega
   have e2:(x.1 !=c.1)=true:=by simp;omega
   simp only[List.foldl_cons,pst,e1,Bool.and_false,cond_false,Bool.or_false,e2,cond_true]
   rw[ZO8 c m (o++[x]) h1.2,putX,if_pos hx];simp
  ·have e1:decide (x.1>=c.1)=true:=by simp;omega
   have hne:∀y∈m,y.1≠c.1:=λy hy=>by have:=h1.1 y hy;omega
   simp only[List.foldl_cons,pst,e1,Bool.not_false,Bool.and_self,cond_true,Bool.true_or]
   rw[ZGr c m _ hne,putX,if_neg hx]
   simp only[pfin,Bool.not_true,Bool.false_and,cond_false]
   by_cases hz:c.2=0
   ·by_cases hk:x.1=c.1
    ·simp[hz,hk]
    ·have:(x.1 !=c.1)=true:=by simpa using hk
     simp[hz,hk,this]
   ·have hz1:(c.2 !=0)=true:=by simpa using hz
    by_cases hk:x.1=c.1
    ·simp[hz,hk,hz1]
    ·have:(x.1 !=c.1)=true:=by simpa using hk
     simp[hz,hk,this,hz1]
theorem ZBX (c:Cell):∀(m:List Cell) (s:Bool×List Cell),(m.foldl (pst c) s).2.length+(bif (m.foldl (pst c) s).1 then 0 else 1)<=s.2.length+(bif s.1 then 0 else 1)+m.length
 |[],s=>by simp
 |x::m,s=>by
  rw[List.foldl_cons]
  have ih:=ZBX c m (pst c s x)
  have:(pst c s x).2.length+(bif (pst c s x).1 then 0 else 1)<=s.2.length+(bif s.1 then 0 else 1)+1:=by
   obtain⟨d,o⟩:=s
   simp only[pst]
   generalize decide (x.1>=c.1)=b1
   generalize (c.2 !=0)=b2
   generalize (x.1 !=c.1)=b3
   cases d<;>cases b1<;>cases b2<;>cases b3<;>simp<;>omega
  simp only[List.length_cons];omega
theorem Zmx (m:List Cell) (c:Cell) (hv:Vld m) (hm:m.length+1<=most):Zq9 m c=true/\ZIp m c=putX m c:=by
 have hms:=mst
 obtain⟨r,hr,h1,i,hR⟩:=ZM (fl:=false) (t:=ZiK) (fuel:=λa=>1000000000000)
  (λa=>∃i:Nat,i<=m.length/\a=(((m.take i).foldl (pst c) (false,[])).1,m,(m.length:Int),(i:Int),c,((m.take i).foldl (pst c) (false,[])).2,()))
  (λa=>Int.toNat (a.2.2.1-a.2.2.2.1)) (λr=>r.1=false/\∃i:Nat,r.2=((m.foldl (pst c) (false,[])).1,m,(m.length:Int),(i:Int),c,(m.foldl (pst c) (false,[])).2,()))
  (by
   rintro a ⟨i,hi,rfl⟩
   by_cases hlt:i<m.length
   ·left
    have d:decide ((i:Int)<(m.length:Int))=true:=by simpa using hlt
    have r1:=ZaF m i hlt
    have hl:=ZBX c (m.take i) (false,[])
    have hs:(m.take (i+1)).foldl (pst c) (false,[])=pst c ((m.take i).foldl (pst c) (false,[])) (el m i):=by
     rw[Zz8 m i hlt,List.foldl_append];rfl
    rw[List.length_take,Nat.min_eq_left (by omega)] at hl
    refine⟨_,?_,⟨i+1,hlt,rfl⟩,by simp only;omega⟩
    rw[hs]
    generalize (m.take i).foldl (pst c) (false,[])=s at hl|-
    obtain⟨dn,o⟩:=s
    simp only[List.length_nil,cond_false] at hl
    simp only[ZiK,RT.val,d,r1,Zcf,cond_true,Bool.not_true,Bool.false_or,pst,ZhD i (by omega)]
    generalize decide ((el m i).1>=c.1)=b1
    generalize hb2:(c.2 !=0)=b2
    generalize hb3:((el m i).1 !=c.1)=b3
    have l1:Nat.ble (o++[c]).length most=true\/dn=true:=by
     cases dn with
     |true=>exact .inr rfl
     |false=>left;rw[Nat.ble_eq];simp only[cond_false] at hl;simp only[List.length_append,List.length_singleton];omega
    have l2:Nat.ble (o++[el m i]).length most=true:=by
     rw[Nat.ble_eq];simp only[List.length_append,List.length_singleton]
     cases dn<;>simp only[cond_true,cond_false] at hl<;>omega
    have l3:Nat.ble (o++[c]++[el m i]).length most=true\/dn=true:=by
     cases dn with
     |true=>exact .inr rfl
     |false=>left;rw[Nat.ble_eq];simp only[cond_false] at hl;simp only[List.length_append,List.length_singleton];omega
    cases dn with
    |true=>
     cases b3<;>simp only[l2,Bool.not_true,Bool.not_false,Bool.false_and,Bool.true_or,Bool.false_or,Bool.or_true,cond_true,cond_false]
    |false=>
     have l1:Nat.ble (o++[c]).length most=true:=by simpa using l1
     have l3:Nat.ble (o++[c]++[el m i]).length most=true:=by simpa using l3
     cases b1<;>cases b2<;>cases b3<;>simp only[l1,l2,l3,Bool.not_true,Bool.not_false,Bool.false_and,Bool.true_and,Bool.true_or,Bool.false_or,Bool.or_true,Bool.or_false,Bool.and_self,cond_true,cond_false]
   ·right;left
    have d:decide ((i:Int)<(m.length:Int))=false:=by simpa using hlt
    have e:m.take i=m:=List.take_of_length_le (by omega)
    rw[e]
    exact⟨_,by simp only[ZiK,RT.val,d,cond_false],rfl,i,rfl⟩)
  (false,m,iN m.length,0,c,[],()) ⟨0,Nat.zero_le _,rfl⟩ (by simp only[iN];omega)
 have hl:=ZBX c m (false,[])
 have hp:=ZO8 c m [] hv.1
 simp only[List.nil_append] at hp
 obtain⟨r1,r2⟩:=r
 simp only at h1 hR
 subst h1 hR
 generalize m.foldl (pst c) (false,[])=s at hl hp hr
 obtain⟨dn,o⟩:=s
 have hb:(!(!dn&&c.2 !=0)||Nat.ble (o++[c]).length most)=true:=by
  cases dn with
  |true=>rfl
  |false=>
   have:Nat.ble (o++[c]).length most=true:=by rw[Nat.ble_eq];simp only[cond_false,List.length_nil] at hl;simp only[List.length_append,List.length_singleton];omega
   rw[this];simp
 have hv:(Zq8 m c).val=some (putX m c):=by
  simp only[Zq8,RT.val,hr,okB,getO,cond_true,hb,<-hp,pfin]
 exact⟨by simp only[Zq9,hv];rfl,by simp only[ZIp,hv,getO]⟩
theorem Zuh (c:Cell):∀m:List Cell,(putX m c).length<=m.length+1
 |[]=>by simp only[putX];split<;>simp
 |x::m=>by
  have:=Zuh c m
  simp only[putX]
  repeat' split
  all_goals simp only[List.length_cons];omega
theorem Zkb (l:List Cell) (c:Cell):normX (l++[c])=putX (normX l) c:=by simp[normX,List.foldl_append]
theorem ZHz:∀(l m:List Cell),(l.foldl putX m).length<=m.length+l.length
 |[],m=>by simp
 |x::l,m=>by
  have:=ZHz l (putX m x)
  have:=Zuh x m
  simp only[List.foldl_cons,List.length_cons];omega
theorem Zdj (l:List Cell):(normX l).length<=l.length:=by
 have:=ZHz l []
 simpa [normX] using this
theorem ZmA (l:List Cell) (hl:l.length+1<=most):Zre l=true/\ZIs l=normX l:=by
 have hms:=mst
 have h1:=ZqR l (by omega)
 have hc:ZjV l=true:=by simp only[ZjV,h1];rfl
 have hv0:ZmI l=vldB l:=by simp only[ZmI,h1,getO]
 have hv:(Zrd l).val=some (normX l):=by
  cases hb:vldB l with
  |true=>
   have e:Nat.ble l.length most=true:=by rw[Nat.ble_eq];omega
   simp only[Zrd,RT.val,hc,hv0,hb,List.nil_append,e,cond_true,Bool.not_true,Bool.false_or,Zkc (Zse.1 hb)]
  |false=>
   obtain⟨r,hr,h1,i,hR⟩:=ZM (fl:=false) (t:=ZiM) (fuel:=λa=>1000000000000)
    (λa=>∃i:Nat,i<=l.length/\a=(normX (l.take i),l,(l.length:Int),(i:Int),()))
    (λa=>Int.toNat (a.2.2.1-a.2.2.2.1)) (λr=>r.1=false/\∃i:Nat,r.2=(normX l,l,(l.length:Int),(i:Int),()))
    (by
     rintro a ⟨i,hi,rfl⟩
     by_cases hlt:i<l.length
     ·left
      have d:decide ((i:Int)<(l.length:Int))=true:=by simpa using hlt
      have r1:=ZaF l i hlt
      have hlen:=Zdj (l.take i)
      rw[List.length_take] at hlen
      have hp:=Zmx (normX (l.take i)) (el l i) (Zi5 _) (by omega)
      refine⟨_,?_,⟨i+1,hlt,rfl⟩,by simp only;omega⟩
      rw[Zz8 l i hlt,Zkb]
      simp only[ZiM,RT.val,d,r1,Zcf,hp.1,hp.2,cond_true,Bool.or_true,ZhD i (by omega)]
     ·right;left
      have d:decide ((i:Int)<(l.length:Int))=false:=by simpa using hlt
      have e:l.take i=l:=List.take_of_length_le (by omega)
      rw[e]
      exact⟨_,by simp only[ZiM,RT.val,d,cond_false],rfl,i,rfl⟩)
    ([],l,iN l.length,0,()) ⟨0,Nat.zero_le _,rfl⟩ (by simp only[iN];omega)
   obtain⟨r1,r2⟩:=r
   simp only at h1 hR
   subst h1 hR
   simp only[Zrd,RT.val,hc,hv0,hb,hr,okB,getO,cond_true,cond_false,Bool.not_false,Bool.true_or]
 exact⟨by simp only[Zre,hv];rfl,by simp only[ZIs,hv,getO]⟩
theorem ZTc (m:List Cell) (t v:Int) (hm:m.length+1<=most):ZFH m t v=true/\ZTv m t v=putX (normX m) (t,v):=by
 have h1:=ZmA m hm
 have h2:=Zmx (normX m) (t,v) (Zi5 m) (by have:=Zdj m;omega)
 have hv:(ZxI m t v).val=some (putX (normX m) (t,v)):=by
  simp only[ZxI,RT.val,h1.1,h1.2,h2.1,h2.2,cond_true,Bool.or_true]
 exact⟨by simp only[ZFH,hv];rfl,by simp only[ZTv,hv,getO]⟩
def ZDK (s:List Cell) (i:Nat):Bool:=(el s i).2 !=0&&(decide (i+1=s.length)||(el s (i+1)).1 !=(el s i).1)
theorem ZZX (s:List Cell) (i:Nat) (h:i<s.length):dd (s.drop i)=(bif ZDK s i then [el s i] else [])++dd (s.drop (i+1)):=by
 rw[Zwc s i h]
 by_cases hl:i+1<s.length
 ·rw[Zwc s (i+1) hl,dd]
  have e:decide (i+1=s.length)=false:=by simp;omega
  simp only[ZDK,e,Bool.false_or]
  by_cases h1:(el s i).1=(el s (i+1)).1
  ·have:((el s (i+1)).1 !=(el s i).1)=false:=by simp[h1]
   simp only[this,Bool.and_false,cond_false,List.nil_append,if_pos h1]
  ·have:((el s (i+1)).1 !=(el s i).1)=true:=by simpa using λe=>h1 e.symm
   simp only[this,Bool.and_true,if_neg h1]
   by_cases h2:(el s i).2=0
   ·have:((el s i).2 !=0)=false:=by simp[h2]
    simp only[this,if_pos h2,cond_false,List.nil_append]
   ·have:((el s i).2 !=0)=true:=by simpa using h2
    simp only[this,if_neg h2,cond_true,List.singleton_append]
 ·have hn:s.drop (i+1)=[]:=List.drop_eq_nil_of_le (by omega)
  have e:decide (i+1=s.length)=true:=by simp;omega
  rw[hn]
  simp only[ZDK,e,Bool.true_or,Bool.and_true,dd,List.append_nil]
  by_cases h2:(el s i).2=0
  ·have:((el s i).2 !=0)=false:=by simp[h2]
   simp only[this,if_pos h2,cond_false]
  ·have:((el s i).2 !=0)=true:=by simpa using h2
   simp only[this,if_neg h2,cond_true]
theorem ZMh (l:List Cell) (hl:l.length<=most):ZE1 l=true/\Zz6 l=isort l:=by
 have hs:Zmq l (iN l.length)=true:=by simp[Zmq,iN];omega
 have hv:(Zw1 l).val=some (isort l):=by
  simp only[Zw1,RT.val,Zdr,hs,cond_true]
 exact⟨by simp only[ZE1,hv];rfl,by simp only[Zz6,hv,getO]⟩
theorem Zo7 (l:List Cell) (hl:l.length<=most):ZyP l=true/\ZRh l=normX l:=by
 have hms:=mst
 have h1:=ZMh l hl
 have hlen:=Zek l
 generalize hs:isort l=s at hlen h1
 obtain⟨r,hr,h2,i,hR⟩:=ZM (fl:=false) (t:=Zjd) (fuel:=λa=>Int.toNat (a.1-a.2.1)+1)
  (λa=>∃(i:Nat) (o:List Cell),i<=s.length/\o.length<=i/\o++dd (s.drop i)=dd s/\a=((s.length:Int),(i:Int),s,o,()))
  (λa=>Int.toNat (a.1-a.2.1)) (λr=>r.1=false/\∃i:Nat,r.2=((s.length:Int),(i:Int),s,dd s,()))
  (by
   rintro a ⟨i,o,hi,ho,hd,rfl⟩
   by_cases hlt:i<s.length
   ·left
    have d:decide ((i:Int)<(s.length:Int))=true:=by simpa using hlt
    have r1:=ZaF s i hlt
    have w:=ZhD i (by omega)
    have e1:(((i+1:Nat):Int)==iN s.length)=decide (i+1=s.length):=by
     rw[Bool.eq_iff_iff];simp[iN];omega
    have hst:=ZZX s i hlt
    have hle:∀x:Cell,Nat.ble (o++[x]).length most=true:=λx=>by rw[Nat.ble_eq];simp only[List.length_append,List.length_singleton];omega
    refine⟨((s.length:Int),((i+1:Nat):Int),s,o++(bif ZDK s i then [el s i] else []),()),?_,⟨i+1,_,hlt,?_,?_,rfl⟩,by simp only;omega⟩
    ·have e3:(!((el s i).2 !=0)||(decide (i+1=s.length)||Zf ((i+1:Nat):Int) s.length))=true:=by
      by_cases hq:i+1=s.length
      ·simp[hq]
      ·rw[ZaF s (i+1) (by omega)];simp
     have e4:((el s i).2 !=0&&(decide (i+1=s.length)||(el s (i+1)).1 !=(el s i).1))=ZDK s i:=rfl
     have g1:=Zcf s i
     have g2:=Zcf s (i+1)
     simp only[Zjd,RT.val,d,r1,w,g1,g2,e1,e3,e4,hle,cond_true,Bool.not_true,Bool.false_or,Bool.or_true]
     cases ZDK s i<;>simp
    ·cases ZDK s i<;>simp only[cond_true,cond_false,List.append_nil,List.length_append,List.length_singleton]<;>omega
    ·rw[List.append_assoc,<-hst,hd]
   ·right;left
    have d:decide ((i:Int)<(s.length:Int))=false:=by simpa using hlt
    have e:s.drop i=[]:=List.drop_eq_nil_of_le (by omega)
    rw[e] at hd
    simp only[dd,List.append_nil] at hd
    subst hd
    exact⟨_,by simp only[Zjd,RT.val,d,cond_false],rfl,i,rfl⟩)
  (iN s.length,0,s,[],()) ⟨0,[],Nat.zero_le _,by simp,by simp,rfl⟩ (by simp only[iN];omega)
 obtain⟨r1,r2⟩:=r
 simp only at h2 hR
 subst h2 hR
 have hb:Nat.ble l.length most=true:=by rw[Nat.ble_eq];exact hl
 have hv:(ZyO l).val=some (normX l):=by
  simp only[ZyO,RT.val,hb,h1.1,h1.2,hr,okB,getO,cond_true]
  rw[<-hs,ZKw]
 exact⟨by simp only[ZyP,hv];rfl,by simp only[ZRh,hv,getO]⟩
abbrev BR:R:=R.int u8
theorem get_d (l:List Int) (i:Nat):R.get BR l (i:Int)=l.getD i 0:=by simp[R.get,R.dflt]
def Zpk (t:Int) (b:List Int) (n:Nat):List Cell:=(List.range n).map λi:Nat=>(IntKind.wrap .u16 (t+IntKind.wrap .u16 (i:Int)),b.getD i 0)
theorem ZKN (t:Int) (b:List Int) (n:Nat):Zpk t b (n+1)=Zpk t b n++[(IntKind.wrap .u16 (t+IntKind.wrap .u16 (n:Int)),b.getD n 0)]:=by simp[Zpk,List.range_succ]
theorem Zpj (t:Int) (b:List Int) (n:Nat):(Zpk t b n).length=n:=by simp[Zpk]
def Zqf (t:Int) (b:List Int):List Cell:=normX (Zpk t b b.length)
theorem ZNh (a b:List Cell) (ha:a.length<=most):ZAE a b=true/\ZNE a b=decide (a=b):=by
 have hms:=mst
 have hv:(ZhS a b).val=some (decide (a=b)):=by
  by_cases hl:a.length=b.length
  ·have hn:(iN a.length !=iN b.length)=false:=by simp[iN,hl]
   obtain⟨r,hr,hR⟩:=ZM (fl:=true) (t:=ZeV) (fuel:=λ_=>1000000000000)
    (λx=>∃i:Nat,i<=a.length/\(∀k,k<i->el a k=el b k)/\x=(a,b,false,(a.length:Int),(i:Int),()))
    (λx=>Int.toNat (x.2.2.2.1-x.2.2.2.2.1)) (λr=>(r.1=false/\a=b)\/(r.1=true/\a≠b/\r.2.2.2.1=false))
    (by
     rintro x ⟨i,hi,hk,rfl⟩
     by_cases hlt:i<a.length
     ·have d:decide ((i:Int)<(a.length:Int))=true:=by simpa using hlt
      have r1:=ZaF a i hlt
      have r2:=ZaF b i (by omega)
      have g1:=Zcf a i
      have g2:=Zcf b i
      by_cases he:el a i=el b i
      ·left
       refine⟨(a,b,false,(a.length:Int),((i+1:Nat):Int),()),?_,⟨i+1,hlt,λk hk'=> ?_,rfl⟩,by simp only;omega⟩
       ·simp only[ZeV,RT.val,d,r1,r2,g1,g2,he,beq_self_eq_true,Bool.and_self,Bool.not_true,Bool.or_true,cond_true,cond_false,ZhD i (by omega)]
       ·by_cases e:k=i
        ·subst e;exact he
        ·exact hk k (by omega)
      ·right;right
       have hne:((el a i).1==(el b i).1&&((el a i).2==(el b i).2&&true))=false:=by
        rw[Bool.eq_false_iff];intro h
        simp only[Bool.and_eq_true,beq_iff_eq,and_true] at h
        exact he (Prod.ext h.1 h.2)
       refine⟨(a,b,false,(a.length:Int),(i:Int),()),rfl,?_,.inr ⟨rfl,λh=>he (by rw[h]),rfl⟩⟩
       simp only[ZeV,RT.val,d,r1,r2,g1,g2,hne,Bool.not_true,Bool.not_false,Bool.or_true,cond_true]
     ·right;left
      have d:decide ((i:Int)<(a.length:Int))=false:=by simpa using hlt
      refine⟨_,by simp only[ZeV,RT.val,d,cond_false];rfl,.inl ⟨rfl,List.ext_getElem? λk=> ?_⟩⟩
      by_cases hk':k<a.length
      ·rw[ZcJ a k hk',ZcJ b k (by omega),hk k (by omega)]
      ·rw[List.getElem?_eq_none (by omega),List.getElem?_eq_none (by omega)])
    (a,b,false,iN a.length,0,()) ⟨0,Nat.zero_le _,λk h=>by omega,rfl⟩ (by simp only[iN];omega)
   rcases hR with ⟨h1,h2⟩|⟨h1,h2,h3⟩
   ·have hd:decide (a=b)=true:=decide_eq_true h2
    simp only[ZhS,RT.val,hn,hr,okB,getO,cond_true,cond_false,h1,hd]
   ·have hd:decide (a=b)=false:=decide_eq_false h2
    simp only[ZhS,RT.val,hn,hr,okB,getO,cond_true,cond_false,h1,h3,hd]
  ·have hn:(iN a.length !=iN b.length)=true:=by simp only[iN,bne_iff_ne,ne_eq];omega
   have hne:a≠b:=λh=>hl (by rw[h])
   simp only[ZhS,RT.val,hn,cond_true,hne,decide_false]
 exact⟨by simp only[ZAE,hv];rfl,by simp only[ZNE,hv,getO]⟩
theorem ZQ2 (m:List Cell) (hm:m.length<=most):ZvN m=true/\Zpc m=vldB m:=by
 have h:=ZKH m hm
 exact⟨by simp only[ZvN,h];rfl,by simp only[Zpc,h,getO]⟩
theorem ZNc (m:List Cell) (hm:m.length<=most):ZjV m=true/\ZmI m=vldB m:=by
 have h:=ZqR m hm
 exact⟨by simp only[ZjV,h];rfl,by simp only[ZmI,h,getO]⟩
theorem ZXZ (m:List Cell) (t:Int) (hm:m.length<=most):ZF3 m t=true/\ZTJ m t=getX m t:=by
 have h:=ZTg m t hm
 exact⟨by simp only[ZF3,h];rfl,by simp only[ZTJ,h,getO]⟩
abbrev GR:R:=R.pair (R.int u16) (R.pair (R.int u16) (R.pair R.bool (R.int i64)))
def hitB (t:Int) (r:Zag):Bool:=decide (r.1<=t)&&decide (t<=r.2.1)
def Zbs (l:List Zag) (t:Int):Int:=if l.findIdx (hitB t)<l.length then (l.findIdx (hitB t):Int) else-1
def rg (l:List Zag) (i:Nat):Zag:=l.getD i (0,0,false,0)
theorem ZW0 (l:List Zag) (i:Nat):R.get GR l (i:Int)=rg l i:=by simp[R.get,R.dflt,rg]
theorem Zxg (l:List Zag) (i:Nat) (h:i<l.length):l[i]=rg l i:=by simp[rg,h]
theorem ZZQ {l:List Zag} {t:Int} {i:Nat} (hi:i<l.length) (h:hitB t (rg l i)=true) (hk:∀k,k<i->hitB t (rg l k)=false):Zbs l t=i:=by
 have:l.findIdx (hitB t)=i:=(List.findIdx_eq hi).2 ⟨by rw[Zxg l i hi];exact h,λj hj=>by rw[Zxg l j (by omega)];exact hk j hj⟩
 simp only[Zbs,this,hi,if_true]
theorem ZZP {l:List Zag} {t:Int} (hk:∀k,k<l.length->hitB t (rg l k)=false):Zbs l t= -1:=by
 have:¬l.findIdx (hitB t)<l.length:=by
  rw[List.findIdx_lt_length]
  rintro⟨x,hx,hp⟩
  obtain⟨i,hi,rfl⟩:=List.mem_iff_getElem.1 hx
  rw[Zxg l i hi,hk i hi] at hp
  exact absurd hp (by simp)
 simp only[Zbs,this,if_false]
theorem ZiA (l:List Zag) (t:Int) (hl:l.length<=most):ZnF l t=true/\Zj0 l t=Zbs l t:=by
 have hms:=mst
 obtain⟨r,hr,hR⟩:=ZM (fl:=true) (t:=Zg5) (fuel:=λ_=>1000000000000)
  (λx=>∃i:Nat,i<=l.length/\(∀k,k<i->hitB t (rg l k)=false)/\x=(t,0,l,(l.length:Int),(i:Int),()))
  (λx=>Int.toNat (x.2.2.2.1-x.2.2.2.2.1)) (λr=>(r.1=false/\Zbs l t= -1)\/(r.1=true/\r.2.2.1=Zbs l t))
  (by
   rintro x ⟨i,hi,hk,rfl⟩
   by_cases hlt:i<l.length
   ·have d:decide ((i:Int)<(l.length:Int))=true:=by simpa using hlt
    have r1:=ZaF l i hlt
    have g1:=ZW0 l i
    cases hh:hitB t (rg l i) with
    |false=>
     left
     refine⟨(t,0,l,(l.length:Int),((i+1:Nat):Int),()),?_,⟨i+1,hlt,λk hk'=> ?_,rfl⟩,by simp only;omega⟩
     ·simp only[hitB] at hh
      simp only[Zg5,RT.val,d,r1,g1,hh,cond_true,cond_false,ZhD i (by omega)]
     ·by_cases e:k=i
      ·subst e;exact hh
      ·exact hk k (by omega)
    |true=>
     right;right
     refine⟨(t,(i:Int),l,(l.length:Int),(i:Int),()),rfl,?_,.inr ⟨rfl,(ZZQ hlt hh hk).symm⟩⟩
     simp only[hitB] at hh
     simp only[Zg5,RT.val,d,r1,g1,hh,cond_true]
   ·right;left
    have d:decide ((i:Int)<(l.length:Int))=false:=by simpa using hlt
    exact⟨_,by simp only[Zg5,RT.val,d,cond_false];rfl,.inl ⟨rfl,ZZP λk h=>hk k (by omega)⟩⟩)
  (t,0,l,iN l.length,0,()) ⟨0,Nat.zero_le _,λk h=>by omega,rfl⟩ (by simp only[iN];omega)
 have hv:(ZnE l t).val=some (Zbs l t):=by
  rcases hR with ⟨h1,h2⟩|⟨h1,h2⟩
  ·simp only[ZnE,RT.val,hr,okB,getO,cond_true,h1,cond_false,h2]
  ·simp only[ZnE,RT.val,hr,okB,getO,cond_true,h1,h2]
 exact⟨by simp only[ZnF,hv];rfl,by simp only[Zj0,hv,getO]⟩
theorem ZPh (l:List Zag) (t:Int) (hl:l.length<=most):ZQc l t=true/\ZJO l t=Zbs l t:=by
 have h:=ZiA l t hl
 have e:ZGP l t=ZnE l t:=rfl
 simp only[ZnF,Zj0,<-e] at h
 exact h
def ZqU (l:List Zag) (m:List Cell) (t:Int):Int:=bif decide (Zbs l t<0) then 255 else getX m t
theorem ZNi (l:List Zag) (m:List Cell) (t:Int) (hl:l.length<=most) (hm:m.length<=most):ZAH l m t=true/\ZNM l m t=ZqU l m t:=by
 have h1:=ZiA l t hl
 have h2:=ZXZ m t hm
 have hv:(ZmP l m t).val=some (ZqU l m t):=by
  simp only[ZmP,RT.val,h1.1,h1.2,h2.1,h2.2,cond_true,ZqU]
  cases decide (Zbs l t<0)<;>rfl
 exact⟨by simp only[ZAH,hv];rfl,by simp only[ZNM,hv,getO]⟩
end
end Go.Proofs.YtghoimllhpjkjaaGreat
