import Derived.Test.YtghoimllhpjkjaaGreatS3D
import Derived.Test.YtghoimllhpjkjaaGreatProg
import Derived.Test.YtghoimllhpjkjaaGreatCloneC
import Derived.Test.YtghoimllhpjkjaaGreatSortA
open Go.Proofs.Tryz (prog)
open Go.IntKind (u8 u16 i64)
set_option linter.unusedSimpArgs false
open Go Go.S3 Go.Proofs
set_option linter.unusedVariables false
set_option maxRecDepth 100000
namespace Go.Proofs.YtghoimllhpjkjaaGreat
noncomputable section
abbrev Zl0:R:=R.pair (R.int u16) (R.int u8)
abbrev Zl1:Nat:=106
abbrev ZMc:List Sh:=[]
def Zwz (s:List (Int×Int)):RT (Option (List (Int×Int))):=
 .br (Zl8 (Stg.l (Zdu Zl0 Zl1 s)) (iN (List.length (Stg.l (Zdu Zl0 Zl1 s))))) (.leaf (some (Cells.isort (Stg.l (Zdu Zl0 Zl1 s))))) (.leaf none)
def ZzI (s:List (Int×Int)):List (Int×Int):=getO [] (Zwz s).val
def ZEH (s:List (Int×Int)):Bool:=okB (Zwz s).val
def ZMd:Entry:=stE Zl0 Zl1 185 ZMc (λa=>some (ZEH a.1)) (λa=>ZzI a.1)
theorem ZEG:Za prog 184 ZMd:=
 Zl9 (P:=prog) (n:=15) (k:=8) (l:=[(243,ZMb),(185,ZbP)]) (ol:=[]) ⟨ZMa,ZaC,Tv⟩ Tryz.func184 rfl (by kernel_rfl) Tryz.call184 trivial (r:=Zl0) (T:=Zl1) (g0:=185) (ts:=ZMc) (t:=λa=>Zwz a.1) (λa=>by kernel_rfl)
abbrev ZDl:List Sh:=[Sh.one rcCE]
abbrev Zvs:Rs:=Rs.one (Sh.one rcCE)
def ZT8:LS:={n:=45,slots:=[(3,.tip 0),(4,.tip 1),(11,.tip 0),(12,.code (Sh.one (R.int i64))),(13,.code (Sh.one (R.int i64)))],boxes:=[],stgs:=[⟨R.pair (R.int u16) (R.int u8),106,true⟩,⟨(R.pair (R.int u16) (R.int u8)),106,true⟩]}
def ZiT (a:QT26):RT (Option (Go1 (QT26))):=
 let x1:=(R.get (R.pair (R.int u16) (R.int u8)) a.2.2.1 a.2.1).2 !=0
 let x2:=i64.wrap (a.2.1+1)==iN (List.length a.2.2.1)
 let x3:= !x1||(x2||Zf (i64.wrap (a.2.1+1)) (List.length a.2.2.1))
 let x4:=x1&&(x2||(R.get (R.pair (R.int u16) (R.int u8)) a.2.2.1 (i64.wrap (a.2.1+1))).1 !=(R.get (R.pair (R.int u16) (R.int u8)) a.2.2.1 a.2.1).1)
 let x5:List (Int×Int):=a.2.2.2.1++[R.get (R.pair (R.int u16) (R.int u8)) a.2.2.1 a.2.1]
 .br (decide (a.2.1<a.1)) (.br (!Zf a.2.1 (List.length a.2.2.1)||(!x3||(!x4||Nat.ble (List.length x5) most))) (.br (!Zf a.2.1 (List.length a.2.2.1)||x3) (.br (Zf a.2.1 (List.length a.2.2.1)) (.leaf (some (Go1.cont (a.1,i64.wrap (a.2.1+1),a.2.2.1,bif x4 then x5 else a.2.2.2.1,PUnit.unit)))) (.leaf none)) (.leaf none)) (.leaf none)) (.leaf (some (Go1.brk (a.1,a.2.1,a.2.2.1,a.2.2.2.1,PUnit.unit))))
def ZGZ:Ora:=Zbm false ZT8 ZiT (λa=>(a.1-a.2.1).toNat+1)
theorem ZKo:Za1 (envX prog [(183,ZvQ),(184,ZMd),(185,ZbP)] [] 127 8) (.block 0 (.loop (Zae Tryz.f117.body 0))) ZGZ:=
 loopP ⟨Zpz,ZEG,ZaC,Tv⟩
def Zyt (l:List (Int×Int)):RT (Option (List (Int×Int))):=
 let x1:=runF false ZiT (λa=>Int.toNat (a.1-a.2.1)+1) (iN (List.length (ZzI l)),0,ZzI l,[],())
 .br (Nat.ble (List.length l) most) (.br (ZEH l) (.br (okB x1) (.leaf (some (getO (false,iN (List.length (ZzI l)),0,ZzI l,[],()) x1).2.2.2.2.1)) (.leaf none)) (.leaf none)) (.leaf none)
def ZQN (l:List (Int×Int)):List (Int×Int):=getO Zvs.dflt (Zyt l).val
def Zyu (l:List (Int×Int)):Bool:=okB (Zyt l).val
def ZQM:Entry:=Zg ZDl Zvs (λa=>some (Zyu a)) (λa=>ZQN a)
theorem Zvr:Za prog 117 ZQM:=
 pureP 127 [(183,ZvQ),(184,ZMd),(185,ZbP)] [(0,ZGZ)] ZDl Zvs ⟨Zpz,ZEG,ZaC,Tv⟩ Tryz.func117 Tryz.call117 ⟨ZKo,Tv⟩ (t:=λa=>Zyt a)
abbrev ZGT:List Sh:=[Sh.one rcCE]
abbrev Zvm:Rs:=Rs.one (Sh.one R.bool)
def ZQF:LS:={n:=31,slots:=[(0,.code (Sh.one rcCE)),(2,.code (Sh.one R.bool)),(5,.code (Sh.one rcCE)),(6,.code (Sh.one (R.int i64))),(7,.code (Sh.one (R.int i64)))],boxes:=[],stgs:=[]}
def Zen (a:List (Int×Int)×Bool×List (Int×Int)×Int×Int×PUnit):RT (Option (Go1 (List (Int×Int)×Bool×List (Int×Int)×Int×Int×PUnit))):=
 let x1:Int×Int:=R.get (R.pair (R.int u16) (R.int u8)) a.2.2.1 a.2.2.2.2.1
 let x2:=x1.2==0
 let x3:List (Int×Int)×Int×Int×PUnit:=(a.2.2.1,a.2.2.2.1,a.2.2.2.2.1,PUnit.unit)
 .br (decide (a.2.2.2.2.1<a.2.2.2.1)) (.br (!Zf a.2.2.2.2.1 (List.length a.2.2.1)||(x2||(!decide (a.2.2.2.2.1>0)||Zf (i64.wrap (a.2.2.2.2.1-1)) (List.length a.1)))) (.br (Zf a.2.2.2.2.1 (List.length a.2.2.1)) (.br (x2||decide (a.2.2.2.2.1>0)&&decide (x1.1<=(R.get (R.pair (R.int u16) (R.int u8)) a.1 (i64.wrap (a.2.2.2.2.1-1))).1)) (.leaf (some (Go1.ret (a.1,false,x3)))) (.leaf (some (Go1.cont (a.1,a.2.1,a.2.2.1,a.2.2.2.1,i64.wrap (a.2.2.2.2.1+1),PUnit.unit))))) (.leaf none)) (.leaf none)) (.leaf (some (Go1.brk (a.1,a.2.1,x3))))
def Zys:Ora:=Zbm true ZQF Zen (λa=>1000000000000)
theorem ZDk:Za1 (envX prog [] [] 31 8) (.block 0 (.loop (Zae Tryz.f294.body 0))) Zys:=
 loopP trivial
def ZjX (m:List (Int×Int)):RT (Option (Bool)):=
 let x1:=runF true Zen (λa=>1000000000000) (m,false,m,iN (List.length m),0,())
 let x2:=getO (false,m,false,m,iN (List.length m),0,()) x1
 .br (okB x1) (.br x2.1 (.leaf (some x2.2.2.1)) (.leaf (some (true)))) (.leaf none)
def ZoU (m:List (Int×Int)):Bool:=getO Zvm.dflt (ZjX m).val
def Zvn (m:List (Int×Int)):Bool:=okB (ZjX m).val
def ZQG:Entry:=Zg ZGT Zvm (λa=>some (Zvn a)) (λa=>ZoU a)
theorem ZQE:Za prog 294 ZQG:=
 pureP 31 [] [(0,Zys)] ZGT Zvm trivial Tryz.func294 Tryz.call294 ⟨ZDk,Tv⟩ (t:=λa=>ZjX a)
abbrev Zsu:List Sh:=[Sh.one rcCE]
abbrev Zk9:Rs:=Rs.one (Sh.one R.bool)
def ZM8:LS:={n:=34,slots:=[(0,.code (Sh.one rcCE)),(2,.code (Sh.one R.bool)),(5,.code (Sh.one (R.int i64))),(6,.code (Sh.one (R.int i64)))],boxes:=[],stgs:=[]}
def Zeb (a:List (Int×Int)×Bool×Int×Int×PUnit):RT (Option (Go1 (List (Int×Int)×Bool×Int×Int×PUnit))):=
 let x1:=(R.get (R.pair (R.int u16) (R.int u8)) a.1 a.2.2.2.1).2==0
 let x2:= !Zf a.2.2.2.1 (List.length a.1)||(x1||(!decide (a.2.2.2.1>0)||(!Zf a.2.2.2.1 (List.length a.1)||Zf (i64.wrap (a.2.2.2.1-1)) (List.length a.1))))
 let x3:= !x2
 let x4:= !Zf a.2.2.2.1 (List.length a.1)||(x1||(!decide (a.2.2.2.1>0)||Zf a.2.2.2.1 (List.length a.1)))
 .br (decide (a.2.2.2.1<a.2.2.1)) (.br (x3||(!x4||Zf a.2.2.2.1 (List.length a.1))) (.br (x3||x4) (.br (x2) (.br (x1||decide (a.2.2.2.1>0)&&decide ((R.get (R.pair (R.int u16) (R.int u8)) a.1 a.2.2.2.1).1<=(R.get (R.pair (R.int u16) (R.int u8)) a.1 (i64.wrap (a.2.2.2.1-1))).1)) (.leaf (some (Go1.ret (a.1,false,a.2.2.1,a.2.2.2.1,PUnit.unit)))) (.leaf (some (Go1.cont (a.1,a.2.1,a.2.2.1,i64.wrap (a.2.2.2.1+1),PUnit.unit))))) (.leaf none)) (.leaf none)) (.leaf none)) (.leaf (some (Go1.brk (a.1,a.2.1,a.2.2.1,a.2.2.2.1,PUnit.unit))))
def Zw3:Ora:=Zbm true ZM8 Zeb (λa=>1000000000000)
theorem ZAa:Za1 (envX prog [] [] 15 8) (.block 0 (.loop (Zae Tryz.f44.body 0))) Zw3:=
 loopP trivial
def Zjz (m:List (Int×Int)):RT (Option (Bool)):=
 let x1:=runF true Zeb (λa=>1000000000000) (m,false,iN (List.length m),0,())
 let x2:=getO (false,m,false,iN (List.length m),0,()) x1
 .br (okB x1) (.br x2.1 (.leaf (some x2.2.2.1)) (.leaf (some (true)))) (.leaf none)
def Zmq (m:List (Int×Int)):Bool:=getO Zk9.dflt (Zjz m).val
def ZjA (m:List (Int×Int)):Bool:=okB (Zjz m).val
def ZAb:Entry:=Zg Zsu Zk9 (λa=>some (ZjA a)) (λa=>Zmq a)
theorem Zmo:Za prog 44 ZAb:=
 pureP 15 [] [(0,Zw3)] Zsu Zk9 trivial Tryz.func44 Tryz.call44 ⟨ZAa,Tv⟩ (t:=λa=>Zjz a)
abbrev ZN1:List Sh:=[Sh.one rcCE,Sh.one (R.int u16)]
abbrev ZBg:Rs:=Rs.one (Sh.one (R.int u8))
def ZTb:LS:={n:=25,slots:=[(0,.code (Sh.one rcCE)),(1,.code (Sh.one (R.int u16))),(4,.code (Sh.one (R.int u8))),(5,.code (Sh.one (R.int i64)))],boxes:=[],stgs:=[]}
def ZgZ (a:List (Int×Int)×Int×Int×Int×PUnit):RT (Option (Go1 (List (Int×Int)×Int×Int×Int×PUnit))):=
 let x1:=(R.get (R.pair (R.int u16) (R.int u8)) a.1 a.2.2.2.1).1==a.2.1
 .br (decide (a.2.2.2.1>=0)) (.br (!Zf a.2.2.2.1 (List.length a.1)||(!x1||Zf a.2.2.2.1 (List.length a.1))) (.br (Zf a.2.2.2.1 (List.length a.1)) (.br (x1) (.leaf (some (Go1.ret (a.1,a.2.1,(R.get (R.pair (R.int u16) (R.int u8)) a.1 a.2.2.2.1).2,a.2.2.2.1,PUnit.unit)))) (.leaf (some (Go1.cont (a.1,a.2.1,a.2.2.1,i64.wrap (a.2.2.2.1-1),PUnit.unit))))) (.leaf none)) (.leaf none)) (.leaf (some (Go1.brk (a.1,a.2.1,a.2.2.1,a.2.2.2.1,PUnit.unit))))
def ZFG:Ora:=Zbm true ZTb ZgZ (λa=>1000000000000)
theorem ZIi:Za1 (envX prog [] [] 63 8) (.block 0 (.loop (Zae Tryz.f35.body 0))) ZFG:=
 loopP trivial
def ZqT (m:List (Int×Int)) (t:Int):RT (Option (Int)):=
 let x1:List (Int×Int)×Int×Int×Int×PUnit:=(m,t,0,i64.wrap (iN (List.length m)-1),())
 let x2:=runF true ZgZ (λa=>1000000000000) x1
 let x3:=getO (false,x1) x2
 .br (okB x2) (.br x3.1 (.leaf (some x3.2.2.2.1)) (.leaf (some (0)))) (.leaf none)
def ZTc (m:List (Int×Int)) (t:Int):Int:=getO ZBg.dflt (ZqT m t).val
def ZFH (m:List (Int×Int)) (t:Int):Bool:=okB (ZqT m t).val
def ZVH:Entry:=Zg ZN1 ZBg (λa=>some (ZFH a.1 a.2)) (λa=>ZTc a.1 a.2)
theorem ZTa:Za prog 35 ZVH:=
 pureP 63 [] [(0,ZFG)] ZN1 ZBg trivial Tryz.func35 Tryz.call35 ⟨ZIi,Tv⟩ (t:=λa=>ZqT a.1 a.2)
abbrev ZNt:List Sh:=[Sh.one rcCE,Sh.agg (R.pair (R.int u16) (R.int u8))]
abbrev ZAp:Rs:=Rs.one (Sh.one rcCE)
def ZSZ:LS:={n:=53,slots:=[(3,.fix (A.loc 0 0)),(5,.tip 0),(6,.code (Sh.one R.bool)),(9,.code (Sh.one rcCE)),(10,.code (Sh.one (R.int i64))),(11,.code (Sh.one (R.int i64)))],boxes:=[[.many (R.pair (R.int u16) (R.int u8))]],stgs:=[⟨(R.pair (R.int u16) (R.int u8)),106,true⟩]}
def Zis (a:QT9):RT (Option (Go1 (QT9))):=
 let x1:Int×Int:=R.get (R.pair (R.int u16) (R.int u8)) a.2.1 a.2.2.2.1
 let x2:=x1.1
 let x3:= !a.1&&decide (x2>=a.2.2.2.2.1.1)
 let x4:List (Int×Int):=a.2.2.2.2.2.1++[a.2.2.2.2.1]
 let x5:= !x3||(!a.2.2.2.2.1.2 !=0||Nat.ble (List.length x4) most)
 let x6:=x2 !=a.2.2.2.2.1.1
 let x7:List (Int×Int):=bif x3 then bif a.2.2.2.2.1.2 !=0 then x4 else a.2.2.2.2.2.1 else a.2.2.2.2.2.1
 let x8:List (Int×Int):=x7++[x1]
 .br (decide (a.2.2.2.1<a.2.2.1)) (.br (!Zf a.2.2.2.1 (List.length a.2.1)||(!x5||(!x6||Nat.ble (List.length x8) most))) (.br (!Zf a.2.2.2.1 (List.length a.2.1)||x5) (.br (Zf a.2.2.2.1 (List.length a.2.1)) (.leaf (some (Go1.cont (x3||a.1,a.2.1,a.2.2.1,i64.wrap (a.2.2.2.1+1),a.2.2.2.2.1,bif x6 then x8 else x7,PUnit.unit)))) (.leaf none)) (.leaf none)) (.leaf none)) (.leaf (some (Go1.brk (a.1,a.2.1,a.2.2.1,a.2.2.2.1,a.2.2.2.2.1,a.2.2.2.2.2.1,PUnit.unit))))
def ZFm:Ora:=Zbm false ZSZ Zis (λa=>1000000000000)
theorem ZH1:Za1 (envX prog [] [] 511 8) (.block 0 (.loop (Zae Tryz.f149.body 0))) ZFm:=
 loopP trivial
def ZqL (m:List (Int×Int)) (c:Int×Int):RT (Option (List (Int×Int))):=
 let x1:QT9:=(false,m,iN (List.length m),0,c,[],())
 let x2:=runF false Zis (λa=>1000000000000) x1
 let x3:QT9:=(getO (false,x1) x2).2
 let x4:=x3.2.2.2.2
 let x5:=x4.1
 let x6:= !x3.1&&x5.2 !=0
 let x7:=x4.2.1
 let x8:List (Int×Int):=x7++[x5]
 .br (okB x2) (.br (!x6||Nat.ble (List.length x8) most) (.leaf (some (bif x6 then x8 else x7))) (.leaf none)) (.leaf none)
def ZH2 (m:List (Int×Int)) (c:Int×Int):List (Int×Int):=getO ZAp.dflt (ZqL m c).val
def ZqM (m:List (Int×Int)) (c:Int×Int):Bool:=okB (ZqL m c).val
def ZFn:Entry:=Zg ZNt ZAp (λa=>some (ZqM a.1 a.2)) (λa=>ZH2 a.1 a.2)
theorem ZsI:Za prog 149 ZFn:=
 pureP 511 [] [(0,ZFm)] ZNt ZAp trivial Tryz.func149 Tryz.call149 ⟨ZH1,Tv⟩ (t:=λa=>ZqL a.1 a.2)
abbrev ZAv:List Sh:=[Sh.one rcCE]
abbrev ZsN:Rs:=Rs.one (Sh.one rcCE)
def ZS7:LS:={n:=21,slots:=[(3,.code (Sh.one rcCE)),(10,.code (Sh.one rcCE)),(11,.code (Sh.one (R.int i64))),(12,.code (Sh.one (R.int i64)))],boxes:=[],stgs:=[]}
def Ziu (a:List (Int×Int)×List (Int×Int)×Int×Int×PUnit):RT (Option (Go1 (List (Int×Int)×List (Int×Int)×Int×Int×PUnit))):=
 let x1:Int×Int:=R.get (R.pair (R.int u16) (R.int u8)) a.2.1 a.2.2.2.1
 .br (decide (a.2.2.2.1<a.2.2.1)) (.br (!Zf a.2.2.2.1 (List.length a.2.1)||ZqM a.1 x1) (.br (Zf a.2.2.2.1 (List.length a.2.1)) (.leaf (some (Go1.cont (ZH2 a.1 x1,a.2.1,a.2.2.1,i64.wrap (a.2.2.2.1+1),PUnit.unit)))) (.leaf none)) (.leaf none)) (.leaf (some (Go1.brk (a.1,a.2.1,a.2.2.1,a.2.2.2.1,PUnit.unit))))
def ZFv:Ora:=Zbm false ZS7 Ziu (λa=>1000000000000)
theorem ZH4:Za1 (envX prog [(44,ZAb),(149,ZFn)] [] 63 8) (.block 0 (.loop (Zae Tryz.f92.body 0))) ZFv:=
 loopP ⟨Zmo,ZsI,Tv⟩
def ZqQ (l:List (Int×Int)):RT (Option (List (Int×Int))):=
 let x1:=runF false Ziu (λa=>1000000000000) ([],l,iN (List.length l),0,())
 .br (ZjA l) (.br (!Zmq l||Nat.ble (List.length ([]++l)) most) (.br (Zmq l) (.leaf (some ([]++l))) (.br (okB x1) (.leaf (some (getO (false,[],l,iN (List.length l),0,()) x1).2.1)) (.leaf none))) (.leaf none)) (.leaf none)
def ZH5 (l:List (Int×Int)):List (Int×Int):=getO ZsN.dflt (ZqQ l).val
def ZqR (l:List (Int×Int)):Bool:=okB (ZqQ l).val
def ZNM:Entry:=Zg ZAv ZsN (λa=>some (ZqR a)) (λa=>ZH5 a)
theorem ZsM:Za prog 92 ZNM:=
 pureP 63 [(44,ZAb),(149,ZFn)] [(0,ZFv)] ZAv ZsN ⟨Zmo,ZsI,Tv⟩ Tryz.func92 Tryz.call92 ⟨ZH4,Tv⟩ (t:=λa=>ZqQ a)
abbrev ZNs:List Sh:=[Sh.one rcCE,Sh.one (R.int u16),Sh.one (R.int u8)]
abbrev ZAo:Rs:=Rs.one (Sh.one rcCE)
def Zxj (m:List (Int×Int)) (t:Int) (v:Int):RT (Option (List (Int×Int))):=
 .br (!ZqR m||ZqM (ZH5 m) (t,v)) (.br (ZqR m) (.leaf (some (ZH2 (ZH5 m) (t,v)))) (.leaf none)) (.leaf none)
def ZSY (m:List (Int×Int)) (t:Int) (v:Int):List (Int×Int):=getO ZAo.dflt (Zxj m t v).val
def ZFl (m:List (Int×Int)) (t:Int) (v:Int):Bool:=okB (Zxj m t v).val
def ZVq:Entry:=Zg ZNs ZAo (λa=>some (ZFl a.1 a.2.1 a.2.2)) (λa=>ZSY a.1 a.2.1 a.2.2)
theorem ZSX:Za prog 161 ZVq:=
 pureP 127 [(92,ZNM),(149,ZFn)] [] ZNs ZAo ⟨ZsM,ZsI,Tv⟩ Tryz.func161 Tryz.call161 trivial (t:=λa=>Zxj a.1 a.2.1 a.2.2)
abbrev ZsC:List Sh:=[Sh.one rcCE,Sh.one rcCE]
abbrev Zld:Rs:=Rs.one (Sh.one R.bool)
def ZNd:LS:={n:=26,slots:=[(0,.code (Sh.one rcCE)),(1,.code (Sh.one rcCE)),(4,.code (Sh.one R.bool)),(12,.code (Sh.one (R.int i64))),(13,.code (Sh.one (R.int i64)))],boxes:=[],stgs:=[]}
def ZeY (a:List (Int×Int)×List (Int×Int)×Bool×Int×Int×PUnit):RT (Option (Go1 (List (Int×Int)×List (Int×Int)×Bool×Int×Int×PUnit))):=
 let x1:= !Zf a.2.2.2.2.1 (List.length a.1)||Zf a.2.2.2.2.1 (List.length a.2.1)
 let x2:Int×Int:=R.get (R.pair (R.int u16) (R.int u8)) a.1 a.2.2.2.2.1
 let x3:Int×Int:=R.get (R.pair (R.int u16) (R.int u8)) a.2.1 a.2.2.2.2.1
 let x4:Int×Int×PUnit:=(a.2.2.2.1,a.2.2.2.2.1,PUnit.unit)
 .br (decide (a.2.2.2.2.1<a.2.2.2.1)) (.br (!x1||Zf a.2.2.2.2.1 (List.length a.1)) (.br (x1) (.br (!(x2.1==x3.1&&(x2.2==x3.2&&true))) (.leaf (some (Go1.ret (a.1,a.2.1,false,x4)))) (.leaf (some (Go1.cont (a.1,a.2.1,a.2.2.1,a.2.2.2.1,i64.wrap (a.2.2.2.2.1+1),PUnit.unit))))) (.leaf none)) (.leaf none)) (.leaf (some (Go1.brk (a.1,a.2.1,a.2.2.1,x4))))
def Zxg:Ora:=Zbm true ZNd ZeY (λa=>1000000000000)
theorem ZAg:Za1 (envX prog [] [] 63 8) (.block 0 (.loop (Zae Tryz.f39.body 0))) Zxg:=
 loopP trivial
def ZhI (a:List (Int×Int)) (b:List (Int×Int)):RT (Option (Bool)):=
 let x1:=runF true ZeY (λa_1=>1000000000000) (a,b,false,iN (List.length a),0,())
 let x2:=getO (false,a,b,false,iN (List.length a),0,()) x1
 .br (iN (List.length a) !=iN (List.length b)) (.leaf (some (false))) (.br (okB x1) (.br x2.1 (.leaf (some x2.2.2.2.1)) (.leaf (some (true)))) (.leaf none))
def ZNe (a:List (Int×Int)) (b:List (Int×Int)):Bool:=getO Zld.dflt (ZhI a b).val
def ZAh (a:List (Int×Int)) (b:List (Int×Int)):Bool:=okB (ZhI a b).val
def ZXA:Entry:=Zg ZsC Zld (λa=>some (ZAh a.1 a.2)) (λa=>ZNe a.1 a.2)
theorem ZNc:Za prog 39 ZXA:=
 pureP 63 [] [(0,Zxg)] ZsC Zld trivial Tryz.func39 Tryz.call39 ⟨ZAg,Tv⟩ (t:=λa=>ZhI a.1 a.2)
abbrev ZN2:List Sh:=[Sh.one rcRG,Sh.one (R.int u16)]
abbrev ZBk:Rs:=Rs.one (Sh.one (R.int i64))
def ZTd:LS:={n:=26,slots:=[(1,.code (Sh.one (R.int u16))),(4,.code (Sh.one (R.int i64))),(7,.code (Sh.one rcRG)),(8,.code (Sh.one (R.int i64))),(9,.code (Sh.one (R.int i64)))],boxes:=[],stgs:=[]}
def Zg0 (a:QT15):RT (Option (Go1 (QT15))):=
 let x1:QT4:=R.get (R.pair (R.int u16) (R.pair (R.int u16) (R.pair R.bool (R.int i64)))) a.2.2.1 a.2.2.2.2.1
 let x2:List (QT4)×Int×Int×PUnit:=(a.2.2.1,a.2.2.2.1,a.2.2.2.2.1,PUnit.unit)
 .br (decide (a.2.2.2.2.1<a.2.2.2.1)) (.br (Zf a.2.2.2.2.1 (List.length a.2.2.1)) (.br (decide (x1.1<=a.1)&&decide (a.1<=x1.2.1)) (.leaf (some (Go1.ret (a.1,a.2.2.2.2.1,x2)))) (.leaf (some (Go1.cont (a.1,a.2.1,a.2.2.1,a.2.2.2.1,i64.wrap (a.2.2.2.2.1+1),PUnit.unit))))) (.leaf none)) (.leaf (some (Go1.brk (a.1,a.2.1,x2))))
def ZFK:Ora:=Zbm true ZTd Zg0 (λa=>1000000000000)
theorem ZIj:Za1 (envX prog [] [] 127 8) (.block 0 (.loop (Zae Tryz.f43.body 0))) ZFK:=
 loopP trivial
def Znm (l:List (QT4)) (t:Int):RT (Option (Int)):=
 let x1:=runF true Zg0 (λa=>1000000000000) (t,0,l,iN (List.length l),0,())
 let x2:=getO (false,t,0,l,iN (List.length l),0,()) x1
 .br (okB x1) (.br x2.1 (.leaf (some x2.2.2.1)) (.leaf (some (-1)))) (.leaf none)
def ZjG (l:List (QT4)) (t:Int):Int:=getO ZBk.dflt (Znm l t).val
def Znn (l:List (QT4)) (t:Int):Bool:=okB (Znm l t).val
def ZFL:Entry:=Zg ZN2 ZBk (λa=>some (Znn a.1 a.2)) (λa=>ZjG a.1 a.2)
theorem Zs4:Za prog 43 ZFL:=
 pureP 127 [] [(0,ZFK)] ZN2 ZBk trivial Tryz.func43 Tryz.call43 ⟨ZIj,Tv⟩ (t:=λa=>Znm a.1 a.2)
abbrev ZsE:List Sh:=[Sh.one rcRG,Sh.one rcCE,Sh.one (R.int u16)]
abbrev Zlf:Rs:=Rs.one (Sh.one (R.int u8))
def Zmx (l:List (QT4)) (m:List (Int×Int)) (t:Int):RT (Option (Int)):=
 .br (Znn l t) (.br (decide (ZjG l t<0)) (.leaf (some (255))) (.br (ZFH m t) (.leaf (some (ZTc m t))) (.leaf none))) (.leaf none)
def ZNm (l:List (QT4)) (m:List (Int×Int)) (t:Int):Int:=getO Zlf.dflt (Zmx l m t).val
def ZAk (l:List (QT4)) (m:List (Int×Int)) (t:Int):Bool:=okB (Zmx l m t).val
def ZXF:Entry:=Zg ZsE Zlf (λa=>some (ZAk a.1 a.2.1 a.2.2)) (λa=>ZNm a.1 a.2.1 a.2.2)
theorem ZNl:Za prog 102 ZXF:=
 pureP 127 [(35,ZVH),(43,ZFL)] [] ZsE Zlf ⟨ZTa,Zs4,Tv⟩ Tryz.func102 Tryz.call102 trivial (t:=λa=>Zmx a.1 a.2.1 a.2.2)
abbrev Zmk:List Sh:=[Sh.one rcRG,Sh.one rcCE,Sh.one (R.int u16),Sh.one (R.int u8)]
abbrev Zim:Rs:=Rs.one (Sh.one rcCE)
def Zil (l:List (QT4)) (m:List (Int×Int)) (t:Int) (v:Int):RT (Option (List (Int×Int))):=
 let x1:=decide (ZjG l t>=0)&&(R.get (R.pair (R.int u16) (R.pair (R.int u16) (R.pair R.bool (R.int i64)))) l (ZjG l t)).2.2.1
 .br (Znn l t) (.br (!decide (ZjG l t>=0)||Zf (ZjG l t) (List.length l)) (.br (!x1||ZFl m t v) (.br (x1) (.leaf (some (ZSY m t v))) (.br (ZqR m) (.leaf (some (ZH5 m))) (.leaf none))) (.leaf none)) (.leaf none)) (.leaf none)
def Zz6 (l:List (QT4)) (m:List (Int×Int)) (t:Int) (v:Int):List (Int×Int):=getO Zim.dflt (Zil l m t v).val
def Zsr (l:List (QT4)) (m:List (Int×Int)) (t:Int) (v:Int):Bool:=okB (Zil l m t v).val
def ZSN:Entry:=Zg Zmk Zim (λa=>some (Zsr a.1 a.2.1 a.2.2.1 a.2.2.2)) (λa=>Zz6 a.1 a.2.1 a.2.2.1 a.2.2.2)
theorem ZHQ:Za prog 101 ZSN:=
 pureP 1023 [(43,ZFL),(92,ZNM),(161,ZVq)] [] Zmk Zim ⟨Zs4,ZsM,ZSX,Tv⟩ Tryz.func101 Tryz.call101 trivial (t:=λa=>Zil a.1 a.2.1 a.2.2.1 a.2.2.2)
abbrev ZPK:List Sh:=[Sh.one rcRG,Sh.one (R.int u16)]
abbrev ZCF:Rs:=Rs.one (Sh.one (R.int i64))
def ZTM:LS:={n:=26,slots:=[(1,.code (Sh.one (R.int u16))),(4,.code (Sh.one (R.int i64))),(7,.code (Sh.one rcRG)),(8,.code (Sh.one (R.int i64))),(9,.code (Sh.one (R.int i64)))],boxes:=[],stgs:=[]}
def ZGu (a:QT15):RT (Option (Go1 (QT15))):=
 let x1:QT4:=R.get (R.pair (R.int u16) (R.pair (R.int u16) (R.pair R.bool (R.int i64)))) a.2.2.1 a.2.2.2.2.1
 let x2:List (QT4)×Int×Int×PUnit:=(a.2.2.1,a.2.2.2.1,a.2.2.2.2.1,PUnit.unit)
 .br (decide (a.2.2.2.2.1<a.2.2.2.1)) (.br (Zf a.2.2.2.2.1 (List.length a.2.2.1)) (.br (decide (x1.1<=a.1)&&decide (a.1<=x1.2.1)) (.leaf (some (Go1.ret (a.1,a.2.2.2.2.1,x2)))) (.leaf (some (Go1.cont (a.1,a.2.1,a.2.2.1,a.2.2.2.1,i64.wrap (a.2.2.2.2.1+1),PUnit.unit))))) (.leaf none)) (.leaf (some (Go1.brk (a.1,a.2.1,x2))))
def ZGv:Ora:=Zbm true ZTM ZGu (λa=>1000000000000)
theorem ZJq:Za1 (envX prog [] [] 127 8) (.block 0 (.loop (Zae Tryz.f245.body 0))) ZGv:=
 loopP trivial
def ZGt (l:List (QT4)) (t:Int):RT (Option (Int)):=
 let x1:=runF true ZGu (λa=>1000000000000) (t,0,l,iN (List.length l),0,())
 let x2:=getO (false,t,0,l,iN (List.length l),0,()) x1
 .br (okB x1) (.br x2.1 (.leaf (some x2.2.2.1)) (.leaf (some (-1)))) (.leaf none)
def ZJr (l:List (QT4)) (t:Int):Int:=getO ZCF.dflt (ZGt l t).val
def ZPL (l:List (QT4)) (t:Int):Bool:=okB (ZGt l t).val
def ZWg:Entry:=Zg ZPK ZCF (λa=>some (ZPL a.1 a.2)) (λa=>ZJr a.1 a.2)
theorem ZTL:Za prog 245 ZWg:=
 pureP 127 [] [(0,ZGv)] ZPK ZCF trivial Tryz.func245 Tryz.call245 ⟨ZJq,Tv⟩ (t:=λa=>ZGt a.1 a.2)
end
end Go.Proofs.YtghoimllhpjkjaaGreat
namespace Go.Proofs.Cells
def getX (l:List Cell) (a:Int):Int:=((flt a l).getLast?.map Prod.snd).getD 0
def Vld (m:List Cell):Prop:=m.Pairwise (λa b=>a.1<b.1)/\∀c∈m,c.2≠0
theorem ZKw {l l':List Cell} (h:Sm l l') (a:Int):getX l a=getX l' a:=by rw[getX,getX,h a]
theorem Vld.srt {m:List Cell} (h:Vld m):Srt m:=h.1.imp λh=>Int.le_of_lt h
theorem Vld.tail {c:Cell} {m:List Cell} (h:Vld (c::m)):Vld m:=⟨(List.pairwise_cons.1 h.1).2,λx hx=>h.2 x (List.mem_cons_of_mem _ hx)⟩
theorem ZHe (a:Int):getX [] a=0:=rfl
theorem Zly (a:Int) (c:Cell) (l:List Cell):flt a (c::l)=if c.1=a then c::flt a l else flt a l:=by
 by_cases h:c.1=a<;>simp[flt,h]
theorem Zes (c:Cell) (l:List Cell) (a:Int):getX (c::l) a=if c.1=a/\flt a l=[] then c.2 else getX l a:=by
 simp only[getX,Zly]
 by_cases h:c.1=a
 ·simp only[h,if_true,true_and]
  cases hf:flt a l with
  |nil=>simp
  |cons x r=>simp[List.getLast?_cons_cons]
 ·simp[h]
theorem Vld.flt {m:List Cell} (h:Vld m) (a:Int):Cells.flt a m=if getX m a=0 then [] else [(a,getX m a)]:=by
 induction m with
 |nil=>simp[Cells.flt,ZHe]
 |cons c m ih=>
  have ih:=ih h.tail
  have h1:=List.pairwise_cons.1 h.1
  by_cases hc:c.1=a
  ·have hn:Cells.flt a m=[]:=Zet λx hx=>by have:=h1.1 x hx;omega
   have hz:=h.2 c (by simp)
   rw[Zly,Zes]
   simp only[hc,hn,and_self,if_true,hz,if_false]
   rw[<-hc]
  ·rw[Zly,Zes]
   simp only[hc,false_and,if_false,ih]
theorem ZWS {m m':List Cell} (h:Vld m) (h':Vld m') (e:∀a,getX m a=getX m' a):m=m':=
 uniq h.srt h'.srt λk=>by rw[h.flt,h'.flt,e k]
def dd:List Cell->List Cell
 |[]=>[]
 |x::r=>match r with
  |[]=>if x.2=0 then [] else [x]
  |y::_=>if x.1=y.1 then dd r else if x.2=0 then dd r else x::dd r
theorem Zrs:∀{l:List Cell} {c:Cell},c∈dd l->c∈l/\c.2≠0
 |[],c,h=>by simp[dd] at h
 |[x],c,h=>by
  simp only[dd] at h
  split at h
  ·simp at h
  ·rename_i hz;simp at h;subst h;exact⟨by simp,hz⟩
 |x::y::r,c,h=>by
  rw[dd] at h
  split at h
  ·have:=Zrs h;exact⟨List.mem_cons_of_mem _ this.1,this.2⟩
  ·split at h
   ·have:=Zrs h;exact⟨List.mem_cons_of_mem _ this.1,this.2⟩
   ·rename_i hz
    rcases List.mem_cons.1 h with e|e
    ·subst e;exact⟨by simp,hz⟩
    ·have:=Zrs e;exact⟨List.mem_cons_of_mem _ this.1,this.2⟩
theorem ZWx:∀{l:List Cell},Srt l->Vld (dd l)
 |[],_=>⟨List.Pairwise.nil,λc h=>by simp[dd] at h⟩
 |[x],_=>by
  refine⟨?_,λc h=>(Zrs h).2⟩
  simp only[dd];split<;>simp
 |x::y::r,h=>by
  have h1:=List.pairwise_cons.1 h
  have ih:=ZWx (l:=y::r) h1.2
  have h2:=List.pairwise_cons.1 h1.2
  rw[dd]
  split
  ·exact ih
  ·rename_i hne
   split
   ·exact ih
   ·rename_i hz
    refine⟨List.pairwise_cons.2 ⟨λc hc=> ?_,ih.1⟩,λc hc=> ?_⟩
    ·have hxy:=h1.1 y (by simp)
     rcases List.mem_cons.1 (Zrs hc).1 with e|e
     ·rw[e];omega
     ·have:=h2.1 c e;omega
    ·rcases List.mem_cons.1 hc with e|e
     ·rw[e];exact hz
     ·exact ih.2 c e
theorem ZWy:∀{l:List Cell},Srt l->∀a,getX (dd l) a=getX l a
 |[],_,_=>rfl
 |[x],_,a=>by
  simp only[dd]
  split
  ·rename_i hz;rw[Zes];simp[flt,getX,hz]
  ·rfl
 |x::y::r,h,a=>by
  have h1:=List.pairwise_cons.1 h
  have ih:=ZWy (l:=y::r) h1.2 a
  have h2:=List.pairwise_cons.1 h1.2
  rw[dd,Zes x (y::r)]
  by_cases hxy:x.1=y.1
  ·rw[if_pos hxy,ih]
   by_cases hc:x.1=a/\flt a (y::r)=[]
   ·obtain⟨e,e2⟩:=hc
    rw[Zly,if_pos (by rw[<-hxy];exact e)] at e2;simp at e2
   ·rw[if_neg hc]
  ·rw[if_neg hxy]
   have hlt:∀c∈y::r,x.1<c.1:=λc hc=>by
    have:=h1.1 y (by simp)
    rcases List.mem_cons.1 hc with e|e
    ·rw[e];omega
    ·have:=h2.1 c e;omega
   by_cases hc:x.1=a
   ·have hn:flt a (y::r)=[]:=Zet λc hc'=>by have:=hlt c hc';omega
    have hn2:flt a (dd (y::r))=[]:=Zet λc hc'=>by have:=hlt c (Zrs hc').1;omega
    by_cases hz:x.2=0
    ·rw[if_pos hz,if_pos ⟨hc,hn⟩,hz,getX,hn2];rfl
    ·rw[if_neg hz,if_pos ⟨hc,hn⟩,Zes,if_pos ⟨hc,hn2⟩]
   ·by_cases hz:x.2=0
    ·rw[if_pos hz,if_neg (λh=>hc h.1),ih]
    ·rw[if_neg hz,if_neg (λh=>hc h.1),Zes,if_neg (λh=>hc h.1),ih]
def putX:List Cell->Cell->List Cell
 |[],c=>if c.2=0 then [] else [c]
 |x::r,c=>if x.1<c.1 then x::putX r c else if c.2=0 then (if x.1=c.1 then r else x::r) else if x.1=c.1 then c::r else c::x::r
theorem ZtQ:∀{m:List Cell} {c x:Cell},x∈putX m c->x=c\/x∈m
 |[],c,x,h=>by
  simp only[putX] at h
  split at h
  ·simp at h
  ·left;simpa using h
 |y::r,c,x,h=>by
  simp only[putX] at h
  split at h
  ·rcases List.mem_cons.1 h with e|e
   ·right;simp[e]
   ·rcases ZtQ e with e|e
    ·exact .inl e
    ·right;simp[e]
  ·split at h
   ·split at h
    ·right;simp[h]
    ·right;exact h
   ·split at h
    ·rcases List.mem_cons.1 h with e|e
     ·exact .inl e
     ·right;simp[e]
    ·rcases List.mem_cons.1 h with e|e
     ·exact .inl e
     ·right;exact e
theorem ZF0:∀{m:List Cell} {c:Cell},Vld m->Vld (putX m c)
 |[],c,_=>by
  simp only[putX]
  split
  ·exact⟨List.Pairwise.nil,λc h=>by simp at h⟩
  ·rename_i hz;exact⟨by simp,λx h=>by simp at h;rw[h];exact hz⟩
 |y::r,c,h=>by
  have h1:=List.pairwise_cons.1 h.1
  have hy:=h.2 y (by simp)
  simp only[putX]
  split
  ·rename_i hlt
   have ih:=ZF0 (c:=c) h.tail
   refine⟨List.pairwise_cons.2 ⟨λx hx=> ?_,ih.1⟩,λx hx=> ?_⟩
   ·rcases ZtQ hx with e|e
    ·rw[e];exact hlt
    ·exact h1.1 x e
   ·rcases List.mem_cons.1 hx with e|e
    ·rw[e];exact hy
    ·exact ih.2 x e
  ·rename_i hge
   split
   ·split
    ·exact h.tail
    ·exact h
   ·rename_i hz
    split
    ·rename_i he
     refine⟨List.pairwise_cons.2 ⟨λx hx=> ?_,h1.2⟩,λx hx=> ?_⟩
     ·have:=h1.1 x hx;omega
     ·rcases List.mem_cons.1 hx with e|e
      ·rw[e];exact hz
      ·exact h.2 x (List.mem_cons_of_mem _ e)
    ·rename_i hne
     refine⟨List.pairwise_cons.2 ⟨λx hx=> ?_,h.1⟩,λx hx=> ?_⟩
     ·rcases List.mem_cons.1 hx with e|e
      ·rw[e];omega
      ·have:=h1.1 x e;omega
     ·rcases List.mem_cons.1 hx with e|e
      ·rw[e];exact hz
      ·exact h.2 x e
theorem ZvB {l:List Cell} {a:Int} (h:∀c∈l,c.1≠a):getX l a=0:=by rw[getX,Zet h];rfl
theorem Zd3 {x:Cell} {r:List Cell} (h:∀c∈r,x.1<c.1) (a:Int):getX (x::r) a=if x.1=a then x.2 else getX r a:=by
 rw[Zes]
 by_cases hx:x.1=a
 ·have:flt a r=[]:=Zet λc hc=>by have:=h c hc;omega
  simp[hx,this]
 ·simp[hx]
theorem ZF1:∀{m:List Cell} {c:Cell},Vld m->∀a,getX (putX m c) a=if c.1=a then c.2 else getX m a
 |[],c,_,a=>by
  simp only[putX]
  split
  ·rename_i hz;rw[ZHe,hz];simp
  ·rw[Zd3 (by simp)]
 |y::r,c,h,a=>by
  have h1:=List.pairwise_cons.1 h.1
  simp only[putX]
  split
  ·rename_i hlt
   rw[Zd3 (λx hx=>by
    rcases ZtQ hx with e|e
    ·rw[e];exact hlt
    ·exact h1.1 x e),Zd3 h1.1,ZF1 h.tail a]
   by_cases e1:y.1=a
   ·simp only[e1,if_true];rw[if_neg (by omega)]
   ·simp[e1]
  ·rename_i hge
   split
   ·rename_i hz
    split
    ·rename_i he
     rw[Zd3 h1.1]
     by_cases e:c.1=a
     ·rw[if_pos e,hz]
      exact ZvB λx hx=>by have:=h1.1 x hx;omega
     ·rw[if_neg e,if_neg (by omega)]
    ·rename_i hne
     by_cases e:c.1=a
     ·rw[if_pos e,hz]
      exact ZvB λx hx=>by
       rcases List.mem_cons.1 hx with e'|e'
       ·rw[e'];omega
       ·have:=h1.1 x e';omega
     ·rw[if_neg e]
   ·split
    ·rename_i he
     rw[Zd3 (λx hx=>by have:=h1.1 x hx;omega),Zd3 h1.1]
     by_cases e:c.1=a
     ·simp[e]
     ·rw[if_neg e,if_neg e,if_neg (by omega)]
    ·rename_i hne
     rw[Zd3 (λx hx=>by
      rcases List.mem_cons.1 hx with e|e
      ·rw[e];omega
      ·have:=h1.1 x e;omega)]
def normX (l:List Cell):List Cell:=l.foldl putX []
theorem ZQ9 (l:List Cell) (c:Cell) (a:Int):getX (l++[c]) a=if c.1=a then c.2 else getX l a:=by
 rw[getX,getX,Zdy]
 by_cases h:c.1=a
 ·have:flt a [c]=[c]:=by simp[flt,h]
  rw[this,List.getLast?_append];simp[h]
 ·have:flt a [c]=[]:=Zet λx hx=>by simp at hx;rw[hx];exact h
  rw[this];simp[h]
theorem Zpn:∀(l:List Cell) {m:List Cell},Vld m->Vld (l.foldl putX m)/\∀a,getX (l.foldl putX m) a=getX (m++l) a
 |[],m,h=>⟨h,λa=>by simp⟩
 |c::l,m,h=>by
  obtain⟨h1,h2⟩:=Zpn l (ZF0 (c:=c) h)
  refine⟨h1,λa=> ?_⟩
  rw[List.foldl_cons,h2 a]
  have e:m++c::l=(m++[c])++l:=by simp
  rw[e]
  have key:∀{p q:List Cell},(∀b,getX p b=getX q b)->∀l b,getX (p++l) b=getX (q++l) b:=by
   intro p q hpq l b
   simp only[getX,Zdy,List.getLast?_append]
   cases hl:(flt b l).getLast? with
   |none=>simpa [getX] using hpq b
   |some x=>simp
  exact key (λb=>by rw[ZF1 h,ZQ9]) l a
theorem Zgs (l:List Cell):Vld (normX l):=(Zpn l ⟨List.Pairwise.nil,λc h=>by simp at h⟩).1
theorem ZQh (l:List Cell) (a:Int):getX (normX l) a=getX l a:=(Zpn l ⟨List.Pairwise.nil,λc h=>by simp at h⟩).2 a
theorem ZGE {l m:List Cell} (h:Vld m) (e:∀a,getX m a=getX l a):normX l=m:=ZWS (Zgs l) h λa=>by rw[ZQh,e]
theorem ZjS {m:List Cell} (h:Vld m):normX m=m:=ZGE h λ_=>rfl
theorem ZJ9 (l:List Cell):dd (isort l)=normX l:=
 (ZGE (ZWx (Zb0 l)) λa=>by rw[ZWy (Zb0 l),ZKw (Zfx l)]).symm
end Go.Proofs.Cells
open Go Go.S3 Go.Proofs Go.Proofs.Cells
namespace Go.Proofs.YtghoimllhpjkjaaGreat
noncomputable section
abbrev Z1:=QT4
theorem ZvL (l:List Cell) (i:Nat) (h:i<l.length):l.drop i=el l i::l.drop (i+1):=by
 rw[List.drop_eq_getElem_cons h]
 have:=ZcP l i h
 rw[List.getElem?_eq_getElem h,oinj] at this
 rw[this]
theorem ZzK (l:List Cell) (i:Nat) (h:i<l.length):l.take (i+1)=l.take i++[el l i]:=by
 rw[List.take_add_one,ZcP l i h];rfl
theorem Z0O (l:List Cell) (i:Nat) (h:i<l.length):el l i∈l:=List.mem_iff_getElem?.2 ⟨i,ZcP l i h⟩
def okAt (m:List Cell) (i:Nat):Bool:= !((el m i).2==0||(decide ((i:Int)>0)&&decide ((el m i).1<=(el m (i-1)).1)))
def vldB (m:List Cell):Bool:=(List.range m.length).all (okAt m)
theorem Zp7 {m:List Cell} {i:Nat} (hi:i<m.length) (h:okAt m i=false):vldB m=false:=by
 rw[Bool.eq_false_iff];intro he
 have:=List.all_eq_true.1 he i (List.mem_range.2 hi)
 rw[h] at this;exact absurd this (by simp)
theorem ZlQ {m:List Cell} (h:∀i,i<m.length->okAt m i=true):vldB m=true:=List.all_eq_true.2 λi hi=>h i (List.mem_range.1 hi)
theorem Zk1 {m:List Cell}:vldB m=true↔Vld m:=by
 constructor
 ·intro h
  have ha:∀i,i<m.length->okAt m i=true:=λi hi=>List.all_eq_true.1 h i (List.mem_range.2 hi)
  have hs:∀i,i+1<m.length->(el m i).1<(el m (i+1)).1:=λi hi=>by
   have:=ha (i+1) hi
   simp only[okAt,Bool.not_eq_true',Bool.or_eq_false_iff,Bool.and_eq_false_iff,decide_eq_false_iff_not,Nat.add_sub_cancel] at this
   rcases this.2 with e|e
   ·omega
   ·omega
  refine⟨?_,λc hc=> ?_⟩
  ·rw[List.pairwise_iff_getElem]
   have key:∀d i,i+d+1<m.length->(el m i).1<(el m (i+d+1)).1:=by
    intro d
    induction d with
    |zero=>intro i hi;exact hs i hi
    |succ d ih=>intro i hi;have h1:=ih i (by omega);have h2:=hs (i+d+1) (by omega);rw[show i+(d+1)+1=i+d+1+1 by omega];omega
   intro i j hi hj hij
   have:=key (j-i-1) i (by omega)
   rw[show i+(j-i-1)+1=j by omega] at this
   have e1:=ZcP m i hi
   have e2:=ZcP m j hj
   rw[List.getElem?_eq_getElem hi,oinj] at e1
   rw[List.getElem?_eq_getElem hj,oinj] at e2
   rw[e1,e2];exact this
  ·obtain⟨i,hi⟩:=List.mem_iff_getElem?.1 hc
   have hlt:=(List.getElem?_eq_some_iff.1 hi).1
   rw[ZcP m i hlt,oinj] at hi
   have:=ha i hlt
   rw[<-hi]
   simp only[okAt,Bool.not_eq_true',Bool.or_eq_false_iff,beq_eq_false_iff_ne] at this
   exact this.1
 ·intro h
  refine ZlQ λi hi=> ?_
  simp only[okAt,Bool.not_eq_true',Bool.or_eq_false_iff,beq_eq_false_iff_ne,Bool.and_eq_false_iff,decide_eq_false_iff_not]
  refine⟨h.2 _ (Z0O m i hi),?_⟩
  by_cases h0:i=0
  ·left;omega
  ·right
   have:=List.pairwise_iff_getElem.1 h.1 (i-1) i (by omega) hi (by omega)
   have e1:=ZcP m (i-1) (by omega)
   have e2:=ZcP m i hi
   rw[List.getElem?_eq_getElem (by omega),oinj] at e1
   rw[List.getElem?_eq_getElem hi,oinj] at e2
   rw[e1,e2] at this;omega
theorem ZZv (i:Nat) (h:0<i) (h2:i<=4611686018427387904):IntKind.wrap .i64 ((i:Int)-1)=((i-1:Nat):Int):=by rw[wrap_i64 _ (by omega) (by omega)];omega
theorem ZQf (m:List Cell) (i:Nat):((el m i).2==0||(decide ((i:Int)>0)&&decide ((el m i).1<=(el m (i-1)).1)))= !okAt m i:=by simp only[okAt,Bool.not_not]
theorem ZKk (m:List Cell) (hm:m.length<=most):(ZjX m).val=some (vldB m):=by
 have hms:=mst
 obtain⟨r,hr,hR⟩:=ZN (fl:=true) (t:=Zen) (fuel:=λa=>1000000000000)
  (I:=λa=>∃i:Nat,i<=m.length/\(∀k,k<i->okAt m k=true)/\a=(m,false,m,(m.length:Int),(i:Int),()))
  (m:=λa=>Int.toNat (a.2.2.2.1-a.2.2.2.2.1)) (R:=λr=>(r.1=false/\vldB m=true)\/(r.1=true/\vldB m=false/\r.2.2.1=false))
  (λa hi=>by
   obtain⟨i,hi,hk,rfl⟩:=hi
   by_cases hlt:i<m.length
   ·have d:decide ((i:Int)<(m.length:Int))=true:=by simpa using hlt
    have r1:=ZaG m i hlt
    have hw:decide ((i:Int)>0)=true->Zf (IntKind.wrap .i64 ((i:Int)-1)) m.length=true/\IntKind.wrap .i64 ((i:Int)-1)=((i-1:Nat):Int):=λh=>by
     simp only[decide_eq_true_eq] at h
     have e:=ZZv i (by omega) (by omega)
     exact⟨by rw[e];exact ZaG m (i-1) (by omega),e⟩
    have hck:((el m i).2==0||(!decide ((i:Int)>0)||Zf (IntKind.wrap .i64 ((i:Int)-1)) m.length))=true:=by
     cases h:decide ((i:Int)>0) with
     |false=>simp
     |true=>rw[(hw h).1];simp
    have hcd:((el m i).2==0||(decide ((i:Int)>0)&&decide ((el m i).1<=(R.get CR m (IntKind.wrap .i64 ((i:Int)-1))).1)))= !okAt m i:=by
     rw[<-ZQf]
     cases h:decide ((i:Int)>0) with
     |false=>simp
     |true=>rw[(hw h).2,Zcn]
    cases ho:okAt m i with
    |true=>
     left
     refine⟨(m,false,m,(m.length:Int),((i+1:Nat):Int),()),?_,⟨i+1,hlt,λk hk'=> ?_,rfl⟩,by simp only;omega⟩
     ·rw[ho] at hcd
      simp only[Zen,RT.val,d,r1,Zcn,hck,hcd,Bool.not_true,Bool.false_or,cond_true,cond_false,Zhv i (by omega)]
     ·by_cases e:k=i
      ·subst e;exact ho
      ·exact hk k (by omega)
    |false=>
     right;right
     refine⟨(m,false,m,(m.length:Int),(i:Int),()),rfl,?_,.inr ⟨rfl,Zp7 hlt ho,rfl⟩⟩
     rw[ho] at hcd
     simp only[Zen,RT.val,d,r1,Zcn,hck,hcd,Bool.not_true,Bool.not_false,Bool.false_or,cond_true,cond_false]
   ·right;left
    have d:decide ((i:Int)<(m.length:Int))=false:=by simpa using hlt
    exact⟨(m,false,m,(m.length:Int),(i:Int),()),by simp only[Zen,RT.val,d,cond_false],.inl ⟨rfl,ZlQ λk hk'=>hk k (by omega)⟩⟩)
  (m,false,m,(m.length:Int),0,()) ⟨0,Nat.zero_le _,λk h=>by omega,rfl⟩ (by simp only;omega)
 have hr':runF true Zen (λa=>1000000000000) (m,false,m,iN m.length,0,())=some r:=hr
 rcases hR with ⟨h1,h2⟩|⟨h1,h2,h3⟩
 ·simp only[ZjX,RT.val,hr',okB,getO,cond_true,h1,cond_false,h2]
 ·simp only[ZjX,RT.val,hr',okB,getO,cond_true,h1,h2,h3]
theorem Zqu (m:List Cell) (hm:m.length<=most):(Zjz m).val=some (vldB m):=by
 have hms:=mst
 obtain⟨r,hr,hR⟩:=ZN (fl:=true) (t:=Zeb) (fuel:=λa=>1000000000000)
  (I:=λa=>∃i:Nat,i<=m.length/\(∀k,k<i->okAt m k=true)/\a=(m,false,(m.length:Int),(i:Int),()))
  (m:=λa=>Int.toNat (a.2.2.1-a.2.2.2.1)) (R:=λr=>(r.1=false/\vldB m=true)\/(r.1=true/\vldB m=false/\r.2.2.1=false))
  (λa hi=>by
   obtain⟨i,hi,hk,rfl⟩:=hi
   by_cases hlt:i<m.length
   ·have d:decide ((i:Int)<(m.length:Int))=true:=by simpa using hlt
    have r1:=ZaG m i hlt
    have hw:decide ((i:Int)>0)=true->Zf (IntKind.wrap .i64 ((i:Int)-1)) m.length=true/\IntKind.wrap .i64 ((i:Int)-1)=((i-1:Nat):Int):=λh=>by
     simp only[decide_eq_true_eq] at h
     have e:=ZZv i (by omega) (by omega)
     exact⟨by rw[e];exact ZaG m (i-1) (by omega),e⟩
    have hck:((el m i).2==0||(!decide ((i:Int)>0)||Zf (IntKind.wrap .i64 ((i:Int)-1)) m.length))=true:=by
     cases h:decide ((i:Int)>0) with
     |false=>simp
     |true=>rw[(hw h).1];simp
    have hcd:((el m i).2==0||(decide ((i:Int)>0)&&decide ((el m i).1<=(R.get CR m (IntKind.wrap .i64 ((i:Int)-1))).1)))= !okAt m i:=by
     rw[<-ZQf]
     cases h:decide ((i:Int)>0) with
     |false=>simp
     |true=>rw[(hw h).2,Zcn]
    cases ho:okAt m i with
    |true=>
     left
     refine⟨(m,false,(m.length:Int),((i+1:Nat):Int),()),?_,⟨i+1,hlt,λk hk'=> ?_,rfl⟩,by simp only;omega⟩
     ·rw[ho] at hcd
      simp only[Zeb,RT.val,d,r1,Zcn,hck,hcd,Bool.not_true,Bool.false_or,Bool.or_true,cond_true,cond_false,Zhv i (by omega)]
     ·by_cases e:k=i
      ·subst e;exact ho
      ·exact hk k (by omega)
    |false=>
     right;right
     refine⟨(m,false,(m.length:Int),(i:Int),()),rfl,?_,.inr ⟨rfl,Zp7 hlt ho,rfl⟩⟩
     rw[ho] at hcd
     simp only[Zeb,RT.val,d,r1,Zcn,hck,hcd,Bool.not_true,Bool.not_false,Bool.false_or,Bool.or_true,cond_true,cond_false]
   ·right;left
    have d:decide ((i:Int)<(m.length:Int))=false:=by simpa using hlt
    exact⟨(m,false,(m.length:Int),(i:Int),()),by simp only[Zeb,RT.val,d,cond_false],.inl ⟨rfl,ZlQ λk hk'=>hk k (by omega)⟩⟩)
  (m,false,(m.length:Int),0,()) ⟨0,Nat.zero_le _,λk h=>by omega,rfl⟩ (by simp only;omega)
 have hr':runF true Zeb (λa=>1000000000000) (m,false,iN m.length,0,())=some r:=hr
 rcases hR with ⟨h1,h2⟩|⟨h1,h2,h3⟩
 ·simp only[Zjz,RT.val,hr',okB,getO,cond_true,h1,cond_false,h2]
 ·simp only[Zjz,RT.val,hr',okB,getO,cond_true,h1,h2,h3]
theorem ZZd {m:List Cell} {t:Int} {i:Nat} (hi:i<m.length) (he:(el m i).1=t) (hk:∀k,i<k->k<m.length->(el m k).1≠t):getX m t=(el m i).2:=by
 have e:m=m.take i++[el m i]++m.drop (i+1):=by rw[List.append_assoc,List.singleton_append,<-ZvL m i hi,List.take_append_drop]
 have h0:flt t (m.drop (i+1))=[]:=Zet λc hc=>by
  obtain⟨k,h1,h2,rfl⟩:=ZiS hc
  exact hk k (by omega) h2
 have h1:flt t [el m i]=[el m i]:=by simp[flt,he]
 have h2:flt t m=flt t (m.take i)++[el m i]:=by
  conv=>lhs;rw[e,Zdy,Zdy,h0,h1,List.append_nil]
 rw[getX,h2,List.getLast?_append];simp
theorem ZSJ (m:List Cell) (t:Int) (hm:m.length<=most):(ZqT m t).val=some (getX m t):=by
 have hms:=mst
 obtain⟨r,hr,hR⟩:=ZN (fl:=true) (t:=ZgZ) (fuel:=λa=>1000000000000)
  (I:=λa=>∃i:Nat,i<=m.length/\(∀k,i<=k->k<m.length->(el m k).1≠t)/\a=(m,t,0,(i:Int)-1,()))
  (m:=λa=>Int.toNat (a.2.2.2.1+1)) (R:=λr=>(r.1=false/\getX m t=0)\/(r.1=true/\r.2.2.2.1=getX m t))
  (λa hi=>by
   obtain⟨i,hi,hk,rfl⟩:=hi
   cases i with
   |zero=>
    right;left
    refine⟨(m,t,0,((0:Nat):Int)-1,()),by simp[ZgZ,RT.val],.inl ⟨rfl,ZvB λc hc=> ?_⟩⟩
    obtain⟨k,hk'⟩:=List.mem_iff_getElem?.1 hc
    have hlt:=(List.getElem?_eq_some_iff.1 hk').1
    rw[ZcP m k hlt,oinj] at hk'
    rw[<-hk'];exact hk k (Nat.zero_le _) hlt
   |succ i=>
    have ei:((i+1:Nat):Int)-1=(i:Int):=by omega
    rw[ei]
    have d:decide ((i:Int)>=0)=true:=by simp
    have r1:=ZaG m i (by omega)
    cases he:((el m i).1==t) with
    |true=>
     right;right
     refine⟨(m,t,(el m i).2,(i:Int),()),rfl,by simp only[ZgZ,RT.val,d,r1,Zcn,he,cond_true,Bool.not_true,Bool.false_or],.inr ⟨rfl,?_⟩⟩
     exact (ZZd (by omega) (by simpa using he) λk h1 h2=>hk k (by omega) h2).symm
    |false=>
     left
     refine⟨(m,t,0,(i:Int)-1,()),?_,⟨i,by omega,λk h1 h2=> ?_,rfl⟩,by simp only;omega⟩
     ·have w:IntKind.wrap .i64 ((i:Int)-1)=(i:Int)-1:=wrap_i64 _ (by omega) (by omega)
      simp only[ZgZ,RT.val,d,r1,Zcn,he,cond_true,cond_false,Bool.not_true,Bool.not_false,Bool.true_or,Bool.false_or,w]
     ·by_cases e:k=i
      ·subst e;simpa using he
      ·exact hk k (by omega) h2)
  (m,t,0,(m.length:Int)-1,()) ⟨m.length,Nat.le_refl _,λk h1 h2=>by omega,rfl⟩ (by simp only;omega)
 have w:IntKind.wrap .i64 (iN m.length-1)=(m.length:Int)-1:=wrap_i64 _ (by simp only[iN];omega) (by simp only[iN];omega)
 rcases hR with ⟨h1,h2⟩|⟨h1,h2⟩
 ·simp only[ZqT,RT.val,w,hr,okB,getO,cond_true,h1,cond_false,h2]
 ·simp only[ZqT,RT.val,w,hr,okB,getO,cond_true,h1,h2]
def pst (c:Cell) (s:Bool×List Cell) (x:Cell):Bool×List Cell:=
 let t:= !s.1&&decide (x.1>=c.1)
 let o:=bif t then (bif c.2 !=0 then s.2++[c] else s.2) else s.2
 (t||s.1,bif x.1 !=c.1 then o++[x] else o)
def pfin (c:Cell) (s:Bool×List Cell):List Cell:=bif !s.1&&c.2 !=0 then s.2++[c] else s.2
theorem ZF5 (c:Cell):∀(m:List Cell) (o:List Cell),(∀x∈m,x.1≠c.1)->m.foldl (pst c) (true,o)=(true,o++m)
 |[],o,_=>by simp
 |x::m,o,h=>by
  have hx:(x.1 !=c.1)=true:=by simpa using h x (by simp)
  simp only[List.foldl_cons,pst,Bool.not_true,Bool.false_and,cond_false,Bool.or_true,hx,cond_true]
  rw[ZF5 c m (o++[x]) λy hy=>h y (List.mem_cons_of_mem _ hy)]
  simp
theorem ZOI (c:Cell):∀(m:List Cell) (o:List Cell),m.Pairwise (λa b=>a.1<b.1)->pfin c (m.foldl (pst c) (false,o))=o++putX m c
 |[],o,_=>by
  simp only[List.foldl_nil,pfin,putX,Bool.not_false,Bool.true_and]
  by_cases h:c.2=0
  ·simp[h]
  ·have:(c.2 !=0)=true:=by simpa using h
   simp[h,this]
 |x::m,o,h=>by
  have h1:=List.pairwise_cons.1 h
  by_cases hx:x.1<c.1
  ·have e1:decide (x.1>=c.1)=false:=by simp;omega
   have e2:(x.1 !=c.1)=true:=by simp;omega
   simp only[List.foldl_cons,pst,e1,Bool.and_false,cond_false,Bool.or_false,e2,cond_true]
   rw[ZOI c m (o++[x]) h1.2,putX,if_pos hx];simp
  ·have e1:decide (x.1>=c.1)=true:=by simp;omega
   have hne:∀y∈m,y.1≠c.1:=λy hy=>by have:=h1.1 y hy;omega
   simp only[List.foldl_cons,pst,e1,Bool.not_false,Bool.and_self,cond_true,Bool.true_or]
   rw[ZF5 c m _ hne,putX,if_neg hx]
   simp only[pfin,Bool.not_true,Bool.false_and,cond_false]
   by_cases hz:c.2=0
   ·by_cases hk:x.1=c.1
    ·simp[hz,hk]
    ·have:(x.1 !=c.1)=true:=by simpa using hk
     simp[hz,hk,this]
   ·have hz1:(c.2 !=0)=true:=by simpa using hz
    by_cases hk:x.1=c.1
    ·simp[hz,hk,hz1]
    ·have:(x.1 !=c.1)=true:=by simpa using hk
     simp[hz,hk,this,hz1]
theorem ZBA (c:Cell):∀(m:List Cell) (s:Bool×List Cell),(m.foldl (pst c) s).2.length+(bif (m.foldl (pst c) s).1 then 0 else 1)<=s.2.length+(bif s.1 then 0 else 1)+m.length
 |[],s=>by simp
 |x::m,s=>by
  rw[List.foldl_cons]
  have ih:=ZBA c m (pst c s x)
  have:(pst c s x).2.length+(bif (pst c s x).1 then 0 else 1)<=s.2.length+(bif s.1 then 0 else 1)+1:=by
   obtain⟨d,o⟩:=s
   simp only[pst]
   generalize decide (x.1>=c.1)=b1
   generalize (c.2 !=0)=b2
   generalize (x.1 !=c.1)=b3
   cases d<;>cases b1<;>cases b2<;>cases b3<;>simp<;>omega
  simp only[List.length_cons];omega
theorem Zmf (m:List Cell) (c:Cell) (hv:Vld m) (hm:m.length+1<=most):ZqM m c=true/\ZH2 m c=putX m c:=by
 have hms:=mst
 obtain⟨r,hr,h1,i,hR⟩:=ZN (fl:=false) (t:=Zis) (fuel:=λa=>1000000000000)
  (λa=>∃i:Nat,i<=m.length/\a=(((m.take i).foldl (pst c) (false,[])).1,m,(m.length:Int),(i:Int),c,((m.take i).foldl (pst c) (false,[])).2,()))
  (λa=>Int.toNat (a.2.2.1-a.2.2.2.1)) (λr=>r.1=false/\∃i:Nat,r.2=((m.foldl (pst c) (false,[])).1,m,(m.length:Int),(i:Int),c,(m.foldl (pst c) (false,[])).2,()))
  (by
   rintro a ⟨i,hi,rfl⟩
   by_cases hlt:i<m.length
   ·left
    have d:decide ((i:Int)<(m.length:Int))=true:=by simpa using hlt
    have r1:=ZaG m i hlt
    have hl:=ZBA c (m.take i) (false,[])
    have hs:(m.take (i+1)).foldl (pst c) (false,[])=pst c ((m.take i).foldl (pst c) (false,[])) (el m i):=by
     rw[ZzK m i hlt,List.foldl_append];rfl
    rw[List.length_take,Nat.min_eq_left (by omega)] at hl
    refine⟨_,?_,⟨i+1,hlt,rfl⟩,by simp only;omega⟩
    rw[hs]
    generalize (m.take i).foldl (pst c) (false,[])=s at hl|-
    obtain⟨dn,o⟩:=s
    simp only[List.length_nil,cond_false] at hl
    simp only[Zis,RT.val,d,r1,Zcn,cond_true,Bool.not_true,Bool.false_or,pst,Zhv i (by omega)]
    generalize decide ((el m i).1>=c.1)=b1
    generalize hb2:(c.2 !=0)=b2
    generalize hb3:((el m i).1 !=c.1)=b3
    have l1:Nat.ble (o++[c]).length most=true\/dn=true:=by
     cases dn with
     |true=>exact .inr rfl
     |false=>left;rw[Nat.ble_eq];simp only[cond_false] at hl;simp only[List.length_append,List.length_singleton];omega
    have l2:Nat.ble (o++[el m i]).length most=true:=by
     rw[Nat.ble_eq];simp only[List.length_append,List.length_singleton]
     cases dn<;>simp only[cond_true,cond_false] at hl<;>omega
    have l3:Nat.ble (o++[c]++[el m i]).length most=true\/dn=true:=by
     cases dn with
     |true=>exact .inr rfl
     |false=>left;rw[Nat.ble_eq];simp only[cond_false] at hl;simp only[List.length_append,List.length_singleton];omega
    cases dn with
    |true=>
     cases b3<;>simp only[l2,Bool.not_true,Bool.not_false,Bool.false_and,Bool.true_or,Bool.false_or,Bool.or_true,cond_true,cond_false]
    |false=>
     have l1:Nat.ble (o++[c]).length most=true:=by simpa using l1
     have l3:Nat.ble (o++[c]++[el m i]).length most=true:=by simpa using l3
     cases b1<;>cases b2<;>cases b3<;>simp only[l1,l2,l3,Bool.not_true,Bool.not_false,Bool.false_and,Bool.true_and,Bool.true_or,Bool.false_or,Bool.or_true,Bool.or_false,Bool.and_self,cond_true,cond_false]
   ·right;left
    have d:decide ((i:Int)<(m.length:Int))=false:=by simpa using hlt
    have e:m.take i=m:=List.take_of_length_le (by omega)
    rw[e]
    exact⟨_,by simp only[Zis,RT.val,d,cond_false],rfl,i,rfl⟩)
  (false,m,iN m.length,0,c,[],()) ⟨0,Nat.zero_le _,rfl⟩ (by simp only[iN];omega)
 have hl:=ZBA c m (false,[])
 have hp:=ZOI c m [] hv.1
 simp only[List.nil_append] at hp
 obtain⟨r1,r2⟩:=r
 simp only at h1 hR
 subst h1 hR
 generalize m.foldl (pst c) (false,[])=s at hl hp hr
 obtain⟨dn,o⟩:=s
 have hb:(!(!dn&&c.2 !=0)||Nat.ble (o++[c]).length most)=true:=by
  cases dn with
  |true=>rfl
  |false=>
   have:Nat.ble (o++[c]).length most=true:=by rw[Nat.ble_eq];simp only[cond_false,List.length_nil] at hl;simp only[List.length_append,List.length_singleton];omega
   rw[this];simp
 have hv:(ZqL m c).val=some (putX m c):=by
  simp only[ZqL,RT.val,hr,okB,getO,cond_true,hb,<-hp,pfin]
 exact⟨by simp only[ZqM,hv];rfl,by simp only[ZH2,hv,getO]⟩
theorem ZtR (c:Cell):∀m:List Cell,(putX m c).length<=m.length+1
 |[]=>by simp only[putX];split<;>simp
 |x::m=>by
  have:=ZtR c m
  simp only[putX]
  repeat' split
  all_goals simp only[List.length_cons];omega
theorem ZjR (l:List Cell) (c:Cell):normX (l++[c])=putX (normX l) c:=by simp[normX,List.foldl_append]
theorem ZHi:∀(l m:List Cell),(l.foldl putX m).length<=m.length+l.length
 |[],m=>by simp
 |x::l,m=>by
  have:=ZHi l (putX m x)
  have:=ZtR x m
  simp only[List.foldl_cons,List.length_cons];omega
theorem Zcl (l:List Cell):(normX l).length<=l.length:=by
 have:=ZHi l []
 simpa [normX] using this
theorem Zmi (l:List Cell) (hl:l.length+1<=most):ZqR l=true/\ZH5 l=normX l:=by
 have hms:=mst
 have h1:=Zqu l (by omega)
 have hc:ZjA l=true:=by simp only[ZjA,h1];rfl
 have hv0:Zmq l=vldB l:=by simp only[Zmq,h1,getO]
 have hv:(ZqQ l).val=some (normX l):=by
  cases hb:vldB l with
  |true=>
   have e:Nat.ble l.length most=true:=by rw[Nat.ble_eq];omega
   simp only[ZqQ,RT.val,hc,hv0,hb,List.nil_append,e,cond_true,Bool.not_true,Bool.false_or,ZjS (Zk1.1 hb)]
  |false=>
   obtain⟨r,hr,h1,i,hR⟩:=ZN (fl:=false) (t:=Ziu) (fuel:=λa=>1000000000000)
    (λa=>∃i:Nat,i<=l.length/\a=(normX (l.take i),l,(l.length:Int),(i:Int),()))
    (λa=>Int.toNat (a.2.2.1-a.2.2.2.1)) (λr=>r.1=false/\∃i:Nat,r.2=(normX l,l,(l.length:Int),(i:Int),()))
    (by
     rintro a ⟨i,hi,rfl⟩
     by_cases hlt:i<l.length
     ·left
      have d:decide ((i:Int)<(l.length:Int))=true:=by simpa using hlt
      have r1:=ZaG l i hlt
      have hlen:=Zcl (l.take i)
      rw[List.length_take] at hlen
      have hp:=Zmf (normX (l.take i)) (el l i) (Zgs _) (by omega)
      refine⟨_,?_,⟨i+1,hlt,rfl⟩,by simp only;omega⟩
      rw[ZzK l i hlt,ZjR]
      simp only[Ziu,RT.val,d,r1,Zcn,hp.1,hp.2,cond_true,Bool.or_true,Zhv i (by omega)]
     ·right;left
      have d:decide ((i:Int)<(l.length:Int))=false:=by simpa using hlt
      have e:l.take i=l:=List.take_of_length_le (by omega)
      rw[e]
      exact⟨_,by simp only[Ziu,RT.val,d,cond_false],rfl,i,rfl⟩)
    ([],l,iN l.length,0,()) ⟨0,Nat.zero_le _,rfl⟩ (by simp only[iN];omega)
   obtain⟨r1,r2⟩:=r
   simp only at h1 hR
   subst h1 hR
   simp only[ZqQ,RT.val,hc,hv0,hb,hr,okB,getO,cond_true,cond_false,Bool.not_false,Bool.true_or]
 exact⟨by simp only[ZqR,hv];rfl,by simp only[ZH5,hv,getO]⟩
theorem ZSE (m:List Cell) (t v:Int) (hm:m.length+1<=most):ZFl m t v=true/\ZSY m t v=putX (normX m) (t,v):=by
 have h1:=Zmi m hm
 have h2:=Zmf (normX m) (t,v) (Zgs m) (by have:=Zcl m;omega)
 have hv:(Zxj m t v).val=some (putX (normX m) (t,v)):=by
  simp only[Zxj,RT.val,h1.1,h1.2,h2.1,h2.2,cond_true,Bool.or_true]
 exact⟨by simp only[ZFl,hv];rfl,by simp only[ZSY,hv,getO]⟩
def ZDp (s:List Cell) (i:Nat):Bool:=(el s i).2 !=0&&(decide (i+1=s.length)||(el s (i+1)).1 !=(el s i).1)
theorem ZZq (s:List Cell) (i:Nat) (h:i<s.length):dd (s.drop i)=(bif ZDp s i then [el s i] else [])++dd (s.drop (i+1)):=by
 rw[ZvL s i h]
 by_cases hl:i+1<s.length
 ·rw[ZvL s (i+1) hl,dd]
  have e:decide (i+1=s.length)=false:=by simp;omega
  simp only[ZDp,e,Bool.false_or]
  by_cases h1:(el s i).1=(el s (i+1)).1
  ·have:((el s (i+1)).1 !=(el s i).1)=false:=by simp[h1]
   simp only[this,Bool.and_false,cond_false,List.nil_append,if_pos h1]
  ·have:((el s (i+1)).1 !=(el s i).1)=true:=by simpa using λe=>h1 e.symm
   simp only[this,Bool.and_true,if_neg h1]
   by_cases h2:(el s i).2=0
   ·have:((el s i).2 !=0)=false:=by simp[h2]
    simp only[this,if_pos h2,cond_false,List.nil_append]
   ·have:((el s i).2 !=0)=true:=by simpa using h2
    simp only[this,if_neg h2,cond_true,List.singleton_append]
 ·have hn:s.drop (i+1)=[]:=List.drop_eq_nil_of_le (by omega)
  have e:decide (i+1=s.length)=true:=by simp;omega
  rw[hn]
  simp only[ZDp,e,Bool.true_or,Bool.and_true,dd,List.append_nil]
  by_cases h2:(el s i).2=0
  ·have:((el s i).2 !=0)=false:=by simp[h2]
   simp only[this,if_pos h2,cond_false]
  ·have:((el s i).2 !=0)=true:=by simpa using h2
   simp only[this,if_neg h2,cond_true]
theorem ZLV (l:List Cell) (hl:l.length<=most):ZEH l=true/\ZzI l=isort l:=by
 have hs:Zl8 l (iN l.length)=true:=by simp[Zl8,iN];omega
 have hv:(Zwz l).val=some (isort l):=by
  simp only[Zwz,RT.val,Zdu,hs,cond_true]
 exact⟨by simp only[ZEH,hv];rfl,by simp only[ZzI,hv,getO]⟩
theorem ZoP (l:List Cell) (hl:l.length<=most):Zyu l=true/\ZQN l=normX l:=by
 have hms:=mst
 have h1:=ZLV l hl
 have hlen:=Zeq l
 generalize hs:isort l=s at hlen h1
 obtain⟨r,hr,h2,i,hR⟩:=ZN (fl:=false) (t:=ZiT) (fuel:=λa=>Int.toNat (a.1-a.2.1)+1)
  (λa=>∃(i:Nat) (o:List Cell),i<=s.length/\o.length<=i/\o++dd (s.drop i)=dd s/\a=((s.length:Int),(i:Int),s,o,()))
  (λa=>Int.toNat (a.1-a.2.1)) (λr=>r.1=false/\∃i:Nat,r.2=((s.length:Int),(i:Int),s,dd s,()))
  (by
   rintro a ⟨i,o,hi,ho,hd,rfl⟩
   by_cases hlt:i<s.length
   ·left
    have d:decide ((i:Int)<(s.length:Int))=true:=by simpa using hlt
    have r1:=ZaG s i hlt
    have w:=Zhv i (by omega)
    have e1:(((i+1:Nat):Int)==iN s.length)=decide (i+1=s.length):=by
     rw[Bool.eq_iff_iff];simp[iN];omega
    have hst:=ZZq s i hlt
    have hle:∀x:Cell,Nat.ble (o++[x]).length most=true:=λx=>by rw[Nat.ble_eq];simp only[List.length_append,List.length_singleton];omega
    refine⟨((s.length:Int),((i+1:Nat):Int),s,o++(bif ZDp s i then [el s i] else []),()),?_,⟨i+1,_,hlt,?_,?_,rfl⟩,by simp only;omega⟩
    ·have e3:(!((el s i).2 !=0)||(decide (i+1=s.length)||Zf ((i+1:Nat):Int) s.length))=true:=by
      by_cases hq:i+1=s.length
      ·simp[hq]
      ·rw[ZaG s (i+1) (by omega)];simp
     have e4:((el s i).2 !=0&&(decide (i+1=s.length)||(el s (i+1)).1 !=(el s i).1))=ZDp s i:=rfl
     have g1:=Zcn s i
     have g2:=Zcn s (i+1)
     simp only[ZiT,RT.val,d,r1,w,g1,g2,e1,e3,e4,hle,cond_true,Bool.not_true,Bool.false_or,Bool.or_true]
     cases ZDp s i<;>simp
    ·cases ZDp s i<;>simp only[cond_true,cond_false,List.append_nil,List.length_append,List.length_singleton]<;>omega
    ·rw[List.append_assoc,<-hst,hd]
   ·right;left
    have d:decide ((i:Int)<(s.length:Int))=false:=by simpa using hlt
    have e:s.drop i=[]:=List.drop_eq_nil_of_le (by omega)
    rw[e] at hd
    simp only[dd,List.append_nil] at hd
    subst hd
    exact⟨_,by simp only[ZiT,RT.val,d,cond_false],rfl,i,rfl⟩)
  (iN s.length,0,s,[],()) ⟨0,[],Nat.zero_le _,by simp,by simp,rfl⟩ (by simp only[iN];omega)
 obtain⟨r1,r2⟩:=r
 simp only at h2 hR
 subst h2 hR
 have hb:Nat.ble l.length most=true:=by rw[Nat.ble_eq];exact hl
 have hv:(Zyt l).val=some (normX l):=by
  simp only[Zyt,RT.val,hb,h1.1,h1.2,hr,okB,getO,cond_true]
  rw[<-hs,ZJ9]
 exact⟨by simp only[Zyu,hv];rfl,by simp only[ZQN,hv,getO]⟩
abbrev BR:R:=R.int u8
theorem get_d (l:List Int) (i:Nat):R.get BR l (i:Int)=l.getD i 0:=by simp[R.get,R.dflt]
def Zo2 (t:Int) (b:List Int) (n:Nat):List Cell:=(List.range n).map λi:Nat=>(IntKind.wrap .u16 (t+IntKind.wrap .u16 (i:Int)),b.getD i 0)
theorem ZKq (t:Int) (b:List Int) (n:Nat):Zo2 t b (n+1)=Zo2 t b n++[(IntKind.wrap .u16 (t+IntKind.wrap .u16 (n:Int)),b.getD n 0)]:=by simp[Zo2,List.range_succ]
theorem Zo1 (t:Int) (b:List Int) (n:Nat):(Zo2 t b n).length=n:=by simp[Zo2]
def ZpW (t:Int) (b:List Int):List Cell:=normX (Zo2 t b b.length)
theorem ZMT (a b:List Cell) (ha:a.length<=most):ZAh a b=true/\ZNe a b=decide (a=b):=by
 have hms:=mst
 have hv:(ZhI a b).val=some (decide (a=b)):=by
  by_cases hl:a.length=b.length
  ·have hn:(iN a.length !=iN b.length)=false:=by simp[iN,hl]
   obtain⟨r,hr,hR⟩:=ZN (fl:=true) (t:=ZeY) (fuel:=λ_=>1000000000000)
    (λx=>∃i:Nat,i<=a.length/\(∀k,k<i->el a k=el b k)/\x=(a,b,false,(a.length:Int),(i:Int),()))
    (λx=>Int.toNat (x.2.2.2.1-x.2.2.2.2.1)) (λr=>(r.1=false/\a=b)\/(r.1=true/\a≠b/\r.2.2.2.1=false))
    (by
     rintro x ⟨i,hi,hk,rfl⟩
     by_cases hlt:i<a.length
     ·have d:decide ((i:Int)<(a.length:Int))=true:=by simpa using hlt
      have r1:=ZaG a i hlt
      have r2:=ZaG b i (by omega)
      have g1:=Zcn a i
      have g2:=Zcn b i
      by_cases he:el a i=el b i
      ·left
       refine⟨(a,b,false,(a.length:Int),((i+1:Nat):Int),()),?_,⟨i+1,hlt,λk hk'=> ?_,rfl⟩,by simp only;omega⟩
       ·simp only[ZeY,RT.val,d,r1,r2,g1,g2,he,beq_self_eq_true,Bool.and_self,Bool.not_true,Bool.or_true,cond_true,cond_false,Zhv i (by omega)]
       ·by_cases e:k=i
        ·subst e;exact he
        ·exact hk k (by omega)
      ·right;right
       have hne:((el a i).1==(el b i).1&&((el a i).2==(el b i).2&&true))=false:=by
        rw[Bool.eq_false_iff];intro h
        simp only[Bool.and_eq_true,beq_iff_eq,and_true] at h
        exact he (Prod.ext h.1 h.2)
       refine⟨(a,b,false,(a.length:Int),(i:Int),()),rfl,?_,.inr ⟨rfl,λh=>he (by rw[h]),rfl⟩⟩
       simp only[ZeY,RT.val,d,r1,r2,g1,g2,hne,Bool.not_true,Bool.not_false,Bool.or_true,cond_true]
     ·right;left
      have d:decide ((i:Int)<(a.length:Int))=false:=by simpa using hlt
      refine⟨_,by simp only[ZeY,RT.val,d,cond_false];rfl,.inl ⟨rfl,List.ext_getElem? λk=> ?_⟩⟩
      by_cases hk':k<a.length
      ·rw[ZcP a k hk',ZcP b k (by omega),hk k (by omega)]
      ·rw[List.getElem?_eq_none (by omega),List.getElem?_eq_none (by omega)])
    (a,b,false,iN a.length,0,()) ⟨0,Nat.zero_le _,λk h=>by omega,rfl⟩ (by simp only[iN];omega)
   rcases hR with ⟨h1,h2⟩|⟨h1,h2,h3⟩
   ·have hd:decide (a=b)=true:=decide_eq_true h2
    simp only[ZhI,RT.val,hn,hr,okB,getO,cond_true,cond_false,h1,hd]
   ·have hd:decide (a=b)=false:=decide_eq_false h2
    simp only[ZhI,RT.val,hn,hr,okB,getO,cond_true,cond_false,h1,h3,hd]
  ·have hn:(iN a.length !=iN b.length)=true:=by simp only[iN,bne_iff_ne,ne_eq];omega
   have hne:a≠b:=λh=>hl (by rw[h])
   simp only[ZhI,RT.val,hn,cond_true,hne,decide_false]
 exact⟨by simp only[ZAh,hv];rfl,by simp only[ZNe,hv,getO]⟩
theorem ZQy (m:List Cell) (hm:m.length<=most):Zvn m=true/\ZoU m=vldB m:=by
 have h:=ZKk m hm
 exact⟨by simp only[Zvn,h];rfl,by simp only[ZoU,h,getO]⟩
theorem ZMO (m:List Cell) (hm:m.length<=most):ZjA m=true/\Zmq m=vldB m:=by
 have h:=Zqu m hm
 exact⟨by simp only[ZjA,h];rfl,by simp only[Zmq,h,getO]⟩
theorem ZXt (m:List Cell) (t:Int) (hm:m.length<=most):ZFH m t=true/\ZTc m t=getX m t:=by
 have h:=ZSJ m t hm
 exact⟨by simp only[ZFH,h];rfl,by simp only[ZTc,h,getO]⟩
abbrev GR:R:=R.pair (R.int u16) (R.pair (R.int u16) (R.pair R.bool (R.int i64)))
def hitB (t:Int) (r:Z1):Bool:=decide (r.1<=t)&&decide (t<=r.2.1)
def Zbu (l:List Z1) (t:Int):Int:=if l.findIdx (hitB t)<l.length then (l.findIdx (hitB t):Int) else-1
def rg (l:List Z1) (i:Nat):Z1:=l.getD i (0,0,false,0)
theorem ZWt (l:List Z1) (i:Nat):R.get GR l (i:Int)=rg l i:=by simp[R.get,R.dflt,rg]
theorem ZwQ (l:List Z1) (i:Nat) (h:i<l.length):l[i]=rg l i:=by simp[rg,h]
theorem ZZh {l:List Z1} {t:Int} {i:Nat} (hi:i<l.length) (h:hitB t (rg l i)=true) (hk:∀k,k<i->hitB t (rg l k)=false):Zbu l t=i:=by
 have:l.findIdx (hitB t)=i:=(List.findIdx_eq hi).2 ⟨by rw[ZwQ l i hi];exact h,λj hj=>by rw[ZwQ l j (by omega)];exact hk j hj⟩
 simp only[Zbu,this,hi,if_true]
theorem ZZg {l:List Z1} {t:Int} (hk:∀k,k<l.length->hitB t (rg l k)=false):Zbu l t= -1:=by
 have:¬l.findIdx (hitB t)<l.length:=by
  rw[List.findIdx_lt_length]
  rintro⟨x,hx,hp⟩
  obtain⟨i,hi,rfl⟩:=List.mem_iff_getElem.1 hx
  rw[ZwQ l i hi,hk i hi] at hp
  exact absurd hp (by simp)
 simp only[Zbu,this,if_false]
theorem Zii (l:List Z1) (t:Int) (hl:l.length<=most):Znn l t=true/\ZjG l t=Zbu l t:=by
 have hms:=mst
 obtain⟨r,hr,hR⟩:=ZN (fl:=true) (t:=Zg0) (fuel:=λ_=>1000000000000)
  (λx=>∃i:Nat,i<=l.length/\(∀k,k<i->hitB t (rg l k)=false)/\x=(t,0,l,(l.length:Int),(i:Int),()))
  (λx=>Int.toNat (x.2.2.2.1-x.2.2.2.2.1)) (λr=>(r.1=false/\Zbu l t= -1)\/(r.1=true/\r.2.2.1=Zbu l t))
  (by
   rintro x ⟨i,hi,hk,rfl⟩
   by_cases hlt:i<l.length
   ·have d:decide ((i:Int)<(l.length:Int))=true:=by simpa using hlt
    have r1:=ZaG l i hlt
    have g1:=ZWt l i
    cases hh:hitB t (rg l i) with
    |false=>
     left
     refine⟨(t,0,l,(l.length:Int),((i+1:Nat):Int),()),?_,⟨i+1,hlt,λk hk'=> ?_,rfl⟩,by simp only;omega⟩
     ·simp only[hitB] at hh
      simp only[Zg0,RT.val,d,r1,g1,hh,cond_true,cond_false,Zhv i (by omega)]
     ·by_cases e:k=i
      ·subst e;exact hh
      ·exact hk k (by omega)
    |true=>
     right;right
     refine⟨(t,(i:Int),l,(l.length:Int),(i:Int),()),rfl,?_,.inr ⟨rfl,(ZZh hlt hh hk).symm⟩⟩
     simp only[hitB] at hh
     simp only[Zg0,RT.val,d,r1,g1,hh,cond_true]
   ·right;left
    have d:decide ((i:Int)<(l.length:Int))=false:=by simpa using hlt
    exact⟨_,by simp only[Zg0,RT.val,d,cond_false];rfl,.inl ⟨rfl,ZZg λk h=>hk k (by omega)⟩⟩)
  (t,0,l,iN l.length,0,()) ⟨0,Nat.zero_le _,λk h=>by omega,rfl⟩ (by simp only[iN];omega)
 have hv:(Znm l t).val=some (Zbu l t):=by
  rcases hR with ⟨h1,h2⟩|⟨h1,h2⟩
  ·simp only[Znm,RT.val,hr,okB,getO,cond_true,h1,cond_false,h2]
  ·simp only[Znm,RT.val,hr,okB,getO,cond_true,h1,h2]
 exact⟨by simp only[Znn,hv];rfl,by simp only[ZjG,hv,getO]⟩
theorem ZOQ (l:List Z1) (t:Int) (hl:l.length<=most):ZPL l t=true/\ZJr l t=Zbu l t:=by
 have h:=Zii l t hl
 have e:ZGt l t=Znm l t:=rfl
 simp only[Znn,ZjG,<-e] at h
 exact h
def Zqx (l:List Z1) (m:List Cell) (t:Int):Int:=bif decide (Zbu l t<0) then 255 else getX m t
theorem ZMU (l:List Z1) (m:List Cell) (t:Int) (hl:l.length<=most) (hm:m.length<=most):ZAk l m t=true/\ZNm l m t=Zqx l m t:=by
 have h1:=Zii l t hl
 have h2:=ZXt m t hm
 have hv:(Zmx l m t).val=some (Zqx l m t):=by
  simp only[Zmx,RT.val,h1.1,h1.2,h2.1,h2.2,cond_true,Zqx]
  cases decide (Zbu l t<0)<;>rfl
 exact⟨by simp only[ZAk,hv];rfl,by simp only[ZNm,hv,getO]⟩
end
end Go.Proofs.YtghoimllhpjkjaaGreat
