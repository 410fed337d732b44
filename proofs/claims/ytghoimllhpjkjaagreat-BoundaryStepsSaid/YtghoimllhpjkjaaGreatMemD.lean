import Derived.Test.YtghoimllhpjkjaaGreatCloneC
open Go.Proofs.Tryz (prog)
open Go.IntKind (u8 u16 i64)
set_option linter.unusedSimpArgs false
open Go Go.S3 Go.Proofs
set_option linter.unusedVariables false
set_option maxRecDepth 100000
namespace Go.Proofs.YtghoimllhpjkjaaGreat
noncomputable section
abbrev Zmq:R:=R.Pq (R.int u16) (R.int u8)
abbrev Zmr:Nat:=106
abbrev ZNx:List Sh:=[]
def Zxi (s:List (Int×Int)):RT (Option (List (Int×Int))):=
 .br (Zmy (Stg.l (Zdt Zmq Zmr s)) (iN (List.length (Stg.l (Zdt Zmq Zmr s))))) (.Lf (some (Cells.isort (Stg.l (Zdt Zmq Zmr s))))) (.Lf none)
def ZAB (s:List (Int×Int)):List (Int×Int):=getO [] (Zxi s).val
def ZFL (s:List (Int×Int)):Bool:=okB (Zxi s).val
def ZNy:En:=stE Zmq Zmr 185 ZNx (λa=>some (ZFL a.1)) (λa=>ZAB a.1)
theorem ZFK:Za prog 184 ZNy:=
 Zmz (P:=prog) (n:=15) (k:=8) (l:=[(243,ZNw),(185,ZbM)]) (ol:=[]) ⟨ZNv,ZaB,Tv⟩ Tryz.func184 rfl (by kernel_rfl) Tryz.call184 trivial (r:=Zmq) (T:=Zmr) (g0:=185) (ts:=ZNx) (t:=λa=>Zxi a.1) (λa=>by kernel_rfl)
abbrev ZEj:List Sh:=[Sh.one rcCE]
abbrev Zv5:Rs:=Rs.one (Sh.one rcCE)
def ZVO:LS:={n:=45,Sl:=[(3,.tip 0),(4,.tip 1),(11,.tip 0),(12,.code (Sh.one (R.int i64))),(13,.code (Sh.one (R.int i64)))],Bx:=[],Sg:=[⟨R.Pq (R.int u16) (R.int u8),106,true⟩,⟨(R.Pq (R.int u16) (R.int u8)),106,true⟩]}
def Zi9 (a:QT28):RT (Option (Go1 (QT28))):=
 let x1:=(R.get (R.Pq (R.int u16) (R.int u8)) a.2.2.1 a.2.1).2 !=0
 let x2:=i64.wrap (a.2.1+1)==iN (List.length a.2.2.1)
 let x3:= !x1||(x2||Ze (i64.wrap (a.2.1+1)) (List.length a.2.2.1))
 let x4:=x1&&(x2||(R.get (R.Pq (R.int u16) (R.int u8)) a.2.2.1 (i64.wrap (a.2.1+1))).1 !=(R.get (R.Pq (R.int u16) (R.int u8)) a.2.2.1 a.2.1).1)
 let x5:List (Int×Int):=a.2.2.2.1++[R.get (R.Pq (R.int u16) (R.int u8)) a.2.2.1 a.2.1]
 .br (decide (a.2.1<a.1)) (.br (!Ze a.2.1 (List.length a.2.2.1)||(!x3||(!x4||Nat.ble (List.length x5) most))) (.br (!Ze a.2.1 (List.length a.2.2.1)||x3) (.br (Ze a.2.1 (List.length a.2.2.1)) (.Lf (some (Go1.cont (a.1,i64.wrap (a.2.1+1),a.2.2.1,bif x4 then x5 else a.2.2.2.1,PUnit.unit)))) (.Lf none)) (.Lf none)) (.Lf none)) (.Lf (some (Go1.brk (a.1,a.2.1,a.2.2.1,a.2.2.2.1,PUnit.unit))))
def ZH7:Ora:=Za2 false ZVO Zi9 (λa=>(a.1-a.2.1).toNat+1)
theorem ZLG:ZaH (envX prog [(183,Zwx),(184,ZNy),(185,ZbM)] [] 127 8) (.block 0 (.loop (Z7 Tryz.f117.body 0))) ZH7:=
 loopP ⟨Zp5,ZFK,ZaB,Tv⟩
def Zzf (l:List (Int×Int)):RT (Option (List (Int×Int))):=
 let x1:=runF false Zi9 (λa=>Int.toNat (a.1-a.2.1)+1) (iN (List.length (ZAB l)),0,ZAB l,[],())
 .br (Nat.ble (List.length l) most) (.br (ZFL l) (.br (okB x1) (.Lf (some (getO (false,iN (List.length (ZAB l)),0,ZAB l,[],()) x1).2.2.2.2.1)) (.Lf none)) (.Lf none)) (.Lf none)
def ZSh (l:List (Int×Int)):List (Int×Int):=getO Zv5.Df (Zzf l).val
def Zzg (l:List (Int×Int)):Bool:=okB (Zzf l).val
def ZSg:En:=Zg ZEj Zv5 (λa=>some (Zzg a)) (λa=>ZSh a)
theorem Zv4:Za prog 117 ZSg:=
 pureP 127 [(183,Zwx),(184,ZNy),(185,ZbM)] [(0,ZH7)] ZEj Zv5 ⟨Zp5,ZFK,ZaB,Tv⟩ Tryz.func117 Tryz.call117 ⟨ZLG,Tv⟩ (t:=λa=>Zzf a)
abbrev ZH1:List Sh:=[Sh.one rcCE]
abbrev ZvZ:Rs:=Rs.one (Sh.one R.bool)
def ZR9:LS:={n:=31,Sl:=[(0,.code (Sh.one rcCE)),(2,.code (Sh.one R.bool)),(5,.code (Sh.one rcCE)),(6,.code (Sh.one (R.int i64))),(7,.code (Sh.one (R.int i64)))],Bx:=[],Sg:=[]}
def Zes (a:List (Int×Int)×Bool×List (Int×Int)×Int×Int×PUnit):RT (Option (Go1 (List (Int×Int)×Bool×List (Int×Int)×Int×Int×PUnit))):=
 let x1:Int×Int:=R.get (R.Pq (R.int u16) (R.int u8)) a.2.2.1 a.2.2.2.2.1
 let x2:=x1.2==0
 let x3:List (Int×Int)×Int×Int×PUnit:=(a.2.2.1,a.2.2.2.1,a.2.2.2.2.1,PUnit.unit)
 .br (decide (a.2.2.2.2.1<a.2.2.2.1)) (.br (!Ze a.2.2.2.2.1 (List.length a.2.2.1)||(x2||(!decide (a.2.2.2.2.1>0)||Ze (i64.wrap (a.2.2.2.2.1-1)) (List.length a.1)))) (.br (Ze a.2.2.2.2.1 (List.length a.2.2.1)) (.br (x2||decide (a.2.2.2.2.1>0)&&decide (x1.1<=(R.get (R.Pq (R.int u16) (R.int u8)) a.1 (i64.wrap (a.2.2.2.2.1-1))).1)) (.Lf (some (Go1.ret (a.1,false,x3)))) (.Lf (some (Go1.cont (a.1,a.2.1,a.2.2.1,a.2.2.2.1,i64.wrap (a.2.2.2.2.1+1),PUnit.unit))))) (.Lf none)) (.Lf none)) (.Lf (some (Go1.brk (a.1,a.2.1,x3))))
def Zze:Ora:=Za2 true ZR9 Zes (λa=>1000000000000)
theorem ZEi:ZaH (envX prog [] [] 31 8) (.block 0 (.loop (Z7 Tryz.f294.body 0))) Zze:=
 loopP trivial
def Zki (m:List (Int×Int)):RT (Option (Bool)):=
 let x1:=runF true Zes (λa=>1000000000000) (m,false,m,iN (List.length m),0,())
 let x2:=getO (false,m,false,m,iN (List.length m),0,()) x1
 .br (okB x1) (.br x2.1 (.Lf (some x2.2.2.1)) (.Lf (some (true)))) (.Lf none)
def Zpl (m:List (Int×Int)):Bool:=getO ZvZ.Df (Zki m).val
def Zv0 (m:List (Int×Int)):Bool:=okB (Zki m).val
def ZSa:En:=Zg ZH1 ZvZ (λa=>some (Zv0 a)) (λa=>Zpl a)
theorem ZR8:Za prog 294 ZSa:=
 pureP 31 [] [(0,Zze)] ZH1 ZvZ trivial Tryz.func294 Tryz.call294 ⟨ZEi,Tv⟩ (t:=λa=>Zki a)
abbrev Zs4:List Sh:=[Sh.one rcCE]
abbrev Zls:Rs:=Rs.one (Sh.one R.bool)
def ZOs:LS:={n:=34,Sl:=[(0,.code (Sh.one rcCE)),(2,.code (Sh.one R.bool)),(5,.code (Sh.one (R.int i64))),(6,.code (Sh.one (R.int i64)))],Bx:=[],Sg:=[]}
def Zef (a:List (Int×Int)×Bool×Int×Int×PUnit):RT (Option (Go1 (List (Int×Int)×Bool×Int×Int×PUnit))):=
 let x1:=(R.get (R.Pq (R.int u16) (R.int u8)) a.1 a.2.2.2.1).2==0
 let x2:= !Ze a.2.2.2.1 (List.length a.1)||(x1||(!decide (a.2.2.2.1>0)||(!Ze a.2.2.2.1 (List.length a.1)||Ze (i64.wrap (a.2.2.2.1-1)) (List.length a.1))))
 let x3:= !x2
 let x4:= !Ze a.2.2.2.1 (List.length a.1)||(x1||(!decide (a.2.2.2.1>0)||Ze a.2.2.2.1 (List.length a.1)))
 .br (decide (a.2.2.2.1<a.2.2.1)) (.br (x3||(!x4||Ze a.2.2.2.1 (List.length a.1))) (.br (x3||x4) (.br (x2) (.br (x1||decide (a.2.2.2.1>0)&&decide ((R.get (R.Pq (R.int u16) (R.int u8)) a.1 a.2.2.2.1).1<=(R.get (R.Pq (R.int u16) (R.int u8)) a.1 (i64.wrap (a.2.2.2.1-1))).1)) (.Lf (some (Go1.ret (a.1,false,a.2.2.1,a.2.2.2.1,PUnit.unit)))) (.Lf (some (Go1.cont (a.1,a.2.1,a.2.2.1,i64.wrap (a.2.2.2.1+1),PUnit.unit))))) (.Lf none)) (.Lf none)) (.Lf none)) (.Lf (some (Go1.brk (a.1,a.2.1,a.2.2.1,a.2.2.2.1,PUnit.unit))))
def ZxP:Ora:=Za2 true ZOs Zef (λa=>1000000000000)
theorem ZA3:ZaH (envX prog [] [] 15 8) (.block 0 (.loop (Z7 Tryz.f44.body 0))) ZxP:=
 loopP trivial
def ZjW (m:List (Int×Int)):RT (Option (Bool)):=
 let x1:=runF true Zef (λa=>1000000000000) (m,false,iN (List.length m),0,())
 let x2:=getO (false,m,false,iN (List.length m),0,()) x1
 .br (okB x1) (.br x2.1 (.Lf (some x2.2.2.1)) (.Lf (some (true)))) (.Lf none)
def ZmR (m:List (Int×Int)):Bool:=getO Zls.Df (ZjW m).val
def ZjX (m:List (Int×Int)):Bool:=okB (ZjW m).val
def ZA4:En:=Zg Zs4 Zls (λa=>some (ZjX a)) (λa=>ZmR a)
theorem ZmP:Za prog 44 ZA4:=
 pureP 15 [] [(0,ZxP)] Zs4 Zls trivial Tryz.func44 Tryz.call44 ⟨ZA3,Tv⟩ (t:=λa=>ZjW a)
abbrev ZPm:List Sh:=[Sh.one rcCE,Sh.one (R.int u16)]
abbrev ZCa:Rs:=Rs.one (Sh.one (R.int u8))
def ZUR:LS:={n:=25,Sl:=[(0,.code (Sh.one rcCE)),(1,.code (Sh.one (R.int u16))),(4,.code (Sh.one (R.int u8))),(5,.code (Sh.one (R.int i64)))],Bx:=[],Sg:=[]}
def Zhc (a:List (Int×Int)×Int×Int×Int×PUnit):RT (Option (Go1 (List (Int×Int)×Int×Int×Int×PUnit))):=
 let x1:=(R.get (R.Pq (R.int u16) (R.int u8)) a.1 a.2.2.2.1).1==a.2.1
 .br (decide (a.2.2.2.1>=0)) (.br (!Ze a.2.2.2.1 (List.length a.1)||(!x1||Ze a.2.2.2.1 (List.length a.1))) (.br (Ze a.2.2.2.1 (List.length a.1)) (.br (x1) (.Lf (some (Go1.ret (a.1,a.2.1,(R.get (R.Pq (R.int u16) (R.int u8)) a.1 a.2.2.2.1).2,a.2.2.2.1,PUnit.unit)))) (.Lf (some (Go1.cont (a.1,a.2.1,a.2.2.1,i64.wrap (a.2.2.2.1-1),PUnit.unit))))) (.Lf none)) (.Lf none)) (.Lf (some (Go1.brk (a.1,a.2.1,a.2.2.1,a.2.2.2.1,PUnit.unit))))
def ZGN:Ora:=Za2 true ZUR Zhc (λa=>1000000000000)
theorem ZJC:ZaH (envX prog [] [] 63 8) (.block 0 (.loop (Z7 Tryz.f35.body 0))) ZGN:=
 loopP trivial
def Zrp (m:List (Int×Int)) (t:Int):RT (Option (Int)):=
 let x1:List (Int×Int)×Int×Int×Int×PUnit:=(m,t,0,i64.wrap (iN (List.length m)-1),())
 let x2:=runF true Zhc (λa=>1000000000000) x1
 let x3:=getO (false,x1) x2
 .br (okB x2) (.br x3.1 (.Lf (some x3.2.2.2.1)) (.Lf (some (0)))) (.Lf none)
def ZUS (m:List (Int×Int)) (t:Int):Int:=getO ZCa.Df (Zrp m t).val
def ZGO (m:List (Int×Int)) (t:Int):Bool:=okB (Zrp m t).val
def ZXs:En:=Zg ZPm ZCa (λa=>some (ZGO a.1 a.2)) (λa=>ZUS a.1 a.2)
theorem ZUQ:Za prog 35 ZXs:=
 pureP 63 [] [(0,ZGN)] ZPm ZCa trivial Tryz.func35 Tryz.call35 ⟨ZJC,Tv⟩ (t:=λa=>Zrp a.1 a.2)
abbrev ZON:List Sh:=[Sh.one rcCE,Sh.agg (R.Pq (R.int u16) (R.int u8))]
abbrev ZBi:Rs:=Rs.one (Sh.one rcCE)
def ZUF:LS:={n:=53,Sl:=[(3,.fix (A.loc 0 0)),(5,.tip 0),(6,.code (Sh.one R.bool)),(9,.code (Sh.one rcCE)),(10,.code (Sh.one (R.int i64))),(11,.code (Sh.one (R.int i64)))],Bx:=[[.many (R.Pq (R.int u16) (R.int u8))]],Sg:=[⟨(R.Pq (R.int u16) (R.int u8)),106,true⟩]}
def ZiG (a:QT9):RT (Option (Go1 (QT9))):=
 let x1:Int×Int:=R.get (R.Pq (R.int u16) (R.int u8)) a.2.1 a.2.2.2.1
 let x2:=x1.1
 let x3:= !a.1&&decide (x2>=a.2.2.2.2.1.1)
 let x4:List (Int×Int):=a.2.2.2.2.2.1++[a.2.2.2.2.1]
 let x5:= !x3||(!a.2.2.2.2.1.2 !=0||Nat.ble (List.length x4) most)
 let x6:=x2 !=a.2.2.2.2.1.1
 let x7:List (Int×Int):=bif x3 then bif a.2.2.2.2.1.2 !=0 then x4 else a.2.2.2.2.2.1 else a.2.2.2.2.2.1
 let x8:List (Int×Int):=x7++[x1]
 .br (decide (a.2.2.2.1<a.2.2.1)) (.br (!Ze a.2.2.2.1 (List.length a.2.1)||(!x5||(!x6||Nat.ble (List.length x8) most))) (.br (!Ze a.2.2.2.1 (List.length a.2.1)||x5) (.br (Ze a.2.2.2.1 (List.length a.2.1)) (.Lf (some (Go1.cont (x3||a.1,a.2.1,a.2.2.1,i64.wrap (a.2.2.2.1+1),a.2.2.2.2.1,bif x6 then x8 else x7,PUnit.unit)))) (.Lf none)) (.Lf none)) (.Lf none)) (.Lf (some (Go1.brk (a.1,a.2.1,a.2.2.1,a.2.2.2.1,a.2.2.2.2.1,a.2.2.2.2.2.1,PUnit.unit))))
def ZGu:Ora:=Za2 false ZUF ZiG (λa=>1000000000000)
theorem ZJl:ZaH (envX prog [] [] 511 8) (.block 0 (.loop (Z7 Tryz.f149.body 0))) ZGu:=
 loopP trivial
def Zrg (m:List (Int×Int)) (c:Int×Int):RT (Option (List (Int×Int))):=
 let x1:QT9:=(false,m,iN (List.length m),0,c,[],())
 let x2:=runF false ZiG (λa=>1000000000000) x1
 let x3:QT9:=(getO (false,x1) x2).2
 let x4:=x3.2.2.2.2
 let x5:=x4.1
 let x6:= !x3.1&&x5.2 !=0
 let x7:=x4.2.1
 let x8:List (Int×Int):=x7++[x5]
 .br (okB x2) (.br (!x6||Nat.ble (List.length x8) most) (.Lf (some (bif x6 then x8 else x7))) (.Lf none)) (.Lf none)
def ZJm (m:List (Int×Int)) (c:Int×Int):List (Int×Int):=getO ZBi.Df (Zrg m c).val
def Zrh (m:List (Int×Int)) (c:Int×Int):Bool:=okB (Zrg m c).val
def ZGv:En:=Zg ZON ZBi (λa=>some (Zrh a.1 a.2)) (λa=>ZJm a.1 a.2)
theorem Zth:Za prog 149 ZGv:=
 pureP 511 [] [(0,ZGu)] ZON ZBi trivial Tryz.func149 Tryz.call149 ⟨ZJl,Tv⟩ (t:=λa=>Zrg a.1 a.2)
abbrev ZBo:List Sh:=[Sh.one rcCE]
abbrev Ztm:Rs:=Rs.one (Sh.one rcCE)
def ZUN:LS:={n:=21,Sl:=[(3,.code (Sh.one rcCE)),(10,.code (Sh.one rcCE)),(11,.code (Sh.one (R.int i64))),(12,.code (Sh.one (R.int i64)))],Bx:=[],Sg:=[]}
def ZiI (a:List (Int×Int)×List (Int×Int)×Int×Int×PUnit):RT (Option (Go1 (List (Int×Int)×List (Int×Int)×Int×Int×PUnit))):=
 let x1:Int×Int:=R.get (R.Pq (R.int u16) (R.int u8)) a.2.1 a.2.2.2.1
 .br (decide (a.2.2.2.1<a.2.2.1)) (.br (!Ze a.2.2.2.1 (List.length a.2.1)||Zrh a.1 x1) (.br (Ze a.2.2.2.1 (List.length a.2.1)) (.Lf (some (Go1.cont (ZJm a.1 x1,a.2.1,a.2.2.1,i64.wrap (a.2.2.2.1+1),PUnit.unit)))) (.Lf none)) (.Lf none)) (.Lf (some (Go1.brk (a.1,a.2.1,a.2.2.1,a.2.2.2.1,PUnit.unit))))
def ZGD:Ora:=Za2 false ZUN ZiI (λa=>1000000000000)
theorem ZJo:ZaH (envX prog [(44,ZA4),(149,ZGv)] [] 63 8) (.block 0 (.loop (Z7 Tryz.f92.body 0))) ZGD:=
 loopP ⟨ZmP,Zth,Tv⟩
def Zrl (l:List (Int×Int)):RT (Option (List (Int×Int))):=
 let x1:=runF false ZiI (λa=>1000000000000) ([],l,iN (List.length l),0,())
 .br (ZjX l) (.br (!ZmR l||Nat.ble (List.length ([]++l)) most) (.br (ZmR l) (.Lf (some ([]++l))) (.br (okB x1) (.Lf (some (getO (false,[],l,iN (List.length l),0,()) x1).2.1)) (.Lf none))) (.Lf none)) (.Lf none)
def ZJp (l:List (Int×Int)):List (Int×Int):=getO Ztm.Df (Zrl l).val
def Zrm (l:List (Int×Int)):Bool:=okB (Zrl l).val
def ZO6:En:=Zg ZBo Ztm (λa=>some (Zrm a)) (λa=>ZJp a)
theorem Ztl:Za prog 92 ZO6:=
 pureP 63 [(44,ZA4),(149,ZGv)] [(0,ZGD)] ZBo Ztm ⟨ZmP,Zth,Tv⟩ Tryz.func92 Tryz.call92 ⟨ZJo,Tv⟩ (t:=λa=>Zrl a)
abbrev ZOM:List Sh:=[Sh.one rcCE,Sh.one (R.int u16),Sh.one (R.int u8)]
abbrev ZBh:Rs:=Rs.one (Sh.one rcCE)
def Zx5 (m:List (Int×Int)) (t:Int) (v:Int):RT (Option (List (Int×Int))):=
 .br (!Zrm m||Zrh (ZJp m) (t,v)) (.br (Zrm m) (.Lf (some (ZJm (ZJp m) (t,v)))) (.Lf none)) (.Lf none)
def ZUE (m:List (Int×Int)) (t:Int) (v:Int):List (Int×Int):=getO ZBh.Df (Zx5 m t v).val
def ZGt (m:List (Int×Int)) (t:Int) (v:Int):Bool:=okB (Zx5 m t v).val
def ZXb:En:=Zg ZOM ZBh (λa=>some (ZGt a.1 a.2.1 a.2.2)) (λa=>ZUE a.1 a.2.1 a.2.2)
theorem ZUD:Za prog 161 ZXb:=
 pureP 127 [(92,ZO6),(149,ZGv)] [] ZOM ZBh ⟨Ztl,Zth,Tv⟩ Tryz.func161 Tryz.call161 trivial (t:=λa=>Zx5 a.1 a.2.1 a.2.2)
abbrev Ztb:List Sh:=[Sh.one rcCE,Sh.one rcCE]
abbrev Zlw:Rs:=Rs.one (Sh.one R.bool)
def ZOx:LS:={n:=26,Sl:=[(0,.code (Sh.one rcCE)),(1,.code (Sh.one rcCE)),(4,.code (Sh.one R.bool)),(12,.code (Sh.one (R.int i64))),(13,.code (Sh.one (R.int i64)))],Bx:=[],Sg:=[]}
def Ze5 (a:List (Int×Int)×List (Int×Int)×Bool×Int×Int×PUnit):RT (Option (Go1 (List (Int×Int)×List (Int×Int)×Bool×Int×Int×PUnit))):=
 let x1:= !Ze a.2.2.2.2.1 (List.length a.1)||Ze a.2.2.2.2.1 (List.length a.2.1)
 let x2:Int×Int:=R.get (R.Pq (R.int u16) (R.int u8)) a.1 a.2.2.2.2.1
 let x3:Int×Int:=R.get (R.Pq (R.int u16) (R.int u8)) a.2.1 a.2.2.2.2.1
 let x4:Int×Int×PUnit:=(a.2.2.2.1,a.2.2.2.2.1,PUnit.unit)
 .br (decide (a.2.2.2.2.1<a.2.2.2.1)) (.br (!x1||Ze a.2.2.2.2.1 (List.length a.1)) (.br (x1) (.br (!(x2.1==x3.1&&(x2.2==x3.2&&true))) (.Lf (some (Go1.ret (a.1,a.2.1,false,x4)))) (.Lf (some (Go1.cont (a.1,a.2.1,a.2.2.1,a.2.2.2.1,i64.wrap (a.2.2.2.2.1+1),PUnit.unit))))) (.Lf none)) (.Lf none)) (.Lf (some (Go1.brk (a.1,a.2.1,a.2.2.1,x4))))
def Zx2:Ora:=Za2 true ZOx Ze5 (λa=>1000000000000)
theorem ZA9:ZaH (envX prog [] [] 63 8) (.block 0 (.loop (Z7 Tryz.f39.body 0))) Zx2:=
 loopP trivial
def ZhX (a:List (Int×Int)) (b:List (Int×Int)):RT (Option (Bool)):=
 let x1:=runF true Ze5 (λa_1=>1000000000000) (a,b,false,iN (List.length a),0,())
 let x2:=getO (false,a,b,false,iN (List.length a),0,()) x1
 .br (iN (List.length a) !=iN (List.length b)) (.Lf (some (false))) (.br (okB x1) (.br x2.1 (.Lf (some x2.2.2.2.1)) (.Lf (some (true)))) (.Lf none))
def ZOy (a:List (Int×Int)) (b:List (Int×Int)):Bool:=getO Zlw.Df (ZhX a b).val
def ZBa (a:List (Int×Int)) (b:List (Int×Int)):Bool:=okB (ZhX a b).val
def ZZl:En:=Zg Ztb Zlw (λa=>some (ZBa a.1 a.2)) (λa=>ZOy a.1 a.2)
theorem ZOw:Za prog 39 ZZl:=
 pureP 63 [] [(0,Zx2)] Ztb Zlw trivial Tryz.func39 Tryz.call39 ⟨ZA9,Tv⟩ (t:=λa=>ZhX a.1 a.2)
abbrev ZPn:List Sh:=[Sh.one rcRG,Sh.one (R.int u16)]
abbrev ZCd:Rs:=Rs.one (Sh.one (R.int i64))
def ZUT:LS:={n:=26,Sl:=[(1,.code (Sh.one (R.int u16))),(4,.code (Sh.one (R.int i64))),(7,.code (Sh.one rcRG)),(8,.code (Sh.one (R.int i64))),(9,.code (Sh.one (R.int i64)))],Bx:=[],Sg:=[]}
def Zhd (a:QT16):RT (Option (Go1 (QT16))):=
 let x1:QT3:=R.get (R.Pq (R.int u16) (R.Pq (R.int u16) (R.Pq R.bool (R.int i64)))) a.2.2.1 a.2.2.2.2.1
 let x2:List (QT3)×Int×Int×PUnit:=(a.2.2.1,a.2.2.2.1,a.2.2.2.2.1,PUnit.unit)
 .br (decide (a.2.2.2.2.1<a.2.2.2.1)) (.br (Ze a.2.2.2.2.1 (List.length a.2.2.1)) (.br (decide (x1.1<=a.1)&&decide (a.1<=x1.2.1)) (.Lf (some (Go1.ret (a.1,a.2.2.2.2.1,x2)))) (.Lf (some (Go1.cont (a.1,a.2.1,a.2.2.1,a.2.2.2.1,i64.wrap (a.2.2.2.2.1+1),PUnit.unit))))) (.Lf none)) (.Lf (some (Go1.brk (a.1,a.2.1,x2))))
def ZGR:Ora:=Za2 true ZUT Zhd (λa=>1000000000000)
theorem ZJD:ZaH (envX prog [] [] 127 8) (.block 0 (.loop (Z7 Tryz.f43.body 0))) ZGR:=
 loopP trivial
def ZnO (l:List (QT3)) (t:Int):RT (Option (Int)):=
 let x1:=runF true Zhd (λa=>1000000000000) (t,0,l,iN (List.length l),0,())
 let x2:=getO (false,t,0,l,iN (List.length l),0,()) x1
 .br (okB x1) (.br x2.1 (.Lf (some x2.2.2.1)) (.Lf (some (-1)))) (.Lf none)
def Zj2 (l:List (QT3)) (t:Int):Int:=getO ZCd.Df (ZnO l t).val
def ZnP (l:List (QT3)) (t:Int):Bool:=okB (ZnO l t).val
def ZGS:En:=Zg ZPn ZCd (λa=>some (ZnP a.1 a.2)) (λa=>Zj2 a.1 a.2)
theorem ZtC:Za prog 43 ZGS:=
 pureP 127 [] [(0,ZGR)] ZPn ZCd trivial Tryz.func43 Tryz.call43 ⟨ZJD,Tv⟩ (t:=λa=>ZnO a.1 a.2)
abbrev Ztd:List Sh:=[Sh.one rcRG,Sh.one rcCE,Sh.one (R.int u16)]
abbrev Zlx:Rs:=Rs.one (Sh.one (R.int u8))
def ZmY (l:List (QT3)) (m:List (Int×Int)) (t:Int):RT (Option (Int)):=
 .br (ZnP l t) (.br (decide (Zj2 l t<0)) (.Lf (some (255))) (.br (ZGO m t) (.Lf (some (ZUS m t))) (.Lf none))) (.Lf none)
def ZOG (l:List (QT3)) (m:List (Int×Int)) (t:Int):Int:=getO Zlx.Df (ZmY l m t).val
def ZBd (l:List (QT3)) (m:List (Int×Int)) (t:Int):Bool:=okB (ZmY l m t).val
def ZZq:En:=Zg Ztd Zlx (λa=>some (ZBd a.1 a.2.1 a.2.2)) (λa=>ZOG a.1 a.2.1 a.2.2)
theorem ZOF:Za prog 102 ZZq:=
 pureP 127 [(35,ZXs),(43,ZGS)] [] Ztd Zlx ⟨ZUQ,ZtC,Tv⟩ Tryz.func102 Tryz.call102 trivial (t:=λa=>ZmY a.1 a.2.1 a.2.2)
abbrev ZmL:List Sh:=[Sh.one rcRG,Sh.one rcCE,Sh.one (R.int u16),Sh.one (R.int u8)]
abbrev ZiB:Rs:=Rs.one (Sh.one rcCE)
def ZiA (l:List (QT3)) (m:List (Int×Int)) (t:Int) (v:Int):RT (Option (List (Int×Int))):=
 let x1:=decide (Zj2 l t>=0)&&(R.get (R.Pq (R.int u16) (R.Pq (R.int u16) (R.Pq R.bool (R.int i64)))) l (Zj2 l t)).2.2.1
 .br (ZnP l t) (.br (!decide (Zj2 l t>=0)||Ze (Zj2 l t) (List.length l)) (.br (!x1||ZGt m t v) (.br (x1) (.Lf (some (ZUE m t v))) (.br (Zrm m) (.Lf (some (ZJp m))) (.Lf none))) (.Lf none)) (.Lf none)) (.Lf none)
def ZAZ (l:List (QT3)) (m:List (Int×Int)) (t:Int) (v:Int):List (Int×Int):=getO ZiB.Df (ZiA l m t v).val
def Zs1 (l:List (QT3)) (m:List (Int×Int)) (t:Int) (v:Int):Bool:=okB (ZiA l m t v).val
def ZUt:En:=Zg ZmL ZiB (λa=>some (Zs1 a.1 a.2.1 a.2.2.1 a.2.2.2)) (λa=>ZAZ a.1 a.2.1 a.2.2.1 a.2.2.2)
theorem ZI9:Za prog 101 ZUt:=
 pureP 1023 [(43,ZGS),(92,ZO6),(161,ZXb)] [] ZmL ZiB ⟨ZtC,Ztl,ZUD,Tv⟩ Tryz.func101 Tryz.call101 trivial (t:=λa=>ZiA a.1 a.2.1 a.2.2.1 a.2.2.2)
abbrev ZRb:List Sh:=[Sh.one rcRG,Sh.one (R.int u16)]
abbrev ZDB:Rs:=Rs.one (Sh.one (R.int i64))
def ZVt:LS:={n:=26,Sl:=[(1,.code (Sh.one (R.int u16))),(4,.code (Sh.one (R.int i64))),(7,.code (Sh.one rcRG)),(8,.code (Sh.one (R.int i64))),(9,.code (Sh.one (R.int i64)))],Bx:=[],Sg:=[]}
def ZHA (a:QT16):RT (Option (Go1 (QT16))):=
 let x1:QT3:=R.get (R.Pq (R.int u16) (R.Pq (R.int u16) (R.Pq R.bool (R.int i64)))) a.2.2.1 a.2.2.2.2.1
 let x2:List (QT3)×Int×Int×PUnit:=(a.2.2.1,a.2.2.2.1,a.2.2.2.2.1,PUnit.unit)
 .br (decide (a.2.2.2.2.1<a.2.2.2.1)) (.br (Ze a.2.2.2.2.1 (List.length a.2.2.1)) (.br (decide (x1.1<=a.1)&&decide (a.1<=x1.2.1)) (.Lf (some (Go1.ret (a.1,a.2.2.2.2.1,x2)))) (.Lf (some (Go1.cont (a.1,a.2.1,a.2.2.1,a.2.2.2.1,i64.wrap (a.2.2.2.2.1+1),PUnit.unit))))) (.Lf none)) (.Lf (some (Go1.brk (a.1,a.2.1,x2))))
def ZHB:Ora:=Za2 true ZVt ZHA (λa=>1000000000000)
theorem ZKJ:ZaH (envX prog [] [] 127 8) (.block 0 (.loop (Z7 Tryz.f245.body 0))) ZHB:=
 loopP trivial
def ZHz (l:List (QT3)) (t:Int):RT (Option (Int)):=
 let x1:=runF true ZHA (λa=>1000000000000) (t,0,l,iN (List.length l),0,())
 let x2:=getO (false,t,0,l,iN (List.length l),0,()) x1
 .br (okB x1) (.br x2.1 (.Lf (some x2.2.2.1)) (.Lf (some (-1)))) (.Lf none)
def ZDC (l:List (QT3)) (t:Int):Int:=getO ZDB.Df (ZHz l t).val
def ZHC (l:List (QT3)) (t:Int):Bool:=okB (ZHz l t).val
def ZRc:En:=Zg ZRb ZDB (λa=>some (ZHC a.1 a.2)) (λa=>ZDC a.1 a.2)
theorem ZHy:Za prog 245 ZRc:=
 pureP 127 [] [(0,ZHB)] ZRb ZDB trivial Tryz.func245 Tryz.call245 ⟨ZKJ,Tv⟩ (t:=λa=>ZHz a.1 a.2)
end
end Go.Proofs.YtghoimllhpjkjaaGreat
namespace Go.Proofs.Cells
def getX (l:List Cell) (a:Int):Int:=((flt a l).getLast?.map Prod.snd).getD 0
def Vld (m:List Cell):Prop:=m.Pairwise (λa b=>a.1<b.1)/\∀c∈m,c.2≠0
variable {l:List Cell}
theorem ZLP {l':List Cell} (h:Sm l l') (a:Int):getX l a=getX l' a:=by rw[getX,getX,h a]
variable {m:List Cell}
theorem Vld.srt (h:Vld m):Srt m:=h.1.imp λh=>Int.le_of_lt h
theorem Vld.tail {c:Cell} (h:Vld (c::m)):Vld m:=⟨(YA.1 h.1).2,λx hx=>h.2 x (YO _ hx)⟩
theorem ZIp (a:Int):getX [] a=0:=rfl
theorem ZlV (a:Int) (c:Cell) (l:List Cell):flt a (c::l)=if c.1=a then c::flt a l else flt a l:=by by_cases h:c.1=a<;>simp[flt,h]
theorem Zew (c:Cell) (l:List Cell) (a:Int):getX (c::l) a=if c.1=a/\flt a l=[] then c.2 else getX l a:=by
 simp only[getX,ZlV];by_cases h:c.1=a
 ·simp only[h,if_true,true_and];cases hf:flt a l with
  |nil=>simp
  |cons x r=>simp[List.getLast?_cons_cons]
 ·simp[h]
theorem Vld.flt {m:List Cell} (h:Vld m) (a:Int):Cells.flt a m=if getX m a=0 then [] else [(a,getX m a)]:=by
 induction m with
 |nil=>simp[Cells.flt,ZIp]
 |cons c m ih=>
  have ih:=ih h.tail;have h1:=YA.1 h.1;by_cases hc:c.1=a
  ·have hn:Cells.flt a m=[]:=Zex λx hx=>by have:=h1.1 x hx;omega
   have hz:=h.2 c (by simp);rw[ZlV,Zew];simp only[hc,hn,and_self,if_true,hz,if_false];rw[<-hc]
  ·rw[ZlV,Zew];simp only[hc,false_and,if_false,ih]
theorem ZYD {m':List Cell} (h:Vld m) (h':Vld m') (e:∀a,getX m a=getX m' a):m=m':=
 uniq h.srt h'.srt λk=>by rw[h.flt,h'.flt,e k]
def dd:List Cell->List Cell
 |[]=>[]
 |x::r=>match r with
  |[]=>if x.2=0 then [] else [x]
  |y::_=>if x.1=y.1 then dd r else if x.2=0 then dd r else x::dd r
theorem Zr2:∀{l:List Cell} {c:Cell},c∈dd l->c∈l/\c.2≠0
 |[],c,h=>by simp[dd] at h
 |[x],c,h=>by
  simp only[dd] at h;split at h
  ·simp at h
  ·rename_i hz;simp at h;subst h;exact⟨by simp,hz⟩
 |x::y::r,c,h=>by
  rw[dd] at h;split at h
  ·have:=Zr2 h;exact⟨YO _ this.1,this.2⟩
  ·split at h
   ·have:=Zr2 h;exact⟨YO _ this.1,this.2⟩
   ·rename_i hz;rcases YB.1 h with e|e
    ·subst e;exact⟨by simp,hz⟩
    ·have:=Zr2 e;exact⟨YO _ this.1,this.2⟩
theorem ZYh:∀{l:List Cell},Srt l->Vld (dd l)
 |[],_=>⟨Yaj,λc h=>by simp[dd] at h⟩
 |[x],_=>by refine⟨?_,λc h=>(Zr2 h).2⟩;simp only[dd];split<;>simp
 |x::y::r,h=>by
  have h1:=YA.1 h;have ih:=ZYh (l:=y::r) h1.2;have h2:=YA.1 h1.2;rw[dd];split
  ·exact ih
  ·rename_i hne;split
   ·exact ih
   ·rename_i hz;refine⟨YA.2 ⟨λc hc=> ?_,ih.1⟩,λc hc=> ?_⟩
    ·have hxy:=h1.1 y (by simp);rcases YB.1 (Zr2 hc).1 with e|e
     ·rw[e];omega
     ·have:=h2.1 c e;omega
    ·rcases YB.1 hc with e|e
     ·rw[e];exact hz
     ·exact ih.2 c e
theorem ZYi:∀{l:List Cell},Srt l->∀a,getX (dd l) a=getX l a
 |[],_,_=>rfl
 |[x],_,a=>by
  simp only[dd];split
  ·rename_i hz;rw[Zew];simp[flt,getX,hz]
  ·rfl
 |x::y::r,h,a=>by
  have h1:=YA.1 h;have ih:=ZYi (l:=y::r) h1.2 a;have h2:=YA.1 h1.2;rw[dd,Zew x (y::r)];by_cases hxy:x.1=y.1
  ·rw[YV hxy,ih];by_cases hc:x.1=a/\flt a (y::r)=[]
   ·obtain⟨e,e2⟩:=hc;rw[ZlV,YV (by rw[<-hxy];exact e)] at e2;simp at e2
   ·rw[Y0 hc]
  ·rw[Y0 hxy];have hlt:∀c∈y::r,x.1<c.1:=λc hc=>by
    have:=h1.1 y (by simp);rcases YB.1 hc with e|e
    ·rw[e];omega
    ·have:=h2.1 c e;omega
   by_cases hc:x.1=a
   ·have hn:flt a (y::r)=[]:=Zex λc hc'=>by have:=hlt c hc';omega
    have hn2:flt a (dd (y::r))=[]:=Zex λc hc'=>by have:=hlt c (Zr2 hc').1;omega
    by_cases hz:x.2=0
    ·rw[YV hz,YV ⟨hc,hn⟩,hz,getX,hn2];rfl
    ·rw[Y0 hz,YV ⟨hc,hn⟩,Zew,YV ⟨hc,hn2⟩]
   ·by_cases hz:x.2=0
    ·rw[YV hz,Y0 (λh=>hc h.1),ih]
    ·rw[Y0 hz,Y0 (λh=>hc h.1),Zew,Y0 (λh=>hc h.1),ih]
def putX:List Cell->Cell->List Cell
 |[],c=>if c.2=0 then [] else [c]
 |x::r,c=>if x.1<c.1 then x::putX r c else if c.2=0 then (if x.1=c.1 then r else x::r) else if x.1=c.1 then c::r else c::x::r
theorem Zup:∀{m:List Cell} {c x:Cell},x∈putX m c->x=c\/x∈m
 |[],c,x,h=>by
  simp only[putX] at h;split at h
  ·simp at h
  ·left;simpa using h
 |y::r,c,x,h=>by
  simp only[putX] at h;split at h
  ·rcases YB.1 h with e|e
   ·right;simp[e]
   ·rcases Zup e with e|e
    ·exact .inl e
    ·right;simp[e]
  ·split at h
   ·split at h
    ·right;simp[h]
    ·right;exact h
   ·split at h
    ·rcases YB.1 h with e|e
     ·exact .inl e
     ·right;simp[e]
    ·rcases YB.1 h with e|e
     ·exact .inl e
     ·right;exact e
theorem Zuo:∀{m:List Cell} {c:Cell},Vld m->Vld (putX m c)
 |[],c,_=>by
  simp only[putX];split
  ·exact⟨Yaj,λc h=>by simp at h⟩
  ·rename_i hz;exact⟨by simp,λx h=>by simp at h;rw[h];exact hz⟩
 |y::r,c,h=>by
  have h1:=YA.1 h.1;have hy:=h.2 y (by simp);simp only[putX];split
  ·rename_i hlt;have ih:=Zuo (c:=c) h.tail;refine⟨YA.2 ⟨λx hx=> ?_,ih.1⟩,λx hx=> ?_⟩
   ·rcases Zup hx with e|e
    ·rw[e];exact hlt
    ·exact h1.1 x e
   ·rcases YB.1 hx with e|e
    ·rw[e];exact hy
    ·exact ih.2 x e
  ·rename_i hge;split
   ·split
    ·exact h.tail
    ·exact h
   ·rename_i hz;split
    ·rename_i he;refine⟨YA.2 ⟨λx hx=> ?_,h1.2⟩,λx hx=> ?_⟩
     ·have:=h1.1 x hx;omega
     ·rcases YB.1 hx with e|e
      ·rw[e];exact hz
      ·exact h.2 x (YO _ e)
    ·rename_i hne;refine⟨YA.2 ⟨λx hx=> ?_,h.1⟩,λx hx=> ?_⟩
     ·rcases YB.1 hx with e|e
      ·rw[e];omega
      ·have:=h1.1 x e;omega
     ·rcases YB.1 hx with e|e
      ·rw[e];exact hz
      ·exact h.2 x e
theorem Zji {a:Int} (h:∀c∈l,c.1≠a):getX l a=0:=by rw[getX,Zex h];rfl
theorem Zd7 {x:Cell} {r:List Cell} (h:∀c∈r,x.1<c.1) (a:Int):getX (x::r) a=if x.1=a then x.2 else getX r a:=by
 rw[Zew];by_cases hx:x.1=a
 ·have:flt a r=[]:=Zex λc hc=>by have:=h c hc;omega
  simp[hx,this]
 ·simp[hx]
theorem ZG6:∀{m:List Cell} {c:Cell},Vld m->∀a,getX (putX m c) a=if c.1=a then c.2 else getX m a
 |[],c,_,a=>by
  simp only[putX];split
  ·rename_i hz;rw[ZIp,hz];simp
  ·rw[Zd7 (by simp)]
 |y::r,c,h,a=>by
  have h1:=YA.1 h.1;simp only[putX];split
  ·rename_i hlt
   rw[Zd7 (λx hx=>by
    rcases Zup hx with e|e
    ·rw[e];exact hlt
    ·exact h1.1 x e),Zd7 h1.1,ZG6 h.tail a]
   by_cases e1:y.1=a
   ·simp only[e1,if_true];rw[Y0 (by omega)]
   ·simp[e1]
  ·rename_i hge;split
   ·rename_i hz;split
    ·rename_i he;rw[Zd7 h1.1];by_cases e:c.1=a
     ·rw[YV e,hz];exact Zji λx hx=>by have:=h1.1 x hx;omega
     ·rw[Y0 e,Y0 (by omega)]
    ·rename_i hne;by_cases e:c.1=a
     ·rw[YV e,hz];exact Zji λx hx=>by
       rcases YB.1 hx with e'|e'
       ·rw[e'];omega
       ·have:=h1.1 x e';omega
     ·rw[Y0 e]
   ·split
    ·rename_i he;rw[Zd7 (λx hx=>by have:=h1.1 x hx;omega),Zd7 h1.1];by_cases e:c.1=a
     ·simp[e]
     ·rw[Y0 e,Y0 e,Y0 (by omega)]
    ·rename_i hne
     rw[Zd7 (λx hx=>by
      rcases YB.1 hx with e|e
      ·rw[e];omega
      ·have:=h1.1 x e;omega)]
def normX (l:List Cell):List Cell:=l.foldl putX []
theorem ZSI (l:List Cell) (c:Cell) (a:Int):getX (l++[c]) a=if c.1=a then c.2 else getX l a:=by
 rw[getX,getX,Zdy];by_cases h:c.1=a
 ·have:flt a [c]=[c]:=by simp[flt,h]
  rw[this,List.getLast?_append];simp[h]
 ·have:flt a [c]=[]:=Zex λx hx=>by simp at hx;rw[hx];exact h
  rw[this];simp[h]
theorem ZpT:∀(l:List Cell) {m:List Cell},Vld m->Vld (l.foldl putX m)/\∀a,getX (l.foldl putX m) a=getX (m++l) a
 |[],m,h=>⟨h,λa=>by simp⟩
 |c::l,m,h=>by
  obtain⟨h1,h2⟩:=ZpT l (Zuo (c:=c) h);refine⟨h1,λa=> ?_⟩;rw[List.foldl_cons,h2 a];have e:m++c::l=(m++[c])++l:=by simp
  rw[e];have key:∀{p q:List Cell},(∀b,getX p b=getX q b)->∀l b,getX (p++l) b=getX (q++l) b:=by
   intro p q hpq l b;simp only[getX,Zdy,List.getLast?_append];cases hl:(flt b l).getLast? with
   |none=>simpa [getX] using hpq b
   |some x=>simp
  exact key (λb=>by rw[ZG6 h,ZSI]) l a
theorem Zdm (l:List Cell):Vld (normX l):=(ZpT l ⟨Yaj,λc h=>by simp at h⟩).1
theorem ZRK (l:List Cell) (a:Int):getX (normX l) a=getX l a:=(ZpT l ⟨Yaj,λc h=>by simp at h⟩).2 a
theorem ZHL (h:Vld m) (e:∀a,getX m a=getX l a):normX l=m:=ZYD (Zdm l) h λa=>by rw[ZRK,e]
theorem Zfb (h:Vld m):normX m=m:=ZHL h λ_=>rfl
theorem ZLr (l:List Cell):dd (isort l)=normX l:=
 (ZHL (ZYh (ZbY l)) λa=>by rw[ZYi (ZbY l),ZLP (ZfG l)]).symm
end Go.Proofs.Cells
open Go Go.S3 Go.Proofs Go.Proofs.Cells
namespace Go.Proofs.YtghoimllhpjkjaaGreat
noncomputable section
abbrev ZM:=QT3
theorem Zwr (l:List Cell) (i:Nat) (h:i<l.length):l.drop i=el l i::l.drop (i+1):=by rw[Yao h];have:=ZcA l i h;rw[Yi h,oinj] at this;rw[this]
theorem ZAE (l:List Cell) (i:Nat) (h:i<l.length):l.take (i+1)=l.take i++[el l i]:=by rw[Yas,ZcA l i h];rfl
theorem Z2S (l:List Cell) (i:Nat) (h:i<l.length):el l i∈l:=List.mem_iff_getElem?.2 ⟨i,ZcA l i h⟩
def okAt (m:List Cell) (i:Nat):Bool:= !((el m i).2==0||(decide ((i:Int)>0)&&decide ((el m i).1<=(el m (i-1)).1)))
def vldB (m:List Cell):Bool:=(List.range m.length).all (okAt m)
variable {m:List Cell} {i:Nat}
theorem ZqE (hi:i<m.length) (h:okAt m i=false):vldB m=false:=by rw[YN];intro he;have:=Y2.1 he i (YaF.2 hi);rw[h] at this;exact absurd this (by simp)
theorem Zmg (h:∀i,i<m.length->okAt m i=true):vldB m=true:=Y2.2 λi hi=>h i (YaF.1 hi)
theorem Zlk:vldB m=true↔Vld m:=by
 constructor
 ·intro h;have ha:∀i,i<m.length->okAt m i=true:=λi hi=>Y2.1 h i (YaF.2 hi)
  have hs:∀i,i+1<m.length->(el m i).1<(el m (i+1)).1:=λi hi=>by
   have:=ha (i+1) hi;simp only[okAt,YJ,Yo,Yae,Y4,Nat.add_sub_cancel] at this;rcases this.2 with e|e
   ·omega
   ·omega
  refine⟨?_,λc hc=> ?_⟩
  ·rw[Yay];have key:∀d i,i+d+1<m.length->(el m i).1<(el m (i+d+1)).1:=by
    intro d
    induction d with
    |zero=>intro i hi;exact hs i hi
    |succ d ih=>intro i hi;have h1:=ih i (by omega);have h2:=hs (i+d+1) (by omega);rw[show i+(d+1)+1=i+d+1+1 by omega];omega
   intro i j hi hj hij;have:=key (j-i-1) i (by omega);rw[show i+(j-i-1)+1=j by omega] at this;have e1:=ZcA m i hi;have e2:=ZcA m j hj;rw[Yi hi,oinj] at e1;rw[Yi hj,oinj] at e2;rw[e1,e2];exact this
  ·obtain⟨i,hi⟩:=List.mem_iff_getElem?.1 hc;have hlt:=(YE.1 hi).1;rw[ZcA m i hlt,oinj] at hi;have:=ha i hlt;rw[<-hi];simp only[okAt,YJ,Yo,beq_eq_false_iff_ne] at this;exact this.1
 ·intro h;refine Zmg λi hi=> ?_
  simp only[okAt,YJ,Yo,beq_eq_false_iff_ne,Yae,Y4];refine⟨h.2 _ (Z2S m i hi),?_⟩;by_cases h0:i=0
  ·left;omega
  ·right;have:=Yay.1 h.1 (i-1) i (by omega) hi (by omega);have e1:=ZcA m (i-1) (by omega);have e2:=ZcA m i hi;rw[Yi (by omega),oinj] at e1;rw[Yi hi,oinj] at e2;rw[e1,e2] at this;omega
theorem Z1q (i:Nat) (h:0<i) (h2:i<=4611686018427387904):IntKind.wrap .i64 ((i:Int)-1)=((i-1:Nat):Int):=by rw[wrap_i64 _ (by omega) (by omega)];omega
theorem ZRI (m:List Cell) (i:Nat):((el m i).2==0||(decide ((i:Int)>0)&&decide ((el m i).1<=(el m (i-1)).1)))= !okAt m i:=by simp only[okAt,Bool.not_not]
theorem ZLC (m:List Cell) (hm:m.length<=most):(Zki m).val=some (vldB m):=by
 have hms:=mst;obtain⟨r,hr,hR⟩:=ZH (fl:=true) (t:=Zes) (fuel:=λa=>1000000000000)
  (I:=λa=>∃i:Nat,i<=m.length/\(∀k,k<i->okAt m k=true)/\a=(m,false,m,(m.length:Int),(i:Int),()))
  (m:=λa=>Int.toNat (a.2.2.2.1-a.2.2.2.2.1)) (R:=λr=>(r.1=false/\vldB m=true)\/(r.1=true/\vldB m=false/\r.2.2.1=false))
  (λa hi=>by
   obtain⟨i,hi,hk,rfl⟩:=hi;by_cases hlt:i<m.length
   ·have d:decide ((i:Int)<(m.length:Int))=true:=by simpa using hlt
    have r1:=ZaE m i hlt;have hw:decide ((i:Int)>0)=true->Ze (IntKind.wrap .i64 ((i:Int)-1)) m.length=true/\IntKind.wrap .i64 ((i:Int)-1)=((i-1:Nat):Int):=λh=>by simp only[Ym] at h;have e:=Z1q i (by omega) (by omega);exact⟨by rw[e];exact ZaE m (i-1) (by omega),e⟩
    have hck:((el m i).2==0||(!decide ((i:Int)>0)||Ze (IntKind.wrap .i64 ((i:Int)-1)) m.length))=true:=by
     cases h:decide ((i:Int)>0) with
     |false=>simp
     |true=>rw[(hw h).1];simp
    have hcd:((el m i).2==0||(decide ((i:Int)>0)&&decide ((el m i).1<=(R.get CR m (IntKind.wrap .i64 ((i:Int)-1))).1)))= !okAt m i:=by
     rw[<-ZRI];cases h:decide ((i:Int)>0) with
     |false=>simp
     |true=>rw[(hw h).2,Zcn]
    cases ho:okAt m i with
    |true=>
     left;refine⟨(m,false,m,(m.length:Int),((i+1:Nat):Int),()),?_,⟨i+1,hlt,λk hk'=> ?_,rfl⟩,by simp only;omega⟩
     ·rw[ho] at hcd;simp only[Zes,RT.val,d,r1,Zcn,hck,hcd,Yf,Yj,Ya,Yb,ZhI i (by omega)]
     ·by_cases e:k=i
      ·subst e;exact ho
      ·exact hk k (by omega)
    |false=>
     right;right;refine⟨(m,false,m,(m.length:Int),(i:Int),()),rfl,?_,.inr ⟨rfl,ZqE hlt ho,rfl⟩⟩;rw[ho] at hcd;simp only[Zes,RT.val,d,r1,Zcn,hck,hcd,Yf,Yk,Yj,Ya,Yb]
   ·right;left;have d:decide ((i:Int)<(m.length:Int))=false:=by simpa using hlt
    exact⟨(m,false,m,(m.length:Int),(i:Int),()),by simp only[Zes,RT.val,d,Yb],.inl ⟨rfl,Zmg λk hk'=>hk k (by omega)⟩⟩)
  (m,false,m,(m.length:Int),0,()) ⟨0,Yu _,λk h=>by omega,rfl⟩ (by simp only;omega)
 have hr':runF true Zes (λa=>1000000000000) (m,false,m,iN m.length,0,())=some r:=hr;rcases hR with ⟨h1,h2⟩|⟨h1,h2,h3⟩
 ·simp only[Zki,RT.val,hr',okB,getO,Ya,h1,Yb,h2]
 ·simp only[Zki,RT.val,hr',okB,getO,Ya,h1,h2,h3]
theorem Zq0 (m:List Cell) (hm:m.length<=most):(ZjW m).val=some (vldB m):=by
 have hms:=mst;obtain⟨r,hr,hR⟩:=ZH (fl:=true) (t:=Zef) (fuel:=λa=>1000000000000)
  (I:=λa=>∃i:Nat,i<=m.length/\(∀k,k<i->okAt m k=true)/\a=(m,false,(m.length:Int),(i:Int),()))
  (m:=λa=>Int.toNat (a.2.2.1-a.2.2.2.1)) (R:=λr=>(r.1=false/\vldB m=true)\/(r.1=true/\vldB m=false/\r.2.2.1=false))
  (λa hi=>by
   obtain⟨i,hi,hk,rfl⟩:=hi;by_cases hlt:i<m.length
   ·have d:decide ((i:Int)<(m.length:Int))=true:=by simpa using hlt
    have r1:=ZaE m i hlt;have hw:decide ((i:Int)>0)=true->Ze (IntKind.wrap .i64 ((i:Int)-1)) m.length=true/\IntKind.wrap .i64 ((i:Int)-1)=((i-1:Nat):Int):=λh=>by simp only[Ym] at h;have e:=Z1q i (by omega) (by omega);exact⟨by rw[e];exact ZaE m (i-1) (by omega),e⟩
    have hck:((el m i).2==0||(!decide ((i:Int)>0)||Ze (IntKind.wrap .i64 ((i:Int)-1)) m.length))=true:=by
     cases h:decide ((i:Int)>0) with
     |false=>simp
     |true=>rw[(hw h).1];simp
    have hcd:((el m i).2==0||(decide ((i:Int)>0)&&decide ((el m i).1<=(R.get CR m (IntKind.wrap .i64 ((i:Int)-1))).1)))= !okAt m i:=by
     rw[<-ZRI];cases h:decide ((i:Int)>0) with
     |false=>simp
     |true=>rw[(hw h).2,Zcn]
    cases ho:okAt m i with
    |true=>
     left;refine⟨(m,false,(m.length:Int),((i+1:Nat):Int),()),?_,⟨i+1,hlt,λk hk'=> ?_,rfl⟩,by simp only;omega⟩
     ·rw[ho] at hcd;simp only[Zef,RT.val,d,r1,Zcn,hck,hcd,Yf,Yj,Yh,Ya,Yb,ZhI i (by omega)]
     ·by_cases e:k=i
      ·subst e;exact ho
      ·exact hk k (by omega)
    |false=>
     right;right;refine⟨(m,false,(m.length:Int),(i:Int),()),rfl,?_,.inr ⟨rfl,ZqE hlt ho,rfl⟩⟩;rw[ho] at hcd;simp only[Zef,RT.val,d,r1,Zcn,hck,hcd,Yf,Yk,Yj,Yh,Ya,Yb]
   ·right;left;have d:decide ((i:Int)<(m.length:Int))=false:=by simpa using hlt
    exact⟨(m,false,(m.length:Int),(i:Int),()),by simp only[Zef,RT.val,d,Yb],.inl ⟨rfl,Zmg λk hk'=>hk k (by omega)⟩⟩)
  (m,false,(m.length:Int),0,()) ⟨0,Yu _,λk h=>by omega,rfl⟩ (by simp only;omega)
 have hr':runF true Zef (λa=>1000000000000) (m,false,iN m.length,0,())=some r:=hr;rcases hR with ⟨h1,h2⟩|⟨h1,h2,h3⟩
 ·simp only[ZjW,RT.val,hr',okB,getO,Ya,h1,Yb,h2]
 ·simp only[ZjW,RT.val,hr',okB,getO,Ya,h1,h2,h3]
variable {t:Int}
theorem ZSJ (hi:i<m.length) (he:(el m i).1=t) (hk:∀k,i<k->k<m.length->(el m k).1≠t):getX m t=(el m i).2:=by
 have e:m=m.take i++[el m i]++m.drop (i+1):=by rw[Yn,List.singleton_append,<-Zwr m i hi,Yad]
 have h0:flt t (m.drop (i+1))=[]:=Zex λc hc=>by obtain⟨k,h1,h2,rfl⟩:=Zi8 hc;exact hk k (by omega) h2
 have h1:flt t [el m i]=[el m i]:=by simp[flt,he]
 have h2:flt t m=flt t (m.take i)++[el m i]:=by conv=>lhs;rw[e,Zdy,Zdy,h0,h1,Yw]
 rw[getX,h2,List.getLast?_append];simp
theorem ZUp (m:List Cell) (t:Int) (hm:m.length<=most):(Zrp m t).val=some (getX m t):=by
 have hms:=mst;obtain⟨r,hr,hR⟩:=ZH (fl:=true) (t:=Zhc) (fuel:=λa=>1000000000000)
  (I:=λa=>∃i:Nat,i<=m.length/\(∀k,i<=k->k<m.length->(el m k).1≠t)/\a=(m,t,0,(i:Int)-1,()))
  (m:=λa=>Int.toNat (a.2.2.2.1+1)) (R:=λr=>(r.1=false/\getX m t=0)\/(r.1=true/\r.2.2.2.1=getX m t))
  (λa hi=>by
   obtain⟨i,hi,hk,rfl⟩:=hi;cases i with
   |zero=>
    right;left;refine⟨(m,t,0,((0:Nat):Int)-1,()),by simp[Zhc,RT.val],.inl ⟨rfl,Zji λc hc=> ?_⟩⟩;obtain⟨k,hk'⟩:=List.mem_iff_getElem?.1 hc;have hlt:=(YE.1 hk').1;rw[ZcA m k hlt,oinj] at hk';rw[<-hk'];exact hk k (Yu _) hlt
   |succ i=>
    have ei:((i+1:Nat):Int)-1=(i:Int):=by omega
    rw[ei];have d:decide ((i:Int)>=0)=true:=by simp
    have r1:=ZaE m i (by omega);cases he:((el m i).1==t) with
    |true=>
     right;right;refine⟨(m,t,(el m i).2,(i:Int),()),rfl,by simp only[Zhc,RT.val,d,r1,Zcn,he,Ya,Yf,Yj],.inr ⟨rfl,?_⟩⟩;exact (ZSJ (by omega) (by simpa using he) λk h1 h2=>hk k (by omega) h2).symm
    |false=>
     left;refine⟨(m,t,0,(i:Int)-1,()),?_,⟨i,by omega,λk h1 h2=> ?_,rfl⟩,by simp only;omega⟩
     ·have w:IntKind.wrap .i64 ((i:Int)-1)=(i:Int)-1:=wrap_i64 _ (by omega) (by omega);simp only[Zhc,RT.val,d,r1,Zcn,he,Ya,Yb,Yf,Yk,Ys,Yj,w]
     ·by_cases e:k=i
      ·subst e;simpa using he
      ·exact hk k (by omega) h2)
  (m,t,0,(m.length:Int)-1,()) ⟨m.length,Ye _,λk h1 h2=>by omega,rfl⟩ (by simp only;omega)
 have w:IntKind.wrap .i64 (iN m.length-1)=(m.length:Int)-1:=wrap_i64 _ (by simp only[iN];omega) (by simp only[iN];omega);rcases hR with ⟨h1,h2⟩|⟨h1,h2⟩
 ·simp only[Zrp,RT.val,w,hr,okB,getO,Ya,h1,Yb,h2]
 ·simp only[Zrp,RT.val,w,hr,okB,getO,Ya,h1,h2]
def pst (c:Cell) (s:Bool×List Cell) (x:Cell):Bool×List Cell:=
 let t:= !s.1&&decide (x.1>=c.1)
 let o:=bif t then (bif c.2 !=0 then s.2++[c] else s.2) else s.2
 (t||s.1,bif x.1 !=c.1 then o++[x] else o)
def pfin (c:Cell) (s:Bool×List Cell):List Cell:=bif !s.1&&c.2 !=0 then s.2++[c] else s.2
theorem ZHa (c:Cell):∀(m:List Cell) (o:List Cell),(∀x∈m,x.1≠c.1)->m.foldl (pst c) (true,o)=(true,o++m)
 |[],o,_=>by simp
 |x::m,o,h=>by
  have hx:(x.1 !=c.1)=true:=by simpa using h x (by simp)
  simp only[List.foldl_cons,pst,Yf,YZ,Yb,Yh,hx,Ya];rw[ZHa c m (o++[x]) λy hy=>h y (YO _ hy)];simp
theorem ZP7 (c:Cell):∀(m:List Cell) (o:List Cell),m.Pairwise (λa b=>a.1<b.1)->pfin c (m.foldl (pst c) (false,o))=o++putX m c
 |[],o,_=>by
  simp only[List.foldl_nil,pfin,putX,Yk,YX];by_cases h:c.2=0
  ·simp[h]
  ·have:(c.2 !=0)=true:=by simpa using h
   simp[h,this]
 |x::m,o,h=>by
  have h1:=YA.1 h;by_cases hx:x.1<c.1
  ·have e1:decide (x.1>=c.1)=false:=by simp;omega
   have e2:(x.1 !=c.1)=true:=by simp;omega
   simp only[List.foldl_cons,pst,e1,Y6,Yb,Yx,e2,Ya];rw[ZP7 c m (o++[x]) h1.2,putX,YV hx];simp
  ·have e1:decide (x.1>=c.1)=true:=by simp;omega
   have hne:∀y∈m,y.1≠c.1:=λy hy=>by have:=h1.1 y hy;omega
   simp only[List.foldl_cons,pst,e1,Yk,YW,Ya,Ys];rw[ZHa c m _ hne,putX,Y0 hx];simp only[pfin,Yf,YZ,Yb];by_cases hz:c.2=0
   ·by_cases hk:x.1=c.1
    ·simp[hz,hk]
    ·have:(x.1 !=c.1)=true:=by simpa using hk
     simp[hz,hk,this]
   ·have hz1:(c.2 !=0)=true:=by simpa using hz
    by_cases hk:x.1=c.1
    ·simp[hz,hk,hz1]
    ·have:(x.1 !=c.1)=true:=by simpa using hk
     simp[hz,hk,this,hz1]
theorem ZCu (c:Cell):∀(m:List Cell) (s:Bool×List Cell),(m.foldl (pst c) s).2.length+(bif (m.foldl (pst c) s).1 then 0 else 1)<=s.2.length+(bif s.1 then 0 else 1)+m.length
 |[],s=>by simp
 |x::m,s=>by
  rw[List.foldl_cons];have ih:=ZCu c m (pst c s x);have:(pst c s x).2.length+(bif (pst c s x).1 then 0 else 1)<=s.2.length+(bif s.1 then 0 else 1)+1:=by obtain⟨d,o⟩:=s;simp only[pst];generalize decide (x.1>=c.1)=b1;generalize (c.2 !=0)=b2;generalize (x.1 !=c.1)=b3;cases d<;>cases b1<;>cases b2<;>cases b3<;>simp<;>omega
  simp only[List.length_cons];omega
theorem ZmG (m:List Cell) (c:Cell) (hv:Vld m) (hm:m.length+1<=most):Zrh m c=true/\ZJm m c=putX m c:=by
 have hms:=mst;obtain⟨r,hr,h1,i,hR⟩:=ZH (fl:=false) (t:=ZiG) (fuel:=λa=>1000000000000)
  (λa=>∃i:Nat,i<=m.length/\a=(((m.take i).foldl (pst c) (false,[])).1,m,(m.length:Int),(i:Int),c,((m.take i).foldl (pst c) (false,[])).2,()))
  (λa=>Int.toNat (a.2.2.1-a.2.2.2.1)) (λr=>r.1=false/\∃i:Nat,r.2=((m.foldl (pst c) (false,[])).1,m,(m.length:Int),(i:Int),c,(m.foldl (pst c) (false,[])).2,()))
  (by
   rintro a ⟨i,hi,rfl⟩;by_cases hlt:i<m.length
   ·left;have d:decide ((i:Int)<(m.length:Int))=true:=by simpa using hlt
    have r1:=ZaE m i hlt;have hl:=ZCu c (m.take i) (false,[]);have hs:(m.take (i+1)).foldl (pst c) (false,[])=pst c ((m.take i).foldl (pst c) (false,[])) (el m i):=by rw[ZAE m i hlt,Yat];rfl
    rw[YD,YaU (by omega)] at hl;refine⟨_,?_,⟨i+1,hlt,rfl⟩,by simp only;omega⟩;rw[hs];generalize (m.take i).foldl (pst c) (false,[])=s at hl|-;obtain⟨dn,o⟩:=s;simp only[List.length_nil,Yb] at hl;simp only[ZiG,RT.val,d,r1,Zcn,Ya,Yf,Yj,pst,ZhI i (by omega)];generalize decide ((el m i).1>=c.1)=b1;generalize hb2:(c.2 !=0)=b2;generalize hb3:((el m i).1 !=c.1)=b3;have l1:Nat.ble (o++[c]).length most=true\/dn=true:=by
     cases dn with
     |true=>exact .inr rfl
     |false=>left;rw[YH];simp only[Yb] at hl;simp only[Yd,List.length_singleton];omega
    have l2:Nat.ble (o++[el m i]).length most=true:=by rw[YH];simp only[Yd,List.length_singleton];cases dn<;>simp only[Ya,Yb] at hl<;>omega
    have l3:Nat.ble (o++[c]++[el m i]).length most=true\/dn=true:=by
     cases dn with
     |true=>exact .inr rfl
     |false=>left;rw[YH];simp only[Yb] at hl;simp only[Yd,List.length_singleton];omega
    cases dn with
    |true=>
     cases b3<;>simp only[l2,Yf,Yk,YZ,Ys,Yj,Yh,Ya,Yb]
    |false=>
     have l1:Nat.ble (o++[c]).length most=true:=by simpa using l1
     have l3:Nat.ble (o++[c]++[el m i]).length most=true:=by simpa using l3
     cases b1<;>cases b2<;>cases b3<;>simp only[l1,l2,l3,Yf,Yk,YZ,YX,Ys,Yj,Yh,Yx,YW,Ya,Yb]
   ·right;left;have d:decide ((i:Int)<(m.length:Int))=false:=by simpa using hlt
    have e:m.take i=m:=Y5 (by omega);rw[e]
    exact⟨_,by simp only[ZiG,RT.val,d,Yb],rfl,i,rfl⟩)
  (false,m,iN m.length,0,c,[],()) ⟨0,Yu _,rfl⟩ (by simp only[iN];omega)
 have hl:=ZCu c m (false,[]);have hp:=ZP7 c m [] hv.1;simp only[List.nil_append] at hp;obtain⟨r1,r2⟩:=r;simp only at h1 hR;subst h1 hR;generalize m.foldl (pst c) (false,[])=s at hl hp hr;obtain⟨dn,o⟩:=s;have hb:(!(!dn&&c.2 !=0)||Nat.ble (o++[c]).length most)=true:=by
  cases dn with
  |true=>rfl
  |false=>
   have:Nat.ble (o++[c]).length most=true:=by rw[YH];simp only[Yb,List.length_nil] at hl;simp only[Yd,List.length_singleton];omega
   rw[this];simp
 have hv:(Zrg m c).val=some (putX m c):=by simp only[Zrg,RT.val,hr,okB,getO,Ya,hb,<-hp,pfin]
 exact⟨by simp only[Zrh,hv];rfl,by simp only[ZJm,hv,getO]⟩
theorem Zuq (c:Cell):∀m:List Cell,(putX m c).length<=m.length+1
 |[]=>by simp only[putX];split<;>simp
 |x::m=>by
  have:=Zuq c m;simp only[putX];repeat' split
  all_goals simp only[List.length_cons];omega
theorem Zkd (l:List Cell) (c:Cell):normX (l++[c])=putX (normX l) c:=by simp[normX,Yat]
theorem ZIs:∀(l m:List Cell),(l.foldl putX m).length<=m.length+l.length
 |[],m=>by simp
 |x::l,m=>by have:=ZIs l (putX m x);have:=Zuq x m;simp only[List.foldl_cons,List.length_cons];omega
theorem ZbU (l:List Cell):(normX l).length<=l.length:=by have:=ZIs l [];simpa [normX] using this
theorem ZmJ (l:List Cell) (hl:l.length+1<=most):Zrm l=true/\ZJp l=normX l:=by
 have hms:=mst;have h1:=Zq0 l (by omega);have hc:ZjX l=true:=by simp only[ZjX,h1];rfl
 have hv0:ZmR l=vldB l:=by simp only[ZmR,h1,getO]
 have hv:(Zrl l).val=some (normX l):=by
  cases hb:vldB l with
  |true=>
   have e:Nat.ble l.length most=true:=by rw[YH];omega
   simp only[Zrl,RT.val,hc,hv0,hb,List.nil_append,e,Ya,Yf,Yj,Zfb (Zlk.1 hb)]
  |false=>
   obtain⟨r,hr,h1,i,hR⟩:=ZH (fl:=false) (t:=ZiI) (fuel:=λa=>1000000000000)
    (λa=>∃i:Nat,i<=l.length/\a=(normX (l.take i),l,(l.length:Int),(i:Int),()))
    (λa=>Int.toNat (a.2.2.1-a.2.2.2.1)) (λr=>r.1=false/\∃i:Nat,r.2=(normX l,l,(l.length:Int),(i:Int),()))
    (by
     rintro a ⟨i,hi,rfl⟩;by_cases hlt:i<l.length
     ·left;have d:decide ((i:Int)<(l.length:Int))=true:=by simpa using hlt
      have r1:=ZaE l i hlt;have hlen:=ZbU (l.take i);rw[YD] at hlen;have hp:=ZmG (normX (l.take i)) (el l i) (Zdm _) (by omega);refine⟨_,?_,⟨i+1,hlt,rfl⟩,by simp only;omega⟩;rw[ZAE l i hlt,Zkd];simp only[ZiI,RT.val,d,r1,Zcn,hp.1,hp.2,Ya,Yh,ZhI i (by omega)]
     ·right;left;have d:decide ((i:Int)<(l.length:Int))=false:=by simpa using hlt
      have e:l.take i=l:=Y5 (by omega);rw[e]
      exact⟨_,by simp only[ZiI,RT.val,d,Yb],rfl,i,rfl⟩)
    ([],l,iN l.length,0,()) ⟨0,Yu _,rfl⟩ (by simp only[iN];omega)
   obtain⟨r1,r2⟩:=r;simp only at h1 hR;subst h1 hR;simp only[Zrl,RT.val,hc,hv0,hb,hr,okB,getO,Ya,Yb,Yk,Ys]
 exact⟨by simp only[Zrm,hv];rfl,by simp only[ZJp,hv,getO]⟩
theorem ZUl (m:List Cell) (t v:Int) (hm:m.length+1<=most):ZGt m t v=true/\ZUE m t v=putX (normX m) (t,v):=by
 have h1:=ZmJ m hm;have h2:=ZmG (normX m) (t,v) (Zdm m) (by have:=ZbU m;omega);have hv:(Zx5 m t v).val=some (putX (normX m) (t,v)):=by simp only[Zx5,RT.val,h1.1,h1.2,h2.1,h2.2,Ya,Yh]
 exact⟨by simp only[ZGt,hv];rfl,by simp only[ZUE,hv,getO]⟩
def ZEn (s:List Cell) (i:Nat):Bool:=(el s i).2 !=0&&(decide (i+1=s.length)||(el s (i+1)).1 !=(el s i).1)
theorem Z1i (s:List Cell) (i:Nat) (h:i<s.length):dd (s.drop i)=(bif ZEn s i then [el s i] else [])++dd (s.drop (i+1)):=by
 rw[Zwr s i h];by_cases hl:i+1<s.length
 ·rw[Zwr s (i+1) hl,dd];have e:decide (i+1=s.length)=false:=by simp;omega
  simp only[ZEn,e,Yj];by_cases h1:(el s i).1=(el s (i+1)).1
  ·have:((el s (i+1)).1 !=(el s i).1)=false:=by simp[h1]
   simp only[this,Y6,Yb,List.nil_append,YV h1]
  ·have:((el s (i+1)).1 !=(el s i).1)=true:=by simpa using λe=>h1 e.symm
   simp only[this,YY,Y0 h1];by_cases h2:(el s i).2=0
   ·have:((el s i).2 !=0)=false:=by simp[h2]
    simp only[this,YV h2,Yb,List.nil_append]
   ·have:((el s i).2 !=0)=true:=by simpa using h2
    simp only[this,Y0 h2,Ya,List.singleton_append]
 ·have hn:s.drop (i+1)=[]:=Y3 (by omega);have e:decide (i+1=s.length)=true:=by simp;omega
  rw[hn];simp only[ZEn,e,Ys,YY,dd,Yw];by_cases h2:(el s i).2=0
  ·have:((el s i).2 !=0)=false:=by simp[h2]
   simp only[this,YV h2,Yb]
  ·have:((el s i).2 !=0)=true:=by simpa using h2
   simp only[this,Y0 h2,Ya]
theorem ZNg (l:List Cell) (hl:l.length<=most):ZFL l=true/\ZAB l=isort l:=by
 have hs:Zmy l (iN l.length)=true:=by simp[Zmy,iN];omega
 have hv:(Zxi l).val=some (isort l):=by simp only[Zxi,RT.val,Zdt,hs,Ya]
 exact⟨by simp only[ZFL,hv];rfl,by simp only[ZAB,hv,getO]⟩
theorem Zpg (l:List Cell) (hl:l.length<=most):Zzg l=true/\ZSh l=normX l:=by
 have hms:=mst;have h1:=ZNg l hl;have hlen:=Zeu l;generalize hs:isort l=s at hlen h1;obtain⟨r,hr,h2,i,hR⟩:=ZH (fl:=false) (t:=Zi9) (fuel:=λa=>Int.toNat (a.1-a.2.1)+1)
  (λa=>∃(i:Nat) (o:List Cell),i<=s.length/\o.length<=i/\o++dd (s.drop i)=dd s/\a=((s.length:Int),(i:Int),s,o,()))
  (λa=>Int.toNat (a.1-a.2.1)) (λr=>r.1=false/\∃i:Nat,r.2=((s.length:Int),(i:Int),s,dd s,()))
  (by
   rintro a ⟨i,o,hi,ho,hd,rfl⟩;by_cases hlt:i<s.length
   ·left;have d:decide ((i:Int)<(s.length:Int))=true:=by simpa using hlt
    have r1:=ZaE s i hlt;have w:=ZhI i (by omega);have e1:(((i+1:Nat):Int)==iN s.length)=decide (i+1=s.length):=by rw[Bool.eq_iff_iff];simp[iN];omega
    have hst:=Z1i s i hlt;have hle:∀x:Cell,Nat.ble (o++[x]).length most=true:=λx=>by rw[YH];simp only[Yd,List.length_singleton];omega
    refine⟨((s.length:Int),((i+1:Nat):Int),s,o++(bif ZEn s i then [el s i] else []),()),?_,⟨i+1,_,hlt,?_,?_,rfl⟩,by simp only;omega⟩
    ·have e3:(!((el s i).2 !=0)||(decide (i+1=s.length)||Ze ((i+1:Nat):Int) s.length))=true:=by
      by_cases hq:i+1=s.length
      ·simp[hq]
      ·rw[ZaE s (i+1) (by omega)];simp
     have e4:((el s i).2 !=0&&(decide (i+1=s.length)||(el s (i+1)).1 !=(el s i).1))=ZEn s i:=rfl;have g1:=Zcn s i;have g2:=Zcn s (i+1);simp only[Zi9,RT.val,d,r1,w,g1,g2,e1,e3,e4,hle,Ya,Yf,Yj,Yh];cases ZEn s i<;>simp
    ·cases ZEn s i<;>simp only[Ya,Yb,Yw,Yd,List.length_singleton]<;>omega
    ·rw[Yn,<-hst,hd]
   ·right;left;have d:decide ((i:Int)<(s.length:Int))=false:=by simpa using hlt
    have e:s.drop i=[]:=Y3 (by omega);rw[e] at hd;simp only[dd,Yw] at hd;subst hd
    exact⟨_,by simp only[Zi9,RT.val,d,Yb],rfl,i,rfl⟩)
  (iN s.length,0,s,[],()) ⟨0,[],Yu _,by simp,by simp,rfl⟩ (by simp only[iN];omega)
 obtain⟨r1,r2⟩:=r;simp only at h2 hR;subst h2 hR;have hb:Nat.ble l.length most=true:=by rw[YH];exact hl
 have hv:(Zzf l).val=some (normX l):=by simp only[Zzf,RT.val,hb,h1.1,h1.2,hr,okB,getO,Ya];rw[<-hs,ZLr]
 exact⟨by simp only[Zzg,hv];rfl,by simp only[ZSh,hv,getO]⟩
abbrev BR:R:=R.int u8
theorem get_d (l:List Int) (i:Nat):R.get BR l (i:Int)=l.getD i 0:=by simp[R.get,R.Df]
def Zpv (t:Int) (b:List Int) (n:Nat):List Cell:=(List.range n).map λi:Nat=>(IntKind.wrap .u16 (t+IntKind.wrap .u16 (i:Int)),b.getD i 0)
theorem ZLI (t:Int) (b:List Int) (n:Nat):Zpv t b (n+1)=Zpv t b n++[(IntKind.wrap .u16 (t+IntKind.wrap .u16 (n:Int)),b.getD n 0)]:=by simp[Zpv,List.range_succ]
theorem Zpu (t:Int) (b:List Int) (n:Nat):(Zpv t b n).length=n:=by simp[Zpv]
def Zqu (t:Int) (b:List Int):List Cell:=normX (Zpv t b b.length)
theorem ZOc (a b:List Cell) (ha:a.length<=most):ZBa a b=true/\ZOy a b=decide (a=b):=by
 have hms:=mst;have hv:(ZhX a b).val=some (decide (a=b)):=by
  by_cases hl:a.length=b.length
  ·have hn:(iN a.length !=iN b.length)=false:=by simp[iN,hl]
   obtain⟨r,hr,hR⟩:=ZH (fl:=true) (t:=Ze5) (fuel:=λ_=>1000000000000)
    (λx=>∃i:Nat,i<=a.length/\(∀k,k<i->el a k=el b k)/\x=(a,b,false,(a.length:Int),(i:Int),()))
    (λx=>Int.toNat (x.2.2.2.1-x.2.2.2.2.1)) (λr=>(r.1=false/\a=b)\/(r.1=true/\a≠b/\r.2.2.2.1=false))
    (by
     rintro x ⟨i,hi,hk,rfl⟩;by_cases hlt:i<a.length
     ·have d:decide ((i:Int)<(a.length:Int))=true:=by simpa using hlt
      have r1:=ZaE a i hlt;have r2:=ZaE b i (by omega);have g1:=Zcn a i;have g2:=Zcn b i;by_cases he:el a i=el b i
      ·left;refine⟨(a,b,false,(a.length:Int),((i+1:Nat):Int),()),?_,⟨i+1,hlt,λk hk'=> ?_,rfl⟩,by simp only;omega⟩
       ·simp only[Ze5,RT.val,d,r1,r2,g1,g2,he,YaH,YW,Yf,Yh,Ya,Yb,ZhI i (by omega)]
       ·by_cases e:k=i
        ·subst e;exact he
        ·exact hk k (by omega)
      ·right;right;have hne:((el a i).1==(el b i).1&&((el a i).2==(el b i).2&&true))=false:=by rw[YN];intro h;simp only[Yc,beq_iff_eq,and_true] at h;exact he (Prod.ext h.1 h.2)
       refine⟨(a,b,false,(a.length:Int),(i:Int),()),rfl,?_,.inr ⟨rfl,λh=>he (by rw[h]),rfl⟩⟩;simp only[Ze5,RT.val,d,r1,r2,g1,g2,hne,Yf,Yk,Yh,Ya]
     ·right;left;have d:decide ((i:Int)<(a.length:Int))=false:=by simpa using hlt
      refine⟨_,by simp only[Ze5,RT.val,d,Yb];rfl,.inl ⟨rfl,List.ext_getElem? λk=> ?_⟩⟩;by_cases hk':k<a.length
      ·rw[ZcA a k hk',ZcA b k (by omega),hk k (by omega)]
      ·rw[YR (by omega),YR (by omega)])
    (a,b,false,iN a.length,0,()) ⟨0,Yu _,λk h=>by omega,rfl⟩ (by simp only[iN];omega)
   rcases hR with ⟨h1,h2⟩|⟨h1,h2,h3⟩
   ·have hd:decide (a=b)=true:=Yq h2;simp only[ZhX,RT.val,hn,hr,okB,getO,Ya,Yb,h1,hd]
   ·have hd:decide (a=b)=false:=Yv h2;simp only[ZhX,RT.val,hn,hr,okB,getO,Ya,Yb,h1,h3,hd]
  ·have hn:(iN a.length !=iN b.length)=true:=by simp only[iN,bne_iff_ne,ne_eq];omega
   have hne:a≠b:=λh=>hl (by rw[h])
   simp only[ZhX,RT.val,hn,Ya,hne,decide_false]
 exact⟨by simp only[ZBa,hv];rfl,by simp only[ZOy,hv,getO]⟩
theorem ZR2 (m:List Cell) (hm:m.length<=most):Zv0 m=true/\Zpl m=vldB m:=by have h:=ZLC m hm;exact⟨by simp only[Zv0,h];rfl,by simp only[Zpl,h,getO]⟩
theorem ZN7 (m:List Cell) (hm:m.length<=most):ZjX m=true/\ZmR m=vldB m:=by have h:=Zq0 m hm;exact⟨by simp only[ZjX,h];rfl,by simp only[ZmR,h,getO]⟩
theorem ZZd (m:List Cell) (t:Int) (hm:m.length<=most):ZGO m t=true/\ZUS m t=getX m t:=by have h:=ZUp m t hm;exact⟨by simp only[ZGO,h];rfl,by simp only[ZUS,h,getO]⟩
abbrev GR:R:=R.Pq (R.int u16) (R.Pq (R.int u16) (R.Pq R.bool (R.int i64)))
def hitB (t:Int) (r:ZM):Bool:=decide (r.1<=t)&&decide (t<=r.2.1)
def Zbi (l:List ZM) (t:Int):Int:=if l.findIdx (hitB t)<l.length then (l.findIdx (hitB t):Int) else-1
def rg (l:List ZM) (i:Nat):ZM:=l.getD i (0,0,false,0)
theorem ZYd (l:List ZM) (i:Nat):R.get GR l (i:Int)=rg l i:=by simp[R.get,R.Df,rg]
theorem ZxA (l:List ZM) (i:Nat) (h:i<l.length):l[i]=rg l i:=by simp[rg,h]
theorem Z1b {l:List ZM} (hi:i<l.length) (h:hitB t (rg l i)=true) (hk:∀k,k<i->hitB t (rg l k)=false):Zbi l t=i:=by have:l.findIdx (hitB t)=i:=(List.findIdx_eq hi).2 ⟨by rw[ZxA l i hi];exact h,λj hj=>by rw[ZxA l j (by omega)];exact hk j hj⟩;simp only[Zbi,this,hi,if_true]
theorem Z1a {l:List ZM} (hk:∀k,k<l.length->hitB t (rg l k)=false):Zbi l t= -1:=by
 have:¬l.findIdx (hitB t)<l.length:=by rw[List.findIdx_lt_length];rintro⟨x,hx,hp⟩;obtain⟨i,hi,rfl⟩:=YaI.1 hx;rw[ZxA l i hi,hk i hi] at hp;exact absurd hp (by simp)
 simp only[Zbi,this,if_false]
theorem Zix (l:List ZM) (t:Int) (hl:l.length<=most):ZnP l t=true/\Zj2 l t=Zbi l t:=by
 have hms:=mst;obtain⟨r,hr,hR⟩:=ZH (fl:=true) (t:=Zhd) (fuel:=λ_=>1000000000000)
  (λx=>∃i:Nat,i<=l.length/\(∀k,k<i->hitB t (rg l k)=false)/\x=(t,0,l,(l.length:Int),(i:Int),()))
  (λx=>Int.toNat (x.2.2.2.1-x.2.2.2.2.1)) (λr=>(r.1=false/\Zbi l t= -1)\/(r.1=true/\r.2.2.1=Zbi l t))
  (by
   rintro x ⟨i,hi,hk,rfl⟩;by_cases hlt:i<l.length
   ·have d:decide ((i:Int)<(l.length:Int))=true:=by simpa using hlt
    have r1:=ZaE l i hlt;have g1:=ZYd l i;cases hh:hitB t (rg l i) with
    |false=>
     left;refine⟨(t,0,l,(l.length:Int),((i+1:Nat):Int),()),?_,⟨i+1,hlt,λk hk'=> ?_,rfl⟩,by simp only;omega⟩
     ·simp only[hitB] at hh;simp only[Zhd,RT.val,d,r1,g1,hh,Ya,Yb,ZhI i (by omega)]
     ·by_cases e:k=i
      ·subst e;exact hh
      ·exact hk k (by omega)
    |true=>
     right;right;refine⟨(t,(i:Int),l,(l.length:Int),(i:Int),()),rfl,?_,.inr ⟨rfl,(Z1b hlt hh hk).symm⟩⟩;simp only[hitB] at hh;simp only[Zhd,RT.val,d,r1,g1,hh,Ya]
   ·right;left;have d:decide ((i:Int)<(l.length:Int))=false:=by simpa using hlt
    exact⟨_,by simp only[Zhd,RT.val,d,Yb];rfl,.inl ⟨rfl,Z1a λk h=>hk k (by omega)⟩⟩)
  (t,0,l,iN l.length,0,()) ⟨0,Yu _,λk h=>by omega,rfl⟩ (by simp only[iN];omega)
 have hv:(ZnO l t).val=some (Zbi l t):=by
  rcases hR with ⟨h1,h2⟩|⟨h1,h2⟩
  ·simp only[ZnO,RT.val,hr,okB,getO,Ya,h1,Yb,h2]
  ·simp only[ZnO,RT.val,hr,okB,getO,Ya,h1,h2]
 exact⟨by simp only[ZnP,hv];rfl,by simp only[Zj2,hv,getO]⟩
theorem Zyu (l:List ZM) (t:Int) (hl:l.length<=most):ZHC l t=true/\ZDC l t=Zbi l t:=by have h:=Zix l t hl;have e:ZHz l t=ZnO l t:=rfl;simp only[ZnP,Zj2,<-e] at h;exact h
def ZeH (l:List ZM) (m:List Cell) (t:Int):Int:=bif decide (Zbi l t<0) then 255 else getX m t
theorem ZOd (l:List ZM) (m:List Cell) (t:Int) (hl:l.length<=most) (hm:m.length<=most):ZBd l m t=true/\ZOG l m t=ZeH l m t:=by
 have h1:=Zix l t hl;have h2:=ZZd m t hm;have hv:(ZmY l m t).val=some (ZeH l m t):=by simp only[ZmY,RT.val,h1.1,h1.2,h2.1,h2.2,Ya,ZeH];cases decide (Zbi l t<0)<;>rfl
 exact⟨by simp only[ZBd,hv];rfl,by simp only[ZOG,hv,getO]⟩
end
end Go.Proofs.YtghoimllhpjkjaaGreat
