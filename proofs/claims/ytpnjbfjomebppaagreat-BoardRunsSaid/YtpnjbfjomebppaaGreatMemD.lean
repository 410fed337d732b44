import Derived.Test.YtpnjbfjomebppaaGreatCloneC
open Go.Proofs.Tryz (prog)
open Go.IntKind (u8 u16 i64)
set_option linter.unusedSimpArgs false
open Go Go.S3 Go.Proofs
set_option linter.unusedVariables false
set_option maxRecDepth 100000
namespace Go.Proofs.YtpnjbfjomebppaaGreat
noncomputable section
abbrev ZRK:List Sh:=[]
def Zz1 (s:List (Int×Int)):RT (Option (List (Int×Int))):=
 .br (Zob (Stg.l (Zd4 Zc3 ZuU s)) (iN (Le (Stg.l (Zd4 Zc3 ZuU s))))) (Ls (Cells.isort (Stg.l (Zd4 Zc3 ZuU s)))) Ln
def ZDO (s:List (Int×Int)):List (Int×Int):=getO [] (Zz1 s).val
def ZJf (s:List (Int×Int)):Bool:=okB (Zz1 s).val
def ZRL:En:=stE Zc3 ZuU 160 ZRK (λa=>some (ZJf a.1)) (λa=>ZDO a.1)
theorem ZJe:Za prog 159 ZRL:=
 Zoc (P:=prog) (n:=15) (k:=8) (l:=[(234,ZRJ),(160,Zca)]) (ol:=[]) ⟨ZRI,ZaG,Tv⟩ Tryz.func159 rfl (by kernel_rfl) Tryz.call159 trivial (r:=Zc3) (T:=ZuU) (g0:=160) (ts:=ZRK) (t:=λa=>Zz1 a.1) (λa=>by kernel_rfl)
abbrev ZXh:List Sh:=[So rcCE]
abbrev ZHX:Rs:=Rs.one (So rcCE)
def Z1h:LS:={n:=45,Sl:=[(3,.tip 0),(4,.tip 1),(11,.tip 0),(12,.code (So Kc)),(13,.code (So Kc))],Bx:=[],Sg:=[⟨R.Pq Kb Ka,75,true⟩,⟨(R.Pq Kb Ka),75,true⟩]}
def Zkf (a:QT29):RT (Option (Go1 (QT29))):=
 let x1:=(R.get (R.Pq Kb Ka) a.2.2.1 a.2.1).2 !=0
 let x2:=i64.wrap (a.2.1+1)==iN (Le a.2.2.1)
 let x3:= !x1||(x2||Ze (i64.wrap (a.2.1+1)) (Le a.2.2.1))
 let x4:=x1&&(x2||(R.get (R.Pq Kb Ka) a.2.2.1 (i64.wrap (a.2.1+1))).1 !=(R.get (R.Pq Kb Ka) a.2.2.1 a.2.1).1)
 let x5:List (Int×Int):=a.2.2.2.1++[R.get (R.Pq Kb Ka) a.2.2.1 a.2.1]
 .br (decide (a.2.1<a.1)) (.br (!Ze a.2.1 (Le a.2.2.1)||(!x3||(!x4||Nat.ble (Le x5) most))) (.br (!Ze a.2.1 (Le a.2.2.1)||x3) (.br (Ze a.2.1 (Le a.2.2.1)) (Ls (Go1.cont (a.1,i64.wrap (a.2.1+1),a.2.2.1,bif x4 then x5 else a.2.2.2.1,PUnit.unit))) Ln) Ln) Ln) (Ls (Go1.brk (a.1,a.2.1,a.2.2.1,a.2.2.2.1,PUnit.unit)))
def ZLY:Ora:=ZaX false Z1h Zkf (λa=>(a.1-a.2.1).toNat+1)
theorem ZPZ:ZaF (envX prog [(98,Zzj),(159,ZRL),(160,Zca)] [] 127 8) (.block 0 (.loop (Z4 Tryz.f90.body 0))) ZLY:=
 loopP ⟨Zr6,ZJe,ZaG,Tv⟩
def ZCr (l:List (Int×Int)):RT (Option (List (Int×Int))):=
 let x1:=runF false Zkf (λa=>Int.toNat (a.1-a.2.1)+1) (iN (Le (ZDO l)),0,ZDO l,[],())
 .br (Nat.ble (Le l) most) (.br (ZJf l) (.br (okB x1) (Ls (getO (false,iN (Le (ZDO l)),0,ZDO l,[],()) x1).2.2.2.2.1) Ln) Ln) Ln
def ZXj (l:List (Int×Int)):List (Int×Int):=getO ZHX.Df (ZCr l).val
def ZCs (l:List (Int×Int)):Bool:=okB (ZCr l).val
def ZXi:En:=Zg ZXh ZHX (λa=>some (ZCs a)) (λa=>ZXj a)
theorem ZLX:Za prog 90 ZXi:=
 pureP 127 [(98,Zzj),(159,ZRL),(160,Zca)] [(0,ZLY)] _ _ ⟨Zr6,ZJe,ZaG,Tv⟩ Tryz.func90 Tryz.call90 ⟨ZPZ,Tv⟩
abbrev Zns:Rs:=Rs.one (So R.bool)
def ZXa:LS:={n:=31,Sl:=[(0,.code (So rcCE)),(2,.code (So R.bool)),(5,.code (So rcCE)),(6,.code (So Kc)),(7,.code (So Kc))],Bx:=[],Sg:=[]}
def ZeS (a:List (Int×Int)×Bool×List (Int×Int)×Int×Int×PUnit):RT (Option (Go1 (List (Int×Int)×Bool×List (Int×Int)×Int×Int×PUnit))):=
 let x1:Int×Int:=R.get (R.Pq Kb Ka) a.2.2.1 a.2.2.2.2.1
 let x2:=x1.2==0
 let x3:List (Int×Int)×Int×Int×PUnit:=(a.2.2.1,a.2.2.2.1,a.2.2.2.2.1,PUnit.unit)
 .br (decide (a.2.2.2.2.1<a.2.2.2.1)) (.br (!Ze a.2.2.2.2.1 (Le a.2.2.1)||(x2||(!decide (a.2.2.2.2.1>0)||Ze (i64.wrap (a.2.2.2.2.1-1)) (Le a.1)))) (.br (Ze a.2.2.2.2.1 (Le a.2.2.1)) (.br (x2||decide (a.2.2.2.2.1>0)&&decide (x1.1<=(R.get (R.Pq Kb Ka) a.1 (i64.wrap (a.2.2.2.2.1-1))).1)) (Ls (Go1.ret (a.1,false,x3))) (Ls (Go1.cont (a.1,a.2.1,a.2.2.1,a.2.2.2.1,i64.wrap (a.2.2.2.2.1+1),PUnit.unit)))) Ln) Ln) (Ls (Go1.brk (a.1,a.2.1,x3)))
def ZCq:Ora:=ZaX true ZXa ZeS (λa=>1000000000000)
theorem ZHW:ZaF (envX prog [] [] 31 8) (.block 0 (.loop (Z4 Tryz.f103.body 0))) ZCq:=
 loopP trivial
def Zlz (m:List (Int×Int)):RT (Option (Bool)):=
 let x1:=runF true ZeS (λa=>1000000000000) (m,false,m,iN (Le m),0,())
 let x2:=getO (false,m,false,m,iN (Le m),0,()) x1
 .br (okB x1) (.br x2.1 (Ls x2.2.2.1) (Ls (true))) Ln
def Zrr (m:List (Int×Int)):Bool:=getO Zns.Df (Zlz m).val
def ZyO (m:List (Int×Int)):Bool:=okB (Zlz m).val
def ZXb:En:=Zg ZXh Zns (λa=>some (ZyO a)) (λa=>Zrr a)
theorem ZCp:Za prog 103 ZXb:=
 pureP 31 [] [(0,ZCq)] _ _ trivial Tryz.func103 Tryz.call103 ⟨ZHW,Tv⟩
def ZSG:LS:={n:=34,Sl:=[(0,.code (So rcCE)),(2,.code (So R.bool)),(5,.code (So Kc)),(6,.code (So Kc))],Bx:=[],Sg:=[]}
def ZeF (a:List (Int×Int)×Bool×Int×Int×PUnit):RT (Option (Go1 (List (Int×Int)×Bool×Int×Int×PUnit))):=
 let x1:=(R.get (R.Pq Kb Ka) a.1 a.2.2.2.1).2==0
 let x2:= !Ze a.2.2.2.1 (Le a.1)||(x1||(!decide (a.2.2.2.1>0)||(!Ze a.2.2.2.1 (Le a.1)||Ze (i64.wrap (a.2.2.2.1-1)) (Le a.1))))
 let x3:= !x2
 let x4:= !Ze a.2.2.2.1 (Le a.1)||(x1||(!decide (a.2.2.2.1>0)||Ze a.2.2.2.1 (Le a.1)))
 .br (decide (a.2.2.2.1<a.2.2.1)) (.br (x3||(!x4||Ze a.2.2.2.1 (Le a.1))) (.br (x3||x4) (.br (x2) (.br (x1||decide (a.2.2.2.1>0)&&decide ((R.get (R.Pq Kb Ka) a.1 a.2.2.2.1).1<=(R.get (R.Pq Kb Ka) a.1 (i64.wrap (a.2.2.2.1-1))).1)) (Ls (Go1.ret (a.1,false,a.2.2.1,a.2.2.2.1,PUnit.unit))) (Ls (Go1.cont (a.1,a.2.1,a.2.2.1,i64.wrap (a.2.2.2.1+1),PUnit.unit)))) Ln) Ln) Ln) (Ls (Go1.brk (a.1,a.2.1,a.2.2.1,a.2.2.2.1,PUnit.unit)))
def ZAA:Ora:=ZaX true ZSG ZeF (λa=>1000000000000)
theorem ZEf:ZaF (envX prog [] [] 15 8) (.block 0 (.loop (Z4 Tryz.f105.body 0))) ZAA:=
 loopP trivial
def Zk5 (m:List (Int×Int)):RT (Option (Bool)):=
 let x1:=runF true ZeF (λa=>1000000000000) (m,false,iN (Le m),0,())
 let x2:=getO (false,m,false,iN (Le m),0,()) x1
 .br (okB x1) (.br x2.1 (Ls x2.2.2.1) (Ls (true))) Ln
def Zox (m:List (Int×Int)):Bool:=getO Zns.Df (Zk5 m).val
def Zk6 (m:List (Int×Int)):Bool:=okB (Zk5 m).val
def ZEg:En:=Zg ZXh Zns (λa=>some (Zk6 a)) (λa=>Zox a)
theorem Zov:Za prog 105 ZEg:=
 pureP 15 [] [(0,ZAA)] _ _ trivial Tryz.func105 Tryz.call105 ⟨ZEf,Tv⟩
abbrev ZTB:List Sh:=[So rcCE,So Kb]
abbrev ZFn:Rs:=Rs.one (So Ka)
def ZZ0:LS:={n:=25,Sl:=[(0,.code (So rcCE)),(1,.code (So Kb)),(4,.code (So Ka)),(5,.code (So Kc))],Bx:=[],Sg:=[]}
def Zh4 (a:List (Int×Int)×Int×Int×Int×PUnit):RT (Option (Go1 (List (Int×Int)×Int×Int×Int×PUnit))):=
 let x1:=(R.get (R.Pq Kb Ka) a.1 a.2.2.2.1).1==a.2.1
 .br (decide (a.2.2.2.1>=0)) (.br (!Ze a.2.2.2.1 (Le a.1)||(!x1||Ze a.2.2.2.1 (Le a.1))) (.br (Ze a.2.2.2.1 (Le a.1)) (.br (x1) (Ls (Go1.ret (a.1,a.2.1,(R.get (R.Pq Kb Ka) a.1 a.2.2.2.1).2,a.2.2.2.1,PUnit.unit))) (Ls (Go1.cont (a.1,a.2.1,a.2.2.1,i64.wrap (a.2.2.2.1-1),PUnit.unit)))) Ln) Ln) (Ls (Go1.brk (a.1,a.2.1,a.2.2.1,a.2.2.2.1,PUnit.unit)))
def ZKh:Ora:=ZaX true ZZ0 Zh4 (λa=>1000000000000)
theorem ZNF:ZaF (envX prog [] [] 63 8) (.block 0 (.loop (Z4 Tryz.f60.body 0))) ZKh:=
 loopP trivial
def ZtF (m:List (Int×Int)) (t:Int):RT (Option (Int)):=
 let x1:List (Int×Int)×Int×Int×Int×PUnit:=(m,t,0,i64.wrap (iN (Le m)-1),())
 let x2:=runF true Zh4 (λa=>1000000000000) x1
 let x3:=getO (false,x1) x2
 .br (okB x2) (.br x3.1 (Ls x3.2.2.2.1) (Ls (0))) Ln
def ZZ1 (m:List (Int×Int)) (t:Int):Int:=getO ZFn.Df (ZtF m t).val
def ZKi (m:List (Int×Int)) (t:Int):Bool:=okB (ZtF m t).val
def Z2Y:En:=Zg ZTB ZFn (λa=>some (ZKi a.1 a.2)) (λa=>ZZ1 a.1 a.2)
theorem ZZZ:Za prog 60 Z2Y:=
 pureP 63 [] [(0,ZKh)] _ _ trivial Tryz.func60 Tryz.call60 ⟨ZNF,Tv⟩
abbrev ZS4:List Sh:=[So rcCE,Sh.agg (R.Pq Kb Ka)]
def ZZO:LS:={n:=53,Sl:=[(3,.fix (A.loc 0 0)),(5,.tip 0),(6,.code (So R.bool)),(9,.code (So rcCE)),(10,.code (So Kc)),(11,.code (So Kc))],Bx:=[[.many (R.Pq Kb Ka)]],Sg:=[⟨(R.Pq Kb Ka),75,true⟩]}
def ZjG (a:QT9):RT (Option (Go1 (QT9))):=
 let x1:Int×Int:=R.get (R.Pq Kb Ka) a.2.1 a.2.2.2.1
 let x2:=x1.1
 let x3:= !a.1&&decide (x2>=a.2.2.2.2.1.1)
 let x4:List (Int×Int):=a.2.2.2.2.2.1++[a.2.2.2.2.1]
 let x5:= !x3||(!a.2.2.2.2.1.2 !=0||Nat.ble (Le x4) most)
 let x6:=x2 !=a.2.2.2.2.1.1
 let x7:List (Int×Int):=bif x3 then bif a.2.2.2.2.1.2 !=0 then x4 else a.2.2.2.2.2.1 else a.2.2.2.2.2.1
 let x8:List (Int×Int):=x7++[x1]
 .br (decide (a.2.2.2.1<a.2.2.1)) (.br (!Ze a.2.2.2.1 (Le a.2.1)||(!x5||(!x6||Nat.ble (Le x8) most))) (.br (!Ze a.2.2.2.1 (Le a.2.1)||x5) (.br (Ze a.2.2.2.1 (Le a.2.1)) (Ls (Go1.cont (x3||a.1,a.2.1,a.2.2.1,i64.wrap (a.2.2.2.1+1),a.2.2.2.2.1,bif x6 then x8 else x7,PUnit.unit))) Ln) Ln) Ln) (Ls (Go1.brk (a.1,a.2.1,a.2.2.1,a.2.2.2.1,a.2.2.2.2.1,a.2.2.2.2.2.1,PUnit.unit)))
def ZJZ:Ora:=ZaX false ZZO ZjG (λa=>1000000000000)
theorem ZNo:ZaF (envX prog [] [] 511 8) (.block 0 (.loop (Z4 Tryz.f165.body 0))) ZJZ:=
 loopP trivial
def Ztx (m:List (Int×Int)) (c:Int×Int):RT (Option (List (Int×Int))):=
 let x1:QT9:=(false,m,iN (Le m),0,c,[],())
 let x2:=runF false ZjG (λa=>1000000000000) x1
 let x3:QT9:=(getO (false,x1) x2).2
 let x4:=x3.2.2.2.2
 let x5:=x4.1
 let x6:= !x3.1&&x5.2 !=0
 let x7:=x4.2.1
 let x8:List (Int×Int):=x7++[x5]
 .br (okB x2) (.br (!x6||Nat.ble (Le x8) most) (Ls (bif x6 then x8 else x7)) Ln) Ln
def ZNp (m:List (Int×Int)) (c:Int×Int):List (Int×Int):=getO ZHX.Df (Ztx m c).val
def Zty (m:List (Int×Int)) (c:Int×Int):Bool:=okB (Ztx m c).val
def ZJ0:En:=Zg ZS4 ZHX (λa=>some (Zty a.1 a.2)) (λa=>ZNp a.1 a.2)
theorem ZvF:Za prog 165 ZJ0:=
 pureP 511 [] [(0,ZJZ)] _ _ trivial Tryz.func165 Tryz.call165 ⟨ZNo,Tv⟩
def ZZW:LS:={n:=21,Sl:=[(3,.code (So rcCE)),(10,.code (So rcCE)),(11,.code (So Kc)),(12,.code (So Kc))],Bx:=[],Sg:=[]}
def ZjI (a:List (Int×Int)×List (Int×Int)×Int×Int×PUnit):RT (Option (Go1 (List (Int×Int)×List (Int×Int)×Int×Int×PUnit))):=
 let x1:Int×Int:=R.get (R.Pq Kb Ka) a.2.1 a.2.2.2.1
 .br (decide (a.2.2.2.1<a.2.2.1)) (.br (!Ze a.2.2.2.1 (Le a.2.1)||Zty a.1 x1) (.br (Ze a.2.2.2.1 (Le a.2.1)) (Ls (Go1.cont (ZNp a.1 x1,a.2.1,a.2.2.1,i64.wrap (a.2.2.2.1+1),PUnit.unit))) Ln) Ln) (Ls (Go1.brk (a.1,a.2.1,a.2.2.1,a.2.2.2.1,PUnit.unit)))
def ZJ7:Ora:=ZaX false ZZW ZjI (λa=>1000000000000)
theorem ZNr:ZaF (envX prog [(105,ZEg),(165,ZJ0)] [] 63 8) (.block 0 (.loop (Z4 Tryz.f93.body 0))) ZJ7:=
 loopP ⟨Zov,ZvF,Tv⟩
def ZtC (l:List (Int×Int)):RT (Option (List (Int×Int))):=
 let x1:=runF false ZjI (λa=>1000000000000) ([],l,iN (Le l),0,())
 .br (Zk6 l) (.br (!Zox l||Nat.ble (Le ([]++l)) most) (.br (Zox l) (Ls ([]++l)) (.br (okB x1) (Ls (getO (false,[],l,iN (Le l),0,()) x1).2.1) Ln)) Ln) Ln
def ZNs (l:List (Int×Int)):List (Int×Int):=getO ZHX.Df (ZtC l).val
def ZtD (l:List (Int×Int)):Bool:=okB (ZtC l).val
def ZTn:En:=Zg ZXh ZHX (λa=>some (ZtD a)) (λa=>ZNs a)
theorem ZvJ:Za prog 93 ZTn:=
 pureP 63 [(105,ZEg),(165,ZJ0)] [(0,ZJ7)] _ _ ⟨Zov,ZvF,Tv⟩ Tryz.func93 Tryz.call93 ⟨ZNr,Tv⟩
abbrev ZS3:List Sh:=[So rcCE,So Kb,So Ka]
def ZAV (m:List (Int×Int)) (t:Int) (v:Int):RT (Option (List (Int×Int))):=
 .br (!ZtD m||Zty (ZNs m) (t,v)) (.br (ZtD m) (Ls (ZNp (ZNs m) (t,v))) Ln) Ln
def ZZN (m:List (Int×Int)) (t:Int) (v:Int):List (Int×Int):=getO ZHX.Df (ZAV m t v).val
def ZJY (m:List (Int×Int)) (t:Int) (v:Int):Bool:=okB (ZAV m t v).val
def Z2I:En:=Zg ZS3 ZHX (λa=>some (ZJY a.1 a.2.1 a.2.2)) (λa=>ZZN a.1 a.2.1 a.2.2)
theorem ZZM:Za prog 170 Z2I:=
 pureP 127 [(93,ZTn),(165,ZJ0)] [] _ _ ⟨ZvJ,ZvF,Tv⟩ Tryz.func170 Tryz.call170 trivial
abbrev Zvz:List Sh:=[So rcCE,So rcCE]
def ZSO:LS:={n:=26,Sl:=[(0,.code (So rcCE)),(1,.code (So rcCE)),(4,.code (So R.bool)),(12,.code (So Kc)),(13,.code (So Kc))],Bx:=[],Sg:=[]}
def ZfO (a:List (Int×Int)×List (Int×Int)×Bool×Int×Int×PUnit):RT (Option (Go1 (List (Int×Int)×List (Int×Int)×Bool×Int×Int×PUnit))):=
 let x1:= !Ze a.2.2.2.2.1 (Le a.1)||Ze a.2.2.2.2.1 (Le a.2.1)
 let x2:Int×Int:=R.get (R.Pq Kb Ka) a.1 a.2.2.2.2.1
 let x3:Int×Int:=R.get (R.Pq Kb Ka) a.2.1 a.2.2.2.2.1
 let x4:QT34:=(a.2.2.2.1,a.2.2.2.2.1,PUnit.unit)
 .br (decide (a.2.2.2.2.1<a.2.2.2.1)) (.br (!x1||Ze a.2.2.2.2.1 (Le a.1)) (.br (x1) (.br (!(x2.1==x3.1&&(x2.2==x3.2&&true))) (Ls (Go1.ret (a.1,a.2.1,false,x4))) (Ls (Go1.cont (a.1,a.2.1,a.2.2.1,a.2.2.2.1,i64.wrap (a.2.2.2.2.1+1),PUnit.unit)))) Ln) Ln) (Ls (Go1.brk (a.1,a.2.1,a.2.2.1,x4)))
def ZAP:Ora:=ZaX true ZSO ZfO (λa=>1000000000000)
theorem ZEl:ZaF (envX prog [] [] 63 8) (.block 0 (.loop (Z4 Tryz.f34.body 0))) ZAP:=
 loopP trivial
def ZiR (a:List (Int×Int)) (b:List (Int×Int)):RT (Option (Bool)):=
 let x1:=runF true ZfO (λa_1=>1000000000000) (a,b,false,iN (Le a),0,())
 let x2:=getO (false,a,b,false,iN (Le a),0,()) x1
 .br (iN (Le a) !=iN (Le b)) (Ls (false)) (.br (okB x1) (.br x2.1 (Ls x2.2.2.2.1) (Ls (true))) Ln)
def ZSP (a:List (Int×Int)) (b:List (Int×Int)):Bool:=getO Zns.Df (ZiR a b).val
def ZEm (a:List (Int×Int)) (b:List (Int×Int)):Bool:=okB (ZiR a b).val
def Z43:En:=Zg Zvz Zns (λa=>some (ZEm a.1 a.2)) (λa=>ZSP a.1 a.2)
theorem ZSN:Za prog 34 Z43:=
 pureP 63 [] [(0,ZAP)] _ _ trivial Tryz.func34 Tryz.call34 ⟨ZEl,Tv⟩
abbrev ZTC:List Sh:=[So rcRG,So Kb]
def ZZ2:LS:={n:=26,Sl:=[(1,.code (So Kb)),(4,.code (So Kc)),(7,.code (So rcRG)),(8,.code (So Kc)),(9,.code (So Kc))],Bx:=[],Sg:=[]}
def Zh5 (a:QT16):RT (Option (Go1 (QT16))):=
 let x1:QT6:=R.get (R.Pq Kb (R.Pq Kb (R.Pq R.bool Kc))) a.2.2.1 a.2.2.2.2.1
 let x2:List (QT6)×Int×Int×PUnit:=(a.2.2.1,a.2.2.2.1,a.2.2.2.2.1,PUnit.unit)
 .br (decide (a.2.2.2.2.1<a.2.2.2.1)) (.br (Ze a.2.2.2.2.1 (Le a.2.2.1)) (.br (decide (x1.1<=a.1)&&decide (a.1<=x1.2.1)) (Ls (Go1.ret (a.1,a.2.2.2.2.1,x2))) (Ls (Go1.cont (a.1,a.2.1,a.2.2.1,a.2.2.2.1,i64.wrap (a.2.2.2.2.1+1),PUnit.unit)))) Ln) (Ls (Go1.brk (a.1,a.2.1,x2)))
def ZKl:Ora:=ZaX true ZZ2 Zh5 (λa=>1000000000000)
theorem ZNG:ZaF (envX prog [] [] 127 8) (.block 0 (.loop (Z4 Tryz.f169.body 0))) ZKl:=
 loopP trivial
def Zpu (l:List (QT6)) (t:Int):RT (Option (Int)):=
 let x1:=runF true Zh5 (λa=>1000000000000) (t,0,l,iN (Le l),0,())
 let x2:=getO (false,t,0,l,iN (Le l),0,()) x1
 .br (okB x1) (.br x2.1 (Ls x2.2.2.1) (Ls (-1))) Ln
def Zlc (l:List (QT6)) (t:Int):Int:=getO Z2r.Df (Zpu l t).val
def Zpv (l:List (QT6)) (t:Int):Bool:=okB (Zpu l t).val
def ZKm:En:=Zg ZTC Z2r (λa=>some (Zpv a.1 a.2)) (λa=>Zlc a.1 a.2)
theorem Zv2:Za prog 169 ZKm:=
 pureP 127 [] [(0,ZKl)] _ _ trivial Tryz.func169 Tryz.call169 ⟨ZNG,Tv⟩
abbrev ZvB:List Sh:=[So rcRG,So rcCE,So Kb]
def ZoF (l:List (QT6)) (m:List (Int×Int)) (t:Int):RT (Option (Int)):=
 .br (Zpv l t) (.br (decide (Zlc l t<0)) (Ls (255)) (.br (ZKi m t) (Ls (ZZ1 m t)) Ln)) Ln
def ZSX (l:List (QT6)) (m:List (Int×Int)) (t:Int):Int:=getO ZFn.Df (ZoF l m t).val
def ZEq (l:List (QT6)) (m:List (Int×Int)) (t:Int):Bool:=okB (ZoF l m t).val
def Z48:En:=Zg ZvB ZFn (λa=>some (ZEq a.1 a.2.1 a.2.2)) (λa=>ZSX a.1 a.2.1 a.2.2)
theorem ZSW:Za prog 255 Z48:=
 pureP 127 [(60,Z2Y),(169,ZKm)] [] _ _ ⟨ZZZ,Zv2,Tv⟩ Tryz.func255 Tryz.call255 trivial
abbrev Zor:List Sh:=[So rcRG,So rcCE,So Kb,So Ka]
def Zjy (l:List (QT6)) (m:List (Int×Int)) (t:Int) (v:Int):RT (Option (List (Int×Int))):=
 let x1:=decide (Zlc l t>=0)&&(R.get (R.Pq Kb (R.Pq Kb (R.Pq R.bool Kc))) l (Zlc l t)).2.2.1
 .br (Zpv l t) (.br (!decide (Zlc l t>=0)||Ze (Zlc l t) (Le l)) (.br (!x1||ZJY m t v) (.br (x1) (Ls (ZZN m t v)) (.br (ZtD m) (Ls (ZNs m)) Ln)) Ln) Ln) Ln
def ZEc (l:List (QT6)) (m:List (Int×Int)) (t:Int) (v:Int):List (Int×Int):=getO ZHX.Df (Zjy l m t v).val
def Zvo (l:List (QT6)) (m:List (Int×Int)) (t:Int) (v:Int):Bool:=okB (Zjy l m t v).val
def ZZB:En:=Zg Zor ZHX (λa=>some (Zvo a.1 a.2.1 a.2.2.1 a.2.2.2)) (λa=>ZEc a.1 a.2.1 a.2.2.1 a.2.2.2)
theorem ZNa:Za prog 95 ZZB:=
 pureP 1023 [(93,ZTn),(169,ZKm),(170,Z2I)] [] _ _ ⟨ZvJ,Zv2,ZZM,Tv⟩ Tryz.func95 Tryz.call95 trivial
def Z0S:LS:={n:=26,Sl:=[(1,.code (So Kb)),(4,.code (So Kc)),(7,.code (So rcRG)),(8,.code (So Kc)),(9,.code (So Kc))],Bx:=[],Sg:=[]}
def ZLr (a:QT16):RT (Option (Go1 (QT16))):=
 let x1:QT6:=R.get (R.Pq Kb (R.Pq Kb (R.Pq R.bool Kc))) a.2.2.1 a.2.2.2.2.1
 let x2:List (QT6)×Int×Int×PUnit:=(a.2.2.1,a.2.2.2.1,a.2.2.2.2.1,PUnit.unit)
 .br (decide (a.2.2.2.2.1<a.2.2.2.1)) (.br (Ze a.2.2.2.2.1 (Le a.2.2.1)) (.br (decide (x1.1<=a.1)&&decide (a.1<=x1.2.1)) (Ls (Go1.ret (a.1,a.2.2.2.2.1,x2))) (Ls (Go1.cont (a.1,a.2.1,a.2.2.1,a.2.2.2.1,i64.wrap (a.2.2.2.2.1+1),PUnit.unit)))) Ln) (Ls (Go1.brk (a.1,a.2.1,x2)))
def ZLs:Ora:=ZaX true Z0S ZLr (λa=>1000000000000)
theorem ZO0:ZaF (envX prog [] [] 127 8) (.block 0 (.loop (Z4 Tryz.f209.body 0))) ZLs:=
 loopP trivial
def ZLq (l:List (QT6)) (t:Int):RT (Option (Int)):=
 let x1:=runF true ZLr (λa=>1000000000000) (t,0,l,iN (Le l),0,())
 let x2:=getO (false,t,0,l,iN (Le l),0,()) x1
 .br (okB x1) (.br x2.1 (Ls x2.2.2.1) (Ls (-1))) Ln
def Zso (l:List (QT6)) (t:Int):Int:=getO Z2r.Df (ZLq l t).val
def ZBQ (l:List (QT6)) (t:Int):Bool:=okB (ZLq l t).val
def ZLt:En:=Zg ZTC Z2r (λa=>some (ZBQ a.1 a.2)) (λa=>Zso a.1 a.2)
theorem ZxQ:Za prog 209 ZLt:=
 pureP 127 [] [(0,ZLs)] _ _ trivial Tryz.func209 Tryz.call209 ⟨ZO0,Tv⟩
end
end Go.Proofs.YtpnjbfjomebppaaGreat
namespace Go.Proofs.Cells
def getX (l:List Cell) (a:Int):Int:=((flt a l).getLast?.map Prod.snd).getD 0
def Vld (m:List Cell):Prop:=m.Pairwise (λa b=>a.1<b.1)/\∀c∈m,c.2≠0
variable {l:List Cell}
theorem ZQa {l':List Cell} (h:Sm l l') (a:Int):getX l a=getX l' a:=by rw[getX,getX,h a]
variable {m:List Cell}
theorem Vld.srt (h:Vld m):Srt m:=h.1.imp λh=>Int.le_of_lt h
theorem Vld.tail {c:Cell} (h:Vld (c::m)):Vld m:=⟨(Yx.1 h.1).2,λx hx=>h.2 x (YU _ hx)⟩
theorem ZMd (a:Int):getX [] a=0:=rfl
theorem Znv (a:Int) (c:Cell) (l:List Cell):flt a (c::l)=if c.1=a then c::flt a l else flt a l:=by by_cases h:c.1=a<;>simp[flt,h]
theorem ZeW (c:Cell) (l:List Cell) (a:Int):getX (c::l) a=if c.1=a/\flt a l=[] then c.2 else getX l a:=by
 simp only[getX,Znv];by_cases h:c.1=a
 ·simp only[h,if_true,true_and];cases hf:flt a l with
  |nil=>simp
  |cons x r=>simp[List.getLast?_cons_cons]
 ·simp[h]
theorem Vld.flt {m:List Cell} (h:Vld m) (a:Int):Cells.flt a m=if getX m a=0 then [] else [(a,getX m a)]:=by
 induction m with
 |nil=>simp[Cells.flt,ZMd]
 |cons c m ih=>
  have ih:=ih h.tail;have h1:=Yx.1 h.1;by_cases hc:c.1=a
  ·have hn:Cells.flt a m=[]:=ZeX λx hx=>by have:=h1.1 x hx;omega
   have hz:=h.2 c (by simp);rw[Znv,ZeW];simp only[hc,hn,and_self,if_true,hz,if_false];rw[<-hc]
  ·rw[Znv,ZeW];simp only[hc,false_and,if_false,ih]
theorem Z4g {m':List Cell} (h:Vld m) (h':Vld m') (e:∀a,getX m a=getX m' a):m=m':=
 uniq h.srt h'.srt λk=>by rw[h.flt,h'.flt,e k]
def dd:List Cell->List Cell
 |[]=>[]
 |x::r=>match r with
  |[]=>if x.2=0 then [] else [x]
  |y::_=>if x.1=y.1 then dd r else if x.2=0 then dd r else x::dd r
theorem Zul:∀{l:List Cell} {c:Cell},c∈dd l->c∈l/\c.2≠0
 |[],c,h=>by simp[dd] at h
 |[x],c,h=>by
  simp only[dd] at h;split at h
  ·simp at h
  ·rename_i hz;simp at h;subst h;exact⟨by simp,hz⟩
 |x::y::r,c,h=>by
  rw[dd] at h;split at h
  ·have:=Zul h;exact⟨YU _ this.1,this.2⟩
  ·split at h
   ·have:=Zul h;exact⟨YU _ this.1,this.2⟩
   ·rename_i hz;rcases Yy.1 h with e|e
    ·subst e;exact⟨by simp,hz⟩
    ·have:=Zul e;exact⟨YU _ this.1,this.2⟩
theorem Z3Z:∀{l:List Cell},Srt l->Vld (dd l)
 |[],_=>⟨Yah,λc h=>by simp[dd] at h⟩
 |[x],_=>by refine⟨?_,λc h=>(Zul h).2⟩;simp only[dd];split<;>simp
 |x::y::r,h=>by
  have h1:=Yx.1 h;have ih:=Z3Z (l:=y::r) h1.2;have h2:=Yx.1 h1.2;rw[dd];split
  ·exact ih
  ·rename_i hne;split
   ·exact ih
   ·rename_i hz;refine⟨Yx.2 ⟨λc hc=> ?_,ih.1⟩,λc hc=> ?_⟩
    ·have hxy:=h1.1 y (by simp);rcases Yy.1 (Zul hc).1 with e|e
     ·rw[e];omega
     ·have:=h2.1 c e;omega
    ·rcases Yy.1 hc with e|e
     ·rw[e];exact hz
     ·exact ih.2 c e
theorem Z30:∀{l:List Cell},Srt l->∀a,getX (dd l) a=getX l a
 |[],_,_=>rfl
 |[x],_,a=>by
  simp only[dd];split
  ·rename_i hz;rw[ZeW];simp[flt,getX,hz]
  ·rfl
 |x::y::r,h,a=>by
  have h1:=Yx.1 h;have ih:=Z30 (l:=y::r) h1.2 a;have h2:=Yx.1 h1.2;rw[dd,ZeW x (y::r)];by_cases hxy:x.1=y.1
  ·rw[YX hxy,ih];by_cases hc:x.1=a/\flt a (y::r)=[]
   ·obtain⟨e,e2⟩:=hc;rw[Znv,YX (by rw[<-hxy];exact e)] at e2;simp at e2
   ·rw[Y2 hc]
  ·rw[Y2 hxy];have hlt:∀c∈y::r,x.1<c.1:=λc hc=>by
    have:=h1.1 y (by simp);rcases Yy.1 hc with e|e
    ·rw[e];omega
    ·have:=h2.1 c e;omega
   by_cases hc:x.1=a
   ·have hn:flt a (y::r)=[]:=ZeX λc hc'=>by have:=hlt c hc';omega
    have hn2:flt a (dd (y::r))=[]:=ZeX λc hc'=>by have:=hlt c (Zul hc').1;omega
    by_cases hz:x.2=0
    ·rw[YX hz,YX ⟨hc,hn⟩,hz,getX,hn2];rfl
    ·rw[Y2 hz,YX ⟨hc,hn⟩,ZeW,YX ⟨hc,hn2⟩]
   ·by_cases hz:x.2=0
    ·rw[YX hz,Y2 (λh=>hc h.1),ih]
    ·rw[Y2 hz,Y2 (λh=>hc h.1),ZeW,Y2 (λh=>hc h.1),ih]
def putX:List Cell->Cell->List Cell
 |[],c=>if c.2=0 then [] else [c]
 |x::r,c=>if x.1<c.1 then x::putX r c else if c.2=0 then (if x.1=c.1 then r else x::r) else if x.1=c.1 then c::r else c::x::r
theorem ZwO:∀{m:List Cell} {c x:Cell},x∈putX m c->x=c\/x∈m
 |[],c,x,h=>by
  simp only[putX] at h;split at h
  ·simp at h
  ·left;simpa using h
 |y::r,c,x,h=>by
  simp only[putX] at h;split at h
  ·rcases Yy.1 h with e|e
   ·right;simp[e]
   ·rcases ZwO e with e|e
    ·exact .inl e
    ·right;simp[e]
  ·split at h
   ·split at h
    ·right;simp[h]
    ·right;exact h
   ·split at h
    ·rcases Yy.1 h with e|e
     ·exact .inl e
     ·right;simp[e]
    ·rcases Yy.1 h with e|e
     ·exact .inl e
     ·right;exact e
theorem ZKA:∀{m:List Cell} {c:Cell},Vld m->Vld (putX m c)
 |[],c,_=>by
  simp only[putX];split
  ·exact⟨Yah,λc h=>by simp at h⟩
  ·rename_i hz;exact⟨by simp,λx h=>by simp at h;rw[h];exact hz⟩
 |y::r,c,h=>by
  have h1:=Yx.1 h.1;have hy:=h.2 y (by simp);simp only[putX];split
  ·rename_i hlt;have ih:=ZKA (c:=c) h.tail;refine⟨Yx.2 ⟨λx hx=> ?_,ih.1⟩,λx hx=> ?_⟩
   ·rcases ZwO hx with e|e
    ·rw[e];exact hlt
    ·exact h1.1 x e
   ·rcases Yy.1 hx with e|e
    ·rw[e];exact hy
    ·exact ih.2 x e
  ·rename_i hge;split
   ·split
    ·exact h.tail
    ·exact h
   ·rename_i hz;split
    ·rename_i he;refine⟨Yx.2 ⟨λx hx=> ?_,h1.2⟩,λx hx=> ?_⟩
     ·have:=h1.1 x hx;omega
     ·rcases Yy.1 hx with e|e
      ·rw[e];exact hz
      ·exact h.2 x (YU _ e)
    ·rename_i hne;refine⟨Yx.2 ⟨λx hx=> ?_,h.1⟩,λx hx=> ?_⟩
     ·rcases Yy.1 hx with e|e
      ·rw[e];omega
      ·have:=h1.1 x e;omega
     ·rcases Yy.1 hx with e|e
      ·rw[e];exact hz
      ·exact h.2 x e
theorem Zko {a:Int} (h:∀c∈l,c.1≠a):getX l a=0:=by rw[getX,ZeX h];rfl
theorem Zez {x:Cell} {r:List Cell} (h:∀c∈r,x.1<c.1) (a:Int):getX (x::r) a=if x.1=a then x.2 else getX r a:=by
 rw[ZeW];by_cases hx:x.1=a
 ·have:flt a r=[]:=ZeX λc hc=>by have:=h c hc;omega
  simp[hx,this]
 ·simp[hx]
theorem ZKB:∀{m:List Cell} {c:Cell},Vld m->∀a,getX (putX m c) a=if c.1=a then c.2 else getX m a
 |[],c,_,a=>by
  simp only[putX];split
  ·rename_i hz;rw[ZMd,hz];simp
  ·rw[Zez (by simp)]
 |y::r,c,h,a=>by
  have h1:=Yx.1 h.1;simp only[putX];split
  ·rename_i hlt
   rw[Zez (λx hx=>by
    rcases ZwO hx with e|e
    ·rw[e];exact hlt
    ·exact h1.1 x e),Zez h1.1,ZKB h.tail a]
   by_cases e1:y.1=a
   ·simp only[e1,if_true];rw[Y2 (by omega)]
   ·simp[e1]
  ·rename_i hge;split
   ·rename_i hz;split
    ·rename_i he;rw[Zez h1.1];by_cases e:c.1=a
     ·rw[YX e,hz];exact Zko λx hx=>by have:=h1.1 x hx;omega
     ·rw[Y2 e,Y2 (by omega)]
    ·rename_i hne;by_cases e:c.1=a
     ·rw[YX e,hz];exact Zko λx hx=>by
       rcases Yy.1 hx with e'|e'
       ·rw[e'];omega
       ·have:=h1.1 x e';omega
     ·rw[Y2 e]
   ·split
    ·rename_i he;rw[Zez (λx hx=>by have:=h1.1 x hx;omega),Zez h1.1];by_cases e:c.1=a
     ·simp[e]
     ·rw[Y2 e,Y2 e,Y2 (by omega)]
    ·rename_i hne
     rw[Zez (λx hx=>by
      rcases Yy.1 hx with e|e
      ·rw[e];omega
      ·have:=h1.1 x e;omega)]
def normX (l:List Cell):List Cell:=l.foldl putX []
theorem ZXP (l:List Cell) (c:Cell) (a:Int):getX (l++[c]) a=if c.1=a then c.2 else getX l a:=by
 rw[getX,getX,Zd8];by_cases h:c.1=a
 ·have:flt a [c]=[c]:=by simp[flt,h]
  rw[this,List.getLast?_append];simp[h]
 ·have:flt a [c]=[]:=ZeX λx hx=>by simp at hx;rw[hx];exact h
  rw[this];simp[h]
theorem ZrR:∀(l:List Cell) {m:List Cell},Vld m->Vld (l.foldl putX m)/\∀a,getX (l.foldl putX m) a=getX (m++l) a
 |[],m,h=>⟨h,λa=>by simp⟩
 |c::l,m,h=>by
  obtain⟨h1,h2⟩:=ZrR l (ZKA (c:=c) h);refine⟨h1,λa=> ?_⟩;rw[List.foldl_cons,h2 a];have e:m++c::l=(m++[c])++l:=by simp
  rw[e];have key:∀{p q:List Cell},(∀b,getX p b=getX q b)->∀l b,getX (p++l) b=getX (q++l) b:=by
   intro p q hpq l b;simp only[getX,Zd8,List.getLast?_append];cases hl:(flt b l).getLast? with
   |none=>simpa [getX] using hpq b
   |some x=>simp
  exact key (λb=>by rw[ZKB h,ZXP]) l a
theorem Zj7 (l:List Cell):Vld (normX l):=(ZrR l ⟨Yah,λc h=>by simp at h⟩).1
theorem ZWM (l:List Cell) (a:Int):getX (normX l) a=getX l a:=(ZrR l ⟨Yah,λc h=>by simp at h⟩).2 a
theorem ZLG (h:Vld m) (e:∀a,getX m a=getX l a):normX l=m:=Z4g (Zj7 l) h λa=>by rw[ZWM,e]
theorem Zh8 (h:Vld m):normX m=m:=ZLG h λ_=>rfl
theorem ZPJ (l:List Cell):dd (isort l)=normX l:=
 (ZLG (Z3Z (Zci l)) λa=>by rw[Z30 (Zci l),ZQa (Zgq l)]).symm
end Go.Proofs.Cells
open Go Go.S3 Go.Proofs Go.Proofs.Cells
namespace Go.Proofs.YtpnjbfjomebppaaGreat
noncomputable section
abbrev Z9:=QT6
theorem Zza (l:List Cell) (i:Nat) (h:i<l.length):l.drop i=el l i::l.drop (i+1):=by rw[Yaa h];have:=Zc1 l i h;rw[Yk h,oinj] at this;rw[this]
theorem ZDR (l:List Cell) (i:Nat) (h:i<l.length):l.take (i+1)=l.take i++[el l i]:=by rw[YaG,Zc1 l i h];rfl
theorem Z8V (l:List Cell) (i:Nat) (h:i<l.length):el l i∈l:=List.mem_iff_getElem?.2 ⟨i,Zc1 l i h⟩
def okAt (m:List Cell) (i:Nat):Bool:= !((el m i).2==0||(decide ((i:Int)>0)&&decide ((el m i).1<=(el m (i-1)).1)))
def vldB (m:List Cell):Bool:=(List.range m.length).all (okAt m)
variable {m:List Cell} {i:Nat}
theorem ZsH (hi:i<m.length) (h:okAt m i=false):vldB m=false:=by rw[YD];intro he;have:=YW.1 he i (YaH.2 hi);rw[h] at this;exact absurd this (by simp)
theorem ZnT (h:∀i,i<m.length->okAt m i=true):vldB m=true:=YW.2 λi hi=>h i (YaH.1 hi)
theorem ZmM:vldB m=true↔Vld m:=by
 constructor
 ·intro h;have ha:∀i,i<m.length->okAt m i=true:=λi hi=>YW.1 h i (YaH.2 hi)
  have hs:∀i,i+1<m.length->(el m i).1<(el m (i+1)).1:=λi hi=>by
   have:=ha (i+1) hi;simp only[okAt,YE,Yo,Yac,Y5,Nat.add_sub_cancel] at this;rcases this.2 with e|e
   ·omega
   ·omega
  refine⟨?_,λc hc=> ?_⟩
  ·rw[YaB];have key:∀d i,i+d+1<m.length->(el m i).1<(el m (i+d+1)).1:=by
    intro d
    induction d with
    |zero=>intro i hi;exact hs i hi
    |succ d ih=>intro i hi;have h1:=ih i (by omega);have h2:=hs (i+d+1) (by omega);rw[show i+(d+1)+1=i+d+1+1 by omega];omega
   intro i j hi hj hij;have:=key (j-i-1) i (by omega);rw[show i+(j-i-1)+1=j by omega] at this;have e1:=Zc1 m i hi;have e2:=Zc1 m j hj;rw[Yk hi,oinj] at e1;rw[Yk hj,oinj] at e2;rw[e1,e2];exact this
  ·obtain⟨i,hi⟩:=List.mem_iff_getElem?.1 hc;have hlt:=(YB.1 hi).1;rw[Zc1 m i hlt,oinj] at hi;have:=ha i hlt;rw[<-hi];simp only[okAt,YE,Yo,beq_eq_false_iff_ne] at this;exact this.1
 ·intro h;refine ZnT λi hi=> ?_
  simp only[okAt,YE,Yo,beq_eq_false_iff_ne,Yac,Y5];refine⟨h.2 _ (Z8V m i hi),?_⟩;by_cases h0:i=0
  ·left;omega
  ·right;have:=YaB.1 h.1 (i-1) i (by omega) hi (by omega);have e1:=Zc1 m (i-1) (by omega);have e2:=Zc1 m i hi;rw[Yk (by omega),oinj] at e1;rw[Yk hi,oinj] at e2;rw[e1,e2] at this;omega
theorem Z7q (i:Nat) (h:0<i) (h2:i<=4611686018427387904):IntKind.wrap .i64 ((i:Int)-1)=((i-1:Nat):Int):=by rw[wrap_i64 _ (by omega) (by omega)];omega
theorem ZWJ (m:List Cell) (i:Nat):((el m i).2==0||(decide ((i:Int)>0)&&decide ((el m i).1<=(el m (i-1)).1)))= !okAt m i:=by simp only[okAt,Bool.not_not]
theorem ZPU (m:List Cell) (hm:m.length<=most):(Zlz m).val=some (vldB m):=by
 have hms:=mst;obtain⟨r,hr,hR⟩:=ZM (fl:=true) (t:=ZeS) (fuel:=λa=>1000000000000)
  (I:=λa=>∃i:Nat,i<=m.length/\(∀k,k<i->okAt m k=true)/\a=(m,false,m,(m.length:Int),(i:Int),()))
  (m:=λa=>Int.toNat (a.2.2.2.1-a.2.2.2.2.1)) (R:=λr=>(r.1=false/\vldB m=true)\/(r.1=true/\vldB m=false/\r.2.2.1=false))
  (λa hi=>by
   obtain⟨i,hi,hk,rfl⟩:=hi;by_cases hlt:i<m.length
   ·have d:decide ((i:Int)<(m.length:Int))=true:=by simpa using hlt
    have r1:=Zax m i hlt;have hw:decide ((i:Int)>0)=true->Ze (IntKind.wrap .i64 ((i:Int)-1)) m.length=true/\IntKind.wrap .i64 ((i:Int)-1)=((i-1:Nat):Int):=λh=>by simp only[Yj] at h;have e:=Z7q i (by omega) (by omega);exact⟨by rw[e];exact Zax m (i-1) (by omega),e⟩
    have hck:((el m i).2==0||(!decide ((i:Int)>0)||Ze (IntKind.wrap .i64 ((i:Int)-1)) m.length))=true:=by
     cases h:decide ((i:Int)>0) with
     |false=>simp
     |true=>rw[(hw h).1];simp
    have hcd:((el m i).2==0||(decide ((i:Int)>0)&&decide ((el m i).1<=(R.get CR m (IntKind.wrap .i64 ((i:Int)-1))).1)))= !okAt m i:=by
     rw[<-ZWJ];cases h:decide ((i:Int)>0) with
     |false=>simp
     |true=>rw[(hw h).2,ZcL]
    cases ho:okAt m i with
    |true=>
     left;refine⟨(m,false,m,(m.length:Int),((i+1:Nat):Int),()),?_,⟨i+1,hlt,λk hk'=> ?_,rfl⟩,by simp only;omega⟩
     ·rw[ho] at hcd;simp only[ZeS,RT.val,d,r1,ZcL,hck,hcd,Ye,Yi,Ya,Yc,Zim i (by omega)]
     ·by_cases e:k=i
      ·subst e;exact ho
      ·exact hk k (by omega)
    |false=>
     right;right;refine⟨(m,false,m,(m.length:Int),(i:Int),()),rfl,?_,.inr ⟨rfl,ZsH hlt ho,rfl⟩⟩;rw[ho] at hcd;simp only[ZeS,RT.val,d,r1,ZcL,hck,hcd,Ye,Yl,Yi,Ya,Yc]
   ·right;left;have d:decide ((i:Int)<(m.length:Int))=false:=by simpa using hlt
    exact⟨(m,false,m,(m.length:Int),(i:Int),()),by simp only[ZeS,RT.val,d,Yc],.inl ⟨rfl,ZnT λk hk'=>hk k (by omega)⟩⟩)
  (m,false,m,(m.length:Int),0,()) ⟨0,Yt _,λk h=>by omega,rfl⟩ (by simp only;omega)
 have hr':runF true ZeS (λa=>1000000000000) (m,false,m,iN m.length,0,())=some r:=hr;rcases hR with ⟨h1,h2⟩|⟨h1,h2,h3⟩
 ·simp only[Zlz,RT.val,hr',okB,getO,Ya,h1,Yc,h2]
 ·simp only[Zlz,RT.val,hr',okB,getO,Ya,h1,h2,h3]
theorem Ztf (m:List Cell) (hm:m.length<=most):(Zk5 m).val=some (vldB m):=by
 have hms:=mst;obtain⟨r,hr,hR⟩:=ZM (fl:=true) (t:=ZeF) (fuel:=λa=>1000000000000)
  (I:=λa=>∃i:Nat,i<=m.length/\(∀k,k<i->okAt m k=true)/\a=(m,false,(m.length:Int),(i:Int),()))
  (m:=λa=>Int.toNat (a.2.2.1-a.2.2.2.1)) (R:=λr=>(r.1=false/\vldB m=true)\/(r.1=true/\vldB m=false/\r.2.2.1=false))
  (λa hi=>by
   obtain⟨i,hi,hk,rfl⟩:=hi;by_cases hlt:i<m.length
   ·have d:decide ((i:Int)<(m.length:Int))=true:=by simpa using hlt
    have r1:=Zax m i hlt;have hw:decide ((i:Int)>0)=true->Ze (IntKind.wrap .i64 ((i:Int)-1)) m.length=true/\IntKind.wrap .i64 ((i:Int)-1)=((i-1:Nat):Int):=λh=>by simp only[Yj] at h;have e:=Z7q i (by omega) (by omega);exact⟨by rw[e];exact Zax m (i-1) (by omega),e⟩
    have hck:((el m i).2==0||(!decide ((i:Int)>0)||Ze (IntKind.wrap .i64 ((i:Int)-1)) m.length))=true:=by
     cases h:decide ((i:Int)>0) with
     |false=>simp
     |true=>rw[(hw h).1];simp
    have hcd:((el m i).2==0||(decide ((i:Int)>0)&&decide ((el m i).1<=(R.get CR m (IntKind.wrap .i64 ((i:Int)-1))).1)))= !okAt m i:=by
     rw[<-ZWJ];cases h:decide ((i:Int)>0) with
     |false=>simp
     |true=>rw[(hw h).2,ZcL]
    cases ho:okAt m i with
    |true=>
     left;refine⟨(m,false,(m.length:Int),((i+1:Nat):Int),()),?_,⟨i+1,hlt,λk hk'=> ?_,rfl⟩,by simp only;omega⟩
     ·rw[ho] at hcd;simp only[ZeF,RT.val,d,r1,ZcL,hck,hcd,Ye,Yi,Yh,Ya,Yc,Zim i (by omega)]
     ·by_cases e:k=i
      ·subst e;exact ho
      ·exact hk k (by omega)
    |false=>
     right;right;refine⟨(m,false,(m.length:Int),(i:Int),()),rfl,?_,.inr ⟨rfl,ZsH hlt ho,rfl⟩⟩;rw[ho] at hcd;simp only[ZeF,RT.val,d,r1,ZcL,hck,hcd,Ye,Yl,Yi,Yh,Ya,Yc]
   ·right;left;have d:decide ((i:Int)<(m.length:Int))=false:=by simpa using hlt
    exact⟨(m,false,(m.length:Int),(i:Int),()),by simp only[ZeF,RT.val,d,Yc],.inl ⟨rfl,ZnT λk hk'=>hk k (by omega)⟩⟩)
  (m,false,(m.length:Int),0,()) ⟨0,Yt _,λk h=>by omega,rfl⟩ (by simp only;omega)
 have hr':runF true ZeF (λa=>1000000000000) (m,false,iN m.length,0,())=some r:=hr;rcases hR with ⟨h1,h2⟩|⟨h1,h2,h3⟩
 ·simp only[Zk5,RT.val,hr',okB,getO,Ya,h1,Yc,h2]
 ·simp only[Zk5,RT.val,hr',okB,getO,Ya,h1,h2,h3]
variable {t:Int}
theorem ZXQ (hi:i<m.length) (he:(el m i).1=t) (hk:∀k,i<k->k<m.length->(el m k).1≠t):getX m t=(el m i).2:=by
 have e:m=m.take i++[el m i]++m.drop (i+1):=by rw[Yp,List.singleton_append,<-Zza m i hi,Yaq]
 have h0:flt t (m.drop (i+1))=[]:=ZeX λc hc=>by obtain⟨k,h1,h2,rfl⟩:=Zke hc;exact hk k (by omega) h2
 have h1:flt t [el m i]=[el m i]:=by simp[flt,he]
 have h2:flt t m=flt t (m.take i)++[el m i]:=by conv=>lhs;rw[e,Zd8,Zd8,h0,h1,YZ]
 rw[getX,h2,List.getLast?_append];simp
theorem ZZu (m:List Cell) (t:Int) (hm:m.length<=most):(ZtF m t).val=some (getX m t):=by
 have hms:=mst;obtain⟨r,hr,hR⟩:=ZM (fl:=true) (t:=Zh4) (fuel:=λa=>1000000000000)
  (I:=λa=>∃i:Nat,i<=m.length/\(∀k,i<=k->k<m.length->(el m k).1≠t)/\a=(m,t,0,(i:Int)-1,()))
  (m:=λa=>Int.toNat (a.2.2.2.1+1)) (R:=λr=>(r.1=false/\getX m t=0)\/(r.1=true/\r.2.2.2.1=getX m t))
  (λa hi=>by
   obtain⟨i,hi,hk,rfl⟩:=hi;cases i with
   |zero=>
    right;left;refine⟨(m,t,0,((0:Nat):Int)-1,()),by simp[Zh4,RT.val],.inl ⟨rfl,Zko λc hc=> ?_⟩⟩;obtain⟨k,hk'⟩:=List.mem_iff_getElem?.1 hc;have hlt:=(YB.1 hk').1;rw[Zc1 m k hlt,oinj] at hk';rw[<-hk'];exact hk k (Yt _) hlt
   |succ i=>
    have ei:((i+1:Nat):Int)-1=(i:Int):=by omega
    rw[ei];have d:decide ((i:Int)>=0)=true:=by simp
    have r1:=Zax m i (by omega);cases he:((el m i).1==t) with
    |true=>
     right;right;refine⟨(m,t,(el m i).2,(i:Int),()),rfl,by simp only[Zh4,RT.val,d,r1,ZcL,he,Ya,Ye,Yi],.inr ⟨rfl,?_⟩⟩;exact (ZXQ (by omega) (by simpa using he) λk h1 h2=>hk k (by omega) h2).symm
    |false=>
     left;refine⟨(m,t,0,(i:Int)-1,()),?_,⟨i,by omega,λk h1 h2=> ?_,rfl⟩,by simp only;omega⟩
     ·have w:IntKind.wrap .i64 ((i:Int)-1)=(i:Int)-1:=wrap_i64 _ (by omega) (by omega);simp only[Zh4,RT.val,d,r1,ZcL,he,Ya,Yc,Ye,Yl,Ys,Yi,w]
     ·by_cases e:k=i
      ·subst e;simpa using he
      ·exact hk k (by omega) h2)
  (m,t,0,(m.length:Int)-1,()) ⟨m.length,Yg _,λk h1 h2=>by omega,rfl⟩ (by simp only;omega)
 have w:IntKind.wrap .i64 (iN m.length-1)=(m.length:Int)-1:=wrap_i64 _ (by simp only[iN,Le];omega) (by simp only[iN,Le];omega);rcases hR with ⟨h1,h2⟩|⟨h1,h2⟩
 ·simp only[ZtF,RT.val,w,hr,okB,getO,Ya,h1,Yc,h2]
 ·simp only[ZtF,RT.val,w,hr,okB,getO,Ya,h1,h2]
def pst (c:Cell) (s:Bool×List Cell) (x:Cell):Bool×List Cell:=
 let t:= !s.1&&decide (x.1>=c.1)
 let o:=bif t then (bif c.2 !=0 then s.2++[c] else s.2) else s.2
 (t||s.1,bif x.1 !=c.1 then o++[x] else o)
def pfin (c:Cell) (s:Bool×List Cell):List Cell:=bif !s.1&&c.2 !=0 then s.2++[c] else s.2
theorem ZKF (c:Cell):∀(m:List Cell) (o:List Cell),(∀x∈m,x.1≠c.1)->m.foldl (pst c) (true,o)=(true,o++m)
 |[],o,_=>by simp
 |x::m,o,h=>by
  have hx:(x.1 !=c.1)=true:=by simpa using h x (by simp)
  simp only[List.foldl_cons,pst,Ye,YL,Yc,Yh,hx,Ya];rw[ZKF c m (o++[x]) λy hy=>h y (YU _ hy)];simp
theorem ZUj (c:Cell):∀(m:List Cell) (o:List Cell),m.Pairwise (λa b=>a.1<b.1)->pfin c (m.foldl (pst c) (false,o))=o++putX m c
 |[],o,_=>by
  simp only[List.foldl_nil,pfin,putX,Yl,YH];by_cases h:c.2=0
  ·simp[h]
  ·have:(c.2 !=0)=true:=by simpa using h
   simp[h,this]
 |x::m,o,h=>by
  have h1:=Yx.1 h;by_cases hx:x.1<c.1
  ·have e1:decide (x.1>=c.1)=false:=by simp;omega
   have e2:(x.1 !=c.1)=true:=by simp;omega
   simp only[List.foldl_cons,pst,e1,Y3,Yc,Yu,e2,Ya];rw[ZUj c m (o++[x]) h1.2,putX,YX hx];simp
  ·have e1:decide (x.1>=c.1)=true:=by simp;omega
   have hne:∀y∈m,y.1≠c.1:=λy hy=>by have:=h1.1 y hy;omega
   simp only[List.foldl_cons,pst,e1,Yl,YV,Ya,Ys];rw[ZKF c m _ hne,putX,Y2 hx];simp only[pfin,Ye,YL,Yc];by_cases hz:c.2=0
   ·by_cases hk:x.1=c.1
    ·simp[hz,hk]
    ·have:(x.1 !=c.1)=true:=by simpa using hk
     simp[hz,hk,this]
   ·have hz1:(c.2 !=0)=true:=by simpa using hz
    by_cases hk:x.1=c.1
    ·simp[hz,hk,hz1]
    ·have:(x.1 !=c.1)=true:=by simpa using hk
     simp[hz,hk,this,hz1]
theorem ZFI (c:Cell):∀(m:List Cell) (s:Bool×List Cell),(m.foldl (pst c) s).2.length+(bif (m.foldl (pst c) s).1 then 0 else 1)<=s.2.length+(bif s.1 then 0 else 1)+m.length
 |[],s=>by simp
 |x::m,s=>by
  rw[List.foldl_cons];have ih:=ZFI c m (pst c s x);have:(pst c s x).2.length+(bif (pst c s x).1 then 0 else 1)<=s.2.length+(bif s.1 then 0 else 1)+1:=by obtain⟨d,o⟩:=s;simp only[pst];generalize decide (x.1>=c.1)=b1;generalize (c.2 !=0)=b2;generalize (x.1 !=c.1)=b3;cases d<;>cases b1<;>cases b2<;>cases b3<;>simp<;>omega
  simp only[List.length_cons];omega
theorem Zom (m:List Cell) (c:Cell) (hv:Vld m) (hm:m.length+1<=most):Zty m c=true/\ZNp m c=putX m c:=by
 have hms:=mst;obtain⟨r,hr,h1,i,hR⟩:=ZM (fl:=false) (t:=ZjG) (fuel:=λa=>1000000000000)
  (λa=>∃i:Nat,i<=m.length/\a=(((m.take i).foldl (pst c) (false,[])).1,m,(m.length:Int),(i:Int),c,((m.take i).foldl (pst c) (false,[])).2,()))
  (λa=>Int.toNat (a.2.2.1-a.2.2.2.1)) (λr=>r.1=false/\∃i:Nat,r.2=((m.foldl (pst c) (false,[])).1,m,(m.length:Int),(i:Int),c,(m.foldl (pst c) (false,[])).2,()))
  (by
   rintro a ⟨i,hi,rfl⟩;by_cases hlt:i<m.length
   ·left;have d:decide ((i:Int)<(m.length:Int))=true:=by simpa using hlt
    have r1:=Zax m i hlt;have hl:=ZFI c (m.take i) (false,[]);have hs:(m.take (i+1)).foldl (pst c) (false,[])=pst c ((m.take i).foldl (pst c) (false,[])) (el m i):=by rw[ZDR m i hlt,List.foldl_append];rfl
    rw[YJ,YaT (by omega)] at hl;refine⟨_,?_,⟨i+1,hlt,rfl⟩,by simp only;omega⟩;rw[hs];generalize (m.take i).foldl (pst c) (false,[])=s at hl|-;obtain⟨dn,o⟩:=s;simp only[List.length_nil,Yc] at hl;simp only[ZjG,RT.val,d,r1,ZcL,Ya,Ye,Yi,pst,Zim i (by omega)];generalize decide ((el m i).1>=c.1)=b1;generalize hb2:(c.2 !=0)=b2;generalize hb3:((el m i).1 !=c.1)=b3;have l1:Nat.ble (o++[c]).length most=true\/dn=true:=by
     cases dn with
     |true=>exact .inr rfl
     |false=>left;rw[YF];simp only[Yc] at hl;simp only[Yd,List.length_singleton];omega
    have l2:Nat.ble (o++[el m i]).length most=true:=by rw[YF];simp only[Yd,List.length_singleton];cases dn<;>simp only[Ya,Yc] at hl<;>omega
    have l3:Nat.ble (o++[c]++[el m i]).length most=true\/dn=true:=by
     cases dn with
     |true=>exact .inr rfl
     |false=>left;rw[YF];simp only[Yc] at hl;simp only[Yd,List.length_singleton];omega
    cases dn with
    |true=>
     cases b3<;>simp only[l2,Ye,Yl,YL,Ys,Yi,Yh,Ya,Yc]
    |false=>
     have l1:Nat.ble (o++[c]).length most=true:=by simpa using l1
     have l3:Nat.ble (o++[c]++[el m i]).length most=true:=by simpa using l3
     cases b1<;>cases b2<;>cases b3<;>simp only[l1,l2,l3,Ye,Yl,YL,YH,Ys,Yi,Yh,Yu,YV,Ya,Yc]
   ·right;left;have d:decide ((i:Int)<(m.length:Int))=false:=by simpa using hlt
    have e:m.take i=m:=YY (by omega);rw[e]
    exact⟨_,by simp only[ZjG,RT.val,d,Yc],rfl,i,rfl⟩)
  (false,m,iN m.length,0,c,[],()) ⟨0,Yt _,rfl⟩ (by simp only[iN,Le];omega)
 have hl:=ZFI c m (false,[]);have hp:=ZUj c m [] hv.1;simp only[List.nil_append] at hp;obtain⟨r1,r2⟩:=r;simp only at h1 hR;subst h1 hR;generalize m.foldl (pst c) (false,[])=s at hl hp hr;obtain⟨dn,o⟩:=s;have hb:(!(!dn&&c.2 !=0)||Nat.ble (o++[c]).length most)=true:=by
  cases dn with
  |true=>rfl
  |false=>
   have:Nat.ble (o++[c]).length most=true:=by rw[YF];simp only[Yc,List.length_nil] at hl;simp only[Yd,List.length_singleton];omega
   rw[this];simp
 have hv:(Ztx m c).val=some (putX m c):=by simp only[Ztx,RT.val,hr,okB,getO,Ya,hb,<-hp,pfin]
 exact⟨by simp only[Zty,hv];rfl,by simp only[ZNp,hv,getO]⟩
theorem ZwP (c:Cell):∀m:List Cell,(putX m c).length<=m.length+1
 |[]=>by simp only[putX];split<;>simp
 |x::m=>by
  have:=ZwP c m;simp only[putX];repeat' split
  all_goals simp only[List.length_cons];omega
theorem Zlu (l:List Cell) (c:Cell):normX (l++[c])=putX (normX l) c:=by simp[normX,List.foldl_append]
theorem ZMg:∀(l m:List Cell),(l.foldl putX m).length<=m.length+l.length
 |[],m=>by simp
 |x::l,m=>by have:=ZMg l (putX m x);have:=ZwP x m;simp only[List.foldl_cons,List.length_cons];omega
theorem ZeN (l:List Cell):(normX l).length<=l.length:=by have:=ZMg l [];simpa [normX] using this
theorem Zoo (l:List Cell) (hl:l.length+1<=most):ZtD l=true/\ZNs l=normX l:=by
 have hms:=mst;have h1:=Ztf l (by omega);have hc:Zk6 l=true:=by simp only[Zk6,h1];rfl
 have hv0:Zox l=vldB l:=by simp only[Zox,h1,getO]
 have hv:(ZtC l).val=some (normX l):=by
  cases hb:vldB l with
  |true=>
   have e:Nat.ble l.length most=true:=by rw[YF];omega
   simp only[ZtC,RT.val,hc,hv0,hb,List.nil_append,e,Ya,Ye,Yi,Zh8 (ZmM.1 hb)]
  |false=>
   obtain⟨r,hr,h1,i,hR⟩:=ZM (fl:=false) (t:=ZjI) (fuel:=λa=>1000000000000)
    (λa=>∃i:Nat,i<=l.length/\a=(normX (l.take i),l,(l.length:Int),(i:Int),()))
    (λa=>Int.toNat (a.2.2.1-a.2.2.2.1)) (λr=>r.1=false/\∃i:Nat,r.2=(normX l,l,(l.length:Int),(i:Int),()))
    (by
     rintro a ⟨i,hi,rfl⟩;by_cases hlt:i<l.length
     ·left;have d:decide ((i:Int)<(l.length:Int))=true:=by simpa using hlt
      have r1:=Zax l i hlt;have hlen:=ZeN (l.take i);rw[YJ] at hlen;have hp:=Zom (normX (l.take i)) (el l i) (Zj7 _) (by omega);refine⟨_,?_,⟨i+1,hlt,rfl⟩,by simp only;omega⟩;rw[ZDR l i hlt,Zlu];simp only[ZjI,RT.val,d,r1,ZcL,hp.1,hp.2,Ya,Yh,Zim i (by omega)]
     ·right;left;have d:decide ((i:Int)<(l.length:Int))=false:=by simpa using hlt
      have e:l.take i=l:=YY (by omega);rw[e]
      exact⟨_,by simp only[ZjI,RT.val,d,Yc],rfl,i,rfl⟩)
    ([],l,iN l.length,0,()) ⟨0,Yt _,rfl⟩ (by simp only[iN,Le];omega)
   obtain⟨r1,r2⟩:=r;simp only at h1 hR;subst h1 hR;simp only[ZtC,RT.val,hc,hv0,hb,hr,okB,getO,Ya,Yc,Yl,Ys]
 exact⟨by simp only[ZtD,hv];rfl,by simp only[ZNs,hv,getO]⟩
theorem ZZq (m:List Cell) (t v:Int) (hm:m.length+1<=most):ZJY m t v=true/\ZZN m t v=putX (normX m) (t,v):=by
 have h1:=Zoo m hm;have h2:=Zom (normX m) (t,v) (Zj7 m) (by have:=ZeN m;omega);have hv:(ZAV m t v).val=some (putX (normX m) (t,v)):=by simp only[ZAV,RT.val,h1.1,h1.2,h2.1,h2.2,Ya,Yh]
 exact⟨by simp only[ZJY,hv];rfl,by simp only[ZZN,hv,getO]⟩
def ZH0 (s:List Cell) (i:Nat):Bool:=(el s i).2 !=0&&(decide (i+1=s.length)||(el s (i+1)).1 !=(el s i).1)
theorem Z7i (s:List Cell) (i:Nat) (h:i<s.length):dd (s.drop i)=(bif ZH0 s i then [el s i] else [])++dd (s.drop (i+1)):=by
 rw[Zza s i h];by_cases hl:i+1<s.length
 ·rw[Zza s (i+1) hl,dd];have e:decide (i+1=s.length)=false:=by simp;omega
  simp only[ZH0,e,Yi];by_cases h1:(el s i).1=(el s (i+1)).1
  ·have:((el s (i+1)).1 !=(el s i).1)=false:=by simp[h1]
   simp only[this,Y3,Yc,List.nil_append,YX h1]
  ·have:((el s (i+1)).1 !=(el s i).1)=true:=by simpa using λe=>h1 e.symm
   simp only[this,YT,Y2 h1];by_cases h2:(el s i).2=0
   ·have:((el s i).2 !=0)=false:=by simp[h2]
    simp only[this,YX h2,Yc,List.nil_append]
   ·have:((el s i).2 !=0)=true:=by simpa using h2
    simp only[this,Y2 h2,Ya,List.singleton_append]
 ·have hn:s.drop (i+1)=[]:=Y4 (by omega);have e:decide (i+1=s.length)=true:=by simp;omega
  rw[hn];simp only[ZH0,e,Ys,YT,dd,YZ];by_cases h2:(el s i).2=0
  ·have:((el s i).2 !=0)=false:=by simp[h2]
   simp only[this,YX h2,Yc]
  ·have:((el s i).2 !=0)=true:=by simpa using h2
   simp only[this,Y2 h2,Ya]
theorem ZRu (l:List Cell) (hl:l.length<=most):ZJf l=true/\ZDO l=isort l:=by
 have hs:Zob l (iN l.length)=true:=by simp[Zob,iN,Le];omega
 have hv:(Zz1 l).val=some (isort l):=by simp only[Zz1,RT.val,Zd4,hs,Ya]
 exact⟨by simp only[ZJf,hv];rfl,by simp only[ZDO,hv,getO]⟩
theorem ZCh (l:List Cell) (hl:l.length<=most):ZCs l=true/\ZXj l=normX l:=by
 have hms:=mst;have h1:=ZRu l hl;have hlen:=ZeU l;generalize hs:isort l=s at hlen h1;obtain⟨r,hr,h2,i,hR⟩:=ZM (fl:=false) (t:=Zkf) (fuel:=λa=>Int.toNat (a.1-a.2.1)+1)
  (λa=>∃(i:Nat) (o:List Cell),i<=s.length/\o.length<=i/\o++dd (s.drop i)=dd s/\a=((s.length:Int),(i:Int),s,o,()))
  (λa=>Int.toNat (a.1-a.2.1)) (λr=>r.1=false/\∃i:Nat,r.2=((s.length:Int),(i:Int),s,dd s,()))
  (by
   rintro a ⟨i,o,hi,ho,hd,rfl⟩;by_cases hlt:i<s.length
   ·left;have d:decide ((i:Int)<(s.length:Int))=true:=by simpa using hlt
    have r1:=Zax s i hlt;have w:=Zim i (by omega);have e1:(((i+1:Nat):Int)==iN s.length)=decide (i+1=s.length):=by rw[Bool.eq_iff_iff];simp[iN,Le];omega
    have hst:=Z7i s i hlt;have hle:∀x:Cell,Nat.ble (o++[x]).length most=true:=λx=>by rw[YF];simp only[Yd,List.length_singleton];omega
    refine⟨((s.length:Int),((i+1:Nat):Int),s,o++(bif ZH0 s i then [el s i] else []),()),?_,⟨i+1,_,hlt,?_,?_,rfl⟩,by simp only;omega⟩
    ·have e3:(!((el s i).2 !=0)||(decide (i+1=s.length)||Ze ((i+1:Nat):Int) s.length))=true:=by
      by_cases hq:i+1=s.length
      ·simp[hq]
      ·rw[Zax s (i+1) (by omega)];simp
     have e4:((el s i).2 !=0&&(decide (i+1=s.length)||(el s (i+1)).1 !=(el s i).1))=ZH0 s i:=rfl;have g1:=ZcL s i;have g2:=ZcL s (i+1);simp only[Zkf,RT.val,d,r1,w,g1,g2,e1,e3,e4,hle,Ya,Ye,Yi,Yh];cases ZH0 s i<;>simp
    ·cases ZH0 s i<;>simp only[Ya,Yc,YZ,Yd,List.length_singleton]<;>omega
    ·rw[Yp,<-hst,hd]
   ·right;left;have d:decide ((i:Int)<(s.length:Int))=false:=by simpa using hlt
    have e:s.drop i=[]:=Y4 (by omega);rw[e] at hd;simp only[dd,YZ] at hd;subst hd
    exact⟨_,by simp only[Zkf,RT.val,d,Yc],rfl,i,rfl⟩)
  (iN s.length,0,s,[],()) ⟨0,[],Yt _,by simp,by simp,rfl⟩ (by simp only[iN,Le];omega)
 obtain⟨r1,r2⟩:=r;simp only at h2 hR;subst h2 hR;have hb:Nat.ble l.length most=true:=by rw[YF];exact hl
 have hv:(ZCr l).val=some (normX l):=by simp only[ZCr,RT.val,hb,h1.1,h1.2,hr,okB,getO,Ya];rw[<-hs,ZPJ]
 exact⟨by simp only[ZCs,hv];rfl,by simp only[ZXj,hv,getO]⟩
abbrev BR:R:=R.int u8
theorem get_d (l:List Int) (i:Nat):R.get BR l (i:Int)=l.getD i 0:=by simp[R.get,R.Df]
def Zrz (t:Int) (b:List Int) (n:Nat):List Cell:=(List.range n).map λi:Nat=>(IntKind.wrap .u16 (t+IntKind.wrap .u16 (i:Int)),b.getD i 0)
theorem ZP1 (t:Int) (b:List Int) (n:Nat):Zrz t b (n+1)=Zrz t b n++[(IntKind.wrap .u16 (t+IntKind.wrap .u16 (n:Int)),b.getD n 0)]:=by simp[Zrz,List.range_succ]
theorem Zry (t:Int) (b:List Int) (n:Nat):(Zrz t b n).length=n:=by simp[Zrz]
def Zss (t:Int) (b:List Int):List Cell:=normX (Zrz t b b.length)
theorem ZSs (a b:List Cell) (ha:a.length<=most):ZEm a b=true/\ZSP a b=decide (a=b):=by
 have hms:=mst;have hv:(ZiR a b).val=some (decide (a=b)):=by
  by_cases hl:a.length=b.length
  ·have hn:(iN a.length !=iN b.length)=false:=by simp[iN,Le,hl]
   obtain⟨r,hr,hR⟩:=ZM (fl:=true) (t:=ZfO) (fuel:=λ_=>1000000000000)
    (λx=>∃i:Nat,i<=a.length/\(∀k,k<i->el a k=el b k)/\x=(a,b,false,(a.length:Int),(i:Int),()))
    (λx=>Int.toNat (x.2.2.2.1-x.2.2.2.2.1)) (λr=>(r.1=false/\a=b)\/(r.1=true/\a≠b/\r.2.2.2.1=false))
    (by
     rintro x ⟨i,hi,hk,rfl⟩;by_cases hlt:i<a.length
     ·have d:decide ((i:Int)<(a.length:Int))=true:=by simpa using hlt
      have r1:=Zax a i hlt;have r2:=Zax b i (by omega);have g1:=ZcL a i;have g2:=ZcL b i;by_cases he:el a i=el b i
      ·left;refine⟨(a,b,false,(a.length:Int),((i+1:Nat):Int),()),?_,⟨i+1,hlt,λk hk'=> ?_,rfl⟩,by simp only;omega⟩
       ·simp only[ZfO,RT.val,d,r1,r2,g1,g2,he,Yav,YV,Ye,Yh,Ya,Yc,Zim i (by omega)]
       ·by_cases e:k=i
        ·subst e;exact he
        ·exact hk k (by omega)
      ·right;right;have hne:((el a i).1==(el b i).1&&((el a i).2==(el b i).2&&true))=false:=by rw[YD];intro h;simp only[Yb,Yat,and_true] at h;exact he (Prod.ext h.1 h.2)
       refine⟨(a,b,false,(a.length:Int),(i:Int),()),rfl,?_,.inr ⟨rfl,λh=>he (by rw[h]),rfl⟩⟩;simp only[ZfO,RT.val,d,r1,r2,g1,g2,hne,Ye,Yl,Yh,Ya]
     ·right;left;have d:decide ((i:Int)<(a.length:Int))=false:=by simpa using hlt
      refine⟨_,by simp only[ZfO,RT.val,d,Yc];rfl,.inl ⟨rfl,List.ext_getElem? λk=> ?_⟩⟩;by_cases hk':k<a.length
      ·rw[Zc1 a k hk',Zc1 b k (by omega),hk k (by omega)]
      ·rw[YR (by omega),YR (by omega)])
    (a,b,false,iN a.length,0,()) ⟨0,Yt _,λk h=>by omega,rfl⟩ (by simp only[iN,Le];omega)
   rcases hR with ⟨h1,h2⟩|⟨h1,h2,h3⟩
   ·have hd:decide (a=b)=true:=YA h2;simp only[ZiR,RT.val,hn,hr,okB,getO,Ya,Yc,h1,hd]
   ·have hd:decide (a=b)=false:=Y6 h2;simp only[ZiR,RT.val,hn,hr,okB,getO,Ya,Yc,h1,h3,hd]
  ·have hn:(iN a.length !=iN b.length)=true:=by simp only[iN,Le,bne_iff_ne,ne_eq];omega
   have hne:a≠b:=λh=>hl (by rw[h])
   simp only[ZiR,RT.val,hn,Ya,hne,decide_false]
 exact⟨by simp only[ZEm,hv];rfl,by simp only[ZSP,hv,getO]⟩
theorem ZCg (m:List Cell) (hm:m.length<=most):ZyO m=true/\Zrr m=vldB m:=by have h:=ZPU m hm;exact⟨by simp only[ZyO,h];rfl,by simp only[Zrr,h,getO]⟩
theorem ZSo (m:List Cell) (hm:m.length<=most):Zk6 m=true/\Zox m=vldB m:=by have h:=Ztf m hm;exact⟨by simp only[Zk6,h];rfl,by simp only[Zox,h,getO]⟩
theorem Z4T (m:List Cell) (t:Int) (hm:m.length<=most):ZKi m t=true/\ZZ1 m t=getX m t:=by have h:=ZZu m t hm;exact⟨by simp only[ZKi,h];rfl,by simp only[ZZ1,h,getO]⟩
abbrev GR:R:=R.Pq Kb (R.Pq Kb (R.Pq R.bool Kc))
def hitB (t:Int) (r:Z9):Bool:=decide (r.1<=t)&&decide (t<=r.2.1)
def Zbm (l:List Z9) (t:Int):Int:=if l.findIdx (hitB t)<l.length then (l.findIdx (hitB t):Int) else-1
def rg (l:List Z9) (i:Nat):Z9:=l.getD i (0,0,false,0)
theorem Z3U (l:List Z9) (i:Nat):R.get GR l (i:Int)=rg l i:=by simp[R.get,R.Df,rg]
theorem ZAo (l:List Z9) (i:Nat) (h:i<l.length):l[i]=rg l i:=by simp[rg,h]
theorem Z67 {l:List Z9} (hi:i<l.length) (h:hitB t (rg l i)=true) (hk:∀k,k<i->hitB t (rg l k)=false):Zbm l t=i:=by have:l.findIdx (hitB t)=i:=(List.findIdx_eq hi).2 ⟨by rw[ZAo l i hi];exact h,λj hj=>by rw[ZAo l j (by omega)];exact hk j hj⟩;simp only[Zbm,this,hi,if_true]
theorem Z66 {l:List Z9} (hk:∀k,k<l.length->hitB t (rg l k)=false):Zbm l t= -1:=by
 have:¬l.findIdx (hitB t)<l.length:=by rw[List.findIdx_lt_length];rintro⟨x,hx,hp⟩;obtain⟨i,hi,rfl⟩:=YaJ.1 hx;rw[ZAo l i hi,hk i hi] at hp;exact absurd hp (by simp)
 simp only[Zbm,this,if_false]
theorem Zju (l:List Z9) (t:Int) (hl:l.length<=most):Zpv l t=true/\Zlc l t=Zbm l t:=by
 have hms:=mst;obtain⟨r,hr,hR⟩:=ZM (fl:=true) (t:=Zh5) (fuel:=λ_=>1000000000000)
  (λx=>∃i:Nat,i<=l.length/\(∀k,k<i->hitB t (rg l k)=false)/\x=(t,0,l,(l.length:Int),(i:Int),()))
  (λx=>Int.toNat (x.2.2.2.1-x.2.2.2.2.1)) (λr=>(r.1=false/\Zbm l t= -1)\/(r.1=true/\r.2.2.1=Zbm l t))
  (by
   rintro x ⟨i,hi,hk,rfl⟩;by_cases hlt:i<l.length
   ·have d:decide ((i:Int)<(l.length:Int))=true:=by simpa using hlt
    have r1:=Zax l i hlt;have g1:=Z3U l i;cases hh:hitB t (rg l i) with
    |false=>
     left;refine⟨(t,0,l,(l.length:Int),((i+1:Nat):Int),()),?_,⟨i+1,hlt,λk hk'=> ?_,rfl⟩,by simp only;omega⟩
     ·simp only[hitB] at hh;simp only[Zh5,RT.val,d,r1,g1,hh,Ya,Yc,Zim i (by omega)]
     ·by_cases e:k=i
      ·subst e;exact hh
      ·exact hk k (by omega)
    |true=>
     right;right;refine⟨(t,(i:Int),l,(l.length:Int),(i:Int),()),rfl,?_,.inr ⟨rfl,(Z67 hlt hh hk).symm⟩⟩;simp only[hitB] at hh;simp only[Zh5,RT.val,d,r1,g1,hh,Ya]
   ·right;left;have d:decide ((i:Int)<(l.length:Int))=false:=by simpa using hlt
    exact⟨_,by simp only[Zh5,RT.val,d,Yc];rfl,.inl ⟨rfl,Z66 λk h=>hk k (by omega)⟩⟩)
  (t,0,l,iN l.length,0,()) ⟨0,Yt _,λk h=>by omega,rfl⟩ (by simp only[iN,Le];omega)
 have hv:(Zpu l t).val=some (Zbm l t):=by
  rcases hR with ⟨h1,h2⟩|⟨h1,h2⟩
  ·simp only[Zpu,RT.val,hr,okB,getO,Ya,h1,Yc,h2]
  ·simp only[Zpu,RT.val,hr,okB,getO,Ya,h1,h2]
 exact⟨by simp only[Zpv,hv];rfl,by simp only[Zlc,hv,getO]⟩
theorem ZpP (l:List Z9) (t:Int) (hl:l.length<=most):ZBQ l t=true/\Zso l t=Zbm l t:=by have h:=Zju l t hl;have e:ZLq l t=Zpu l t:=rfl;simp only[Zpv,Zlc,<-e] at h;exact h
def ZfM (l:List Z9) (m:List Cell) (t:Int):Int:=bif decide (Zbm l t<0) then 255 else getX m t
theorem ZSt (l:List Z9) (m:List Cell) (t:Int) (hl:l.length<=most) (hm:m.length<=most):ZEq l m t=true/\ZSX l m t=ZfM l m t:=by
 have h1:=Zju l t hl;have h2:=Z4T m t hm;have hv:(ZoF l m t).val=some (ZfM l m t):=by simp only[ZoF,RT.val,h1.1,h1.2,h2.1,h2.2,Ya,ZfM];cases decide (Zbm l t<0)<;>rfl
 exact⟨by simp only[ZEq,hv];rfl,by simp only[ZSX,hv,getO]⟩
