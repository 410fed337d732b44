import Derived.Test.YtpnjbfjomebppaaGreatCloneC
open Go.Proofs.Tryz (prog)
open Go.IntKind (u8 u16 i64)
set_option linter.unusedSimpArgs false
open Go Go.S3 Go.Proofs
set_option linter.unusedVariables false
set_option maxRecDepth 100000
namespace Go.Proofs.YtpnjbfjomebppaaGreat
noncomputable section
abbrev ZJY:List Sh:=[]
def Zv6 (s:List (Int×Int)):RT (Option (List (Int×Int))):=
 .br (Zm2 (Stg.l (ZdJ ZcR Zsc s)) (iN (Le (Stg.l (ZdJ ZcR Zsc s))))) (Ls (Cells.isort (Stg.l (ZdJ ZcR Zsc s)))) Ln
def ZzJ (s:List (Int×Int)):List (Int×Int):=getO [] (Zv6 s).val
def ZDG (s:List (Int×Int)):Bool:=okB (Zv6 s).val
def ZJZ:En:=stE ZcR Zsc 160 ZJY (λa=>some (ZDG a.1)) (λa=>ZzJ a.1)
theorem ZDF:Zb prog 159 ZJZ:=
 Zm3 (P:=prog) (n:=15) (k:=8) (l:=[(234,ZJX),(160,ZbV)]) (ol:=[]) ⟨ZJW,ZaC,Tv⟩ Tryz.func159 rfl (by kernel_rfl) Tryz.call159 trivial (r:=ZcR) (T:=Zsc) (g0:=160) (ts:=ZJY) (t:=λa=>Zv6 a.1) (λa=>by kernel_rfl)
abbrev ZCN:List Sh:=[So rcCE]
abbrev Zu9:Rs:=Rs.one (So rcCE)
def ZSG:LS:={n:=45,Sl:=[(3,.tip 0),(4,.tip 1),(11,.tip 0),(12,.code (So Kc)),(13,.code (So Kc))],Bx:=[],Sg:=[⟨R.Pq Kb Ka,75,true⟩,⟨(R.Pq Kb Ka),75,true⟩]}
def ZjB (a:QT32):RT (Option (Go1 (QT32))):=
 let x1:=(R.get (R.Pq Kb Ka) a.2.2.1 a.2.1).2 !=0
 let x2:=i64.wrap (a.2.1+1)==iN (Le a.2.2.1)
 let x3:= !x1||(x2||Zf (i64.wrap (a.2.1+1)) (Le a.2.2.1))
 let x4:=x1&&(x2||(R.get (R.Pq Kb Ka) a.2.2.1 (i64.wrap (a.2.1+1))).1 !=(R.get (R.Pq Kb Ka) a.2.2.1 a.2.1).1)
 let x5:List (Int×Int):=a.2.2.2.1++[R.get (R.Pq Kb Ka) a.2.2.1 a.2.1]
 .br (decide (a.2.1<a.1)) (.br (!Zf a.2.1 (Le a.2.2.1)||(!x3||(!x4||Nat.ble (Le x5) most))) (.br (!Zf a.2.1 (Le a.2.2.1)||x3) (.br (Zf a.2.1 (Le a.2.2.1)) (Ls (Go1.cont (a.1,i64.wrap (a.2.1+1),a.2.2.1,bif x4 then x5 else a.2.2.2.1,PUnit.unit))) Ln) Ln) Ln) (Ls (Go1.brk (a.1,a.2.1,a.2.2.1,a.2.2.2.1,PUnit.unit)))
def ZF4:Ora:=ZaY false ZSG ZjB (λa=>(a.1-a.2.1).toNat+1)
theorem ZIK:ZaB (envX prog [(98,Zvx),(159,ZJZ),(160,ZbV)] [] 127 8) (.block 0 (.loop (ZX Tryz.f90.body 0))) ZF4:=
 loopP ⟨Zp3,ZDF,ZaC,Tv⟩
def ZyJ (l:List (Int×Int)):RT (Option (List (Int×Int))):=
 let x1:=runF false ZjB (λa=>Int.toNat (a.1-a.2.1)+1) (iN (Le (ZzJ l)),0,ZzJ l,[],())
 .br (Nat.ble (Le l) most) (.br (ZDG l) (.br (okB x1) (Ls (getO (false,iN (Le (ZzJ l)),0,ZzJ l,[],()) x1).2.2.2.2.1) Ln) Ln) Ln
def ZOK (l:List (Int×Int)):List (Int×Int):=getO Zu9.Df (ZyJ l).val
def ZyK (l:List (Int×Int)):Bool:=okB (ZyJ l).val
def ZOJ:En:=Zi ZCN Zu9 (λa=>some (ZyK a)) (λa=>ZOK a)
theorem Zu8:Zb prog 90 ZOJ:=
 pureP 127 [(98,Zvx),(159,ZJZ),(160,ZbV)] [(0,ZF4)] _ _ ⟨Zp3,ZDF,ZaC,Tv⟩ Tryz.func90 Tryz.call90 ⟨ZIK,Tv⟩
abbrev Zmq:Rs:=Rs.one (So R.bool)
def ZOD:LS:={n:=31,Sl:=[(0,.code (So rcCE)),(2,.code (So R.bool)),(5,.code (So rcCE)),(6,.code (So Kc)),(7,.code (So Kc))],Bx:=[],Sg:=[]}
def Zew (a:List (Int×Int)×Bool×List (Int×Int)×Int×Int×PUnit):RT (Option (Go1 (List (Int×Int)×Bool×List (Int×Int)×Int×Int×PUnit))):=
 let x1:Int×Int:=R.get (R.Pq Kb Ka) a.2.2.1 a.2.2.2.2.1
 let x2:=x1.2==0
 let x3:List (Int×Int)×Int×Int×PUnit:=(a.2.2.1,a.2.2.2.1,a.2.2.2.2.1,PUnit.unit)
 .br (decide (a.2.2.2.2.1<a.2.2.2.1)) (.br (!Zf a.2.2.2.2.1 (Le a.2.2.1)||(x2||(!decide (a.2.2.2.2.1>0)||Zf (i64.wrap (a.2.2.2.2.1-1)) (Le a.1)))) (.br (Zf a.2.2.2.2.1 (Le a.2.2.1)) (.br (x2||decide (a.2.2.2.2.1>0)&&decide (x1.1<=(R.get (R.Pq Kb Ka) a.1 (i64.wrap (a.2.2.2.2.1-1))).1)) (Ls (Go1.ret (a.1,false,x3))) (Ls (Go1.cont (a.1,a.2.1,a.2.2.1,a.2.2.2.1,i64.wrap (a.2.2.2.2.1+1),PUnit.unit)))) Ln) Ln) (Ls (Go1.brk (a.1,a.2.1,x3)))
def ZyI:Ora:=ZaY true ZOD Zew (λa=>1000000000000)
theorem ZCM:ZaB (envX prog [] [] 31 8) (.block 0 (.loop (ZX Tryz.f103.body 0))) ZyI:=
 loopP trivial
def ZkP (m:List (Int×Int)):RT (Option (Bool)):=
 let x1:=runF true Zew (λa=>1000000000000) (m,false,m,iN (Le m),0,())
 let x2:=getO (false,m,false,m,iN (Le m),0,()) x1
 .br (okB x1) (.br x2.1 (Ls x2.2.2.1) (Ls (true))) Ln
def Zpk (m:List (Int×Int)):Bool:=getO Zmq.Df (ZkP m).val
def Zu4 (m:List (Int×Int)):Bool:=okB (ZkP m).val
def ZOE:En:=Zi ZCN Zmq (λa=>some (Zu4 a)) (λa=>Zpk a)
theorem ZyH:Zb prog 103 ZOE:=
 pureP 31 [] [(0,ZyI)] _ _ trivial Tryz.func103 Tryz.call103 ⟨ZCM,Tv⟩
def ZK7:LS:={n:=34,Sl:=[(0,.code (So rcCE)),(2,.code (So R.bool)),(5,.code (So Kc)),(6,.code (So Kc))],Bx:=[],Sg:=[]}
def Zel (a:List (Int×Int)×Bool×Int×Int×PUnit):RT (Option (Go1 (List (Int×Int)×Bool×Int×Int×PUnit))):=
 let x1:=(R.get (R.Pq Kb Ka) a.1 a.2.2.2.1).2==0
 let x2:= !Zf a.2.2.2.1 (Le a.1)||(x1||(!decide (a.2.2.2.1>0)||(!Zf a.2.2.2.1 (Le a.1)||Zf (i64.wrap (a.2.2.2.1-1)) (Le a.1))))
 let x3:= !x2
 let x4:= !Zf a.2.2.2.1 (Le a.1)||(x1||(!decide (a.2.2.2.1>0)||Zf a.2.2.2.1 (Le a.1)))
 .br (decide (a.2.2.2.1<a.2.2.1)) (.br (x3||(!x4||Zf a.2.2.2.1 (Le a.1))) (.br (x3||x4) (.br (x2) (.br (x1||decide (a.2.2.2.1>0)&&decide ((R.get (R.Pq Kb Ka) a.1 a.2.2.2.1).1<=(R.get (R.Pq Kb Ka) a.1 (i64.wrap (a.2.2.2.1-1))).1)) (Ls (Go1.ret (a.1,false,a.2.2.1,a.2.2.2.1,PUnit.unit))) (Ls (Go1.cont (a.1,a.2.1,a.2.2.1,i64.wrap (a.2.2.2.1+1),PUnit.unit)))) Ln) Ln) Ln) (Ls (Go1.brk (a.1,a.2.1,a.2.2.1,a.2.2.2.1,PUnit.unit)))
def ZwE:Ora:=ZaY true ZK7 Zel (λa=>1000000000000)
theorem ZAd:ZaB (envX prog [] [] 15 8) (.block 0 (.loop (ZX Tryz.f105.body 0))) ZwE:=
 loopP trivial
def Zkq (m:List (Int×Int)):RT (Option (Bool)):=
 let x1:=runF true Zel (λa=>1000000000000) (m,false,iN (Le m),0,())
 let x2:=getO (false,m,false,iN (Le m),0,()) x1
 .br (okB x1) (.br x2.1 (Ls x2.2.2.1) (Ls (true))) Ln
def Znl (m:List (Int×Int)):Bool:=getO Zmq.Df (Zkq m).val
def Zkr (m:List (Int×Int)):Bool:=okB (Zkq m).val
def ZAe:En:=Zi ZCN Zmq (λa=>some (Zkr a)) (λa=>Znl a)
theorem Znk:Zb prog 105 ZAe:=
 pureP 15 [] [(0,ZwE)] _ _ trivial Tryz.func105 Tryz.call105 ⟨ZAd,Tv⟩
abbrev ZAr:List Sh:=[So rcCE,So Kb]
abbrev ZsZ:Rs:=Rs.one (So Ka)
def ZRr:LS:={n:=25,Sl:=[(0,.code (So rcCE)),(1,.code (So Kb)),(4,.code (So Ka)),(5,.code (So Kc))],Bx:=[],Sg:=[]}
def Zhu (a:List (Int×Int)×Int×Int×Int×PUnit):RT (Option (Go1 (List (Int×Int)×Int×Int×Int×PUnit))):=
 let x1:=(R.get (R.Pq Kb Ka) a.1 a.2.2.2.1).1==a.2.1
 .br (decide (a.2.2.2.1>=0)) (.br (!Zf a.2.2.2.1 (Le a.1)||(!x1||Zf a.2.2.2.1 (Le a.1))) (.br (Zf a.2.2.2.1 (Le a.1)) (.br (x1) (Ls (Go1.ret (a.1,a.2.1,(R.get (R.Pq Kb Ka) a.1 a.2.2.2.1).2,a.2.2.2.1,PUnit.unit))) (Ls (Go1.cont (a.1,a.2.1,a.2.2.1,i64.wrap (a.2.2.2.1-1),PUnit.unit)))) Ln) Ln) (Ls (Go1.brk (a.1,a.2.1,a.2.2.1,a.2.2.2.1,PUnit.unit)))
def ZEB:Ora:=ZaY true ZRr Zhu (λa=>1000000000000)
theorem ZG8:ZaB (envX prog [] [] 63 8) (.block 0 (.loop (ZX Tryz.f60.body 0))) ZEB:=
 loopP trivial
def Zq8 (m:List (Int×Int)) (t:Int):RT (Option (Int)):=
 let x1:List (Int×Int)×Int×Int×Int×PUnit:=(m,t,0,i64.wrap (iN (Le m)-1),())
 let x2:=runF true Zhu (λa=>1000000000000) x1
 let x3:=getO (false,x1) x2
 .br (okB x2) (.br x3.1 (Ls x3.2.2.2.1) (Ls (0))) Ln
def ZVX (m:List (Int×Int)) (t:Int):Int:=getO ZsZ.Df (Zq8 m t).val
def ZLs (m:List (Int×Int)) (t:Int):Bool:=okB (Zq8 m t).val
def ZYH:En:=Zi ZAr ZsZ (λa=>some (ZLs a.1 a.2)) (λa=>ZVX a.1 a.2)
theorem ZRq:Zb prog 60 ZYH:=
 pureP 63 [] [(0,ZEB)] _ _ trivial Tryz.func60 Tryz.call60 ⟨ZG8,Tv⟩
abbrev ZLh:List Sh:=[So rcCE,Sh.agg (R.Pq Kb Ka)]
def ZRk:LS:={n:=53,Sl:=[(3,.fix (A.loc 0 0)),(5,.tip 0),(6,.code (So R.bool)),(9,.code (So rcCE)),(10,.code (So Kc)),(11,.code (So Kc))],Bx:=[[.many (R.Pq Kb Ka)]],Sg:=[⟨(R.Pq Kb Ka),75,true⟩]}
def Zi2 (a:QT9):RT (Option (Go1 (QT9))):=
 let x1:Int×Int:=R.get (R.Pq Kb Ka) a.2.1 a.2.2.2.1
 let x2:=x1.1
 let x3:= !a.1&&decide (x2>=a.2.2.2.2.1.1)
 let x4:List (Int×Int):=a.2.2.2.2.2.1++[a.2.2.2.2.1]
 let x5:= !x3||(!a.2.2.2.2.1.2 !=0||Nat.ble (Le x4) most)
 let x6:=x2 !=a.2.2.2.2.1.1
 let x7:List (Int×Int):=bif x3 then bif a.2.2.2.2.1.2 !=0 then x4 else a.2.2.2.2.2.1 else a.2.2.2.2.2.1
 let x8:List (Int×Int):=x7++[x1]
 .br (decide (a.2.2.2.1<a.2.2.1)) (.br (!Zf a.2.2.2.1 (Le a.2.1)||(!x5||(!x6||Nat.ble (Le x8) most))) (.br (!Zf a.2.2.2.1 (Le a.2.1)||x5) (.br (Zf a.2.2.2.1 (Le a.2.1)) (Ls (Go1.cont (x3||a.1,a.2.1,a.2.2.1,i64.wrap (a.2.2.2.1+1),a.2.2.2.2.1,bif x6 then x8 else x7,PUnit.unit))) Ln) Ln) Ln) (Ls (Go1.brk (a.1,a.2.1,a.2.2.1,a.2.2.2.1,a.2.2.2.2.1,a.2.2.2.2.2.1,PUnit.unit)))
def ZEo:Ora:=ZaY false ZRk Zi2 (λa=>1000000000000)
theorem ZG4:ZaB (envX prog [] [] 511 8) (.block 0 (.loop (ZX Tryz.f165.body 0))) ZEo:=
 loopP trivial
def Zq4 (m:List (Int×Int)) (c:Int×Int):RT (Option (List (Int×Int))):=
 let x1:QT9:=(false,m,iN (Le m),0,c,[],())
 let x2:=runF false Zi2 (λa=>1000000000000) x1
 let x3:QT9:=(getO (false,x1) x2).2
 let x4:=x3.2.2.2.2
 let x5:=x4.1
 let x6:= !x3.1&&x5.2 !=0
 let x7:=x4.2.1
 let x8:List (Int×Int):=x7++[x5]
 .br (okB x2) (.br (!x6||Nat.ble (Le x8) most) (Ls (bif x6 then x8 else x7)) Ln) Ln
def ZLj (m:List (Int×Int)) (c:Int×Int):List (Int×Int):=getO Zu9.Df (Zq4 m c).val
def ZwH (m:List (Int×Int)) (c:Int×Int):Bool:=okB (Zq4 m c).val
def ZLi:En:=Zi ZLh Zu9 (λa=>some (ZwH a.1 a.2)) (λa=>ZLj a.1 a.2)
theorem ZEn:Zb prog 165 ZLi:=
 pureP 511 [] [(0,ZEo)] _ _ trivial Tryz.func165 Tryz.call165 ⟨ZG4,Tv⟩
def ZRo:LS:={n:=21,Sl:=[(3,.code (So rcCE)),(10,.code (So rcCE)),(11,.code (So Kc)),(12,.code (So Kc))],Bx:=[],Sg:=[]}
def Zi3 (a:List (Int×Int)×List (Int×Int)×Int×Int×PUnit):RT (Option (Go1 (List (Int×Int)×List (Int×Int)×Int×Int×PUnit))):=
 let x1:Int×Int:=R.get (R.Pq Kb Ka) a.2.1 a.2.2.2.1
 .br (decide (a.2.2.2.1<a.2.2.1)) (.br (!Zf a.2.2.2.1 (Le a.2.1)||ZwH a.1 x1) (.br (Zf a.2.2.2.1 (Le a.2.1)) (Ls (Go1.cont (ZLj a.1 x1,a.2.1,a.2.2.1,i64.wrap (a.2.2.2.1+1),PUnit.unit))) Ln) Ln) (Ls (Go1.brk (a.1,a.2.1,a.2.2.1,a.2.2.2.1,PUnit.unit)))
def ZEq:Ora:=ZaY false ZRo Zi3 (λa=>1000000000000)
theorem ZG6:ZaB (envX prog [(105,ZAe),(165,ZLi)] [] 63 8) (.block 0 (.loop (ZX Tryz.f93.body 0))) ZEq:=
 loopP ⟨Znk,ZEn,Tv⟩
def Zq5 (l:List (Int×Int)):RT (Option (List (Int×Int))):=
 let x1:=runF false Zi3 (λa=>1000000000000) ([],l,iN (Le l),0,())
 .br (Zkr l) (.br (!Znl l||Nat.ble (Le ([]++l)) most) (.br (Znl l) (Ls ([]++l)) (.br (okB x1) (Ls (getO (false,[],l,iN (Le l),0,()) x1).2.1) Ln)) Ln) Ln
def ZVW (l:List (Int×Int)):List (Int×Int):=getO Zu9.Df (Zq5 l).val
def ZLn (l:List (Int×Int)):Bool:=okB (Zq5 l).val
def ZYC:En:=Zi ZCN Zu9 (λa=>some (ZLn a)) (λa=>ZVW a)
theorem ZRn:Zb prog 93 ZYC:=
 pureP 63 [(105,ZAe),(165,ZLi)] [(0,ZEq)] _ _ ⟨Znk,ZEn,Tv⟩ Tryz.func93 Tryz.call93 ⟨ZG6,Tv⟩
abbrev ZsQ:List Sh:=[So rcCE,So rcCE]
def ZLb:LS:={n:=26,Sl:=[(0,.code (So rcCE)),(1,.code (So rcCE)),(4,.code (So R.bool)),(12,.code (So Kc)),(13,.code (So Kc))],Bx:=[],Sg:=[]}
def Zfi (a:List (Int×Int)×List (Int×Int)×Bool×Int×Int×PUnit):RT (Option (Go1 (List (Int×Int)×List (Int×Int)×Bool×Int×Int×PUnit))):=
 let x1:= !Zf a.2.2.2.2.1 (Le a.1)||Zf a.2.2.2.2.1 (Le a.2.1)
 let x2:Int×Int:=R.get (R.Pq Kb Ka) a.1 a.2.2.2.2.1
 let x3:Int×Int:=R.get (R.Pq Kb Ka) a.2.1 a.2.2.2.2.1
 let x4:Int×Int×PUnit:=(a.2.2.2.1,a.2.2.2.2.1,PUnit.unit)
 .br (decide (a.2.2.2.2.1<a.2.2.2.1)) (.br (!x1||Zf a.2.2.2.2.1 (Le a.1)) (.br (x1) (.br (!(x2.1==x3.1&&(x2.2==x3.2&&true))) (Ls (Go1.ret (a.1,a.2.1,false,x4))) (Ls (Go1.cont (a.1,a.2.1,a.2.2.1,a.2.2.2.1,i64.wrap (a.2.2.2.2.1+1),PUnit.unit)))) Ln) Ln) (Ls (Go1.brk (a.1,a.2.1,a.2.2.1,x4)))
def ZwG:Ora:=ZaY true ZLb Zfi (λa=>1000000000000)
theorem ZAg:ZaB (envX prog [] [] 63 8) (.block 0 (.loop (ZX Tryz.f34.body 0))) ZwG:=
 loopP trivial
def Zil (a:List (Int×Int)) (b:List (Int×Int)):RT (Option (Bool)):=
 let x1:=runF true Zfi (λa_1=>1000000000000) (a,b,false,iN (Le a),0,())
 let x2:=getO (false,a,b,false,iN (Le a),0,()) x1
 .br (iN (Le a) !=iN (Le b)) (Ls (false)) (.br (okB x1) (.br x2.1 (Ls x2.2.2.2.1) (Ls (true))) Ln)
def ZLc (a:List (Int×Int)) (b:List (Int×Int)):Bool:=getO Zmq.Df (Zil a b).val
def ZAh (a:List (Int×Int)) (b:List (Int×Int)):Bool:=okB (Zil a b).val
def ZVP:En:=Zi ZsQ Zmq (λa=>some (ZAh a.1 a.2)) (λa=>ZLc a.1 a.2)
theorem ZLa:Zb prog 34 ZVP:=
 pureP 63 [] [(0,ZwG)] _ _ trivial Tryz.func34 Tryz.call34 ⟨ZAg,Tv⟩
def Zi4 (a:QT20):RT (Option (Go1 (QT20))):=
 let x1:QT4:=R.get (R.Pq Kb (R.Pq Kb (R.Pq R.bool Kc))) a.2.2.1 a.2.2.2.2.1
 let x2:List (QT4)×Int×Int×PUnit:=(a.2.2.1,a.2.2.2.1,a.2.2.2.2.1,PUnit.unit)
 .br (decide (a.2.2.2.2.1<a.2.2.2.1)) (.br (Zf a.2.2.2.2.1 (Le a.2.2.1)) (.br (decide (x1.1<=a.1)&&decide (a.1<=x1.2.1)) (Ls (Go1.ret (a.1,a.2.2.2.2.1,x2))) (Ls (Go1.cont (a.1,a.2.1,a.2.2.1,a.2.2.2.1,i64.wrap (a.2.2.2.2.1+1),PUnit.unit)))) Ln) (Ls (Go1.brk (a.1,a.2.1,x2)))
def Zq9 (l:List (QT4)) (t:Int):RT (Option (Int)):=
 let x1:=runF true Zi4 (λa=>1000000000000) (t,0,l,iN (Le l),0,())
 let x2:=getO (false,t,0,l,iN (Le l),0,()) x1
 .br (okB x1) (.br x2.1 (Ls x2.2.2.1) (Ls (-1))) Ln
def ZVZ (l:List (QT4)) (t:Int):Int:=getO ZTH.Df (Zq9 l t).val
def ZLx (l:List (QT4)) (t:Int):Bool:=okB (Zq9 l t).val
abbrev ZNA:List Sh:=[So rcRG,So Kb]
def ZSh:LS:={n:=26,Sl:=[(1,.code (So Kb)),(4,.code (So Kc)),(7,.code (So rcRG)),(8,.code (So Kc)),(9,.code (So Kc))],Bx:=[],Sg:=[]}
def ZFy (a:QT20):RT (Option (Go1 (QT20))):=
 let x1:QT4:=R.get (R.Pq Kb (R.Pq Kb (R.Pq R.bool Kc))) a.2.2.1 a.2.2.2.2.1
 let x2:List (QT4)×Int×Int×PUnit:=(a.2.2.1,a.2.2.2.1,a.2.2.2.2.1,PUnit.unit)
 .br (decide (a.2.2.2.2.1<a.2.2.2.1)) (.br (Zf a.2.2.2.2.1 (Le a.2.2.1)) (.br (decide (x1.1<=a.1)&&decide (a.1<=x1.2.1)) (Ls (Go1.ret (a.1,a.2.2.2.2.1,x2))) (Ls (Go1.cont (a.1,a.2.1,a.2.2.1,a.2.2.2.1,i64.wrap (a.2.2.2.2.1+1),PUnit.unit)))) Ln) (Ls (Go1.brk (a.1,a.2.1,x2)))
def ZFz:Ora:=ZaY true ZSh ZFy (λa=>1000000000000)
theorem ZHL:ZaB (envX prog [] [] 127 8) (.block 0 (.loop (ZX Tryz.f209.body 0))) ZFz:=
 loopP trivial
def ZFx (l:List (QT4)) (t:Int):RT (Option (Int)):=
 let x1:=runF true ZFy (λa=>1000000000000) (t,0,l,iN (Le l),0,())
 let x2:=getO (false,t,0,l,iN (Le l),0,()) x1
 .br (okB x1) (.br x2.1 (Ls x2.2.2.1) (Ls (-1))) Ln
def Zqq (l:List (QT4)) (t:Int):Int:=getO ZTH.Df (ZFx l t).val
def Zx6 (l:List (QT4)) (t:Int):Bool:=okB (ZFx l t).val
def ZFA:En:=Zi ZNA ZTH (λa=>some (Zx6 a.1 a.2)) (λa=>Zqq a.1 a.2)
theorem Zt5:Zb prog 209 ZFA:=
 pureP 127 [] [(0,ZFz)] _ _ trivial Tryz.func209 Tryz.call209 ⟨ZHL,Tv⟩
end
end Go.Proofs.YtpnjbfjomebppaaGreat
namespace Go.Proofs.Cells
def getX (l:List Cell) (a:Int):Int:=((flt a l).getLast?.map Prod.snd).getD 0
def Vld (m:List Cell):Prop:=m.Pairwise (λa b=>a.1<b.1)/\∀c∈m,c.2≠0
variable {l:List Cell}
theorem ZIU {l':List Cell} (h:Sm l l') (a:Int):getX l a=getX l' a:=by rw[getX,getX,h a]
variable {m:List Cell}
theorem Vld.srt (h:Vld m):Srt m:=h.1.imp λh=>Int.le_of_lt h
theorem Vld.tail {c:Cell} (h:Vld (c::m)):Vld m:=⟨(YC.1 h.1).2,λx hx=>h.2 x (YA _ hx)⟩
theorem ZGl (a:Int):getX [] a=0:=rfl
theorem Zmt (a:Int) (c:Cell) (l:List Cell):flt a (c::l)=if c.1=a then c::flt a l else flt a l:=by by_cases h:c.1=a<;>simp[flt,h]
theorem ZeA (c:Cell) (l:List Cell) (a:Int):getX (c::l) a=if c.1=a/\flt a l=[] then c.2 else getX l a:=by
 simp only[getX,Zmt];by_cases h:c.1=a
 ·simp only[h,if_true,true_and];cases hf:flt a l with
  |nil=>simp
  |cons x r=>simp[List.getLast?_cons_cons]
 ·simp[h]
theorem Vld.flt {m:List Cell} (h:Vld m) (a:Int):Cells.flt a m=if getX m a=0 then [] else [(a,getX m a)]:=by
 induction m with
 |nil=>simp[Cells.flt,ZGl]
 |cons c m ih=>
  have ih:=ih h.tail;have h1:=YC.1 h.1;by_cases hc:c.1=a
  ·have hn:Cells.flt a m=[]:=ZeB λx hx=>by have:=h1.1 x hx;omega
   have hz:=h.2 c (by simp);rw[Zmt,ZeA];simp only[hc,hn,and_self,if_true,hz,if_false];rw[<-hc]
  ·rw[Zmt,ZeA];simp only[hc,false_and,if_false,ih]
theorem ZU2 {m':List Cell} (h:Vld m) (h':Vld m') (e:∀a,getX m a=getX m' a):m=m':=
 uniq h.srt h'.srt λk=>by rw[h.flt,h'.flt,e k]
def dd:List Cell->List Cell
 |[]=>[]
 |x::r=>match r with
  |[]=>if x.2=0 then [] else [x]
  |y::_=>if x.1=y.1 then dd r else if x.2=0 then dd r else x::dd r
theorem ZrN:∀{l:List Cell} {c:Cell},c∈dd l->c∈l/\c.2≠0
 |[],c,h=>by simp[dd] at h
 |[x],c,h=>by
  simp only[dd] at h;split at h
  ·simp at h
  ·rename_i hz;simp at h;subst h;exact⟨by simp,hz⟩
 |x::y::r,c,h=>by
  rw[dd] at h;split at h
  ·have:=ZrN h;exact⟨YA _ this.1,this.2⟩
  ·split at h
   ·have:=ZrN h;exact⟨YA _ this.1,this.2⟩
   ·rename_i hz;rcases YD.1 h with e|e
    ·subst e;exact⟨by simp,hz⟩
    ·have:=ZrN e;exact⟨YA _ this.1,this.2⟩
theorem ZUI:∀{l:List Cell},Srt l->Vld (dd l)
 |[],_=>⟨Yal,λc h=>by simp[dd] at h⟩
 |[x],_=>by refine⟨?_,λc h=>(ZrN h).2⟩;simp only[dd];split<;>simp
 |x::y::r,h=>by
  have h1:=YC.1 h;have ih:=ZUI (l:=y::r) h1.2;have h2:=YC.1 h1.2;rw[dd];split
  ·exact ih
  ·rename_i hne;split
   ·exact ih
   ·rename_i hz;refine⟨YC.2 ⟨λc hc=> ?_,ih.1⟩,λc hc=> ?_⟩
    ·have hxy:=h1.1 y (by simp);rcases YD.1 (ZrN hc).1 with e|e
     ·rw[e];omega
     ·have:=h2.1 c e;omega
    ·rcases YD.1 hc with e|e
     ·rw[e];exact hz
     ·exact ih.2 c e
theorem ZUJ:∀{l:List Cell},Srt l->∀a,getX (dd l) a=getX l a
 |[],_,_=>rfl
 |[x],_,a=>by
  simp only[dd];split
  ·rename_i hz;rw[ZeA];simp[flt,getX,hz]
  ·rfl
 |x::y::r,h,a=>by
  have h1:=YC.1 h;have ih:=ZUJ (l:=y::r) h1.2 a;have h2:=YC.1 h1.2;rw[dd,ZeA x (y::r)];by_cases hxy:x.1=y.1
  ·rw[YZ hxy,ih];by_cases hc:x.1=a/\flt a (y::r)=[]
   ·obtain⟨e,e2⟩:=hc;rw[Zmt,YZ (by rw[<-hxy];exact e)] at e2;simp at e2
   ·rw[Y3 hc]
  ·rw[Y3 hxy];have hlt:∀c∈y::r,x.1<c.1:=λc hc=>by
    have:=h1.1 y (by simp);rcases YD.1 hc with e|e
    ·rw[e];omega
    ·have:=h2.1 c e;omega
   by_cases hc:x.1=a
   ·have hn:flt a (y::r)=[]:=ZeB λc hc'=>by have:=hlt c hc';omega
    have hn2:flt a (dd (y::r))=[]:=ZeB λc hc'=>by have:=hlt c (ZrN hc').1;omega
    by_cases hz:x.2=0
    ·rw[YZ hz,YZ ⟨hc,hn⟩,hz,getX,hn2];rfl
    ·rw[Y3 hz,YZ ⟨hc,hn⟩,ZeA,YZ ⟨hc,hn2⟩]
   ·by_cases hz:x.2=0
    ·rw[YZ hz,Y3 (λh=>hc h.1),ih]
    ·rw[Y3 hz,Y3 (λh=>hc h.1),ZeA,Y3 (λh=>hc h.1),ih]
def putX:List Cell->Cell->List Cell
 |[],c=>if c.2=0 then [] else [c]
 |x::r,c=>if x.1<c.1 then x::putX r c else if c.2=0 then (if x.1=c.1 then r else x::r) else if x.1=c.1 then c::r else c::x::r
theorem Zs5:∀{m:List Cell} {c x:Cell},x∈putX m c->x=c\/x∈m
 |[],c,x,h=>by
  simp only[putX] at h;split at h
  ·simp at h
  ·left;simpa using h
 |y::r,c,x,h=>by
  simp only[putX] at h;split at h
  ·rcases YD.1 h with e|e
   ·right;simp[e]
   ·rcases Zs5 e with e|e
    ·exact .inl e
    ·right;simp[e]
  ·split at h
   ·split at h
    ·right;simp[h]
    ·right;exact h
   ·split at h
    ·rcases YD.1 h with e|e
     ·exact .inl e
     ·right;simp[e]
    ·rcases YD.1 h with e|e
     ·exact .inl e
     ·right;exact e
theorem Zs4:∀{m:List Cell} {c:Cell},Vld m->Vld (putX m c)
 |[],c,_=>by
  simp only[putX];split
  ·exact⟨Yal,λc h=>by simp at h⟩
  ·rename_i hz;exact⟨by simp,λx h=>by simp at h;rw[h];exact hz⟩
 |y::r,c,h=>by
  have h1:=YC.1 h.1;have hy:=h.2 y (by simp);simp only[putX];split
  ·rename_i hlt;have ih:=Zs4 (c:=c) h.tail;refine⟨YC.2 ⟨λx hx=> ?_,ih.1⟩,λx hx=> ?_⟩
   ·rcases Zs5 hx with e|e
    ·rw[e];exact hlt
    ·exact h1.1 x e
   ·rcases YD.1 hx with e|e
    ·rw[e];exact hy
    ·exact ih.2 x e
  ·rename_i hge;split
   ·split
    ·exact h.tail
    ·exact h
   ·rename_i hz;split
    ·rename_i he;refine⟨YC.2 ⟨λx hx=> ?_,h1.2⟩,λx hx=> ?_⟩
     ·have:=h1.1 x hx;omega
     ·rcases YD.1 hx with e|e
      ·rw[e];exact hz
      ·exact h.2 x (YA _ e)
    ·rename_i hne;refine⟨YC.2 ⟨λx hx=> ?_,h.1⟩,λx hx=> ?_⟩
     ·rcases YD.1 hx with e|e
      ·rw[e];omega
      ·have:=h1.1 x e;omega
     ·rcases YD.1 hx with e|e
      ·rw[e];exact hz
      ·exact h.2 x e
theorem ZjJ {a:Int} (h:∀c∈l,c.1≠a):getX l a=0:=by rw[getX,ZeB h];rfl
theorem Zef {x:Cell} {r:List Cell} (h:∀c∈r,x.1<c.1) (a:Int):getX (x::r) a=if x.1=a then x.2 else getX r a:=by
 rw[ZeA];by_cases hx:x.1=a
 ·have:flt a r=[]:=ZeB λc hc=>by have:=h c hc;omega
  simp[hx,this]
 ·simp[hx]
theorem ZEG:∀{m:List Cell} {c:Cell},Vld m->∀a,getX (putX m c) a=if c.1=a then c.2 else getX m a
 |[],c,_,a=>by
  simp only[putX];split
  ·rename_i hz;rw[ZGl,hz];simp
  ·rw[Zef (by simp)]
 |y::r,c,h,a=>by
  have h1:=YC.1 h.1;simp only[putX];split
  ·rename_i hlt
   rw[Zef (λx hx=>by
    rcases Zs5 hx with e|e
    ·rw[e];exact hlt
    ·exact h1.1 x e),Zef h1.1,ZEG h.tail a]
   by_cases e1:y.1=a
   ·simp only[e1,if_true];rw[Y3 (by omega)]
   ·simp[e1]
  ·rename_i hge;split
   ·rename_i hz;split
    ·rename_i he;rw[Zef h1.1];by_cases e:c.1=a
     ·rw[YZ e,hz];exact ZjJ λx hx=>by have:=h1.1 x hx;omega
     ·rw[Y3 e,Y3 (by omega)]
    ·rename_i hne;by_cases e:c.1=a
     ·rw[YZ e,hz];exact ZjJ λx hx=>by
       rcases YD.1 hx with e'|e'
       ·rw[e'];omega
       ·have:=h1.1 x e';omega
     ·rw[Y3 e]
   ·split
    ·rename_i he;rw[Zef (λx hx=>by have:=h1.1 x hx;omega),Zef h1.1];by_cases e:c.1=a
     ·simp[e]
     ·rw[Y3 e,Y3 e,Y3 (by omega)]
    ·rename_i hne
     rw[Zef (λx hx=>by
      rcases YD.1 hx with e|e
      ·rw[e];omega
      ·have:=h1.1 x e;omega)]
def normX (l:List Cell):List Cell:=l.foldl putX []
theorem ZPj (l:List Cell) (c:Cell) (a:Int):getX (l++[c]) a=if c.1=a then c.2 else getX l a:=by
 rw[getX,getX,ZdL];by_cases h:c.1=a
 ·have:flt a [c]=[c]:=by simp[flt,h]
  rw[this,List.getLast?_append];simp[h]
 ·have:flt a [c]=[]:=ZeB λx hx=>by simp at hx;rw[hx];exact h
  rw[this];simp[h]
theorem ZpO:∀(l:List Cell) {m:List Cell},Vld m->Vld (l.foldl putX m)/\∀a,getX (l.foldl putX m) a=getX (m++l) a
 |[],m,h=>⟨h,λa=>by simp⟩
 |c::l,m,h=>by
  obtain⟨h1,h2⟩:=ZpO l (Zs4 (c:=c) h);refine⟨h1,λa=> ?_⟩;rw[List.foldl_cons,h2 a];have e:m++c::l=(m++[c])++l:=by simp
  rw[e];have key:∀{p q:List Cell},(∀b,getX p b=getX q b)->∀l b,getX (p++l) b=getX (q++l) b:=by
   intro p q hpq l b;simp only[getX,ZdL,List.getLast?_append];cases hl:(flt b l).getLast? with
   |none=>simpa [getX] using hpq b
   |some x=>simp
  exact key (λb=>by rw[ZEG h,ZPj]) l a
theorem Zfn (l:List Cell):Vld (normX l):=(ZpO l ⟨Yal,λc h=>by simp at h⟩).1
theorem ZOj (l:List Cell) (a:Int):getX (normX l) a=getX l a:=(ZpO l ⟨Yal,λc h=>by simp at h⟩).2 a
theorem ZFN (h:Vld m) (e:∀a,getX m a=getX l a):normX l=m:=ZU2 (Zfn l) h λa=>by rw[ZOj,e]
theorem Zhz (h:Vld m):normX m=m:=ZFN h λ_=>rfl
theorem ZIu (l:List Cell):dd (isort l)=normX l:=
 (ZFN (ZUI (Zb5 l)) λa=>by rw[ZUJ (Zb5 l),ZIU (ZfW l)]).symm
end Go.Proofs.Cells
open Go Go.S3 Go.Proofs Go.Proofs.Cells
namespace Go.Proofs.YtpnjbfjomebppaaGreat
noncomputable section
abbrev ZG:=QT4
theorem Zvo (l:List Cell) (i:Nat) (h:i<l.length):l.drop i=el l i::l.drop (i+1):=by rw[Y6 h];have:=ZcO l i h;rw[Yh h,oinj] at this;rw[this]
theorem ZzO (l:List Cell) (i:Nat) (h:i<l.length):l.take (i+1)=l.take i++[el l i]:=by rw[Yay,ZcO l i h];rfl
theorem ZZD (l:List Cell) (i:Nat) (h:i<l.length):el l i∈l:=List.mem_iff_getElem?.2 ⟨i,ZcO l i h⟩
def okAt (m:List Cell) (i:Nat):Bool:= !((el m i).2==0||(decide ((i:Int)>0)&&decide ((el m i).1<=(el m (i-1)).1)))
def vldB (m:List Cell):Bool:=(List.range m.length).all (okAt m)
variable {m:List Cell} {i:Nat}
theorem Zqx (hi:i<m.length) (h:okAt m i=false):vldB m=false:=by rw[YJ];intro he;have:=YV.1 he i (YaK.2 hi);rw[h] at this;exact absurd this (by simp)
theorem ZmG (h:∀i,i<m.length->okAt m i=true):vldB m=true:=YV.2 λi hi=>h i (YaK.1 hi)
theorem ZiG:vldB m=true↔Vld m:=by
 constructor
 ·intro h;have ha:∀i,i<m.length->okAt m i=true:=λi hi=>YV.1 h i (YaK.2 hi)
  have hs:∀i,i+1<m.length->(el m i).1<(el m (i+1)).1:=λi hi=>by
   have:=ha (i+1) hi;simp only[okAt,YK,Yo,Yah,Y9,Nat.add_sub_cancel] at this;rcases this.2 with e|e
   ·omega
   ·omega
  refine⟨?_,λc hc=> ?_⟩
  ·rw[YaG];have key:∀d i,i+d+1<m.length->(el m i).1<(el m (i+d+1)).1:=by
    intro d
    induction d with
    |zero=>intro i hi;exact hs i hi
    |succ d ih=>intro i hi;have h1:=ih i (by omega);have h2:=hs (i+d+1) (by omega);rw[show i+(d+1)+1=i+d+1+1 by omega];omega
   intro i j hi hj hij;have:=key (j-i-1) i (by omega);rw[show i+(j-i-1)+1=j by omega] at this;have e1:=ZcO m i hi;have e2:=ZcO m j hj;rw[Yh hi,oinj] at e1;rw[Yh hj,oinj] at e2;rw[e1,e2];exact this
  ·obtain⟨i,hi⟩:=List.mem_iff_getElem?.1 hc;have hlt:=(YH.1 hi).1;rw[ZcO m i hlt,oinj] at hi;have:=ha i hlt;rw[<-hi];simp only[okAt,YK,Yo,beq_eq_false_iff_ne] at this;exact this.1
 ·intro h;refine ZmG λi hi=> ?_
  simp only[okAt,YK,Yo,beq_eq_false_iff_ne,Yah,Y9];refine⟨h.2 _ (ZZD m i hi),?_⟩;by_cases h0:i=0
  ·left;omega
  ·right;have:=YaG.1 h.1 (i-1) i (by omega) hi (by omega);have e1:=ZcO m (i-1) (by omega);have e2:=ZcO m i hi;rw[Yh (by omega),oinj] at e1;rw[Yh hi,oinj] at e2;rw[e1,e2] at this;omega
theorem ZX4 (i:Nat) (h:0<i) (h2:i<=4611686018427387904):IntKind.wrap .i64 ((i:Int)-1)=((i-1:Nat):Int):=by rw[wrap_i64 _ (by omega) (by omega)];omega
theorem ZOg (m:List Cell) (i:Nat):((el m i).2==0||(decide ((i:Int)>0)&&decide ((el m i).1<=(el m (i-1)).1)))= !okAt m i:=by simp only[okAt,Bool.not_not]
theorem ZIF (m:List Cell) (hm:m.length<=most):(ZkP m).val=some (vldB m):=by
 have hms:=mst;obtain⟨r,hr,hR⟩:=ZA (fl:=true) (t:=Zew) (fuel:=λa=>1000000000000)
  (I:=λa=>∃i:Nat,i<=m.length/\(∀k,k<i->okAt m k=true)/\a=(m,false,m,(m.length:Int),(i:Int),()))
  (m:=λa=>Int.toNat (a.2.2.2.1-a.2.2.2.2.1)) (R:=λr=>(r.1=false/\vldB m=true)\/(r.1=true/\vldB m=false/\r.2.2.1=false))
  (λa hi=>by
   obtain⟨i,hi,hk,rfl⟩:=hi;by_cases hlt:i<m.length
   ·have d:decide ((i:Int)<(m.length:Int))=true:=by simpa using hlt
    have r1:=ZaG m i hlt;have hw:decide ((i:Int)>0)=true->Zf (IntKind.wrap .i64 ((i:Int)-1)) m.length=true/\IntKind.wrap .i64 ((i:Int)-1)=((i-1:Nat):Int):=λh=>by simp only[Yk] at h;have e:=ZX4 i (by omega) (by omega);exact⟨by rw[e];exact ZaG m (i-1) (by omega),e⟩
    have hck:((el m i).2==0||(!decide ((i:Int)>0)||Zf (IntKind.wrap .i64 ((i:Int)-1)) m.length))=true:=by
     cases h:decide ((i:Int)>0) with
     |false=>simp
     |true=>rw[(hw h).1];simp
    have hcd:((el m i).2==0||(decide ((i:Int)>0)&&decide ((el m i).1<=(R.get CR m (IntKind.wrap .i64 ((i:Int)-1))).1)))= !okAt m i:=by
     rw[<-ZOg];cases h:decide ((i:Int)>0) with
     |false=>simp
     |true=>rw[(hw h).2,ZcB]
    cases ho:okAt m i with
    |true=>
     left;refine⟨(m,false,m,(m.length:Int),((i+1:Nat):Int),()),?_,⟨i+1,hlt,λk hk'=> ?_,rfl⟩,by simp only;omega⟩
     ·rw[ho] at hcd;simp only[Zew,RT.val,d,r1,ZcB,hck,hcd,Yf,Yj,Ya,Yb,ZhO i (by omega)]
     ·by_cases e:k=i
      ·subst e;exact ho
      ·exact hk k (by omega)
    |false=>
     right;right;refine⟨(m,false,m,(m.length:Int),(i:Int),()),rfl,?_,.inr ⟨rfl,Zqx hlt ho,rfl⟩⟩;rw[ho] at hcd;simp only[Zew,RT.val,d,r1,ZcB,hck,hcd,Yf,Yl,Yj,Ya,Yb]
   ·right;left;have d:decide ((i:Int)<(m.length:Int))=false:=by simpa using hlt
    exact⟨(m,false,m,(m.length:Int),(i:Int),()),by simp only[Zew,RT.val,d,Yb],.inl ⟨rfl,ZmG λk hk'=>hk k (by omega)⟩⟩)
  (m,false,m,(m.length:Int),0,()) ⟨0,Yr _,λk h=>by omega,rfl⟩ (by simp only;omega)
 have hr':runF true Zew (λa=>1000000000000) (m,false,m,iN m.length,0,())=some r:=hr;rcases hR with ⟨h1,h2⟩|⟨h1,h2,h3⟩
 ·simp only[ZkP,RT.val,hr',okB,getO,Ya,h1,Yb,h2]
 ·simp only[ZkP,RT.val,hr',okB,getO,Ya,h1,h2,h3]
theorem ZqW (m:List Cell) (hm:m.length<=most):(Zkq m).val=some (vldB m):=by
 have hms:=mst;obtain⟨r,hr,hR⟩:=ZA (fl:=true) (t:=Zel) (fuel:=λa=>1000000000000)
  (I:=λa=>∃i:Nat,i<=m.length/\(∀k,k<i->okAt m k=true)/\a=(m,false,(m.length:Int),(i:Int),()))
  (m:=λa=>Int.toNat (a.2.2.1-a.2.2.2.1)) (R:=λr=>(r.1=false/\vldB m=true)\/(r.1=true/\vldB m=false/\r.2.2.1=false))
  (λa hi=>by
   obtain⟨i,hi,hk,rfl⟩:=hi;by_cases hlt:i<m.length
   ·have d:decide ((i:Int)<(m.length:Int))=true:=by simpa using hlt
    have r1:=ZaG m i hlt;have hw:decide ((i:Int)>0)=true->Zf (IntKind.wrap .i64 ((i:Int)-1)) m.length=true/\IntKind.wrap .i64 ((i:Int)-1)=((i-1:Nat):Int):=λh=>by simp only[Yk] at h;have e:=ZX4 i (by omega) (by omega);exact⟨by rw[e];exact ZaG m (i-1) (by omega),e⟩
    have hck:((el m i).2==0||(!decide ((i:Int)>0)||Zf (IntKind.wrap .i64 ((i:Int)-1)) m.length))=true:=by
     cases h:decide ((i:Int)>0) with
     |false=>simp
     |true=>rw[(hw h).1];simp
    have hcd:((el m i).2==0||(decide ((i:Int)>0)&&decide ((el m i).1<=(R.get CR m (IntKind.wrap .i64 ((i:Int)-1))).1)))= !okAt m i:=by
     rw[<-ZOg];cases h:decide ((i:Int)>0) with
     |false=>simp
     |true=>rw[(hw h).2,ZcB]
    cases ho:okAt m i with
    |true=>
     left;refine⟨(m,false,(m.length:Int),((i+1:Nat):Int),()),?_,⟨i+1,hlt,λk hk'=> ?_,rfl⟩,by simp only;omega⟩
     ·rw[ho] at hcd;simp only[Zel,RT.val,d,r1,ZcB,hck,hcd,Yf,Yj,Yi,Ya,Yb,ZhO i (by omega)]
     ·by_cases e:k=i
      ·subst e;exact ho
      ·exact hk k (by omega)
    |false=>
     right;right;refine⟨(m,false,(m.length:Int),(i:Int),()),rfl,?_,.inr ⟨rfl,Zqx hlt ho,rfl⟩⟩;rw[ho] at hcd;simp only[Zel,RT.val,d,r1,ZcB,hck,hcd,Yf,Yl,Yj,Yi,Ya,Yb]
   ·right;left;have d:decide ((i:Int)<(m.length:Int))=false:=by simpa using hlt
    exact⟨(m,false,(m.length:Int),(i:Int),()),by simp only[Zel,RT.val,d,Yb],.inl ⟨rfl,ZmG λk hk'=>hk k (by omega)⟩⟩)
  (m,false,(m.length:Int),0,()) ⟨0,Yr _,λk h=>by omega,rfl⟩ (by simp only;omega)
 have hr':runF true Zel (λa=>1000000000000) (m,false,iN m.length,0,())=some r:=hr;rcases hR with ⟨h1,h2⟩|⟨h1,h2,h3⟩
 ·simp only[Zkq,RT.val,hr',okB,getO,Ya,h1,Yb,h2]
 ·simp only[Zkq,RT.val,hr',okB,getO,Ya,h1,h2,h3]
variable {t:Int}
theorem ZPk (hi:i<m.length) (he:(el m i).1=t) (hk:∀k,i<k->k<m.length->(el m k).1≠t):getX m t=(el m i).2:=by
 have e:m=m.take i++[el m i]++m.drop (i+1):=by rw[Yn,List.singleton_append,<-Zvo m i hi,Yar]
 have h0:flt t (m.drop (i+1))=[]:=ZeB λc hc=>by obtain⟨k,h1,h2,rfl⟩:=Zjy hc;exact hk k (by omega) h2
 have h1:flt t [el m i]=[el m i]:=by simp[flt,he]
 have h2:flt t m=flt t (m.take i)++[el m i]:=by conv=>lhs;rw[e,ZdL,ZdL,h0,h1,Yt]
 rw[getX,h2,List.getLast?_append];simp
theorem ZRa (m:List Cell) (t:Int) (hm:m.length<=most):(Zq8 m t).val=some (getX m t):=by
 have hms:=mst;obtain⟨r,hr,hR⟩:=ZA (fl:=true) (t:=Zhu) (fuel:=λa=>1000000000000)
  (I:=λa=>∃i:Nat,i<=m.length/\(∀k,i<=k->k<m.length->(el m k).1≠t)/\a=(m,t,0,(i:Int)-1,()))
  (m:=λa=>Int.toNat (a.2.2.2.1+1)) (R:=λr=>(r.1=false/\getX m t=0)\/(r.1=true/\r.2.2.2.1=getX m t))
  (λa hi=>by
   obtain⟨i,hi,hk,rfl⟩:=hi;cases i with
   |zero=>
    right;left;refine⟨(m,t,0,((0:Nat):Int)-1,()),by simp[Zhu,RT.val],.inl ⟨rfl,ZjJ λc hc=> ?_⟩⟩;obtain⟨k,hk'⟩:=List.mem_iff_getElem?.1 hc;have hlt:=(YH.1 hk').1;rw[ZcO m k hlt,oinj] at hk';rw[<-hk'];exact hk k (Yr _) hlt
   |succ i=>
    have ei:((i+1:Nat):Int)-1=(i:Int):=by omega
    rw[ei];have d:decide ((i:Int)>=0)=true:=by simp
    have r1:=ZaG m i (by omega);cases he:((el m i).1==t) with
    |true=>
     right;right;refine⟨(m,t,(el m i).2,(i:Int),()),rfl,by simp only[Zhu,RT.val,d,r1,ZcB,he,Ya,Yf,Yj],.inr ⟨rfl,?_⟩⟩;exact (ZPk (by omega) (by simpa using he) λk h1 h2=>hk k (by omega) h2).symm
    |false=>
     left;refine⟨(m,t,0,(i:Int)-1,()),?_,⟨i,by omega,λk h1 h2=> ?_,rfl⟩,by simp only;omega⟩
     ·have w:IntKind.wrap .i64 ((i:Int)-1)=(i:Int)-1:=wrap_i64 _ (by omega) (by omega);simp only[Zhu,RT.val,d,r1,ZcB,he,Ya,Yb,Yf,Yl,Yv,Yj,w]
     ·by_cases e:k=i
      ·subst e;simpa using he
      ·exact hk k (by omega) h2)
  (m,t,0,(m.length:Int)-1,()) ⟨m.length,Ye _,λk h1 h2=>by omega,rfl⟩ (by simp only;omega)
 have w:IntKind.wrap .i64 (iN m.length-1)=(m.length:Int)-1:=wrap_i64 _ (by simp only[iN,Le];omega) (by simp only[iN,Le];omega);rcases hR with ⟨h1,h2⟩|⟨h1,h2⟩
 ·simp only[Zq8,RT.val,w,hr,okB,getO,Ya,h1,Yb,h2]
 ·simp only[Zq8,RT.val,w,hr,okB,getO,Ya,h1,h2]
def pst (c:Cell) (s:Bool×List Cell) (x:Cell):Bool×List Cell:=
 let t:= !s.1&&decide (x.1>=c.1)
 let o:=bif t then (bif c.2 !=0 then s.2++[c] else s.2) else s.2
 (t||s.1,bif x.1 !=c.1 then o++[x] else o)
def pfin (c:Cell) (s:Bool×List Cell):List Cell:=bif !s.1&&c.2 !=0 then s.2++[c] else s.2
theorem ZEK (c:Cell):∀(m:List Cell) (o:List Cell),(∀x∈m,x.1≠c.1)->m.foldl (pst c) (true,o)=(true,o++m)
 |[],o,_=>by simp
 |x::m,o,h=>by
  have hx:(x.1 !=c.1)=true:=by simpa using h x (by simp)
  simp only[List.foldl_cons,pst,Yf,YW,Yb,Yi,hx,Ya];rw[ZEK c m (o++[x]) λy hy=>h y (YA _ hy)];simp
theorem ZLP (c:Cell):∀(m:List Cell) (o:List Cell),m.Pairwise (λa b=>a.1<b.1)->pfin c (m.foldl (pst c) (false,o))=o++putX m c
 |[],o,_=>by
  simp only[List.foldl_nil,pfin,putX,Yl,YT];by_cases h:c.2=0
  ·simp[h]
  ·have:(c.2 !=0)=true:=by simpa using h
   simp[h,this]
 |x::m,o,h=>by
  have h1:=YC.1 h;by_cases hx:x.1<c.1
  ·have e1:decide (x.1>=c.1)=false:=by simp;omega
   have e2:(x.1 !=c.1)=true:=by simp;omega
   simp only[List.foldl_cons,pst,e1,Yag,Yb,Yy,e2,Ya];rw[ZLP c m (o++[x]) h1.2,putX,YZ hx];simp
  ·have e1:decide (x.1>=c.1)=true:=by simp;omega
   have hne:∀y∈m,y.1≠c.1:=λy hy=>by have:=h1.1 y hy;omega
   simp only[List.foldl_cons,pst,e1,Yl,Y0,Ya,Yv];rw[ZEK c m _ hne,putX,Y3 hx];simp only[pfin,Yf,YW,Yb];by_cases hz:c.2=0
   ·by_cases hk:x.1=c.1
    ·simp[hz,hk]
    ·have:(x.1 !=c.1)=true:=by simpa using hk
     simp[hz,hk,this]
   ·have hz1:(c.2 !=0)=true:=by simpa using hz
    by_cases hk:x.1=c.1
    ·simp[hz,hk,hz1]
    ·have:(x.1 !=c.1)=true:=by simpa using hk
     simp[hz,hk,this,hz1]
theorem ZAy (c:Cell):∀(m:List Cell) (s:Bool×List Cell),(m.foldl (pst c) s).2.length+(bif (m.foldl (pst c) s).1 then 0 else 1)<=s.2.length+(bif s.1 then 0 else 1)+m.length
 |[],s=>by simp
 |x::m,s=>by
  rw[List.foldl_cons];have ih:=ZAy c m (pst c s x);have:(pst c s x).2.length+(bif (pst c s x).1 then 0 else 1)<=s.2.length+(bif s.1 then 0 else 1)+1:=by obtain⟨d,o⟩:=s;simp only[pst];generalize decide (x.1>=c.1)=b1;generalize (c.2 !=0)=b2;generalize (x.1 !=c.1)=b3;cases d<;>cases b1<;>cases b2<;>cases b3<;>simp<;>omega
  simp only[List.length_cons];omega
theorem Zwv (m:List Cell) (c:Cell) (hv:Vld m) (hm:m.length+1<=most):ZwH m c=true/\ZLj m c=putX m c:=by
 have hms:=mst;obtain⟨r,hr,h1,i,hR⟩:=ZA (fl:=false) (t:=Zi2) (fuel:=λa=>1000000000000)
  (λa=>∃i:Nat,i<=m.length/\a=(((m.take i).foldl (pst c) (false,[])).1,m,(m.length:Int),(i:Int),c,((m.take i).foldl (pst c) (false,[])).2,()))
  (λa=>Int.toNat (a.2.2.1-a.2.2.2.1)) (λr=>r.1=false/\∃i:Nat,r.2=((m.foldl (pst c) (false,[])).1,m,(m.length:Int),(i:Int),c,(m.foldl (pst c) (false,[])).2,()))
  (by
   rintro a ⟨i,hi,rfl⟩;by_cases hlt:i<m.length
   ·left;have d:decide ((i:Int)<(m.length:Int))=true:=by simpa using hlt
    have r1:=ZaG m i hlt;have hl:=ZAy c (m.take i) (false,[]);have hs:(m.take (i+1)).foldl (pst c) (false,[])=pst c ((m.take i).foldl (pst c) (false,[])) (el m i):=by rw[ZzO m i hlt,Yak];rfl
    rw[YF,YaZ (by omega)] at hl;refine⟨_,?_,⟨i+1,hlt,rfl⟩,by simp only;omega⟩;rw[hs];generalize (m.take i).foldl (pst c) (false,[])=s at hl|-;obtain⟨dn,o⟩:=s;simp only[List.length_nil,Yb] at hl;simp only[Zi2,RT.val,d,r1,ZcB,Ya,Yf,Yj,pst,ZhO i (by omega)];generalize decide ((el m i).1>=c.1)=b1;generalize hb2:(c.2 !=0)=b2;generalize hb3:((el m i).1 !=c.1)=b3;have l1:Nat.ble (o++[c]).length most=true\/dn=true:=by
     cases dn with
     |true=>exact .inr rfl
     |false=>left;rw[YG];simp only[Yb] at hl;simp only[Yd,List.length_singleton];omega
    have l2:Nat.ble (o++[el m i]).length most=true:=by rw[YG];simp only[Yd,List.length_singleton];cases dn<;>simp only[Ya,Yb] at hl<;>omega
    have l3:Nat.ble (o++[c]++[el m i]).length most=true\/dn=true:=by
     cases dn with
     |true=>exact .inr rfl
     |false=>left;rw[YG];simp only[Yb] at hl;simp only[Yd,List.length_singleton];omega
    cases dn with
    |true=>
     cases b3<;>simp only[l2,Yf,Yl,YW,Yv,Yj,Yi,Ya,Yb]
    |false=>
     have l1:Nat.ble (o++[c]).length most=true:=by simpa using l1
     have l3:Nat.ble (o++[c]++[el m i]).length most=true:=by simpa using l3
     cases b1<;>cases b2<;>cases b3<;>simp only[l1,l2,l3,Yf,Yl,YW,YT,Yv,Yj,Yi,Yy,Y0,Ya,Yb]
   ·right;left;have d:decide ((i:Int)<(m.length:Int))=false:=by simpa using hlt
    have e:m.take i=m:=Y2 (by omega);rw[e]
    exact⟨_,by simp only[Zi2,RT.val,d,Yb],rfl,i,rfl⟩)
  (false,m,iN m.length,0,c,[],()) ⟨0,Yr _,rfl⟩ (by simp only[iN,Le];omega)
 have hl:=ZAy c m (false,[]);have hp:=ZLP c m [] hv.1;simp only[List.nil_append] at hp;obtain⟨r1,r2⟩:=r;simp only at h1 hR;subst h1 hR;generalize m.foldl (pst c) (false,[])=s at hl hp hr;obtain⟨dn,o⟩:=s;have hb:(!(!dn&&c.2 !=0)||Nat.ble (o++[c]).length most)=true:=by
  cases dn with
  |true=>rfl
  |false=>
   have:Nat.ble (o++[c]).length most=true:=by rw[YG];simp only[Yb,List.length_nil] at hl;simp only[Yd,List.length_singleton];omega
   rw[this];simp
 have hv:(Zq4 m c).val=some (putX m c):=by simp only[Zq4,RT.val,hr,okB,getO,Ya,hb,<-hp,pfin]
 exact⟨by simp only[ZwH,hv];rfl,by simp only[ZLj,hv,getO]⟩
theorem Zs6 (c:Cell):∀m:List Cell,(putX m c).length<=m.length+1
 |[]=>by simp only[putX];split<;>simp
 |x::m=>by
  have:=Zs6 c m;simp only[putX];repeat' split
  all_goals simp only[List.length_cons];omega
theorem ZkK (l:List Cell) (c:Cell):normX (l++[c])=putX (normX l) c:=by simp[normX,Yak]
theorem ZGo:∀(l m:List Cell),(l.foldl putX m).length<=m.length+l.length
 |[],m=>by simp
 |x::l,m=>by have:=ZGo l (putX m x);have:=Zs6 x m;simp only[List.foldl_cons,List.length_cons];omega
theorem Zcx (l:List Cell):(normX l).length<=l.length:=by have:=ZGo l [];simpa [normX] using this
theorem ZKX (l:List Cell) (hl:l.length+1<=most):ZLn l=true/\ZVW l=normX l:=by
 have hms:=mst;have h1:=ZqW l (by omega);have hc:Zkr l=true:=by simp only[Zkr,h1];rfl
 have hv0:Znl l=vldB l:=by simp only[Znl,h1,getO]
 have hv:(Zq5 l).val=some (normX l):=by
  cases hb:vldB l with
  |true=>
   have e:Nat.ble l.length most=true:=by rw[YG];omega
   simp only[Zq5,RT.val,hc,hv0,hb,List.nil_append,e,Ya,Yf,Yj,Zhz (ZiG.1 hb)]
  |false=>
   obtain⟨r,hr,h1,i,hR⟩:=ZA (fl:=false) (t:=Zi3) (fuel:=λa=>1000000000000)
    (λa=>∃i:Nat,i<=l.length/\a=(normX (l.take i),l,(l.length:Int),(i:Int),()))
    (λa=>Int.toNat (a.2.2.1-a.2.2.2.1)) (λr=>r.1=false/\∃i:Nat,r.2=(normX l,l,(l.length:Int),(i:Int),()))
    (by
     rintro a ⟨i,hi,rfl⟩;by_cases hlt:i<l.length
     ·left;have d:decide ((i:Int)<(l.length:Int))=true:=by simpa using hlt
      have r1:=ZaG l i hlt;have hlen:=Zcx (l.take i);rw[YF] at hlen;have hp:=Zwv (normX (l.take i)) (el l i) (Zfn _) (by omega);refine⟨_,?_,⟨i+1,hlt,rfl⟩,by simp only;omega⟩;rw[ZzO l i hlt,ZkK];simp only[Zi3,RT.val,d,r1,ZcB,hp.1,hp.2,Ya,Yi,ZhO i (by omega)]
     ·right;left;have d:decide ((i:Int)<(l.length:Int))=false:=by simpa using hlt
      have e:l.take i=l:=Y2 (by omega);rw[e]
      exact⟨_,by simp only[Zi3,RT.val,d,Yb],rfl,i,rfl⟩)
    ([],l,iN l.length,0,()) ⟨0,Yr _,rfl⟩ (by simp only[iN,Le];omega)
   obtain⟨r1,r2⟩:=r;simp only at h1 hR;subst h1 hR;simp only[Zq5,RT.val,hc,hv0,hb,hr,okB,getO,Ya,Yb,Yl,Yv]
 exact⟨by simp only[ZLn,hv];rfl,by simp only[ZVW,hv,getO]⟩
def ZCQ (s:List Cell) (i:Nat):Bool:=(el s i).2 !=0&&(decide (i+1=s.length)||(el s (i+1)).1 !=(el s i).1)
theorem ZXS (s:List Cell) (i:Nat) (h:i<s.length):dd (s.drop i)=(bif ZCQ s i then [el s i] else [])++dd (s.drop (i+1)):=by
 rw[Zvo s i h];by_cases hl:i+1<s.length
 ·rw[Zvo s (i+1) hl,dd];have e:decide (i+1=s.length)=false:=by simp;omega
  simp only[ZCQ,e,Yj];by_cases h1:(el s i).1=(el s (i+1)).1
  ·have:((el s (i+1)).1 !=(el s i).1)=false:=by simp[h1]
   simp only[this,Yag,Yb,List.nil_append,YZ h1]
  ·have:((el s (i+1)).1 !=(el s i).1)=true:=by simpa using λe=>h1 e.symm
   simp only[this,YY,Y3 h1];by_cases h2:(el s i).2=0
   ·have:((el s i).2 !=0)=false:=by simp[h2]
    simp only[this,YZ h2,Yb,List.nil_append]
   ·have:((el s i).2 !=0)=true:=by simpa using h2
    simp only[this,Y3 h2,Ya,List.singleton_append]
 ·have hn:s.drop (i+1)=[]:=Y7 (by omega);have e:decide (i+1=s.length)=true:=by simp;omega
  rw[hn];simp only[ZCQ,e,Yv,YY,dd,Yt];by_cases h2:(el s i).2=0
  ·have:((el s i).2 !=0)=false:=by simp[h2]
   simp only[this,YZ h2,Yb]
  ·have:((el s i).2 !=0)=true:=by simpa using h2
   simp only[this,Y3 h2,Ya]
theorem ZJH (l:List Cell) (hl:l.length<=most):ZDG l=true/\ZzJ l=isort l:=by
 have hs:Zm2 l (iN l.length)=true:=by simp[Zm2,iN,Le];omega
 have hv:(Zv6 l).val=some (isort l):=by simp only[Zv6,RT.val,ZdJ,hs,Ya]
 exact⟨by simp only[ZDG,hv];rfl,by simp only[ZzJ,hv,getO]⟩
theorem Zpg (l:List Cell) (hl:l.length<=most):ZyK l=true/\ZOK l=normX l:=by
 have hms:=mst;have h1:=ZJH l hl;have hlen:=Zey l;generalize hs:isort l=s at hlen h1;obtain⟨r,hr,h2,i,hR⟩:=ZA (fl:=false) (t:=ZjB) (fuel:=λa=>Int.toNat (a.1-a.2.1)+1)
  (λa=>∃(i:Nat) (o:List Cell),i<=s.length/\o.length<=i/\o++dd (s.drop i)=dd s/\a=((s.length:Int),(i:Int),s,o,()))
  (λa=>Int.toNat (a.1-a.2.1)) (λr=>r.1=false/\∃i:Nat,r.2=((s.length:Int),(i:Int),s,dd s,()))
  (by
   rintro a ⟨i,o,hi,ho,hd,rfl⟩;by_cases hlt:i<s.length
   ·left;have d:decide ((i:Int)<(s.length:Int))=true:=by simpa using hlt
    have r1:=ZaG s i hlt;have w:=ZhO i (by omega);have e1:(((i+1:Nat):Int)==iN s.length)=decide (i+1=s.length):=by rw[Bool.eq_iff_iff];simp[iN,Le];omega
    have hst:=ZXS s i hlt;have hle:∀x:Cell,Nat.ble (o++[x]).length most=true:=λx=>by rw[YG];simp only[Yd,List.length_singleton];omega
    refine⟨((s.length:Int),((i+1:Nat):Int),s,o++(bif ZCQ s i then [el s i] else []),()),?_,⟨i+1,_,hlt,?_,?_,rfl⟩,by simp only;omega⟩
    ·have e3:(!((el s i).2 !=0)||(decide (i+1=s.length)||Zf ((i+1:Nat):Int) s.length))=true:=by
      by_cases hq:i+1=s.length
      ·simp[hq]
      ·rw[ZaG s (i+1) (by omega)];simp
     have e4:((el s i).2 !=0&&(decide (i+1=s.length)||(el s (i+1)).1 !=(el s i).1))=ZCQ s i:=rfl;have g1:=ZcB s i;have g2:=ZcB s (i+1);simp only[ZjB,RT.val,d,r1,w,g1,g2,e1,e3,e4,hle,Ya,Yf,Yj,Yi];cases ZCQ s i<;>simp
    ·cases ZCQ s i<;>simp only[Ya,Yb,Yt,Yd,List.length_singleton]<;>omega
    ·rw[Yn,<-hst,hd]
   ·right;left;have d:decide ((i:Int)<(s.length:Int))=false:=by simpa using hlt
    have e:s.drop i=[]:=Y7 (by omega);rw[e] at hd;simp only[dd,Yt] at hd;subst hd
    exact⟨_,by simp only[ZjB,RT.val,d,Yb],rfl,i,rfl⟩)
  (iN s.length,0,s,[],()) ⟨0,[],Yr _,by simp,by simp,rfl⟩ (by simp only[iN,Le];omega)
 obtain⟨r1,r2⟩:=r;simp only at h2 hR;subst h2 hR;have hb:Nat.ble l.length most=true:=by rw[YG];exact hl
 have hv:(ZyJ l).val=some (normX l):=by simp only[ZyJ,RT.val,hb,h1.1,h1.2,hr,okB,getO,Ya];rw[<-hs,ZIu]
 exact⟨by simp only[ZyK,hv];rfl,by simp only[ZOK,hv,getO]⟩
abbrev BR:R:=R.int u8
theorem get_d (l:List Int) (i:Nat):R.get BR l (i:Int)=l.getD i 0:=by simp[R.get,R.Df]
def Zpu (t:Int) (b:List Int) (n:Nat):List Cell:=(List.range n).map λi:Nat=>(IntKind.wrap .u16 (t+IntKind.wrap .u16 (i:Int)),b.getD i 0)
theorem ZIM (t:Int) (b:List Int) (n:Nat):Zpu t b (n+1)=Zpu t b n++[(IntKind.wrap .u16 (t+IntKind.wrap .u16 (n:Int)),b.getD n 0)]:=by simp[Zpu,List.range_succ]
theorem Zpt (t:Int) (b:List Int) (n:Nat):(Zpu t b n).length=n:=by simp[Zpu]
def Zps (t:Int) (b:List Int):List Cell:=normX (Zpu t b b.length)
theorem ZKS (a b:List Cell) (ha:a.length<=most):ZAh a b=true/\ZLc a b=decide (a=b):=by
 have hms:=mst;have hv:(Zil a b).val=some (decide (a=b)):=by
  by_cases hl:a.length=b.length
  ·have hn:(iN a.length !=iN b.length)=false:=by simp[iN,Le,hl]
   obtain⟨r,hr,hR⟩:=ZA (fl:=true) (t:=Zfi) (fuel:=λ_=>1000000000000)
    (λx=>∃i:Nat,i<=a.length/\(∀k,k<i->el a k=el b k)/\x=(a,b,false,(a.length:Int),(i:Int),()))
    (λx=>Int.toNat (x.2.2.2.1-x.2.2.2.2.1)) (λr=>(r.1=false/\a=b)\/(r.1=true/\a≠b/\r.2.2.2.1=false))
    (by
     rintro x ⟨i,hi,hk,rfl⟩;by_cases hlt:i<a.length
     ·have d:decide ((i:Int)<(a.length:Int))=true:=by simpa using hlt
      have r1:=ZaG a i hlt;have r2:=ZaG b i (by omega);have g1:=ZcB a i;have g2:=ZcB b i;by_cases he:el a i=el b i
      ·left;refine⟨(a,b,false,(a.length:Int),((i+1:Nat):Int),()),?_,⟨i+1,hlt,λk hk'=> ?_,rfl⟩,by simp only;omega⟩
       ·simp only[Zfi,RT.val,d,r1,r2,g1,g2,he,YaN,Y0,Yf,Yi,Ya,Yb,ZhO i (by omega)]
       ·by_cases e:k=i
        ·subst e;exact he
        ·exact hk k (by omega)
      ·right;right;have hne:((el a i).1==(el b i).1&&((el a i).2==(el b i).2&&true))=false:=by rw[YJ];intro h;simp only[Yc,Yav,and_true] at h;exact he (Prod.ext h.1 h.2)
       refine⟨(a,b,false,(a.length:Int),(i:Int),()),rfl,?_,.inr ⟨rfl,λh=>he (by rw[h]),rfl⟩⟩;simp only[Zfi,RT.val,d,r1,r2,g1,g2,hne,Yf,Yl,Yi,Ya]
     ·right;left;have d:decide ((i:Int)<(a.length:Int))=false:=by simpa using hlt
      refine⟨_,by simp only[Zfi,RT.val,d,Yb];rfl,.inl ⟨rfl,List.ext_getElem? λk=> ?_⟩⟩;by_cases hk':k<a.length
      ·rw[ZcO a k hk',ZcO b k (by omega),hk k (by omega)]
      ·rw[YS (by omega),YS (by omega)])
    (a,b,false,iN a.length,0,()) ⟨0,Yr _,λk h=>by omega,rfl⟩ (by simp only[iN,Le];omega)
   rcases hR with ⟨h1,h2⟩|⟨h1,h2,h3⟩
   ·have hd:decide (a=b)=true:=Yq h2;simp only[Zil,RT.val,hn,hr,okB,getO,Ya,Yb,h1,hd]
   ·have hd:decide (a=b)=false:=Yx h2;simp only[Zil,RT.val,hn,hr,okB,getO,Ya,Yb,h1,h3,hd]
  ·have hn:(iN a.length !=iN b.length)=true:=by simp only[iN,Le,bne_iff_ne,ne_eq];omega
   have hne:a≠b:=λh=>hl (by rw[h])
   simp only[Zil,RT.val,hn,Ya,hne,decide_false]
 exact⟨by simp only[ZAh,hv];rfl,by simp only[ZLc,hv,getO]⟩
theorem Zyz (m:List Cell) (hm:m.length<=most):Zu4 m=true/\Zpk m=vldB m:=by have h:=ZIF m hm;exact⟨by simp only[Zu4,h];rfl,by simp only[Zpk,h,getO]⟩
theorem ZKM (m:List Cell) (hm:m.length<=most):Zkr m=true/\Znl m=vldB m:=by have h:=ZqW m hm;exact⟨by simp only[Zkr,h];rfl,by simp only[Znl,h,getO]⟩
theorem ZVG (m:List Cell) (t:Int) (hm:m.length<=most):ZLs m t=true/\ZVX m t=getX m t:=by have h:=ZRa m t hm;exact⟨by simp only[ZLs,h];rfl,by simp only[ZVX,h,getO]⟩
abbrev GR:R:=R.Pq Kb (R.Pq Kb (R.Pq R.bool Kc))
def hitB (t:Int) (r:ZG):Bool:=decide (r.1<=t)&&decide (t<=r.2.1)
def Zck (l:List ZG) (t:Int):Int:=if l.findIdx (hitB t)<l.length then (l.findIdx (hitB t):Int) else-1
def rg (l:List ZG) (i:Nat):ZG:=l.getD i (0,0,false,0)
theorem ZUB (l:List ZG) (i:Nat):R.get GR l (i:Int)=rg l i:=by simp[R.get,R.Df,rg]
theorem Zwx (l:List ZG) (i:Nat) (h:i<l.length):l[i]=rg l i:=by simp[rg,h]
theorem ZXF {l:List ZG} (hi:i<l.length) (h:hitB t (rg l i)=true) (hk:∀k,k<i->hitB t (rg l k)=false):Zck l t=i:=by have:l.findIdx (hitB t)=i:=(List.findIdx_eq hi).2 ⟨by rw[Zwx l i hi];exact h,λj hj=>by rw[Zwx l j (by omega)];exact hk j hj⟩;simp only[Zck,this,hi,if_true]
theorem ZXE {l:List ZG} (hk:∀k,k<l.length->hitB t (rg l k)=false):Zck l t= -1:=by
 have:¬l.findIdx (hitB t)<l.length:=by rw[List.findIdx_lt_length];rintro⟨x,hx,hp⟩;obtain⟨i,hi,rfl⟩:=YaO.1 hx;rw[Zwx l i hi,hk i hi] at hp;exact absurd hp (by simp)
 simp only[Zck,this,if_false]
theorem ZKY (l:List ZG) (t:Int) (hl:l.length<=most):ZLx l t=true/\ZVZ l t=Zck l t:=by
 have hms:=mst;obtain⟨r,hr,hR⟩:=ZA (fl:=true) (t:=Zi4) (fuel:=λ_=>1000000000000)
  (λx=>∃i:Nat,i<=l.length/\(∀k,k<i->hitB t (rg l k)=false)/\x=(t,0,l,(l.length:Int),(i:Int),()))
  (λx=>Int.toNat (x.2.2.2.1-x.2.2.2.2.1)) (λr=>(r.1=false/\Zck l t= -1)\/(r.1=true/\r.2.2.1=Zck l t))
  (by
   rintro x ⟨i,hi,hk,rfl⟩;by_cases hlt:i<l.length
   ·have d:decide ((i:Int)<(l.length:Int))=true:=by simpa using hlt
    have r1:=ZaG l i hlt;have g1:=ZUB l i;cases hh:hitB t (rg l i) with
    |false=>
     left;refine⟨(t,0,l,(l.length:Int),((i+1:Nat):Int),()),?_,⟨i+1,hlt,λk hk'=> ?_,rfl⟩,by simp only;omega⟩
     ·simp only[hitB] at hh;simp only[Zi4,RT.val,d,r1,g1,hh,Ya,Yb,ZhO i (by omega)]
     ·by_cases e:k=i
      ·subst e;exact hh
      ·exact hk k (by omega)
    |true=>
     right;right;refine⟨(t,(i:Int),l,(l.length:Int),(i:Int),()),rfl,?_,.inr ⟨rfl,(ZXF hlt hh hk).symm⟩⟩;simp only[hitB] at hh;simp only[Zi4,RT.val,d,r1,g1,hh,Ya]
   ·right;left;have d:decide ((i:Int)<(l.length:Int))=false:=by simpa using hlt
    exact⟨_,by simp only[Zi4,RT.val,d,Yb];rfl,.inl ⟨rfl,ZXE λk h=>hk k (by omega)⟩⟩)
  (t,0,l,iN l.length,0,()) ⟨0,Yr _,λk h=>by omega,rfl⟩ (by simp only[iN,Le];omega)
 have hv:(Zq9 l t).val=some (Zck l t):=by
  rcases hR with ⟨h1,h2⟩|⟨h1,h2⟩
  ·simp only[Zq9,RT.val,hr,okB,getO,Ya,h1,Yb,h2]
  ·simp only[Zq9,RT.val,hr,okB,getO,Ya,h1,h2]
 exact⟨by simp only[ZLx,hv];rfl,by simp only[ZVZ,hv,getO]⟩
theorem ZnJ (l:List ZG) (t:Int) (hl:l.length<=most):Zx6 l t=true/\Zqq l t=Zck l t:=by have h:=ZKY l t hl;have e:ZFx l t=Zq9 l t:=rfl;simp only[ZLx,ZVZ,<-e] at h;exact h
def Zge (l:List ZG) (m:List Cell) (t:Int):Int:=bif decide (Zck l t<0) then 255 else getX m t
