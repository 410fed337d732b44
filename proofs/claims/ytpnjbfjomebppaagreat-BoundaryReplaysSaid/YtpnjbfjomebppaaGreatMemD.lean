import Derived.Test.YtpnjbfjomebppaaGreatCloneC
open Go.Proofs.Tryz (prog)
open Go.IntKind (u8 u16 i64)
set_option linter.unusedSimpArgs false
open Go Go.S3 Go.Proofs
set_option linter.unusedVariables false
set_option maxRecDepth 100000
namespace Go.Proofs.YtpnjbfjomebppaaGreat
noncomputable section
abbrev ZNx:List Sh:=[]
def ZxG (s:List (Int×Int)):RT (Option (List (Int×Int))):=
 .br (ZmK (Stg.l (Zde Zci ZsU s)) (iN (Le (Stg.l (Zde Zci ZsU s))))) (Ls (Cells.isort (Stg.l (Zde Zci ZsU s)))) Ln
def ZAW (s:List (Int×Int)):List (Int×Int):=getO [] (ZxG s).val
def ZFW (s:List (Int×Int)):Bool:=okB (ZxG s).val
def ZNy:En:=stE Zci ZsU 160 ZNx (λa=>some (ZFW a.1)) (λa=>ZAW a.1)
theorem ZFV:Za prog 159 ZNy:=
 ZmL (P:=prog) (n:=15) (k:=8) (l:=[(234,ZNw),(160,ZbA)]) (ol:=[]) ⟨ZNv,Zav,Tv⟩ Tryz.func159 rfl (by kernel_rfl) Tryz.call159 trivial (r:=Zci) (T:=ZsU) (g0:=160) (ts:=ZNx) (t:=λa=>ZxG a.1) (λa=>by kernel_rfl)
abbrev ZEy:List Sh:=[So rcCE]
abbrev Zwm:Rs:=Rs.one (So rcCE)
def ZVz:LS:={n:=45,Sl:=[(3,.tip 0),(4,.tip 1),(11,.tip 0),(12,.code (So Kc)),(13,.code (So Kc))],Bx:=[],Sg:=[⟨R.Pq Kb Ka,75,true⟩,⟨(R.Pq Kb Ka),75,true⟩]}
def Zji (a:QT25):RT (Option (Go1 (QT25))):=
 let x1:=(R.get (R.Pq Kb Ka) a.2.2.1 a.2.1).2 !=0
 let x2:=i64.wrap (a.2.1+1)==iN (Le a.2.2.1)
 let x3:= !x1||(x2||Ze (i64.wrap (a.2.1+1)) (Le a.2.2.1))
 let x4:=x1&&(x2||(R.get (R.Pq Kb Ka) a.2.2.1 (i64.wrap (a.2.1+1))).1 !=(R.get (R.Pq Kb Ka) a.2.2.1 a.2.1).1)
 let x5:List (Int×Int):=a.2.2.2.1++[R.get (R.Pq Kb Ka) a.2.2.1 a.2.1]
 .br (decide (a.2.1<a.1)) (.br (!Ze a.2.1 (Le a.2.2.1)||(!x3||(!x4||Nat.ble (Le x5) most))) (.br (!Ze a.2.1 (Le a.2.2.1)||x3) (.br (Ze a.2.1 (Le a.2.2.1)) (Ls (Go1.cont (a.1,i64.wrap (a.2.1+1),a.2.2.1,bif x4 then x5 else a.2.2.2.1,PUnit.unit))) Ln) Ln) Ln) (Ls (Go1.brk (a.1,a.2.1,a.2.2.1,a.2.2.2.1,PUnit.unit)))
def ZH2:Ora:=ZaB false ZVz Zji (λa=>(a.1-a.2.1).toNat+1)
theorem ZLC:Zal (envX prog [(98,ZwN),(159,ZNy),(160,ZbA)] [] 127 8) (.block 0 (.loop (ZQ Tryz.f90.body 0))) ZH2:=
 loopP ⟨Zp4,ZFV,Zav,Tv⟩
def Zzx (l:List (Int×Int)):RT (Option (List (Int×Int))):=
 let x1:=runF false Zji (λa=>Int.toNat (a.1-a.2.1)+1) (iN (Le (ZAW l)),0,ZAW l,[],())
 .br (Nat.ble (Le l) most) (.br (ZFW l) (.br (okB x1) (Ls (getO (false,iN (Le (ZAW l)),0,ZAW l,[],()) x1).2.2.2.2.1) Ln) Ln) Ln
def ZSb (l:List (Int×Int)):List (Int×Int):=getO Zwm.Df (Zzx l).val
def Zzy (l:List (Int×Int)):Bool:=okB (Zzx l).val
def ZSa:En:=Zg ZEy Zwm (λa=>some (Zzy a)) (λa=>ZSb a)
theorem Zwl:Za prog 90 ZSa:=
 pureP 127 [(98,ZwN),(159,ZNy),(160,ZbA)] [(0,ZH2)] ZEy Zwm ⟨Zp4,ZFV,Zav,Tv⟩ Tryz.func90 Tryz.call90 ⟨ZLC,Tv⟩ (t:=λa=>Zzx a)
abbrev Zwg:Rs:=Rs.one (So R.bool)
def ZR3:LS:={n:=31,Sl:=[(0,.code (So rcCE)),(2,.code (So R.bool)),(5,.code (So rcCE)),(6,.code (So Kc)),(7,.code (So Kc))],Bx:=[],Sg:=[]}
def Zea (a:List (Int×Int)×Bool×List (Int×Int)×Int×Int×PUnit):RT (Option (Go1 (List (Int×Int)×Bool×List (Int×Int)×Int×Int×PUnit))):=
 let x1:Int×Int:=R.get (R.Pq Kb Ka) a.2.2.1 a.2.2.2.2.1
 let x2:=x1.2==0
 let x3:List (Int×Int)×Int×Int×PUnit:=(a.2.2.1,a.2.2.2.1,a.2.2.2.2.1,PUnit.unit)
 .br (decide (a.2.2.2.2.1<a.2.2.2.1)) (.br (!Ze a.2.2.2.2.1 (Le a.2.2.1)||(x2||(!decide (a.2.2.2.2.1>0)||Ze (i64.wrap (a.2.2.2.2.1-1)) (Le a.1)))) (.br (Ze a.2.2.2.2.1 (Le a.2.2.1)) (.br (x2||decide (a.2.2.2.2.1>0)&&decide (x1.1<=(R.get (R.Pq Kb Ka) a.1 (i64.wrap (a.2.2.2.2.1-1))).1)) (Ls (Go1.ret (a.1,false,x3))) (Ls (Go1.cont (a.1,a.2.1,a.2.2.1,a.2.2.2.1,i64.wrap (a.2.2.2.2.1+1),PUnit.unit)))) Ln) Ln) (Ls (Go1.brk (a.1,a.2.1,x3)))
def Zzw:Ora:=ZaB true ZR3 Zea (λa=>10000000000000)
theorem ZEx:Zal (envX prog [] [] 31 8) (.block 0 (.loop (ZQ Tryz.f103.body 0))) Zzw:=
 loopP trivial
def Zkq (m:List (Int×Int)):RT (Option (Bool)):=
 let x1:=runF true Zea (λa=>10000000000000) (m,false,m,iN (Le m),0,())
 let x2:=getO (false,m,false,m,iN (Le m),0,()) x1
 .br (okB x1) (.br x2.1 (Ls x2.2.2.1) (Ls (true))) Ln
def Zps (m:List (Int×Int)):Bool:=getO Zwg.Df (Zkq m).val
def Zwh (m:List (Int×Int)):Bool:=okB (Zkq m).val
def ZR4:En:=Zg ZEy Zwg (λa=>some (Zwh a)) (λa=>Zps a)
theorem ZR2:Za prog 103 ZR4:=
 pureP 31 [] [(0,Zzw)] ZEy Zwg trivial Tryz.func103 Tryz.call103 ⟨ZEx,Tv⟩ (t:=λa=>Zkq a)
def ZOl:LS:={n:=34,Sl:=[(0,.code (So rcCE)),(2,.code (So R.bool)),(5,.code (So Kc)),(6,.code (So Kc))],Bx:=[],Sg:=[]}
def ZdW (a:List (Int×Int)×Bool×Int×Int×PUnit):RT (Option (Go1 (List (Int×Int)×Bool×Int×Int×PUnit))):=
 let x1:=(R.get (R.Pq Kb Ka) a.1 a.2.2.2.1).2==0
 let x2:= !Ze a.2.2.2.1 (Le a.1)||(x1||(!decide (a.2.2.2.1>0)||(!Ze a.2.2.2.1 (Le a.1)||Ze (i64.wrap (a.2.2.2.1-1)) (Le a.1))))
 let x3:= !x2
 let x4:= !Ze a.2.2.2.1 (Le a.1)||(x1||(!decide (a.2.2.2.1>0)||Ze a.2.2.2.1 (Le a.1)))
 .br (decide (a.2.2.2.1<a.2.2.1)) (.br (x3||(!x4||Ze a.2.2.2.1 (Le a.1))) (.br (x3||x4) (.br (x2) (.br (x1||decide (a.2.2.2.1>0)&&decide ((R.get (R.Pq Kb Ka) a.1 a.2.2.2.1).1<=(R.get (R.Pq Kb Ka) a.1 (i64.wrap (a.2.2.2.1-1))).1)) (Ls (Go1.ret (a.1,false,a.2.2.1,a.2.2.2.1,PUnit.unit))) (Ls (Go1.cont (a.1,a.2.1,a.2.2.1,i64.wrap (a.2.2.2.1+1),PUnit.unit)))) Ln) Ln) Ln) (Ls (Go1.brk (a.1,a.2.1,a.2.2.1,a.2.2.2.1,PUnit.unit)))
def Zya:Ora:=ZaB true ZOl ZdW (λa=>10000000000000)
theorem ZBn:Zal (envX prog [] [] 15 8) (.block 0 (.loop (ZQ Tryz.f105.body 0))) Zya:=
 loopP trivial
def Zj2 (m:List (Int×Int)):RT (Option (Bool)):=
 let x1:=runF true ZdW (λa=>10000000000000) (m,false,iN (Le m),0,())
 let x2:=getO (false,m,false,iN (Le m),0,()) x1
 .br (okB x1) (.br x2.1 (Ls x2.2.2.1) (Ls (true))) Ln
def ZmZ (m:List (Int×Int)):Bool:=getO Zwg.Df (Zj2 m).val
def Zj3 (m:List (Int×Int)):Bool:=okB (Zj2 m).val
def ZBo:En:=Zg ZEy Zwg (λa=>some (Zj3 a)) (λa=>ZmZ a)
theorem ZmX:Za prog 105 ZBo:=
 pureP 15 [] [(0,Zya)] ZEy Zwg trivial Tryz.func105 Tryz.call105 ⟨ZBn,Tv⟩ (t:=λa=>Zj2 a)
abbrev ZPi:List Sh:=[So rcCE,So Kb]
abbrev ZCt:Rs:=Rs.one (So Ka)
def ZUB:LS:={n:=25,Sl:=[(0,.code (So rcCE)),(1,.code (So Kb)),(4,.code (So Ka)),(5,.code (So Kc))],Bx:=[],Sg:=[]}
def Zg6 (a:List (Int×Int)×Int×Int×Int×PUnit):RT (Option (Go1 (List (Int×Int)×Int×Int×Int×PUnit))):=
 let x1:=(R.get (R.Pq Kb Ka) a.1 a.2.2.2.1).1==a.2.1
 .br (decide (a.2.2.2.1>=0)) (.br (!Ze a.2.2.2.1 (Le a.1)||(!x1||Ze a.2.2.2.1 (Le a.1))) (.br (Ze a.2.2.2.1 (Le a.1)) (.br (x1) (Ls (Go1.ret (a.1,a.2.1,(R.get (R.Pq Kb Ka) a.1 a.2.2.2.1).2,a.2.2.2.1,PUnit.unit))) (Ls (Go1.cont (a.1,a.2.1,a.2.2.1,i64.wrap (a.2.2.2.1-1),PUnit.unit)))) Ln) Ln) (Ls (Go1.brk (a.1,a.2.1,a.2.2.1,a.2.2.2.1,PUnit.unit)))
def ZGR:Ora:=ZaB true ZUB Zg6 (λa=>10000000000000)
theorem ZJy:Zal (envX prog [] [] 63 8) (.block 0 (.loop (ZQ Tryz.f60.body 0))) ZGR:=
 loopP trivial
def ZrD (m:List (Int×Int)) (t:Int):RT (Option (Int)):=
 let x1:List (Int×Int)×Int×Int×Int×PUnit:=(m,t,0,i64.wrap (iN (Le m)-1),())
 let x2:=runF true Zg6 (λa=>10000000000000) x1
 let x3:=getO (false,x1) x2
 .br (okB x2) (.br x3.1 (Ls x3.2.2.2.1) (Ls (0))) Ln
def ZUC (m:List (Int×Int)) (t:Int):Int:=getO ZCt.Df (ZrD m t).val
def ZGS (m:List (Int×Int)) (t:Int):Bool:=okB (ZrD m t).val
def ZW6:En:=Zg ZPi ZCt (λa=>some (ZGS a.1 a.2)) (λa=>ZUC a.1 a.2)
theorem ZUA:Za prog 60 ZW6:=
 pureP 63 [] [(0,ZGR)] ZPi ZCt trivial Tryz.func60 Tryz.call60 ⟨ZJy,Tv⟩ (t:=λa=>ZrD a.1 a.2)
abbrev ZOH:List Sh:=[So rcCE,Sh.agg (R.Pq Kb Ka)]
def ZUp:LS:={n:=53,Sl:=[(3,.fix (A.loc 0 0)),(5,.tip 0),(6,.code (So R.bool)),(9,.code (So rcCE)),(10,.code (So Kc)),(11,.code (So Kc))],Bx:=[[.many (R.Pq Kb Ka)]],Sg:=[⟨(R.Pq Kb Ka),75,true⟩]}
def ZiN (a:QT9):RT (Option (Go1 (QT9))):=
 let x1:Int×Int:=R.get (R.Pq Kb Ka) a.2.1 a.2.2.2.1
 let x2:=x1.1
 let x3:= !a.1&&decide (x2>=a.2.2.2.2.1.1)
 let x4:List (Int×Int):=a.2.2.2.2.2.1++[a.2.2.2.2.1]
 let x5:= !x3||(!a.2.2.2.2.1.2 !=0||Nat.ble (Le x4) most)
 let x6:=x2 !=a.2.2.2.2.1.1
 let x7:List (Int×Int):=bif x3 then bif a.2.2.2.2.1.2 !=0 then x4 else a.2.2.2.2.2.1 else a.2.2.2.2.2.1
 let x8:List (Int×Int):=x7++[x1]
 .br (decide (a.2.2.2.1<a.2.2.1)) (.br (!Ze a.2.2.2.1 (Le a.2.1)||(!x5||(!x6||Nat.ble (Le x8) most))) (.br (!Ze a.2.2.2.1 (Le a.2.1)||x5) (.br (Ze a.2.2.2.1 (Le a.2.1)) (Ls (Go1.cont (x3||a.1,a.2.1,a.2.2.1,i64.wrap (a.2.2.2.1+1),a.2.2.2.2.1,bif x6 then x8 else x7,PUnit.unit))) Ln) Ln) Ln) (Ls (Go1.brk (a.1,a.2.1,a.2.2.1,a.2.2.2.1,a.2.2.2.2.1,a.2.2.2.2.2.1,PUnit.unit)))
def ZGz:Ora:=ZaB false ZUp ZiN (λa=>10000000000000)
theorem ZJh:Zal (envX prog [] [] 511 8) (.block 0 (.loop (ZQ Tryz.f165.body 0))) ZGz:=
 loopP trivial
def Zru (m:List (Int×Int)) (c:Int×Int):RT (Option (List (Int×Int))):=
 let x1:QT9:=(false,m,iN (Le m),0,c,[],())
 let x2:=runF false ZiN (λa=>10000000000000) x1
 let x3:QT9:=(getO (false,x1) x2).2
 let x4:=x3.2.2.2.2
 let x5:=x4.1
 let x6:= !x3.1&&x5.2 !=0
 let x7:=x4.2.1
 let x8:List (Int×Int):=x7++[x5]
 .br (okB x2) (.br (!x6||Nat.ble (Le x8) most) (Ls (bif x6 then x8 else x7)) Ln) Ln
def ZJi (m:List (Int×Int)) (c:Int×Int):List (Int×Int):=getO Zwm.Df (Zru m c).val
def Zrv (m:List (Int×Int)) (c:Int×Int):Bool:=okB (Zru m c).val
def ZGA:En:=Zg ZOH Zwm (λa=>some (Zrv a.1 a.2)) (λa=>ZJi a.1 a.2)
theorem ZtA:Za prog 165 ZGA:=
 pureP 511 [] [(0,ZGz)] ZOH Zwm trivial Tryz.func165 Tryz.call165 ⟨ZJh,Tv⟩ (t:=λa=>Zru a.1 a.2)
def ZUx:LS:={n:=21,Sl:=[(3,.code (So rcCE)),(10,.code (So rcCE)),(11,.code (So Kc)),(12,.code (So Kc))],Bx:=[],Sg:=[]}
def ZiP (a:List (Int×Int)×List (Int×Int)×Int×Int×PUnit):RT (Option (Go1 (List (Int×Int)×List (Int×Int)×Int×Int×PUnit))):=
 let x1:Int×Int:=R.get (R.Pq Kb Ka) a.2.1 a.2.2.2.1
 .br (decide (a.2.2.2.1<a.2.2.1)) (.br (!Ze a.2.2.2.1 (Le a.2.1)||Zrv a.1 x1) (.br (Ze a.2.2.2.1 (Le a.2.1)) (Ls (Go1.cont (ZJi a.1 x1,a.2.1,a.2.2.1,i64.wrap (a.2.2.2.1+1),PUnit.unit))) Ln) Ln) (Ls (Go1.brk (a.1,a.2.1,a.2.2.1,a.2.2.2.1,PUnit.unit)))
def ZGH:Ora:=ZaB false ZUx ZiP (λa=>10000000000000)
theorem ZJk:Zal (envX prog [(105,ZBo),(165,ZGA)] [] 63 8) (.block 0 (.loop (ZQ Tryz.f93.body 0))) ZGH:=
 loopP ⟨ZmX,ZtA,Tv⟩
def Zrz (l:List (Int×Int)):RT (Option (List (Int×Int))):=
 let x1:=runF false ZiP (λa=>10000000000000) ([],l,iN (Le l),0,())
 .br (Zj3 l) (.br (!ZmZ l||Nat.ble (Le ([]++l)) most) (.br (ZmZ l) (Ls ([]++l)) (.br (okB x1) (Ls (getO (false,[],l,iN (Le l),0,()) x1).2.1) Ln)) Ln) Ln
def ZJl (l:List (Int×Int)):List (Int×Int):=getO Zwm.Df (Zrz l).val
def ZrA (l:List (Int×Int)):Bool:=okB (Zrz l).val
def ZO1:En:=Zg ZEy Zwm (λa=>some (ZrA a)) (λa=>ZJl a)
theorem ZtF:Za prog 93 ZO1:=
 pureP 63 [(105,ZBo),(165,ZGA)] [(0,ZGH)] ZEy Zwm ⟨ZmX,ZtA,Tv⟩ Tryz.func93 Tryz.call93 ⟨ZJk,Tv⟩ (t:=λa=>Zrz a)
abbrev ZOG:List Sh:=[So rcCE,So Kb,So Ka]
def Zyq (m:List (Int×Int)) (t:Int) (v:Int):RT (Option (List (Int×Int))):=
 .br (!ZrA m||Zrv (ZJl m) (t,v)) (.br (ZrA m) (Ls (ZJi (ZJl m) (t,v))) Ln) Ln
def ZUo (m:List (Int×Int)) (t:Int) (v:Int):List (Int×Int):=getO Zwm.Df (Zyq m t v).val
def ZGy (m:List (Int×Int)) (t:Int) (v:Int):Bool:=okB (Zyq m t v).val
def ZWP:En:=Zg ZOG Zwm (λa=>some (ZGy a.1 a.2.1 a.2.2)) (λa=>ZUo a.1 a.2.1 a.2.2)
theorem ZUn:Za prog 170 ZWP:=
 pureP 127 [(93,ZO1),(165,ZGA)] [] ZOG Zwm ⟨ZtF,ZtA,Tv⟩ Tryz.func170 Tryz.call170 trivial (t:=λa=>Zyq a.1 a.2.1 a.2.2)
abbrev Ztu:List Sh:=[So rcCE,So rcCE]
def ZOr:LS:={n:=26,Sl:=[(0,.code (So rcCE)),(1,.code (So rcCE)),(4,.code (So R.bool)),(12,.code (So Kc)),(13,.code (So Kc))],Bx:=[],Sg:=[]}
def ZeM (a:List (Int×Int)×List (Int×Int)×Bool×Int×Int×PUnit):RT (Option (Go1 (List (Int×Int)×List (Int×Int)×Bool×Int×Int×PUnit))):=
 let x1:= !Ze a.2.2.2.2.1 (Le a.1)||Ze a.2.2.2.2.1 (Le a.2.1)
 let x2:Int×Int:=R.get (R.Pq Kb Ka) a.1 a.2.2.2.2.1
 let x3:Int×Int:=R.get (R.Pq Kb Ka) a.2.1 a.2.2.2.2.1
 let x4:Int×Int×PUnit:=(a.2.2.2.1,a.2.2.2.2.1,PUnit.unit)
 .br (decide (a.2.2.2.2.1<a.2.2.2.1)) (.br (!x1||Ze a.2.2.2.2.1 (Le a.1)) (.br (x1) (.br (!(x2.1==x3.1&&(x2.2==x3.2&&true))) (Ls (Go1.ret (a.1,a.2.1,false,x4))) (Ls (Go1.cont (a.1,a.2.1,a.2.2.1,a.2.2.2.1,i64.wrap (a.2.2.2.2.1+1),PUnit.unit)))) Ln) Ln) (Ls (Go1.brk (a.1,a.2.1,a.2.2.1,x4)))
def Zyn:Ora:=ZaB true ZOr ZeM (λa=>10000000000000)
theorem ZBt:Zal (envX prog [] [] 63 8) (.block 0 (.loop (ZQ Tryz.f34.body 0))) Zyn:=
 loopP trivial
def ZhU (a:List (Int×Int)) (b:List (Int×Int)):RT (Option (Bool)):=
 let x1:=runF true ZeM (λa_1=>10000000000000) (a,b,false,iN (Le a),0,())
 let x2:=getO (false,a,b,false,iN (Le a),0,()) x1
 .br (iN (Le a) !=iN (Le b)) (Ls (false)) (.br (okB x1) (.br x2.1 (Ls x2.2.2.2.1) (Ls (true))) Ln)
def ZOs (a:List (Int×Int)) (b:List (Int×Int)):Bool:=getO Zwg.Df (ZhU a b).val
def ZBu (a:List (Int×Int)) (b:List (Int×Int)):Bool:=okB (ZhU a b).val
def ZYY:En:=Zg Ztu Zwg (λa=>some (ZBu a.1 a.2)) (λa=>ZOs a.1 a.2)
theorem ZOq:Za prog 34 ZYY:=
 pureP 63 [] [(0,Zyn)] Ztu Zwg trivial Tryz.func34 Tryz.call34 ⟨ZBt,Tv⟩ (t:=λa=>ZhU a.1 a.2)
abbrev ZPj:List Sh:=[So rcRG,So Kb]
def ZUD:LS:={n:=26,Sl:=[(1,.code (So Kb)),(4,.code (So Kc)),(7,.code (So rcRG)),(8,.code (So Kc)),(9,.code (So Kc))],Bx:=[],Sg:=[]}
def Zg7 (a:QT15):RT (Option (Go1 (QT15))):=
 let x1:QT3:=R.get (R.Pq Kb (R.Pq Kb (R.Pq R.bool Kc))) a.2.2.1 a.2.2.2.2.1
 let x2:List (QT3)×Int×Int×PUnit:=(a.2.2.1,a.2.2.2.1,a.2.2.2.2.1,PUnit.unit)
 .br (decide (a.2.2.2.2.1<a.2.2.2.1)) (.br (Ze a.2.2.2.2.1 (Le a.2.2.1)) (.br (decide (x1.1<=a.1)&&decide (a.1<=x1.2.1)) (Ls (Go1.ret (a.1,a.2.2.2.2.1,x2))) (Ls (Go1.cont (a.1,a.2.1,a.2.2.1,a.2.2.2.1,i64.wrap (a.2.2.2.2.1+1),PUnit.unit)))) Ln) (Ls (Go1.brk (a.1,a.2.1,x2)))
def ZGV:Ora:=ZaB true ZUD Zg7 (λa=>10000000000000)
theorem ZJz:Zal (envX prog [] [] 127 8) (.block 0 (.loop (ZQ Tryz.f169.body 0))) ZGV:=
 loopP trivial
def ZnV (l:List (QT3)) (t:Int):RT (Option (Int)):=
 let x1:=runF true Zg7 (λa=>10000000000000) (t,0,l,iN (Le l),0,())
 let x2:=getO (false,t,0,l,iN (Le l),0,()) x1
 .br (okB x1) (.br x2.1 (Ls x2.2.2.1) (Ls (-1))) Ln
def Zj7 (l:List (QT3)) (t:Int):Int:=getO ZWB.Df (ZnV l t).val
def ZnW (l:List (QT3)) (t:Int):Bool:=okB (ZnV l t).val
def ZGW:En:=Zg ZPj ZWB (λa=>some (ZnW a.1 a.2)) (λa=>Zj7 a.1 a.2)
theorem ZtV:Za prog 169 ZGW:=
 pureP 127 [] [(0,ZGV)] ZPj ZWB trivial Tryz.func169 Tryz.call169 ⟨ZJz,Tv⟩ (t:=λa=>ZnV a.1 a.2)
abbrev Ztw:List Sh:=[So rcRG,So rcCE,So Kb]
def Zm6 (l:List (QT3)) (m:List (Int×Int)) (t:Int):RT (Option (Int)):=
 .br (ZnW l t) (.br (decide (Zj7 l t<0)) (Ls (255)) (.br (ZGS m t) (Ls (ZUC m t)) Ln)) Ln
def ZOA (l:List (QT3)) (m:List (Int×Int)) (t:Int):Int:=getO ZCt.Df (Zm6 l m t).val
def ZBx (l:List (QT3)) (m:List (Int×Int)) (t:Int):Bool:=okB (Zm6 l m t).val
def ZY3:En:=Zg Ztw ZCt (λa=>some (ZBx a.1 a.2.1 a.2.2)) (λa=>ZOA a.1 a.2.1 a.2.2)
theorem ZOz:Za prog 255 ZY3:=
 pureP 127 [(60,ZW6),(169,ZGW)] [] Ztw ZCt ⟨ZUA,ZtV,Tv⟩ Tryz.func255 Tryz.call255 trivial (t:=λa=>Zm6 a.1 a.2.1 a.2.2)
abbrev ZmV:List Sh:=[So rcRG,So rcCE,So Kb,So Ka]
def ZiG (l:List (QT3)) (m:List (Int×Int)) (t:Int) (v:Int):RT (Option (List (Int×Int))):=
 let x1:=decide (Zj7 l t>=0)&&(R.get (R.Pq Kb (R.Pq Kb (R.Pq R.bool Kc))) l (Zj7 l t)).2.2.1
 .br (ZnW l t) (.br (!decide (Zj7 l t>=0)||Ze (Zj7 l t) (Le l)) (.br (!x1||ZGy m t v) (.br (x1) (Ls (ZUo m t v)) (.br (ZrA m) (Ls (ZJl m)) Ln)) Ln) Ln) Ln
def ZBj (l:List (QT3)) (m:List (Int×Int)) (t:Int) (v:Int):List (Int×Int):=getO Zwm.Df (ZiG l m t v).val
def Ztk (l:List (QT3)) (m:List (Int×Int)) (t:Int) (v:Int):Bool:=okB (ZiG l m t v).val
def ZUd:En:=Zg ZmV Zwm (λa=>some (Ztk a.1 a.2.1 a.2.2.1 a.2.2.2)) (λa=>ZBj a.1 a.2.1 a.2.2.1 a.2.2.2)
theorem ZI6:Za prog 95 ZUd:=
 pureP 1023 [(93,ZO1),(169,ZGW),(170,ZWP)] [] ZmV Zwm ⟨ZtF,ZtV,ZUn,Tv⟩ Tryz.func95 Tryz.call95 trivial (t:=λa=>ZiG a.1 a.2.1 a.2.2.1 a.2.2.2)
def ZVe:LS:={n:=26,Sl:=[(1,.code (So Kb)),(4,.code (So Kc)),(7,.code (So rcRG)),(8,.code (So Kc)),(9,.code (So Kc))],Bx:=[],Sg:=[]}
def ZHB (a:QT15):RT (Option (Go1 (QT15))):=
 let x1:QT3:=R.get (R.Pq Kb (R.Pq Kb (R.Pq R.bool Kc))) a.2.2.1 a.2.2.2.2.1
 let x2:List (QT3)×Int×Int×PUnit:=(a.2.2.1,a.2.2.2.1,a.2.2.2.2.1,PUnit.unit)
 .br (decide (a.2.2.2.2.1<a.2.2.2.1)) (.br (Ze a.2.2.2.2.1 (Le a.2.2.1)) (.br (decide (x1.1<=a.1)&&decide (a.1<=x1.2.1)) (Ls (Go1.ret (a.1,a.2.2.2.2.1,x2))) (Ls (Go1.cont (a.1,a.2.1,a.2.2.1,a.2.2.2.1,i64.wrap (a.2.2.2.2.1+1),PUnit.unit)))) Ln) (Ls (Go1.brk (a.1,a.2.1,x2)))
def ZHC:Ora:=ZaB true ZVe ZHB (λa=>10000000000000)
theorem ZKE:Zal (envX prog [] [] 127 8) (.block 0 (.loop (ZQ Tryz.f209.body 0))) ZHC:=
 loopP trivial
def ZHA (l:List (QT3)) (t:Int):RT (Option (Int)):=
 let x1:=runF true ZHB (λa=>10000000000000) (t,0,l,iN (Le l),0,())
 let x2:=getO (false,t,0,l,iN (Le l),0,()) x1
 .br (okB x1) (.br x2.1 (Ls x2.2.2.1) (Ls (-1))) Ln
def ZKF (l:List (QT3)) (t:Int):Int:=getO ZWB.Df (ZHA l t).val
def ZQ3 (l:List (QT3)) (t:Int):Bool:=okB (ZHA l t).val
def ZXG:En:=Zg ZPj ZWB (λa=>some (ZQ3 a.1 a.2)) (λa=>ZKF a.1 a.2)
theorem ZVd:Za prog 209 ZXG:=
 pureP 127 [] [(0,ZHC)] ZPj ZWB trivial Tryz.func209 Tryz.call209 ⟨ZKE,Tv⟩ (t:=λa=>ZHA a.1 a.2)
end
end Go.Proofs.YtpnjbfjomebppaaGreat
namespace Go.Proofs.Cells
def getX (l:List Cell) (a:Int):Int:=((flt a l).getLast?.map Prod.snd).getD 0
def Vld (m:List Cell):Prop:=m.Pairwise (λa b=>a.1<b.1)/\∀c∈m,c.2≠0
variable {l:List Cell}
theorem ZLK {l':List Cell} (h:Sm l l') (a:Int):getX l a=getX l' a:=by rw[getX,getX,h a]
variable {m:List Cell}
theorem Vld.srt (h:Vld m):Srt m:=h.1.imp λh=>Int.le_of_lt h
theorem Vld.tail {c:Cell} (h:Vld (c::m)):Vld m:=⟨(Yv.1 h.1).2,λx hx=>h.2 x (YG _ hx)⟩
theorem ZIh (a:Int):getX [] a=0:=rfl
theorem ZlZ (a:Int) (c:Cell) (l:List Cell):flt a (c::l)=if c.1=a then c::flt a l else flt a l:=by by_cases h:c.1=a<;>simp[flt,h]
theorem Zee (c:Cell) (l:List Cell) (a:Int):getX (c::l) a=if c.1=a/\flt a l=[] then c.2 else getX l a:=by
 simp only[getX,ZlZ];by_cases h:c.1=a
 ·simp only[h,if_true,true_and];cases hf:flt a l with
  |nil=>simp
  |cons x r=>simp[List.getLast?_cons_cons]
 ·simp[h]
theorem Vld.flt {m:List Cell} (h:Vld m) (a:Int):Cells.flt a m=if getX m a=0 then [] else [(a,getX m a)]:=by
 induction m with
 |nil=>simp[Cells.flt,ZIh]
 |cons c m ih=>
  have ih:=ih h.tail;have h1:=Yv.1 h.1;by_cases hc:c.1=a
  ·have hn:Cells.flt a m=[]:=Zef λx hx=>by have:=h1.1 x hx;omega
   have hz:=h.2 c (by simp);rw[ZlZ,Zee];simp only[hc,hn,and_self,if_true,hz,if_false];rw[<-hc]
  ·rw[ZlZ,Zee];simp only[hc,false_and,if_false,ih]
theorem ZYh {m':List Cell} (h:Vld m) (h':Vld m') (e:∀a,getX m a=getX m' a):m=m':=
 uniq h.srt h'.srt λk=>by rw[h.flt,h'.flt,e k]
def dd:List Cell->List Cell
 |[]=>[]
 |x::r=>match r with
  |[]=>if x.2=0 then [] else [x]
  |y::_=>if x.1=y.1 then dd r else if x.2=0 then dd r else x::dd r
theorem Zsc:∀{l:List Cell} {c:Cell},c∈dd l->c∈l/\c.2≠0
 |[],c,h=>by simp[dd] at h
 |[x],c,h=>by
  simp only[dd] at h;split at h
  ·simp at h
  ·rename_i hz;simp at h;subst h;exact⟨by simp,hz⟩
 |x::y::r,c,h=>by
  rw[dd] at h;split at h
  ·have:=Zsc h;exact⟨YG _ this.1,this.2⟩
  ·split at h
   ·have:=Zsc h;exact⟨YG _ this.1,this.2⟩
   ·rename_i hz;rcases Yx.1 h with e|e
    ·subst e;exact⟨by simp,hz⟩
    ·have:=Zsc e;exact⟨YG _ this.1,this.2⟩
theorem ZXU:∀{l:List Cell},Srt l->Vld (dd l)
 |[],_=>⟨Yae,λc h=>by simp[dd] at h⟩
 |[x],_=>by refine⟨?_,λc h=>(Zsc h).2⟩;simp only[dd];split<;>simp
 |x::y::r,h=>by
  have h1:=Yv.1 h;have ih:=ZXU (l:=y::r) h1.2;have h2:=Yv.1 h1.2;rw[dd];split
  ·exact ih
  ·rename_i hne;split
   ·exact ih
   ·rename_i hz;refine⟨Yv.2 ⟨λc hc=> ?_,ih.1⟩,λc hc=> ?_⟩
    ·have hxy:=h1.1 y (by simp);rcases Yx.1 (Zsc hc).1 with e|e
     ·rw[e];omega
     ·have:=h2.1 c e;omega
    ·rcases Yx.1 hc with e|e
     ·rw[e];exact hz
     ·exact ih.2 c e
theorem ZXV:∀{l:List Cell},Srt l->∀a,getX (dd l) a=getX l a
 |[],_,_=>rfl
 |[x],_,a=>by
  simp only[dd];split
  ·rename_i hz;rw[Zee];simp[flt,getX,hz]
  ·rfl
 |x::y::r,h,a=>by
  have h1:=Yv.1 h;have ih:=ZXV (l:=y::r) h1.2 a;have h2:=Yv.1 h1.2;rw[dd,Zee x (y::r)];by_cases hxy:x.1=y.1
  ·rw[YT hxy,ih];by_cases hc:x.1=a/\flt a (y::r)=[]
   ·obtain⟨e,e2⟩:=hc;rw[ZlZ,YT (by rw[<-hxy];exact e)] at e2;simp at e2
   ·rw[YZ hc]
  ·rw[YZ hxy];have hlt:∀c∈y::r,x.1<c.1:=λc hc=>by
    have:=h1.1 y (by simp);rcases Yx.1 hc with e|e
    ·rw[e];omega
    ·have:=h2.1 c e;omega
   by_cases hc:x.1=a
   ·have hn:flt a (y::r)=[]:=Zef λc hc'=>by have:=hlt c hc';omega
    have hn2:flt a (dd (y::r))=[]:=Zef λc hc'=>by have:=hlt c (Zsc hc').1;omega
    by_cases hz:x.2=0
    ·rw[YT hz,YT ⟨hc,hn⟩,hz,getX,hn2];rfl
    ·rw[YZ hz,YT ⟨hc,hn⟩,Zee,YT ⟨hc,hn2⟩]
   ·by_cases hz:x.2=0
    ·rw[YT hz,YZ (λh=>hc h.1),ih]
    ·rw[YZ hz,YZ (λh=>hc h.1),Zee,YZ (λh=>hc h.1),ih]
def putX:List Cell->Cell->List Cell
 |[],c=>if c.2=0 then [] else [c]
 |x::r,c=>if x.1<c.1 then x::putX r c else if c.2=0 then (if x.1=c.1 then r else x::r) else if x.1=c.1 then c::r else c::x::r
theorem ZlL:∀{m:List Cell} {c x:Cell},x∈putX m c->x=c\/x∈m
 |[],c,x,h=>by
  simp only[putX] at h;split at h
  ·simp at h
  ·left;simpa using h
 |y::r,c,x,h=>by
  simp only[putX] at h;split at h
  ·rcases Yx.1 h with e|e
   ·right;simp[e]
   ·rcases ZlL e with e|e
    ·exact .inl e
    ·right;simp[e]
  ·split at h
   ·split at h
    ·right;simp[h]
    ·right;exact h
   ·split at h
    ·rcases Yx.1 h with e|e
     ·exact .inl e
     ·right;simp[e]
    ·rcases Yx.1 h with e|e
     ·exact .inl e
     ·right;exact e
theorem ZuI:∀{m:List Cell} {c:Cell},Vld m->Vld (putX m c)
 |[],c,_=>by
  simp only[putX];split
  ·exact⟨Yae,λc h=>by simp at h⟩
  ·rename_i hz;exact⟨by simp,λx h=>by simp at h;rw[h];exact hz⟩
 |y::r,c,h=>by
  have h1:=Yv.1 h.1;have hy:=h.2 y (by simp);simp only[putX];split
  ·rename_i hlt;have ih:=ZuI (c:=c) h.tail;refine⟨Yv.2 ⟨λx hx=> ?_,ih.1⟩,λx hx=> ?_⟩
   ·rcases ZlL hx with e|e
    ·rw[e];exact hlt
    ·exact h1.1 x e
   ·rcases Yx.1 hx with e|e
    ·rw[e];exact hy
    ·exact ih.2 x e
  ·rename_i hge;split
   ·split
    ·exact h.tail
    ·exact h
   ·rename_i hz;split
    ·rename_i he;refine⟨Yv.2 ⟨λx hx=> ?_,h1.2⟩,λx hx=> ?_⟩
     ·have:=h1.1 x hx;omega
     ·rcases Yx.1 hx with e|e
      ·rw[e];exact hz
      ·exact h.2 x (YG _ e)
    ·rename_i hne;refine⟨Yv.2 ⟨λx hx=> ?_,h.1⟩,λx hx=> ?_⟩
     ·rcases Yx.1 hx with e|e
      ·rw[e];omega
      ·have:=h1.1 x e;omega
     ·rcases Yx.1 hx with e|e
      ·rw[e];exact hz
      ·exact h.2 x e
theorem Zwy {a:Int} (h:∀c∈l,c.1≠a):getX l a=0:=by rw[getX,Zef h];rfl
theorem ZdO {x:Cell} {r:List Cell} (h:∀c∈r,x.1<c.1) (a:Int):getX (x::r) a=if x.1=a then x.2 else getX r a:=by
 rw[Zee];by_cases hx:x.1=a
 ·have:flt a r=[]:=Zef λc hc=>by have:=h c hc;omega
  simp[hx,this]
 ·simp[hx]
theorem ZG9:∀{m:List Cell} {c:Cell},Vld m->∀a,getX (putX m c) a=if c.1=a then c.2 else getX m a
 |[],c,_,a=>by
  simp only[putX];split
  ·rename_i hz;rw[ZIh,hz];simp
  ·rw[ZdO (by simp)]
 |y::r,c,h,a=>by
  have h1:=Yv.1 h.1;simp only[putX];split
  ·rename_i hlt
   rw[ZdO (λx hx=>by
    rcases ZlL hx with e|e
    ·rw[e];exact hlt
    ·exact h1.1 x e),ZdO h1.1,ZG9 h.tail a]
   by_cases e1:y.1=a
   ·simp only[e1,if_true];rw[YZ (by omega)]
   ·simp[e1]
  ·rename_i hge;split
   ·rename_i hz;split
    ·rename_i he;rw[ZdO h1.1];by_cases e:c.1=a
     ·rw[YT e,hz];exact Zwy λx hx=>by have:=h1.1 x hx;omega
     ·rw[YZ e,YZ (by omega)]
    ·rename_i hne;by_cases e:c.1=a
     ·rw[YT e,hz];exact Zwy λx hx=>by
       rcases Yx.1 hx with e'|e'
       ·rw[e'];omega
       ·have:=h1.1 x e';omega
     ·rw[YZ e]
   ·split
    ·rename_i he;rw[ZdO (λx hx=>by have:=h1.1 x hx;omega),ZdO h1.1];by_cases e:c.1=a
     ·simp[e]
     ·rw[YZ e,YZ e,YZ (by omega)]
    ·rename_i hne
     rw[ZdO (λx hx=>by
      rcases Yx.1 hx with e|e
      ·rw[e];omega
      ·have:=h1.1 x e;omega)]
def normX (l:List Cell):List Cell:=l.foldl putX []
theorem ZSz (l:List Cell) (c:Cell) (a:Int):getX (l++[c]) a=if c.1=a then c.2 else getX l a:=by
 rw[getX,getX,Zdi];by_cases h:c.1=a
 ·have:flt a [c]=[c]:=by simp[flt,h]
  rw[this,List.getLast?_append];simp[h]
 ·have:flt a [c]=[]:=Zef λx hx=>by simp at hx;rw[hx];exact h
  rw[this];simp[h]
theorem ZpS:∀(l:List Cell) {m:List Cell},Vld m->Vld (l.foldl putX m)/\∀a,getX (l.foldl putX m) a=getX (m++l) a
 |[],m,h=>⟨h,λa=>by simp⟩
 |c::l,m,h=>by
  obtain⟨h1,h2⟩:=ZpS l (ZuI (c:=c) h);refine⟨h1,λa=> ?_⟩;rw[List.foldl_cons,h2 a];have e:m++c::l=(m++[c])++l:=by simp
  rw[e];have key:∀{p q:List Cell},(∀b,getX p b=getX q b)->∀l b,getX (p++l) b=getX (q++l) b:=by
   intro p q hpq l b;simp only[getX,Zdi,List.getLast?_append];cases hl:(flt b l).getLast? with
   |none=>simpa [getX] using hpq b
   |some x=>simp
  exact key (λb=>by rw[ZG9 h,ZSz]) l a
theorem ZeS (l:List Cell):Vld (normX l):=(ZpS l ⟨Yae,λc h=>by simp at h⟩).1
theorem ZRB (l:List Cell) (a:Int):getX (normX l) a=getX l a:=(ZpS l ⟨Yae,λc h=>by simp at h⟩).2 a
theorem ZHL (h:Vld m) (e:∀a,getX m a=getX l a):normX l=m:=ZYh (ZeS l) h λa=>by rw[ZRB,e]
theorem Zkl (h:Vld m):normX m=m:=ZHL h λ_=>rfl
theorem ZLn (l:List Cell):dd (isort l)=normX l:=
 (ZHL (ZXU (ZbI l)) λa=>by rw[ZXV (ZbI l),ZLK (Zfr l)]).symm
end Go.Proofs.Cells
open Go Go.S3 Go.Proofs Go.Proofs.Cells
namespace Go.Proofs.YtpnjbfjomebppaaGreat
noncomputable section
abbrev Z6:=QT3
theorem ZwJ (l:List Cell) (i:Nat) (h:i<l.length):l.drop i=el l i::l.drop (i+1):=by rw[Yak h];have:=Zcu l i h;rw[Yi h,oinj] at this;rw[this]
theorem ZAZ (l:List Cell) (i:Nat) (h:i<l.length):l.take (i+1)=l.take i++[el l i]:=by rw[Yat,Zcu l i h];rfl
theorem Z2o (l:List Cell) (i:Nat) (h:i<l.length):el l i∈l:=List.mem_iff_getElem?.2 ⟨i,Zcu l i h⟩
def okAt (m:List Cell) (i:Nat):Bool:= !((el m i).2==0||(decide ((i:Int)>0)&&decide ((el m i).1<=(el m (i-1)).1)))
def vldB (m:List Cell):Bool:=(List.range m.length).all (okAt m)
variable {m:List Cell} {i:Nat}
theorem ZqO (hi:i<m.length) (h:okAt m i=false):vldB m=false:=by rw[YD];intro he;have:=Y6.1 he i (List.mem_range.2 hi);rw[h] at this;exact absurd this (by simp)
theorem Zmr (h:∀i,i<m.length->okAt m i=true):vldB m=true:=Y6.2 λi hi=>h i (List.mem_range.1 hi)
theorem ZsI:vldB m=true↔Vld m:=by
 constructor
 ·intro h;have ha:∀i,i<m.length->okAt m i=true:=λi hi=>Y6.1 h i (List.mem_range.2 hi)
  have hs:∀i,i+1<m.length->(el m i).1<(el m (i+1)).1:=λi hi=>by
   have:=ha (i+1) hi;simp only[okAt,YK,Yp,Yaj,Yab,Nat.add_sub_cancel] at this;rcases this.2 with e|e
   ·omega
   ·omega
  refine⟨?_,λc hc=> ?_⟩
  ·rw[Yay];have key:∀d i,i+d+1<m.length->(el m i).1<(el m (i+d+1)).1:=by
    intro d
    induction d with
    |zero=>intro i hi;exact hs i hi
    |succ d ih=>intro i hi;have h1:=ih i (by omega);have h2:=hs (i+d+1) (by omega);rw[show i+(d+1)+1=i+d+1+1 by omega];omega
   intro i j hi hj hij;have:=key (j-i-1) i (by omega);rw[show i+(j-i-1)+1=j by omega] at this;have e1:=Zcu m i hi;have e2:=Zcu m j hj;rw[Yi hi,oinj] at e1;rw[Yi hj,oinj] at e2;rw[e1,e2];exact this
  ·obtain⟨i,hi⟩:=List.mem_iff_getElem?.1 hc;have hlt:=(YB.1 hi).1;rw[Zcu m i hlt,oinj] at hi;have:=ha i hlt;rw[<-hi];simp only[okAt,YK,Yp,beq_eq_false_iff_ne] at this;exact this.1
 ·intro h;refine Zmr λi hi=> ?_
  simp only[okAt,YK,Yp,beq_eq_false_iff_ne,Yaj,Yab];refine⟨h.2 _ (Z2o m i hi),?_⟩;by_cases h0:i=0
  ·left;omega
  ·right;have:=Yay.1 h.1 (i-1) i (by omega) hi (by omega);have e1:=Zcu m (i-1) (by omega);have e2:=Zcu m i hi;rw[Yi (by omega),oinj] at e1;rw[Yi hi,oinj] at e2;rw[e1,e2] at this;omega
theorem Z0Z (i:Nat) (h:0<i) (h2:i<=4611686018427387904):IntKind.wrap .i64 ((i:Int)-1)=((i-1:Nat):Int):=by rw[wrap_i64 _ (by omega) (by omega)];omega
theorem ZRy (m:List Cell) (i:Nat):((el m i).2==0||(decide ((i:Int)>0)&&decide ((el m i).1<=(el m (i-1)).1)))= !okAt m i:=by simp only[okAt,Bool.not_not]
theorem ZLy (m:List Cell) (hm:m.length<=most):(Zkq m).val=some (vldB m):=by
 have hms:=mst;obtain⟨r,hr,hR⟩:=ZC (fl:=true) (t:=Zea) (fuel:=λa=>10000000000000)
  (I:=λa=>∃i:Nat,i<=m.length/\(∀k,k<i->okAt m k=true)/\a=(m,false,m,(m.length:Int),(i:Int),()))
  (m:=λa=>Int.toNat (a.2.2.2.1-a.2.2.2.2.1)) (R:=λr=>(r.1=false/\vldB m=true)\/(r.1=true/\vldB m=false/\r.2.2.1=false))
  (λa hi=>by
   obtain⟨i,hi,hk,rfl⟩:=hi;by_cases hlt:i<m.length
   ·have d:decide ((i:Int)<(m.length:Int))=true:=by simpa using hlt
    have r1:=Zaz m i hlt;have hw:decide ((i:Int)>0)=true->Ze (IntKind.wrap .i64 ((i:Int)-1)) m.length=true/\IntKind.wrap .i64 ((i:Int)-1)=((i-1:Nat):Int):=λh=>by simp only[Yk] at h;have e:=Z0Z i (by omega) (by omega);exact⟨by rw[e];exact Zaz m (i-1) (by omega),e⟩
    have hck:((el m i).2==0||(!decide ((i:Int)>0)||Ze (IntKind.wrap .i64 ((i:Int)-1)) m.length))=true:=by
     cases h:decide ((i:Int)>0) with
     |false=>simp
     |true=>rw[(hw h).1];simp
    have hcd:((el m i).2==0||(decide ((i:Int)>0)&&decide ((el m i).1<=(R.get CR m (IntKind.wrap .i64 ((i:Int)-1))).1)))= !okAt m i:=by
     rw[<-ZRy];cases h:decide ((i:Int)>0) with
     |false=>simp
     |true=>rw[(hw h).2,Zb4]
    cases ho:okAt m i with
    |true=>
     left;refine⟨(m,false,m,(m.length:Int),((i+1:Nat):Int),()),?_,⟨i+1,hlt,λk hk'=> ?_,rfl⟩,by simp only;omega⟩
     ·rw[ho] at hcd;simp only[Zea,RT.val,d,r1,Zb4,hck,hcd,Yg,Yj,Ya,Yc,ZhH i (by omega)]
     ·by_cases e:k=i
      ·subst e;exact ho
      ·exact hk k (by omega)
    |false=>
     right;right;refine⟨(m,false,m,(m.length:Int),(i:Int),()),rfl,?_,.inr ⟨rfl,ZqO hlt ho,rfl⟩⟩;rw[ho] at hcd;simp only[Zea,RT.val,d,r1,Zb4,hck,hcd,Yg,Ym,Yj,Ya,Yc]
   ·right;left;have d:decide ((i:Int)<(m.length:Int))=false:=by simpa using hlt
    exact⟨(m,false,m,(m.length:Int),(i:Int),()),by simp only[Zea,RT.val,d,Yc],.inl ⟨rfl,Zmr λk hk'=>hk k (by omega)⟩⟩)
  (m,false,m,(m.length:Int),0,()) ⟨0,Ys _,λk h=>by omega,rfl⟩ (by simp only;omega)
 have hr':runF true Zea (λa=>10000000000000) (m,false,m,iN m.length,0,())=some r:=hr;rcases hR with ⟨h1,h2⟩|⟨h1,h2,h3⟩
 ·simp only[Zkq,RT.val,hr',okB,getO,Ya,h1,Yc,h2]
 ·simp only[Zkq,RT.val,hr',okB,getO,Ya,h1,h2,h3]
theorem Zrc (m:List Cell) (hm:m.length<=most):(Zj2 m).val=some (vldB m):=by
 have hms:=mst;obtain⟨r,hr,hR⟩:=ZC (fl:=true) (t:=ZdW) (fuel:=λa=>10000000000000)
  (I:=λa=>∃i:Nat,i<=m.length/\(∀k,k<i->okAt m k=true)/\a=(m,false,(m.length:Int),(i:Int),()))
  (m:=λa=>Int.toNat (a.2.2.1-a.2.2.2.1)) (R:=λr=>(r.1=false/\vldB m=true)\/(r.1=true/\vldB m=false/\r.2.2.1=false))
  (λa hi=>by
   obtain⟨i,hi,hk,rfl⟩:=hi;by_cases hlt:i<m.length
   ·have d:decide ((i:Int)<(m.length:Int))=true:=by simpa using hlt
    have r1:=Zaz m i hlt;have hw:decide ((i:Int)>0)=true->Ze (IntKind.wrap .i64 ((i:Int)-1)) m.length=true/\IntKind.wrap .i64 ((i:Int)-1)=((i-1:Nat):Int):=λh=>by simp only[Yk] at h;have e:=Z0Z i (by omega) (by omega);exact⟨by rw[e];exact Zaz m (i-1) (by omega),e⟩
    have hck:((el m i).2==0||(!decide ((i:Int)>0)||Ze (IntKind.wrap .i64 ((i:Int)-1)) m.length))=true:=by
     cases h:decide ((i:Int)>0) with
     |false=>simp
     |true=>rw[(hw h).1];simp
    have hcd:((el m i).2==0||(decide ((i:Int)>0)&&decide ((el m i).1<=(R.get CR m (IntKind.wrap .i64 ((i:Int)-1))).1)))= !okAt m i:=by
     rw[<-ZRy];cases h:decide ((i:Int)>0) with
     |false=>simp
     |true=>rw[(hw h).2,Zb4]
    cases ho:okAt m i with
    |true=>
     left;refine⟨(m,false,(m.length:Int),((i+1:Nat):Int),()),?_,⟨i+1,hlt,λk hk'=> ?_,rfl⟩,by simp only;omega⟩
     ·rw[ho] at hcd;simp only[ZdW,RT.val,d,r1,Zb4,hck,hcd,Yg,Yj,Yf,Ya,Yc,ZhH i (by omega)]
     ·by_cases e:k=i
      ·subst e;exact ho
      ·exact hk k (by omega)
    |false=>
     right;right;refine⟨(m,false,(m.length:Int),(i:Int),()),rfl,?_,.inr ⟨rfl,ZqO hlt ho,rfl⟩⟩;rw[ho] at hcd;simp only[ZdW,RT.val,d,r1,Zb4,hck,hcd,Yg,Ym,Yj,Yf,Ya,Yc]
   ·right;left;have d:decide ((i:Int)<(m.length:Int))=false:=by simpa using hlt
    exact⟨(m,false,(m.length:Int),(i:Int),()),by simp only[ZdW,RT.val,d,Yc],.inl ⟨rfl,Zmr λk hk'=>hk k (by omega)⟩⟩)
  (m,false,(m.length:Int),0,()) ⟨0,Ys _,λk h=>by omega,rfl⟩ (by simp only;omega)
 have hr':runF true ZdW (λa=>10000000000000) (m,false,iN m.length,0,())=some r:=hr;rcases hR with ⟨h1,h2⟩|⟨h1,h2,h3⟩
 ·simp only[Zj2,RT.val,hr',okB,getO,Ya,h1,Yc,h2]
 ·simp only[Zj2,RT.val,hr',okB,getO,Ya,h1,h2,h3]
variable {t:Int}
theorem Z0F (hi:i<m.length) (he:(el m i).1=t) (hk:∀k,i<k->k<m.length->(el m k).1≠t):getX m t=(el m i).2:=by
 have e:m=m.take i++[el m i]++m.drop (i+1):=by rw[Yo,List.singleton_append,<-ZwJ m i hi,Yai]
 have h0:flt t (m.drop (i+1))=[]:=Zef λc hc=>by obtain⟨k,h1,h2,rfl⟩:=Zjh hc;exact hk k (by omega) h2
 have h1:flt t [el m i]=[el m i]:=by simp[flt,he]
 have h2:flt t m=flt t (m.take i)++[el m i]:=by conv=>lhs;rw[e,Zdi,Zdi,h0,h1,YR]
 rw[getX,h2,List.getLast?_append];simp
theorem ZT8 (m:List Cell) (t:Int) (hm:m.length<=most):(ZrD m t).val=some (getX m t):=by
 have hms:=mst;obtain⟨r,hr,hR⟩:=ZC (fl:=true) (t:=Zg6) (fuel:=λa=>10000000000000)
  (I:=λa=>∃i:Nat,i<=m.length/\(∀k,i<=k->k<m.length->(el m k).1≠t)/\a=(m,t,0,(i:Int)-1,()))
  (m:=λa=>Int.toNat (a.2.2.2.1+1)) (R:=λr=>(r.1=false/\getX m t=0)\/(r.1=true/\r.2.2.2.1=getX m t))
  (λa hi=>by
   obtain⟨i,hi,hk,rfl⟩:=hi;cases i with
   |zero=>
    right;left;refine⟨(m,t,0,((0:Nat):Int)-1,()),by simp[Zg6,RT.val],.inl ⟨rfl,Zwy λc hc=> ?_⟩⟩;obtain⟨k,hk'⟩:=List.mem_iff_getElem?.1 hc;have hlt:=(YB.1 hk').1;rw[Zcu m k hlt,oinj] at hk';rw[<-hk'];exact hk k (Ys _) hlt
   |succ i=>
    have ei:((i+1:Nat):Int)-1=(i:Int):=by omega
    rw[ei];have d:decide ((i:Int)>=0)=true:=by simp
    have r1:=Zaz m i (by omega);cases he:((el m i).1==t) with
    |true=>
     right;right;refine⟨(m,t,(el m i).2,(i:Int),()),rfl,by simp only[Zg6,RT.val,d,r1,Zb4,he,Ya,Yg,Yj],.inr ⟨rfl,?_⟩⟩;exact (Z0F (by omega) (by simpa using he) λk h1 h2=>hk k (by omega) h2).symm
    |false=>
     left;refine⟨(m,t,0,(i:Int)-1,()),?_,⟨i,by omega,λk h1 h2=> ?_,rfl⟩,by simp only;omega⟩
     ·have w:IntKind.wrap .i64 ((i:Int)-1)=(i:Int)-1:=wrap_i64 _ (by omega) (by omega);simp only[Zg6,RT.val,d,r1,Zb4,he,Ya,Yc,Yg,Ym,Yt,Yj,w]
     ·by_cases e:k=i
      ·subst e;simpa using he
      ·exact hk k (by omega) h2)
  (m,t,0,(m.length:Int)-1,()) ⟨m.length,Ye _,λk h1 h2=>by omega,rfl⟩ (by simp only;omega)
 have w:IntKind.wrap .i64 (iN m.length-1)=(m.length:Int)-1:=wrap_i64 _ (by simp only[iN,Le];omega) (by simp only[iN,Le];omega);rcases hR with ⟨h1,h2⟩|⟨h1,h2⟩
 ·simp only[ZrD,RT.val,w,hr,okB,getO,Ya,h1,Yc,h2]
 ·simp only[ZrD,RT.val,w,hr,okB,getO,Ya,h1,h2]
def pst (c:Cell) (s:Bool×List Cell) (x:Cell):Bool×List Cell:=
 let t:= !s.1&&decide (x.1>=c.1)
 let o:=bif t then (bif c.2 !=0 then s.2++[c] else s.2) else s.2
 (t||s.1,bif x.1 !=c.1 then o++[x] else o)
def pfin (c:Cell) (s:Bool×List Cell):List Cell:=bif !s.1&&c.2 !=0 then s.2++[c] else s.2
theorem ZHd (c:Cell):∀(m:List Cell) (o:List Cell),(∀x∈m,x.1≠c.1)->m.foldl (pst c) (true,o)=(true,o++m)
 |[],o,_=>by simp
 |x::m,o,h=>by
  have hx:(x.1 !=c.1)=true:=by simpa using h x (by simp)
  simp only[List.foldl_cons,pst,Yg,Y1,Yc,Yf,hx,Ya];rw[ZHd c m (o++[x]) λy hy=>h y (YG _ hy)];simp
theorem ZPZ (c:Cell):∀(m:List Cell) (o:List Cell),m.Pairwise (λa b=>a.1<b.1)->pfin c (m.foldl (pst c) (false,o))=o++putX m c
 |[],o,_=>by
  simp only[List.foldl_nil,pfin,putX,Ym,YU];by_cases h:c.2=0
  ·simp[h]
  ·have:(c.2 !=0)=true:=by simpa using h
   simp[h,this]
 |x::m,o,h=>by
  have h1:=Yv.1 h;by_cases hx:x.1<c.1
  ·have e1:decide (x.1>=c.1)=false:=by simp;omega
   have e2:(x.1 !=c.1)=true:=by simp;omega
   simp only[List.foldl_cons,pst,e1,Y5,Yc,YF,e2,Ya];rw[ZPZ c m (o++[x]) h1.2,putX,YT hx];simp
  ·have e1:decide (x.1>=c.1)=true:=by simp;omega
   have hne:∀y∈m,y.1≠c.1:=λy hy=>by have:=h1.1 y hy;omega
   simp only[List.foldl_cons,pst,e1,Ym,YV,Ya,Yt];rw[ZHd c m _ hne,putX,YZ hx];simp only[pfin,Yg,Y1,Yc];by_cases hz:c.2=0
   ·by_cases hk:x.1=c.1
    ·simp[hz,hk]
    ·have:(x.1 !=c.1)=true:=by simpa using hk
     simp[hz,hk,this]
   ·have hz1:(c.2 !=0)=true:=by simpa using hz
    by_cases hk:x.1=c.1
    ·simp[hz,hk,hz1]
    ·have:(x.1 !=c.1)=true:=by simpa using hk
     simp[hz,hk,this,hz1]
theorem ZCN (c:Cell):∀(m:List Cell) (s:Bool×List Cell),(m.foldl (pst c) s).2.length+(bif (m.foldl (pst c) s).1 then 0 else 1)<=s.2.length+(bif s.1 then 0 else 1)+m.length
 |[],s=>by simp
 |x::m,s=>by
  rw[List.foldl_cons];have ih:=ZCN c m (pst c s x);have:(pst c s x).2.length+(bif (pst c s x).1 then 0 else 1)<=s.2.length+(bif s.1 then 0 else 1)+1:=by obtain⟨d,o⟩:=s;simp only[pst];generalize decide (x.1>=c.1)=b1;generalize (c.2 !=0)=b2;generalize (x.1 !=c.1)=b3;cases d<;>cases b1<;>cases b2<;>cases b3<;>simp<;>omega
  simp only[List.length_cons];omega
theorem ZmQ (m:List Cell) (c:Cell) (hv:Vld m) (hm:m.length+1<=most):Zrv m c=true/\ZJi m c=putX m c:=by
 have hms:=mst;obtain⟨r,hr,h1,i,hR⟩:=ZC (fl:=false) (t:=ZiN) (fuel:=λa=>10000000000000)
  (λa=>∃i:Nat,i<=m.length/\a=(((m.take i).foldl (pst c) (false,[])).1,m,(m.length:Int),(i:Int),c,((m.take i).foldl (pst c) (false,[])).2,()))
  (λa=>Int.toNat (a.2.2.1-a.2.2.2.1)) (λr=>r.1=false/\∃i:Nat,r.2=((m.foldl (pst c) (false,[])).1,m,(m.length:Int),(i:Int),c,(m.foldl (pst c) (false,[])).2,()))
  (by
   rintro a ⟨i,hi,rfl⟩;by_cases hlt:i<m.length
   ·left;have d:decide ((i:Int)<(m.length:Int))=true:=by simpa using hlt
    have r1:=Zaz m i hlt;have hl:=ZCN c (m.take i) (false,[]);have hs:(m.take (i+1)).foldl (pst c) (false,[])=pst c ((m.take i).foldl (pst c) (false,[])) (el m i):=by rw[ZAZ m i hlt,YaL];rfl
    rw[YA,YaS (by omega)] at hl;refine⟨_,?_,⟨i+1,hlt,rfl⟩,by simp only;omega⟩;rw[hs];generalize (m.take i).foldl (pst c) (false,[])=s at hl|-;obtain⟨dn,o⟩:=s;simp only[List.length_nil,Yc] at hl;simp only[ZiN,RT.val,d,r1,Zb4,Ya,Yg,Yj,pst,ZhH i (by omega)];generalize decide ((el m i).1>=c.1)=b1;generalize hb2:(c.2 !=0)=b2;generalize hb3:((el m i).1 !=c.1)=b3;have l1:Nat.ble (o++[c]).length most=true\/dn=true:=by
     cases dn with
     |true=>exact .inr rfl
     |false=>left;rw[YP];simp only[Yc] at hl;simp only[Yd,List.length_singleton];omega
    have l2:Nat.ble (o++[el m i]).length most=true:=by rw[YP];simp only[Yd,List.length_singleton];cases dn<;>simp only[Ya,Yc] at hl<;>omega
    have l3:Nat.ble (o++[c]++[el m i]).length most=true\/dn=true:=by
     cases dn with
     |true=>exact .inr rfl
     |false=>left;rw[YP];simp only[Yc] at hl;simp only[Yd,List.length_singleton];omega
    cases dn with
    |true=>
     cases b3<;>simp only[l2,Yg,Ym,Y1,Yt,Yj,Yf,Ya,Yc]
    |false=>
     have l1:Nat.ble (o++[c]).length most=true:=by simpa using l1
     have l3:Nat.ble (o++[c]++[el m i]).length most=true:=by simpa using l3
     cases b1<;>cases b2<;>cases b3<;>simp only[l1,l2,l3,Yg,Ym,Y1,YU,Yt,Yj,Yf,YF,YV,Ya,Yc]
   ·right;left;have d:decide ((i:Int)<(m.length:Int))=false:=by simpa using hlt
    have e:m.take i=m:=Y4 (by omega);rw[e]
    exact⟨_,by simp only[ZiN,RT.val,d,Yc],rfl,i,rfl⟩)
  (false,m,iN m.length,0,c,[],()) ⟨0,Ys _,rfl⟩ (by simp only[iN,Le];omega)
 have hl:=ZCN c m (false,[]);have hp:=ZPZ c m [] hv.1;simp only[List.nil_append] at hp;obtain⟨r1,r2⟩:=r;simp only at h1 hR;subst h1 hR;generalize m.foldl (pst c) (false,[])=s at hl hp hr;obtain⟨dn,o⟩:=s;have hb:(!(!dn&&c.2 !=0)||Nat.ble (o++[c]).length most)=true:=by
  cases dn with
  |true=>rfl
  |false=>
   have:Nat.ble (o++[c]).length most=true:=by rw[YP];simp only[Yc,List.length_nil] at hl;simp only[Yd,List.length_singleton];omega
   rw[this];simp
 have hv:(Zru m c).val=some (putX m c):=by simp only[Zru,RT.val,hr,okB,getO,Ya,hb,<-hp,pfin]
 exact⟨by simp only[Zrv,hv];rfl,by simp only[ZJi,hv,getO]⟩
theorem ZuJ (c:Cell):∀m:List Cell,(putX m c).length<=m.length+1
 |[]=>by simp only[putX];split<;>simp
 |x::m=>by
  have:=ZuJ c m;simp only[putX];repeat' split
  all_goals simp only[List.length_cons];omega
theorem Zkk (l:List Cell) (c:Cell):normX (l++[c])=putX (normX l) c:=by simp[normX,YaL]
theorem ZIk:∀(l m:List Cell),(l.foldl putX m).length<=m.length+l.length
 |[],m=>by simp
 |x::l,m=>by have:=ZIk l (putX m x);have:=ZuJ x m;simp only[List.foldl_cons,List.length_cons];omega
theorem Zd4 (l:List Cell):(normX l).length<=l.length:=by have:=ZIk l [];simpa [normX] using this
theorem ZmT (l:List Cell) (hl:l.length+1<=most):ZrA l=true/\ZJl l=normX l:=by
 have hms:=mst;have h1:=Zrc l (by omega);have hc:Zj3 l=true:=by simp only[Zj3,h1];rfl
 have hv0:ZmZ l=vldB l:=by simp only[ZmZ,h1,getO]
 have hv:(Zrz l).val=some (normX l):=by
  cases hb:vldB l with
  |true=>
   have e:Nat.ble l.length most=true:=by rw[YP];omega
   simp only[Zrz,RT.val,hc,hv0,hb,List.nil_append,e,Ya,Yg,Yj,Zkl (ZsI.1 hb)]
  |false=>
   obtain⟨r,hr,h1,i,hR⟩:=ZC (fl:=false) (t:=ZiP) (fuel:=λa=>10000000000000)
    (λa=>∃i:Nat,i<=l.length/\a=(normX (l.take i),l,(l.length:Int),(i:Int),()))
    (λa=>Int.toNat (a.2.2.1-a.2.2.2.1)) (λr=>r.1=false/\∃i:Nat,r.2=(normX l,l,(l.length:Int),(i:Int),()))
    (by
     rintro a ⟨i,hi,rfl⟩;by_cases hlt:i<l.length
     ·left;have d:decide ((i:Int)<(l.length:Int))=true:=by simpa using hlt
      have r1:=Zaz l i hlt;have hlen:=Zd4 (l.take i);rw[YA] at hlen;have hp:=ZmQ (normX (l.take i)) (el l i) (ZeS _) (by omega);refine⟨_,?_,⟨i+1,hlt,rfl⟩,by simp only;omega⟩;rw[ZAZ l i hlt,Zkk];simp only[ZiP,RT.val,d,r1,Zb4,hp.1,hp.2,Ya,Yf,ZhH i (by omega)]
     ·right;left;have d:decide ((i:Int)<(l.length:Int))=false:=by simpa using hlt
      have e:l.take i=l:=Y4 (by omega);rw[e]
      exact⟨_,by simp only[ZiP,RT.val,d,Yc],rfl,i,rfl⟩)
    ([],l,iN l.length,0,()) ⟨0,Ys _,rfl⟩ (by simp only[iN,Le];omega)
   obtain⟨r1,r2⟩:=r;simp only at h1 hR;subst h1 hR;simp only[Zrz,RT.val,hc,hv0,hb,hr,okB,getO,Ya,Yc,Ym,Yt]
 exact⟨by simp only[ZrA,hv];rfl,by simp only[ZJl,hv,getO]⟩
theorem ZT1 (m:List Cell) (t v:Int) (hm:m.length+1<=most):ZGy m t v=true/\ZUo m t v=putX (normX m) (t,v):=by
 have h1:=ZmT m hm;have h2:=ZmQ (normX m) (t,v) (ZeS m) (by have:=Zd4 m;omega);have hv:(Zyq m t v).val=some (putX (normX m) (t,v)):=by simp only[Zyq,RT.val,h1.1,h1.2,h2.1,h2.2,Ya,Yf]
 exact⟨by simp only[ZGy,hv];rfl,by simp only[ZUo,hv,getO]⟩
def ZEA (s:List Cell) (i:Nat):Bool:=(el s i).2 !=0&&(decide (i+1=s.length)||(el s (i+1)).1 !=(el s i).1)
theorem Z0S (s:List Cell) (i:Nat) (h:i<s.length):dd (s.drop i)=(bif ZEA s i then [el s i] else [])++dd (s.drop (i+1)):=by
 rw[ZwJ s i h];by_cases hl:i+1<s.length
 ·rw[ZwJ s (i+1) hl,dd];have e:decide (i+1=s.length)=false:=by simp;omega
  simp only[ZEA,e,Yj];by_cases h1:(el s i).1=(el s (i+1)).1
  ·have:((el s (i+1)).1 !=(el s i).1)=false:=by simp[h1]
   simp only[this,Y5,Yc,List.nil_append,YT h1]
  ·have:((el s (i+1)).1 !=(el s i).1)=true:=by simpa using λe=>h1 e.symm
   simp only[this,YW,YZ h1];by_cases h2:(el s i).2=0
   ·have:((el s i).2 !=0)=false:=by simp[h2]
    simp only[this,YT h2,Yc,List.nil_append]
   ·have:((el s i).2 !=0)=true:=by simpa using h2
    simp only[this,YZ h2,Ya,List.singleton_append]
 ·have hn:s.drop (i+1)=[]:=Y2 (by omega);have e:decide (i+1=s.length)=true:=by simp;omega
  rw[hn];simp only[ZEA,e,Yt,YW,dd,YR];by_cases h2:(el s i).2=0
  ·have:((el s i).2 !=0)=false:=by simp[h2]
   simp only[this,YT h2,Yc]
  ·have:((el s i).2 !=0)=true:=by simpa using h2
   simp only[this,YZ h2,Ya]
theorem ZNh (l:List Cell) (hl:l.length<=most):ZFW l=true/\ZAW l=isort l:=by
 have hs:ZmK l (iN l.length)=true:=by simp[ZmK,iN,Le];omega
 have hv:(ZxG l).val=some (isort l):=by simp only[ZxG,RT.val,Zde,hs,Ya]
 exact⟨by simp only[ZFW,hv];rfl,by simp only[ZAW,hv,getO]⟩
theorem Zpl (l:List Cell) (hl:l.length<=most):Zzy l=true/\ZSb l=normX l:=by
 have hms:=mst;have h1:=ZNh l hl;have hlen:=Zec l;generalize hs:isort l=s at hlen h1;obtain⟨r,hr,h2,i,hR⟩:=ZC (fl:=false) (t:=Zji) (fuel:=λa=>Int.toNat (a.1-a.2.1)+1)
  (λa=>∃(i:Nat) (o:List Cell),i<=s.length/\o.length<=i/\o++dd (s.drop i)=dd s/\a=((s.length:Int),(i:Int),s,o,()))
  (λa=>Int.toNat (a.1-a.2.1)) (λr=>r.1=false/\∃i:Nat,r.2=((s.length:Int),(i:Int),s,dd s,()))
  (by
   rintro a ⟨i,o,hi,ho,hd,rfl⟩;by_cases hlt:i<s.length
   ·left;have d:decide ((i:Int)<(s.length:Int))=true:=by simpa using hlt
    have r1:=Zaz s i hlt;have w:=ZhH i (by omega);have e1:(((i+1:Nat):Int)==iN s.length)=decide (i+1=s.length):=by rw[Bool.eq_iff_iff];simp[iN,Le];omega
    have hst:=Z0S s i hlt;have hle:∀x:Cell,Nat.ble (o++[x]).length most=true:=λx=>by rw[YP];simp only[Yd,List.length_singleton];omega
    refine⟨((s.length:Int),((i+1:Nat):Int),s,o++(bif ZEA s i then [el s i] else []),()),?_,⟨i+1,_,hlt,?_,?_,rfl⟩,by simp only;omega⟩
    ·have e3:(!((el s i).2 !=0)||(decide (i+1=s.length)||Ze ((i+1:Nat):Int) s.length))=true:=by
      by_cases hq:i+1=s.length
      ·simp[hq]
      ·rw[Zaz s (i+1) (by omega)];simp
     have e4:((el s i).2 !=0&&(decide (i+1=s.length)||(el s (i+1)).1 !=(el s i).1))=ZEA s i:=rfl;have g1:=Zb4 s i;have g2:=Zb4 s (i+1);simp only[Zji,RT.val,d,r1,w,g1,g2,e1,e3,e4,hle,Ya,Yg,Yj,Yf];cases ZEA s i<;>simp
    ·cases ZEA s i<;>simp only[Ya,Yc,YR,Yd,List.length_singleton]<;>omega
    ·rw[Yo,<-hst,hd]
   ·right;left;have d:decide ((i:Int)<(s.length:Int))=false:=by simpa using hlt
    have e:s.drop i=[]:=Y2 (by omega);rw[e] at hd;simp only[dd,YR] at hd;subst hd
    exact⟨_,by simp only[Zji,RT.val,d,Yc],rfl,i,rfl⟩)
  (iN s.length,0,s,[],()) ⟨0,[],Ys _,by simp,by simp,rfl⟩ (by simp only[iN,Le];omega)
 obtain⟨r1,r2⟩:=r;simp only at h2 hR;subst h2 hR;have hb:Nat.ble l.length most=true:=by rw[YP];exact hl
 have hv:(Zzx l).val=some (normX l):=by simp only[Zzx,RT.val,hb,h1.1,h1.2,hr,okB,getO,Ya];rw[<-hs,ZLn]
 exact⟨by simp only[Zzy,hv];rfl,by simp only[ZSb,hv,getO]⟩
abbrev BR:R:=R.int u8
theorem get_d (l:List Int) (i:Nat):R.get BR l (i:Int)=l.getD i 0:=by simp[R.get,R.Df]
def ZpB (t:Int) (b:List Int) (n:Nat):List Cell:=(List.range n).map λi:Nat=>(IntKind.wrap .u16 (t+IntKind.wrap .u16 (i:Int)),b.getD i 0)
theorem ZLE (t:Int) (b:List Int) (n:Nat):ZpB t b (n+1)=ZpB t b n++[(IntKind.wrap .u16 (t+IntKind.wrap .u16 (n:Int)),b.getD n 0)]:=by simp[ZpB,List.range_succ]
theorem ZpA (t:Int) (b:List Int) (n:Nat):(ZpB t b n).length=n:=by simp[ZpB]
def Zqx (t:Int) (b:List Int):List Cell:=normX (ZpB t b b.length)
theorem ZN7 (a b:List Cell) (ha:a.length<=most):ZBu a b=true/\ZOs a b=decide (a=b):=by
 have hms:=mst;have hv:(ZhU a b).val=some (decide (a=b)):=by
  by_cases hl:a.length=b.length
  ·have hn:(iN a.length !=iN b.length)=false:=by simp[iN,Le,hl]
   obtain⟨r,hr,hR⟩:=ZC (fl:=true) (t:=ZeM) (fuel:=λ_=>10000000000000)
    (λx=>∃i:Nat,i<=a.length/\(∀k,k<i->el a k=el b k)/\x=(a,b,false,(a.length:Int),(i:Int),()))
    (λx=>Int.toNat (x.2.2.2.1-x.2.2.2.2.1)) (λr=>(r.1=false/\a=b)\/(r.1=true/\a≠b/\r.2.2.2.1=false))
    (by
     rintro x ⟨i,hi,hk,rfl⟩;by_cases hlt:i<a.length
     ·have d:decide ((i:Int)<(a.length:Int))=true:=by simpa using hlt
      have r1:=Zaz a i hlt;have r2:=Zaz b i (by omega);have g1:=Zb4 a i;have g2:=Zb4 b i;by_cases he:el a i=el b i
      ·left;refine⟨(a,b,false,(a.length:Int),((i+1:Nat):Int),()),?_,⟨i+1,hlt,λk hk'=> ?_,rfl⟩,by simp only;omega⟩
       ·simp only[ZeM,RT.val,d,r1,r2,g1,g2,he,beq_self_eq_true,YV,Yg,Yf,Ya,Yc,ZhH i (by omega)]
       ·by_cases e:k=i
        ·subst e;exact he
        ·exact hk k (by omega)
      ·right;right;have hne:((el a i).1==(el b i).1&&((el a i).2==(el b i).2&&true))=false:=by rw[YD];intro h;simp only[Yb,beq_iff_eq,and_true] at h;exact he (Prod.ext h.1 h.2)
       refine⟨(a,b,false,(a.length:Int),(i:Int),()),rfl,?_,.inr ⟨rfl,λh=>he (by rw[h]),rfl⟩⟩;simp only[ZeM,RT.val,d,r1,r2,g1,g2,hne,Yg,Ym,Yf,Ya]
     ·right;left;have d:decide ((i:Int)<(a.length:Int))=false:=by simpa using hlt
      refine⟨_,by simp only[ZeM,RT.val,d,Yc];rfl,.inl ⟨rfl,List.ext_getElem? λk=> ?_⟩⟩;by_cases hk':k<a.length
      ·rw[Zcu a k hk',Zcu b k (by omega),hk k (by omega)]
      ·rw[YO (by omega),YO (by omega)])
    (a,b,false,iN a.length,0,()) ⟨0,Ys _,λk h=>by omega,rfl⟩ (by simp only[iN,Le];omega)
   rcases hR with ⟨h1,h2⟩|⟨h1,h2,h3⟩
   ·have hd:decide (a=b)=true:=Yz h2;simp only[ZhU,RT.val,hn,hr,okB,getO,Ya,Yc,h1,hd]
   ·have hd:decide (a=b)=false:=Y0 h2;simp only[ZhU,RT.val,hn,hr,okB,getO,Ya,Yc,h1,h3,hd]
  ·have hn:(iN a.length !=iN b.length)=true:=by simp only[iN,Le,bne_iff_ne,ne_eq];omega
   have hne:a≠b:=λh=>hl (by rw[h])
   simp only[ZhU,RT.val,hn,Ya,hne,decide_false]
 exact⟨by simp only[ZBu,hv];rfl,by simp only[ZOs,hv,getO]⟩
theorem ZRV (m:List Cell) (hm:m.length<=most):Zwh m=true/\Zps m=vldB m:=by have h:=ZLy m hm;exact⟨by simp only[Zwh,h];rfl,by simp only[Zps,h,getO]⟩
theorem ZN4 (m:List Cell) (hm:m.length<=most):Zj3 m=true/\ZmZ m=vldB m:=by have h:=Zrc m hm;exact⟨by simp only[Zj3,h];rfl,by simp only[ZmZ,h,getO]⟩
theorem ZYR (m:List Cell) (t:Int) (hm:m.length<=most):ZGS m t=true/\ZUC m t=getX m t:=by have h:=ZT8 m t hm;exact⟨by simp only[ZGS,h];rfl,by simp only[ZUC,h,getO]⟩
abbrev GR:R:=R.Pq Kb (R.Pq Kb (R.Pq R.bool Kc))
def hitB (t:Int) (r:Z6):Bool:=decide (r.1<=t)&&decide (t<=r.2.1)
def Za6 (l:List Z6) (t:Int):Int:=if l.findIdx (hitB t)<l.length then (l.findIdx (hitB t):Int) else-1
def rg (l:List Z6) (i:Nat):Z6:=l.getD i (0,0,false,0)
theorem ZXR (l:List Z6) (i:Nat):R.get GR l (i:Int)=rg l i:=by simp[R.get,R.Df,rg]
theorem ZxW (l:List Z6) (i:Nat) (h:i<l.length):l[i]=rg l i:=by simp[rg,h]
theorem Z0K {l:List Z6} (hi:i<l.length) (h:hitB t (rg l i)=true) (hk:∀k,k<i->hitB t (rg l k)=false):Za6 l t=i:=by have:l.findIdx (hitB t)=i:=(List.findIdx_eq hi).2 ⟨by rw[ZxW l i hi];exact h,λj hj=>by rw[ZxW l j (by omega)];exact hk j hj⟩;simp only[Za6,this,hi,if_true]
theorem Z0J {l:List Z6} (hk:∀k,k<l.length->hitB t (rg l k)=false):Za6 l t= -1:=by
 have:¬l.findIdx (hitB t)<l.length:=by rw[List.findIdx_lt_length];rintro⟨x,hx,hp⟩;obtain⟨i,hi,rfl⟩:=List.mem_iff_getElem.1 hx;rw[ZxW l i hi,hk i hi] at hp;exact absurd hp (by simp)
 simp only[Za6,this,if_false]
theorem ZiC (l:List Z6) (t:Int) (hl:l.length<=most):ZnW l t=true/\Zj7 l t=Za6 l t:=by
 have hms:=mst;obtain⟨r,hr,hR⟩:=ZC (fl:=true) (t:=Zg7) (fuel:=λ_=>10000000000000)
  (λx=>∃i:Nat,i<=l.length/\(∀k,k<i->hitB t (rg l k)=false)/\x=(t,0,l,(l.length:Int),(i:Int),()))
  (λx=>Int.toNat (x.2.2.2.1-x.2.2.2.2.1)) (λr=>(r.1=false/\Za6 l t= -1)\/(r.1=true/\r.2.2.1=Za6 l t))
  (by
   rintro x ⟨i,hi,hk,rfl⟩;by_cases hlt:i<l.length
   ·have d:decide ((i:Int)<(l.length:Int))=true:=by simpa using hlt
    have r1:=Zaz l i hlt;have g1:=ZXR l i;cases hh:hitB t (rg l i) with
    |false=>
     left;refine⟨(t,0,l,(l.length:Int),((i+1:Nat):Int),()),?_,⟨i+1,hlt,λk hk'=> ?_,rfl⟩,by simp only;omega⟩
     ·simp only[hitB] at hh;simp only[Zg7,RT.val,d,r1,g1,hh,Ya,Yc,ZhH i (by omega)]
     ·by_cases e:k=i
      ·subst e;exact hh
      ·exact hk k (by omega)
    |true=>
     right;right;refine⟨(t,(i:Int),l,(l.length:Int),(i:Int),()),rfl,?_,.inr ⟨rfl,(Z0K hlt hh hk).symm⟩⟩;simp only[hitB] at hh;simp only[Zg7,RT.val,d,r1,g1,hh,Ya]
   ·right;left;have d:decide ((i:Int)<(l.length:Int))=false:=by simpa using hlt
    exact⟨_,by simp only[Zg7,RT.val,d,Yc];rfl,.inl ⟨rfl,Z0J λk h=>hk k (by omega)⟩⟩)
  (t,0,l,iN l.length,0,()) ⟨0,Ys _,λk h=>by omega,rfl⟩ (by simp only[iN,Le];omega)
 have hv:(ZnV l t).val=some (Za6 l t):=by
  rcases hR with ⟨h1,h2⟩|⟨h1,h2⟩
  ·simp only[ZnV,RT.val,hr,okB,getO,Ya,h1,Yc,h2]
  ·simp only[ZnV,RT.val,hr,okB,getO,Ya,h1,h2]
 exact⟨by simp only[ZnW,hv];rfl,by simp only[Zj7,hv,getO]⟩
theorem ZP7 (l:List Z6) (t:Int) (hl:l.length<=most):ZQ3 l t=true/\ZKF l t=Za6 l t:=by have h:=ZiC l t hl;have e:ZHA l t=ZnV l t:=rfl;simp only[ZnW,Zj7,<-e] at h;exact h
def Zrf (l:List Z6) (m:List Cell) (t:Int):Int:=bif decide (Za6 l t<0) then 255 else getX m t
theorem ZN8 (l:List Z6) (m:List Cell) (t:Int) (hl:l.length<=most) (hm:m.length<=most):ZBx l m t=true/\ZOA l m t=Zrf l m t:=by
 have h1:=ZiC l t hl;have h2:=ZYR m t hm;have hv:(Zm6 l m t).val=some (Zrf l m t):=by simp only[Zm6,RT.val,h1.1,h1.2,h2.1,h2.2,Ya,Zrf];cases decide (Za6 l t<0)<;>rfl
 exact⟨by simp only[ZBx,hv];rfl,by simp only[ZOA,hv,getO]⟩
