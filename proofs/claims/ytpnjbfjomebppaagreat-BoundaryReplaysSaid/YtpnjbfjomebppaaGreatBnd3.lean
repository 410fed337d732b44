import Derived.Test.YtpnjbfjomebppaaGreatScrP
open Go.Proofs.Tryz (prog)
open Go.IntKind (u8 u16 i64)
set_option linter.unusedSimpArgs false
open Go Go.S3 Go.Proofs
set_option linter.unusedVariables false
set_option maxRecDepth 100000
namespace Go.Proofs.YtpnjbfjomebppaaGreat
noncomputable section
abbrev ZqC:List Sh:=[Sh.agg Zr,So rcRG,So rcCE,Sh.agg Zau]
def ZAt:LS:={n:=48,Sl:=[(1,.code (So rcRG)),(2,.code (So rcCE)),(25,.code (So (R.sl (RY)))),(26,.code (So Kc)),(27,.code (So Kc))],Bx:=[[.many Zr],[.many Zau]],Sg:=[]}
def ZdN (a:List (QT3)×List (Int×Int)×List TY×Int×Int×TC×EVTT×PUnit):RT (Option (Go1 (List (QT3)×List (Int×Int)×List TY×Int×Int×TC×EVTT×PUnit))):=
 let x1:QT11:=R.get (RY) a.2.2.1 a.2.2.2.2.1
 let x2:=x1.1
 let x3:=x2==3||x2==5
 let x4:=x1.2
 let x5:TC×EVTT×PUnit:=(a.2.2.2.2.2.1,a.2.2.2.2.2.2.1,PUnit.unit)
 .br (decide (a.2.2.2.2.1<a.2.2.2.1)) (.br (!Ze a.2.2.2.2.1 (Le a.2.2.1)||(!x3||smG a.1&&smC a.2.1)) (.br (Ze a.2.2.2.2.1 (Le a.2.2.1)) (Ls (Go1.cont (a.1,bif x3 then Zay a.1 a.2.1 x4.1 x4.2.1 else a.2.1,a.2.2.1,a.2.2.2.1,i64.wrap (a.2.2.2.2.1+1),x5))) Ln) Ln) (Ls (Go1.brk (a.1,a.2.1,a.2.2.1,a.2.2.2.1,a.2.2.2.2.1,x5)))
def Zl9:Ora:=ZaB false ZAt ZdN (λa=>10000000000000)
theorem Zsp:Zal (envX prog [(27,Zqe),(143,Zgt)] [] 2047 8) (.block 0 (.loop (ZQ Tryz.f91.body 0))) Zl9:=
 loopP ⟨Zqd,Zfm,Tv⟩
def ZfX (c:TC) (rg:List (QT3)) (m:List (Int×Int)) (e:EVTT):RT (Option (List (Int×Int))):=
 let x1:List (QT3)×List (Int×Int)×List TY×Int×Int×TC×EVTT×PUnit:=(rg,m,Zak c e,iN (Le (Zak c e)),0,c,e,())
 let x2:=runF false ZdN (λa=>10000000000000) x1
 .br (!e.1==5||smG rg&&smC m) (.br (e.1==5) (Ls (Zay rg m e.2.2.2.2.2.2.2.2.1 e.2.2.2.2.2.2.2.2.2)) (.br (okB x2) (Ls (getO (false,x1) x2).2.2.1) Ln)) Ln
def Zlp (c:TC) (rg:List (QT3)) (m:List (Int×Int)) (e:EVTT):List (Int×Int):=getO Zwm.Df (ZfX c rg m e).val
def Zif (c:TC) (rg:List (QT3)) (m:List (Int×Int)) (e:EVTT):Bool:=okB (ZfX c rg m e).val
def Zma:En:=Zg ZqC Zwm (λa=>some (Zif a.1 a.2.1 a.2.2.1 a.2.2.2)) (λa=>Zlp a.1 a.2.1 a.2.2.1 a.2.2.2)
theorem Zl8:Za prog 91 Zma:=
 pureP 2047 [(27,Zqe),(143,Zgt)] [(0,Zl9)] ZqC Zwm ⟨Zqd,Zfm,Tv⟩ Tryz.func91 Tryz.call91 ⟨Zsp,Tv⟩ (t:=λa=>ZfX a.1 a.2.1 a.2.2.1 a.2.2.2)
def ZIH:LS:={n:=23,Sl:=[(2,.fix (A.loc 0 0)),(5,.tip 0),(8,.code (So (R.sl Zau))),(9,.code (So Kc)),(10,.code (So Kc))],Bx:=[[.many Zr]],Sg:=[⟨Zr,38,true⟩]}
def ZdD (a:List EVTT×Int×Int×TC×List TC×PUnit):RT (Option (Go1 (List EVTT×Int×Int×TC×List TC×PUnit))):=
 let x1:=Zbb a.2.2.2.1 (R.get Zau a.1 a.2.2.1)
 let x2:List TC:=a.2.2.2.2.1++[x1]
 .br (decide (a.2.2.1<a.2.1)) (.br (!Ze a.2.2.1 (Le a.1)||Nat.ble (Le x2) most) (.br (Ze a.2.2.1 (Le a.1)) (Ls (Go1.cont (a.1,a.2.1,i64.wrap (a.2.2.1+1),x1,x2,PUnit.unit))) Ln) Ln) (Ls (Go1.brk (a.1,a.2.1,a.2.2.1,a.2.2.2.1,a.2.2.2.2.1,PUnit.unit)))
def ZqE:Ora:=ZaB false ZIH ZdD (λa=>10000000000000)
theorem Zw4:Zal (envX prog [(28,ZfF)] [] 255 8) (.block 0 (.loop (ZQ Tryz.f40.body 0))) ZqE:=
 loopP ⟨ZdL,Tv⟩
def Zii (c:TC) (l:List EVTT):RT (Option (List TC)):=
 let x1:=runF false ZdD (λa=>10000000000000) (l,iN (Le l),0,c,[],())
 .br (okB x1) (Ls (getO (false,l,iN (Le l),0,c,[],()) x1).2.2.2.2.2.1) Ln
def ZhF (c:TC) (l:List EVTT):List TC:=getO ZjE.Df (Zii c l).val
def Ze6 (c:TC) (l:List EVTT):Bool:=okB (Zii c l).val
def ZE3:En:=Zg Zqb ZjE (λa=>some (Ze6 a.1 a.2)) (λa=>ZhF a.1 a.2)
theorem ZIG:Za prog 40 ZE3:=
 pureP 255 [(28,ZfF)] [(0,ZqE)] Zqb ZjE ⟨ZdL,Tv⟩ Tryz.func40 Tryz.call40 ⟨Zw4,Tv⟩ (t:=λa=>Zii a.1 a.2)
def ZAo:LS:={n:=23,Sl:=[(2,.fix (A.loc 0 0)),(5,.tip 0),(8,.code (So (R.sl Zau))),(9,.code (So Kc)),(10,.code (So Kc))],Bx:=[[.many Zr]],Sg:=[⟨Zr,38,true⟩]}
def ZcG (a:List EVTT×Int×Int×TC×List TC×PUnit):RT (Option (Go1 (List EVTT×Int×Int×TC×List TC×PUnit))):=
 let x1:=Zbb a.2.2.2.1 (R.get Zau a.1 a.2.2.1)
 let x2:List TC:=a.2.2.2.2.1++[x1]
 .br (decide (a.2.2.1<a.2.1)) (.br (!Ze a.2.2.1 (Le a.1)||Nat.ble (Le x2) most) (.br (Ze a.2.2.1 (Le a.1)) (Ls (Go1.cont (a.1,a.2.1,i64.wrap (a.2.2.1+1),x1,x2,PUnit.unit))) Ln) Ln) (Ls (Go1.brk (a.1,a.2.1,a.2.2.1,a.2.2.2.1,a.2.2.2.2.1,PUnit.unit)))
def Zl6:Ora:=ZaB false ZAo ZcG (λa=>10000000000000)
theorem Zsn:Zal (envX prog [(92,Ze9)] [] 255 8) (.block 0 (.loop (ZQ Tryz.f41.body 0))) Zl6:=
 loopP ⟨ZeE,Tv⟩
def ZfV (c:TC) (l:List EVTT):RT (Option (List TC)):=
 let x1:=runF false ZcG (λa=>10000000000000) (l,iN (Le l),0,c,[],())
 .br (okB x1) (Ls (getO (false,l,iN (Le l),0,c,[],()) x1).2.2.2.2.2.1) Ln
def Ze4 (c:TC) (l:List EVTT):List TC:=getO ZjE.Df (ZfV c l).val
def ZeA (c:TC) (l:List EVTT):Bool:=okB (ZfV c l).val
def ZwZ:En:=Zg Zqb ZjE (λa=>some (ZeA a.1 a.2)) (λa=>Ze4 a.1 a.2)
theorem ZAn:Za prog 41 ZwZ:=
 pureP 255 [(92,Ze9)] [(0,Zl6)] Zqb ZjE ⟨ZeE,Tv⟩ Tryz.func41 Tryz.call41 ⟨Zsn,Tv⟩ (t:=λa=>ZfV a.1 a.2)
abbrev Zw1:List Sh:=[So (R.sl Zr),So (R.sl Zr)]
def ZIF:LS:={n:=26,Sl:=[(0,.code (So (R.sl Zr))),(1,.code (So (R.sl Zr))),(4,.code (So R.bool)),(12,.code (So Kc)),(13,.code (So Kc))],Bx:=[],Sg:=[]}
def ZeC (a:List TC×List TC×Bool×Int×Int×PUnit):RT (Option (Go1 (List TC×List TC×Bool×Int×Int×PUnit))):=
 let x1:= !Ze a.2.2.2.2.1 (Le a.1)||Ze a.2.2.2.2.1 (Le a.2.1)
 let x2:TC:=R.get Zr a.1 a.2.2.2.2.1
 let x3:TC:=R.get Zr a.2.1 a.2.2.2.2.1
 let x56:Int×Int×PUnit:=(a.2.2.2.1,a.2.2.2.2.1,PUnit.unit)
 .br (decide (a.2.2.2.2.1<a.2.2.2.1)) (.br (!x1||Ze a.2.2.2.2.1 (Le a.1)) (.br (x1) (.br (!(R.eqf Zr x2 x3 true)) (Ls (Go1.ret (a.1,a.2.1,false,x56))) (Ls (Go1.cont (a.1,a.2.1,a.2.2.1,a.2.2.2.1,i64.wrap (a.2.2.2.2.1+1),PUnit.unit)))) Ln) Ln) (Ls (Go1.brk (a.1,a.2.1,a.2.2.1,x56)))
def ZqD:Ora:=ZaB true ZIF ZeC (λa=>10000000000000)
theorem Zw2:Zal (envX prog [] [] 63 8) (.block 0 (.loop (ZQ Tryz.f39.body 0))) ZqD:=
 loopP trivial
def Zig (a:List TC) (b:List TC):RT (Option (Bool)):=
 let x1:=runF true ZeC (λa_1=>10000000000000) (a,b,false,iN (Le a),0,())
 let x2:=getO (false,a,b,false,iN (Le a),0,()) x1
 .br (iN (Le a) !=iN (Le b)) (Ls (false)) (.br (okB x1) (.br x2.1 (Ls x2.2.2.2.1) (Ls (true))) Ln)
def Zmc (a:List TC) (b:List TC):Bool:=getO Zof.Df (Zig a b).val
def Zih (a:List TC) (b:List TC):Bool:=okB (Zig a b).val
def ZE2:En:=Zg Zw1 Zof (λa=>some (Zih a.1 a.2)) (λa=>Zmc a.1 a.2)
theorem ZIE:Za prog 39 ZE2:=
 pureP 63 [] [(0,ZqD)] Zw1 Zof trivial Tryz.func39 Tryz.call39 ⟨Zw2,Tv⟩ (t:=λa=>Zig a.1 a.2)
abbrev Zw5:List Sh:=[Sh.agg Zr,So rcRG,So rcCE,So (R.sl Zau)]
def ZIJ:LS:={n:=29,Sl:=[(1,.code (So rcRG)),(2,.code (So rcCE)),(4,.fix (A.loc 0 0)),(13,.code (So (R.sl Zau))),(14,.code (So Kc)),(15,.code (So Kc))],Bx:=[[.many Zr]],Sg:=[]}
def ZdE (a:List (QT3)×List (Int×Int)×List EVTT×Int×Int×TC×PUnit):RT (Option (Go1 (List (QT3)×List (Int×Int)×List EVTT×Int×Int×TC×PUnit))):=
 let x1:EVTT:=R.get Zau a.2.2.1 a.2.2.2.2.1
 .br (decide (a.2.2.2.2.1<a.2.2.2.1)) (.br (!Ze a.2.2.2.2.1 (Le a.2.2.1)||Zif a.2.2.2.2.2.1 a.1 a.2.1 x1) (.br (Ze a.2.2.2.2.1 (Le a.2.2.1)) (Ls (Go1.cont (a.1,Zlp a.2.2.2.2.2.1 a.1 a.2.1 x1,a.2.2.1,a.2.2.2.1,i64.wrap (a.2.2.2.2.1+1),Zbb a.2.2.2.2.2.1 x1,PUnit.unit))) Ln) Ln) (Ls (Go1.brk (a.1,a.2.1,a.2.2.1,a.2.2.2.1,a.2.2.2.2.1,a.2.2.2.2.2.1,PUnit.unit)))
def ZqF:Ora:=ZaB false ZIJ ZdE (λa=>10000000000000)
theorem Zw6:Zal (envX prog [(28,ZfF),(90,Zpw),(91,Zma)] [] 2047 8) (.block 0 (.loop (ZQ Tryz.f35.body 0))) ZqF:=
 loopP ⟨ZdL,Zjj,Zl8,Tv⟩
def Zij (c:TC) (rg:List (QT3)) (m:List (Int×Int)) (l:List EVTT):RT (Option (List (Int×Int))):=
 let x1:List (QT3)×List (Int×Int)×List EVTT×Int×Int×TC×PUnit:=(rg,Cells.normX m,l,iN (Le l),0,c,())
 let x2:=runF false ZdE (λa=>10000000000000) x1
 .br (smC m) (.br (okB x2) (Ls (getO (false,x1) x2).2.2.1) Ln) Ln
def ZhG (c:TC) (rg:List (QT3)) (m:List (Int×Int)) (l:List EVTT):List (Int×Int):=getO Zwm.Df (Zij c rg m l).val
def ZgO (c:TC) (rg:List (QT3)) (m:List (Int×Int)) (l:List EVTT):Bool:=okB (Zij c rg m l).val
def ZE4:En:=Zg Zw5 Zwm (λa=>some (ZgO a.1 a.2.1 a.2.2.1 a.2.2.2)) (λa=>ZhG a.1 a.2.1 a.2.2.1 a.2.2.2)
theorem ZII:Za prog 35 ZE4:=
 pureP 2047 [(28,ZfF),(90,Zpw),(91,Zma)] [(0,ZqF)] Zw5 Zwm ⟨ZdL,Zjj,Zl8,Tv⟩ Tryz.func35 Tryz.call35 ⟨Zw6,Tv⟩ (t:=λa=>Zij a.1 a.2.1 a.2.2.1 a.2.2.2)
def ZAr:LS:={n:=62,Sl:=[(1,.code (So rcRG)),(2,.code (So rcCE)),(4,.fix (A.loc 0 0)),(10,.fix (A.loc 1 0)),(15,.code (So (R.sl Zau))),(16,.code (So Kc)),(17,.code (So Kc)),(23,.code (So (R.sl (RY)))),(24,.code (So Kc)),(25,.code (So Kc))],Bx:=[[.many Zr],[.many Zau]],Sg:=[]}
def ZcI (a:List (QT3)×List (Int×Int)×List EVTT×Int×Int×List TY×Int×Int×TC×EVTT×PUnit):RT (Option (Go1 (List (QT3)×List (Int×Int)×List EVTT×Int×Int×List TY×Int×Int×TC×EVTT×PUnit))):=
 let x1:=Ze a.2.2.2.2.2.2.2.1 (Le a.2.2.2.2.2.1)
 let x2:QT11:=R.get (RY) a.2.2.2.2.2.1 a.2.2.2.2.2.2.2.1
 let x3:=x2.1
 let x4:=x3==3||x3==5
 let x5:=x2.2
 let x6:TC×EVTT×PUnit:=(a.2.2.2.2.2.2.2.2.1,a.2.2.2.2.2.2.2.2.2.1,PUnit.unit)
 .br (decide (a.2.2.2.2.2.2.2.1<a.2.2.2.2.2.2.1)) (.br (!x1||(!x4||smG a.1&&smC a.2.1)) (.br (x1) (Ls (Go1.cont (a.1,bif x4 then Zay a.1 a.2.1 x5.1 x5.2.1 else a.2.1,a.2.2.1,a.2.2.2.1,a.2.2.2.2.1,a.2.2.2.2.2.1,a.2.2.2.2.2.2.1,i64.wrap (a.2.2.2.2.2.2.2.1+1),x6))) Ln) Ln) (Ls (Go1.brk (a.1,a.2.1,a.2.2.1,a.2.2.2.1,a.2.2.2.2.1,a.2.2.2.2.2.1,a.2.2.2.2.2.2.1,a.2.2.2.2.2.2.2.1,x6)))
def Ze5:Ora:=ZaB false ZAr ZcI (λa=>10000000000000)
theorem Zid:Zal (envX prog [(92,Ze9),(93,Zgk),(94,Zf2),(95,ZdV)] [] 8191 8) (.block 2 (.loop (ZQ Tryz.f42.body 2))) Ze5:=
 loopP ⟨ZeE,ZeP,ZhL,ZdU,Tv⟩
def ZAq:LS:={n:=62,Sl:=[(1,.code (So rcRG)),(2,.code (So rcCE)),(4,.fix (A.loc 0 0)),(15,.code (So (R.sl Zau))),(16,.code (So Kc)),(17,.code (So Kc))],Bx:=[[.many Zr]],Sg:=[]}
def ZcH (a:List (QT3)×List (Int×Int)×List EVTT×Int×Int×TC×PUnit):RT (Option (Go1 (List (QT3)×List (Int×Int)×List EVTT×Int×Int×TC×PUnit))):=
 let x1:EVTT:=R.get Zau a.2.2.1 a.2.2.2.2.1
 let x2:=Zak a.2.2.2.2.2.1 x1
 let x3:List (QT3)×List (Int×Int)×List EVTT×Int×Int×List TY×Int×Int×TC×EVTT×PUnit:=(a.1,a.2.1,a.2.2.1,a.2.2.2.1,a.2.2.2.2.1,x2,iN (Le x2),0,a.2.2.2.2.2.1,x1,())
 let x4:=runF false ZcI (λa_1=>10000000000000) x3
 let x5:=okB x4
 let x6:List (QT3)×List (Int×Int)×List EVTT×Int×Int×List TY×Int×Int×TC×EVTT×PUnit:=(getO (false,x3) x4).2
 let x7:=x6.2
 let x8:=x7.2
 let x9:=x8.2
 let x10:=x9.2
 let x11:=x10.2.2.2.2
 let x12:=x11.2.1
 let x13:=x12.1==5
 let x14:=x6.1
 let x15:=x7.1
 let x16:=x12.2.2.2.2.2.2.2.2
 .br (decide (a.2.2.2.2.1<a.2.2.2.1)) (.br (!Ze a.2.2.2.2.1 (Le a.2.2.1)||(!x5||(!x13||smG x14&&smC x15))) (.br (!Ze a.2.2.2.2.1 (Le a.2.2.1)||x5) (.br (Ze a.2.2.2.2.1 (Le a.2.2.1)) (Ls (Go1.cont (x14,bif x13 then Zay x14 x15 x16.1 x16.2 else x15,x8.1,x9.1,i64.wrap (x10.1+1),Zbb x11.1 x12,PUnit.unit))) Ln) Ln) Ln) (Ls (Go1.brk (a.1,a.2.1,a.2.2.1,a.2.2.2.1,a.2.2.2.2.1,a.2.2.2.2.2.1,PUnit.unit)))
def Zl7:Ora:=ZaB false ZAq ZcH (λa=>10000000000000)
theorem Zso:Zal (envX prog [(92,Ze9),(93,Zgk),(94,Zf2),(95,ZdV)] [(2,Ze5)] 8191 8) (.block 0 (.loop (ZQ Tryz.f42.body 0))) Zl7:=
 ZgB (Zbv (l:=[(92,Ze9),(93,Zgk),(94,Zf2),(95,ZdV)]) ⟨ZeE,ZeP,ZhL,ZdU,Tv⟩ [(2,Ze5)] 8191 8) (Zfq (by kernel_rfl) (by kernel_rfl) ⟨Zid,Tv⟩) (λa=>by kernel_rfl)
def ZfW (c:TC) (rg:List (QT3)) (m:List (Int×Int)) (l:List EVTT):RT (Option (List (Int×Int))):=
 let x1:List (QT3)×List (Int×Int)×List EVTT×Int×Int×TC×PUnit:=(rg,Cells.normX m,l,iN (Le l),0,c,())
 let x2:=runF false ZcH (λa=>10000000000000) x1
 .br (smC m) (.br (okB x2) (Ls (getO (false,x1) x2).2.2.1) Ln) Ln
def Zie (c:TC) (rg:List (QT3)) (m:List (Int×Int)) (l:List EVTT):List (Int×Int):=getO Zwm.Df (ZfW c rg m l).val
def ZeB (c:TC) (rg:List (QT3)) (m:List (Int×Int)) (l:List EVTT):Bool:=okB (ZfW c rg m l).val
def Zw0:En:=Zg Zw5 Zwm (λa=>some (ZeB a.1 a.2.1 a.2.2.1 a.2.2.2)) (λa=>Zie a.1 a.2.1 a.2.2.1 a.2.2.2)
theorem ZAp:Za prog 42 Zw0:=
 pureP 8191 [(92,Ze9),(93,Zgk),(94,Zf2),(95,ZdV)] [(2,Ze5),(0,Zl7)] Zw5 Zwm ⟨ZeE,ZeP,ZhL,ZdU,Tv⟩ Tryz.func42 Tryz.call42 ⟨Zid,Zso,Tv⟩ (t:=λa=>ZfW a.1 a.2.1 a.2.2.1 a.2.2.2)
abbrev ZE5:List Sh:=[So (R.sl Zau)]
def ZL6:LS:={n:=22,Sl:=[(3,.code (So Kc)),(8,.code (So (R.sl Zau))),(9,.code (So Kc)),(10,.code (So Kc))],Bx:=[],Sg:=[]}
def ZfY (a:Int×List EVTT×Int×Int×PUnit):RT (Option (Go1 (Int×List EVTT×Int×Int×PUnit))):=
 .br (decide (a.2.2.2.1<a.2.2.1)) (.br (Ze a.2.2.2.1 (Le a.2.1)) (Ls (Go1.cont (i64.wrap (a.1+iN (Le (R.get Zau a.2.1 a.2.2.2.1).2.2.1)),a.2.1,a.2.2.1,i64.wrap (a.2.2.2.1+1),PUnit.unit))) Ln) (Ls (Go1.brk (a.1,a.2.1,a.2.2.1,a.2.2.2.1,PUnit.unit)))
def Zw7:Ora:=ZaB false ZL6 ZfY (λa=>10000000000000)
theorem ZAu:Zal (envX prog [] [] 63 8) (.block 0 (.loop (ZQ Tryz.f36.body 0))) Zw7:=
 loopP trivial
def Zmf (l:List EVTT):RT (Option (Bool)):=
 let x1:=runF false ZfY (λa=>10000000000000) (iN (Le l),l,iN (Le l),0,())
 .br (okB x1) (Ls (decide ((getO (false,iN (Le l),l,iN (Le l),0,()) x1).2.1<=200))) Ln
def ZL8 (l:List EVTT):Bool:=getO Zof.Df (Zmf l).val
def ZAv (l:List EVTT):Bool:=okB (Zmf l).val
def ZL7:En:=Zg ZE5 Zof (λa=>some (ZAv a)) (λa=>ZL8 a)
theorem ZL5:Za prog 36 ZL7:=
 pureP 63 [] [(0,Zw7)] ZE5 Zof trivial Tryz.func36 Tryz.call36 ⟨ZAu,Tv⟩ (t:=λa=>Zmf a)
def ZEU:LS:={n:=48,Sl:=[(1,.code (So rcRG)),(2,.code (So rcCE)),(25,.code (So (R.sl (RY)))),(26,.code (So Kc)),(27,.code (So Kc))],Bx:=[[.many Zr],[.many Zau]],Sg:=[]}
def Zp8 (a:List (QT3)×List (Int×Int)×List TY×Int×Int×TC×EVTT×PUnit):RT (Option (Go1 (List (QT3)×List (Int×Int)×List TY×Int×Int×TC×EVTT×PUnit))):=
 let x1:QT11:=R.get (RY) a.2.2.1 a.2.2.2.2.1
 let x2:=x1.1
 let x3:=x2==3||x2==5
 let x4:=x1.2
 let x5:TC×EVTT×PUnit:=(a.2.2.2.2.2.1,a.2.2.2.2.2.2.1,PUnit.unit)
 .br (decide (a.2.2.2.2.1<a.2.2.2.1)) (.br (!Ze a.2.2.2.2.1 (Le a.2.2.1)||(!x3||smG a.1&&smC a.2.1)) (.br (Ze a.2.2.2.2.1 (Le a.2.2.1)) (Ls (Go1.cont (a.1,bif x3 then Zay a.1 a.2.1 x4.1 x4.2.1 else a.2.1,a.2.2.1,a.2.2.2.1,i64.wrap (a.2.2.2.2.1+1),x5))) Ln) Ln) (Ls (Go1.brk (a.1,a.2.1,a.2.2.1,a.2.2.2.1,a.2.2.2.2.1,x5)))
def Zp9:Ora:=ZaB false ZEU Zp8 (λa=>10000000000000)
theorem ZwR:Zal (envX prog [(27,Zqg),(143,Zgt)] [] 2047 8) (.block 0 (.loop (ZQ Tryz.f91.body 0))) Zp9:=
 loopP ⟨Zqf,Zfm,Tv⟩
def Zp7 (c:TC) (rg:List (QT3)) (m:List (Int×Int)) (e:EVTT):RT (Option (List (Int×Int))):=
 let x1:List (QT3)×List (Int×Int)×List TY×Int×Int×TC×EVTT×PUnit:=(rg,m,Zak c e,iN (Le (Zak c e)),0,c,e,())
 let x2:=runF false Zp8 (λa=>10000000000000) x1
 .br (!e.1==5||smG rg&&smC m) (.br (e.1==5) (Ls (Zay rg m e.2.2.2.2.2.2.2.2.1 e.2.2.2.2.2.2.2.2.2)) (.br (ZT7 e) (.br (okB x2) (Ls (getO (false,x1) x2).2.2.1) Ln) Ln)) Ln
def ZIz (c:TC) (rg:List (QT3)) (m:List (Int×Int)) (e:EVTT):List (Int×Int):=getO Zwm.Df (Zp7 c rg m e).val
def ZAc (c:TC) (rg:List (QT3)) (m:List (Int×Int)) (e:EVTT):Bool:=okB (Zp7 c rg m e).val
def Zqa:En:=Zg ZqC Zwm (λa=>some (ZAc a.1 a.2.1 a.2.2.1 a.2.2.2)) (λa=>ZIz a.1 a.2.1 a.2.2.1 a.2.2.2)
theorem Zp6:Za prog 91 Zqa:=
 pureP 2047 [(27,Zqg),(143,Zgt)] [(0,Zp9)] ZqC Zwm ⟨Zqf,Zfm,Tv⟩ Tryz.func91 Tryz.call91 ⟨ZwR,Tv⟩ (t:=λa=>Zp7 a.1 a.2.1 a.2.2.1 a.2.2.2)
def ZLY:LS:={n:=29,Sl:=[(1,.code (So rcRG)),(2,.code (So rcCE)),(4,.fix (A.loc 0 0)),(13,.code (So (R.sl Zau))),(14,.code (So Kc)),(15,.code (So Kc))],Bx:=[[.many Zr]],Sg:=[]}
def Zsh (a:List (QT3)×List (Int×Int)×List EVTT×Int×Int×TC×PUnit):RT (Option (Go1 (List (QT3)×List (Int×Int)×List EVTT×Int×Int×TC×PUnit))):=
 let x1:EVTT:=R.get Zau a.2.2.1 a.2.2.2.2.1
 .br (decide (a.2.2.2.2.1<a.2.2.2.1)) (.br (!Ze a.2.2.2.2.1 (Le a.2.2.1)||ZAc a.2.2.2.2.2.1 a.1 a.2.1 x1) (.br (Ze a.2.2.2.2.1 (Le a.2.2.1)) (Ls (Go1.cont (a.1,ZIz a.2.2.2.2.2.1 a.1 a.2.1 x1,a.2.2.1,a.2.2.2.1,i64.wrap (a.2.2.2.2.1+1),Zbb a.2.2.2.2.2.1 x1,PUnit.unit))) Ln) Ln) (Ls (Go1.brk (a.1,a.2.1,a.2.2.1,a.2.2.2.1,a.2.2.2.2.1,a.2.2.2.2.2.1,PUnit.unit)))
def Zsi:Ora:=ZaB false ZLY Zsh (λa=>10000000000000)
theorem ZAg:Zal (envX prog [(28,ZfF),(90,Zpw),(91,Zqa)] [] 2047 8) (.block 0 (.loop (ZQ Tryz.f35.body 0))) Zsi:=
 loopP ⟨ZdL,Zjj,Zp6,Tv⟩
def ZwT (c:TC) (rg:List (QT3)) (m:List (Int×Int)) (l:List EVTT):RT (Option (List (Int×Int))):=
 let x1:List (QT3)×List (Int×Int)×List EVTT×Int×Int×TC×PUnit:=(rg,Cells.normX m,l,iN (Le l),0,c,())
 let x2:=runF false Zsh (λa=>10000000000000) x1
 .br (smC m) (.br (okB x2) (Ls (getO (false,x1) x2).2.2.1) Ln) Ln
def ZS9 (c:TC) (rg:List (QT3)) (m:List (Int×Int)) (l:List EVTT):List (Int×Int):=getO Zwm.Df (ZwT c rg m l).val
def ZIB (c:TC) (rg:List (QT3)) (m:List (Int×Int)) (l:List EVTT):Bool:=okB (ZwT c rg m l).val
def ZIA:En:=Zg Zw5 Zwm (λa=>some (ZIB a.1 a.2.1 a.2.2.1 a.2.2.2)) (λa=>ZS9 a.1 a.2.1 a.2.2.1 a.2.2.2)
theorem ZLX:Za prog 35 ZIA:=
 pureP 2047 [(28,ZfF),(90,Zpw),(91,Zqa)] [(0,Zsi)] Zw5 Zwm ⟨ZdL,Zjj,Zp6,Tv⟩ Tryz.func35 Tryz.call35 ⟨ZAg,Tv⟩ (t:=λa=>ZwT a.1 a.2.1 a.2.2.1 a.2.2.2)
def ZSh (b:BRDT):RT TC:=
 let x1:TR:=(0,0,0,0,0,0,0,(false,false,false,false,false,false,false),0,0)
 let x2:=ZI (b.1,x1,false,false,false,0,false,false,false,false,false,false,false)
 .Lf ((x2.1,x1,false,false,false,x2.2.2.2.2.2.1,false,false,false,false,false,false,false))
def Zk3 (b:BRDT):TC:=(ZSh b).val
def ZSi:En:=Zg ZE9 ZQe (λ_=>none) (λa=>Zk3 a)
theorem ZSg:Za prog 43 ZSi:=
 pureQ 7 [(96,Zm5)] [] ZE9 ZQe ⟨ZiL,Tv⟩ Tryz.func43 Tryz.call43 trivial (t:=λa=>ZSh a)
def Zet:En:=.tree (ZM (envX prog [] [] 7 8) Tryz.f31)
theorem Zht:Za prog 31 Zet:=Zad trivial Tryz.func31 rfl (by kernel_rfl) Tryz.call31 trivial
abbrev ZEB:List Sh:=[So (R.sl Kc),So R.bool]
abbrev Zwt:Rs:=Rs.tup [Sh.agg (R.Pq Kc (R.Pq rcRG (R.Pq Kc (R.Pq Ka (R.Pq Ka (R.Pq R.bool rcCE)))))),Sh.agg (R.Pq (R.sl ZUc) (R.Pq (R.sl ZI5) (R.Pq (R.sl Zau) (R.Pq (R.sl Zr) (R.Pq (R.Pq Zr (R.Pq Kc (R.Pq (R.sl Ka) (R.Pq (RY) (R.Pq Kc R.bool))))) (R.Pq rcCE (R.Pq Za8 (R.Pq (R.Pq Kb (R.Pq Ka Kc)) (R.Pq Kc (R.sl (R.Pq Ka Ka)))))))))))]
def ZzI (n:List Int) (h:Bool):RT (Option (BRDT×RUNT)):=
 let x1:BRDT:=((ZaG (n,0)).1.1,(ZaG (n,0)).1.2.1,(ZaG (n,0)).1.2.2.1,(ZaG (n,0)).1.2.2.2.1,bif !h then 240 else (ZaG (n,0)).1.2.2.2.2.1,(ZaG (n,0)).1.2.2.2.2.2)
 .br (Zpk (n,0)) (.br (!Zhc (ZaG (n,0)).2 90||ZTm x1 (Zd6 (ZaG (n,0)).2 90).1) (.br (Zhc (ZaG (n,0)).2 90) (Ls ((x1,(wRun x1 (Zd6 (ZaG (n,0)).2 90).1).1))) Ln) Ln) Ln
def ZEC (n:List Int) (h:Bool):BRDT×RUNT:=getO Zwt.Df (ZzI n h).val
def ZzJ (n:List Int) (h:Bool):Bool:=okB (ZzI n h).val
def Z2j:En:=Zg ZEB Zwt (λa=>some (ZzJ a.1 a.2)) (λa=>ZEC a.1 a.2)
theorem ZVA:Za prog 38 Z2j:=
 pureP 1023 [(31,Zet),(53,Z00),(66,ZRU),(67,ZHN)] [] ZEB Zwt ⟨Zht,ZX7,ZRR,ZLr,Tv⟩ Tryz.func38 Tryz.call38 trivial (t:=λa=>ZzI a.1 a.2)
end
end Go.Proofs.YtpnjbfjomebppaaGreat
open Go Go.S3 Go.Proofs Go.Proofs.Cells
namespace Go.Proofs.YtpnjbfjomebppaaGreat
noncomputable section
abbrev GT:=QT3
def In16 (m:List Cell):Prop:=∀c∈m,0<=c.1/\c.1<=65535
def Zlo (g:List GT):Prop:=∀r∈g,0<=r.1/\r.2.1<=65535
variable {m:List Cell}
theorem ZIf {c:Cell} (h:In16 m) (hc:0<=c.1/\c.1<=65535):In16 (putX m c):=λx hx=>by
 rcases ZlL hx with rfl|hx
 ·exact hc
 ·exact h x hx
theorem ZzR:∀(l m:List Cell),In16 l->In16 m->In16 (l.foldl putX m)
 |[],m,_,h=>h
 |c::l,m,hl,h=>ZzR l (putX m c) (λx hx=>hl x (YG _ hx)) (ZIf h (hl c (by simp)))
theorem ZzQ {l:List Cell} (h:In16 l):In16 (normX l):=ZzR l [] h (λc hc=>by cases hc)
theorem ZNV:∀(m:List Cell) (a:Int),m.Pairwise (λa b=>a.1<b.1)->(∀c∈m,a<=c.1/\c.1<=65535)->a<=65536->(m.length:Int)<=65536-a
 |[],a,_,_,h=>by simp;omega
 |c::m,a,hp,hb,h=>by obtain⟨h1,h2⟩:=Yv.1 hp;have hc:=hb c (by simp);have:=ZNV m (c.1+1) h2 (λx hx=>⟨by have:=h1 x hx;omega,(hb x (YG _ hx)).2⟩) (by omega);simp only[List.length_cons];omega
def ZfU (m:List Cell):Prop:=Vld m/\In16 m
theorem ZfU.len (h:ZfU m):m.length<=65536:=by have:=ZNV m 0 h.1.1 h.2 (by omega);omega
theorem ZfU.sm (h:ZfU m):smC m=true:=Zan (by have:=h.len;have:=mst;omega)
theorem Zhg (h:In16 m):ZfU (normX m):=⟨ZeS m,ZzQ h⟩
theorem ZVR {g:List GT} {t:Int} (hr:Zlo g) (h:Za6 g t>=0):0<=t/\t<=65535:=by
 unfold Za6 at h;split at h
 ·rename_i hlt;have:=List.findIdx_getElem (w:=hlt);have hm:=hr _ (List.getElem_mem hlt);simp only[hitB,Yb,Yk] at this;omega
 ·omega
theorem Zpo {g:List GT} (hr:Zlo g) (h:ZfU m) (t v:Int):ZfU (Zay g m t v):=by
 unfold Zay;cases hc:decide (Za6 g t>=0)&&(R.get GR g (Za6 g t)).2.2.1
 ·exact Zhg h.2
 ·simp only[Yb,Yk] at hc;exact⟨ZuI (ZeS m),ZIf (ZzQ h.2) (ZVR hr hc.1)⟩
def wrY (g:List GT) (m:List Cell) (x:TY):List Cell:=bif x.1==3||x.1==5 then Zay g m x.2.1 x.2.2.1 else m
def wrL (g:List GT) (m:List Cell) (l:List TY):List Cell:=l.foldl (wrY g) m
def wrE (c:TC) (g:List GT) (m:List Cell) (e:EVTT):List Cell:=bif e.1==5 then Zay g m e.2.2.2.2.2.2.2.2.1 e.2.2.2.2.2.2.2.2.2 else wrL g m (Zak c e)
def memF (g:List GT):TC->List Cell->List EVTT->List Cell
 |_,m,[]=>m
 |c,m,e::l=>memF g (Zbb c e) (wrE c g m e) l
def memX (c:TC) (g:List GT) (m:List Cell) (l:List EVTT):List Cell:=memF g c (normX m) l
theorem Z0k {g:List GT} (hr:Zlo g) (h:ZfU m) (x:TY):ZfU (wrY g m x):=by
 unfold wrY;cases x.1==3||x.1==5
 ·exact h
 ·exact Zpo hr h _ _
theorem Zpp {g:List GT} (hr:Zlo g):∀(l:List TY) (m:List Cell),ZfU m->ZfU (wrL g m l)
 |[],m,h=>h
 |x::l,m,h=>Zpp hr l (wrY g m x) (Z0k hr h x)
theorem Z0l {g:List GT} (hr:Zlo g) (h:ZfU m) (c:TC) (e:EVTT):ZfU (wrE c g m e):=by
 unfold wrE;cases e.1==5
 ·exact Zpp hr _ _ h
 ·exact Zpo hr h _ _
theorem Zwd {g:List GT} (hr:Zlo g):∀(l:List EVTT) (c:TC) (m:List Cell),ZfU m->ZfU (memF g c m l)
 |[],c,m,h=>h
 |e::l,c,m,h=>Zwd hr l (Zbb c e) _ (Z0l hr h c e)
theorem ZL9 (g:List GT) (m:List Cell) (l:List TY) (i:Nat) (h:i<l.length):wrL g m (l.take (i+1))=wrY g (wrL g m (l.take i)) (R.get RY l (i:Int)):=by rw[ZsY (r:=RY) l i h];unfold wrL;rw[YaL];rfl
theorem Zwc (g:List GT):∀(l:List EVTT) (c:TC) (m:List Cell) (e:EVTT),memF g c m (l++[e])=wrE (Zjl c l) g (memF g c m l) e
 |[],c,m,e=>rfl
 |x::l,c,m,e=>Zwc g l (Zbb c x) (wrE c g m x) e
theorem ZpF (c:TC) (l:List EVTT) (e:EVTT):Zjl c (l++[e])=Zbb (Zjl c l) e:=by unfold Zjl;rw[YaL];rfl
theorem Zx2:∀(l:List EVTT) (c:TC) (e:EVTT),Zdc c (l++[e])=Zdc c l++[Zbb (Zjl c l) e]
 |[],c,e=>rfl
 |x::l,c,e=>by show Zbb c x::Zdc (Zbb c x) (l++[e])=_;rw[Zx2 l];rfl
theorem Z0X (c:TC) (l:List EVTT) (h:l.length<=most):Ze6 c l=true/\ZhF c l=Zdc c l/\ZeA c l=true/\Ze4 c l=Zdc c l:=by
 have hms:=mst;have hap:∀i,i<l.length->Zdc c (l.take (i+1))=Zdc c (l.take i)++[Zbb (Zjl c (l.take i)) (R.get Zau l (i:Int))]/\Zjl c (l.take (i+1))=Zbb (Zjl c (l.take i)) (R.get Zau l (i:Int)):=λi hi=>by rw[ZsY (r:=Zau) l i hi];exact⟨Zx2 _ _ _,ZpF _ _ _⟩
 have hbl:∀i,i<l.length->∀x:TC,Nat.ble (Zdc c (l.take i)++[x]).length most=true:=λi hi x=>Zan (by rw[Yd,Zx1,YA];simp;omega)
 have r1:=Ziy (fl:=false) ZdD (λi=>(l,iN l.length,i,Zjl c (l.take i.toNat),Zdc c (l.take i.toNat),())) (λa=>a.2.2.1) l.length (λ_=>rfl)
  (λi hi=>by
   obtain⟨k1,k2,k3⟩:=Zkz hi h
   simp only[Int.toNat_natCast,(hap i hi).1,(hap i hi).2,ZdD,RT.val,ZE1,k1,k2,k3,hbl i hi,Yf,Ya])
  (by simp only[ZdD,RT.val,ZkG,Yc]) h
 have r2:=Ziy (fl:=false) ZcG (λi=>(l,iN l.length,i,Zjl c (l.take i.toNat),Zdc c (l.take i.toNat),())) (λa=>a.2.2.1) l.length (λ_=>rfl)
  (λi hi=>by
   obtain⟨k1,k2,k3⟩:=Zkz hi h
   simp only[Int.toNat_natCast,(hap i hi).1,(hap i hi).2,ZcG,RT.val,ZTg,k1,k2,k3,hbl i hi,Yf,Ya])
  (by simp only[ZcG,RT.val,ZkG,Yc]) h
 rw[Int.toNat_natCast,Yah] at r1 r2;have r1:runF false ZdD (λ_=>10000000000000) (l,iN l.length,0,c,[],())=_:=r1;have r2:runF false ZcG (λ_=>10000000000000) (l,iN l.length,0,c,[],())=_:=r2;have v1:(Zii c l).val=some (Zdc c l):=by simp only[Zii,RT.val,r1,okB,getO,Ya]
 have v2:(ZfV c l).val=some (Zdc c l):=by simp only[ZfV,RT.val,r2,okB,getO,Ya]
 exact⟨by simp only[Ze6,v1,okB],by simp only[ZhF,v1,getO],by simp only[ZeA,v2,okB],by simp only[Ze4,v2,getO]⟩
theorem Z0W (l:List TC) (h:l.length<=most):Zih l l=true/\Zmc l l=true:=by
 have r1:=Ziy (fl:=true) ZeC (λi=>(l,l,false,iN l.length,i,())) (λa=>a.2.2.2.2.1) l.length (λ_=>rfl)
  (λi hi=>by
   obtain⟨k1,k2,k3⟩:=Zkz hi h
   simp only[ZeC,RT.val,k1,k2,k3,R.eqf_refl,Ya,Yc,Yg,Yj,Yf])
  (by simp only[ZeC,RT.val,ZkG,Yc]) h
 have hv:(Zig l l).val=some true:=by simp only[Zig,RT.val,r1,YaM,okB,getO,Yc,Ya]
 exact⟨by simp only[Zih,hv,okB],by simp only[Zmc,hv,getO]⟩
theorem ZX5 (l:List EVTT) (h:l.length<=most):ZAv l=true:=by
 have hms:=mst;obtain⟨r,hr,h1⟩:=ZC (fl:=false) (t:=ZfY) (fuel:=λ_=>10000000000000)
  (λa=>∃(i:Nat) (v:Int),i<=l.length/\a=(v,l,iN l.length,(i:Int),()))
  (λa=>l.length-a.2.2.2.1.toNat) (λr=>r.1=false)
  (by
   rintro a ⟨i,v,hi,rfl⟩;by_cases hlt:i<l.length
   ·obtain⟨k1,k2,k3⟩:=Zkz hlt h;exact .inl ⟨_,by simp only[ZfY,RT.val,k1,k2,k3,Ya];rfl,⟨i+1,_,hlt,rfl⟩,by simp only[Int.toNat_natCast];omega⟩
   ·have e:i=l.length:=by omega
    subst e
    exact .inr (.inl ⟨_,by simp only[ZfY,RT.val,ZkG,Yc];rfl,rfl⟩))
  (iN l.length,l,iN l.length,0,()) ⟨0,_,Ys _,rfl⟩ (by show l.length-0<_;omega)
 have hv:okB (Zmf l).val=true:=by simp only[Zmf,RT.val,hr,okB,Ya]
 exact hv
theorem ZL4 (c:TC) (g:List GT) (m:List Cell) (e:EVTT) (hg:smG g=true) (hr:Zlo g) (hm:ZfU m):Zif c g m e=true/\Zlp c g m e=wrE c g m e:=by
 have hms:=mst;have h5:=Z2q c e;obtain⟨y,hy⟩:∃y,Zak c e=y:=⟨_,rfl⟩;rw[hy] at h5;obtain⟨r,hr1,h1⟩:=ZC (fl:=false) (t:=ZdN) (fuel:=λ_=>10000000000000)
  (λa=>∃i:Nat,i<=y.length/\a=(g,wrL g m (y.take i),y,(y.length:Int),(i:Int),c,e,()))
  (λa=>Int.toNat (a.2.2.2.1-a.2.2.2.2.1)) (λr=>r=(false,(g,wrL g m y,y,(y.length:Int),(y.length:Int),c,e,())))
  (by
   rintro a ⟨i,hi,rfl⟩;by_cases hlt:i<y.length
   ·left;have d:decide ((i:Int)<(y.length:Int))=true:=Yz (by omega);have hin:Ze (i:Int) y.length=true:=ZF.2 ⟨by omega,by omega⟩;have w:IntKind.wrap .i64 ((i:Int)+1)=((i+1:Nat):Int):=by rw[wrap_i64 _ (by omega) (by omega)];omega
    have hc:=(Zpp hr (y.take i) m hm).sm;refine⟨(g,wrL g m (y.take (i+1)),y,(y.length:Int),((i+1:Nat):Int),c,e,()),?_,⟨i+1,by omega,rfl⟩,by simp only;omega⟩;rw[ZL9 g m y i hlt];simp only[ZdN,RT.val,d,hin,w,hg,hc,YV,Yf,Ya];rfl
   ·right;left;have e1:i=y.length:=by omega
    subst e1;have d:decide ((y.length:Int)<(y.length:Int))=false:=Y0 (by omega);refine⟨(g,wrL g m y,y,(y.length:Int),(y.length:Int),c,e,()),?_,rfl⟩;rw[Yah]
    simp only[ZdN,RT.val,d,Yc])
  (g,m,y,(y.length:Int),0,c,e,()) ⟨0,Ys _,rfl⟩ (by simp only;omega)
 rw[h1] at hr1;have hc0:=hm.sm;have hv:(ZfX c g m e).val=some (wrE c g m e):=by unfold ZfX wrE;simp only[RT.val,hy,iN,Le,hr1,hg,hc0,okB,getO,YV,Yf,Ya];cases e.1==5<;>rfl
 exact⟨by simp only[Zif,hv];rfl,by simp only[Zlp,hv,getO]⟩
theorem Z0Y (c:TC) (g:List GT) (m:List Cell) (l:List EVTT) (hg:smG g=true) (hr:Zlo g) (hm:In16 m) (hml:m.length<=1000000) (hn:l.length<=most):ZgO c g m l=true/\ZhG c g m l=memX c g m l:=by
 have hms:=mst;have h0:=Zhg hm;have r1:=Ziy (fl:=false) ZdE (λi=>(g,memF g c (normX m) (l.take i.toNat),l,iN l.length,i,Zjl c (l.take i.toNat),())) (λa=>a.2.2.2.2.1) l.length (λ_=>rfl)
  (λi hi=>by
   obtain⟨k1,k2,k3⟩:=Zkz hi hn;obtain⟨j1,j2⟩:=ZL4 (Zjl c (l.take i)) g (memF g c (normX m) (l.take i)) (R.get Zau l (i:Int)) hg hr (Zwd hr _ _ _ h0);simp only[Int.toNat_natCast];rw[ZsY (r:=Zau) l i hi,Zwc,ZpF]
   simp only[ZdE,RT.val,k1,k2,k3,j1,j2,Yf,Ya])
  (by simp only[ZdE,RT.val,ZkG,Yc]) hn
 rw[Int.toNat_natCast,Yah] at r1;have r1:runF false ZdE (λ_=>10000000000000) (g,normX m,l,iN l.length,0,c,())=_:=r1;have hc0:smC m=true:=Zan (by omega);have hv:(Zij c g m l).val=some (memX c g m l):=by simp only[Zij,RT.val,r1,hc0,okB,getO,Ya];rfl
 exact⟨by simp only[ZgO,hv,okB],by simp only[ZhG,hv,getO]⟩
theorem Z18 (c:TC) (e:EVTT) (h:(e.1==5)=true):Zak c e=[]:=by
 have:e.1=5:=by simpa using h
 unfold Zak cycE Zz6;rw[this];rfl
theorem z_wr (c:TC) (g:List GT) (m:List Cell) (l:List EVTT) (n i:Int) (y:List TY) (e:EVTT) (hg:smG g=true) (hr:Zlo g) (hy:y.length<=5) (hm:ZfU m):
  runF false ZcI (λ_=>10000000000000) (g,m,l,n,i,y,(y.length:Int),0,c,e,())=some (false,(g,wrL g m y,l,n,i,y,(y.length:Int),(y.length:Int),c,e,())):=by
 have hms:=mst;obtain⟨r,hr1,h1⟩:=ZC (fl:=false) (t:=ZcI) (fuel:=λ_=>10000000000000)
  (λa=>∃k:Nat,k<=y.length/\a=(g,wrL g m (y.take k),l,n,i,y,(y.length:Int),(k:Int),c,e,()))
  (λa=>Int.toNat (a.2.2.2.2.2.2.1-a.2.2.2.2.2.2.2.1)) (λr=>r=(false,(g,wrL g m y,l,n,i,y,(y.length:Int),(y.length:Int),c,e,())))
  (by
   rintro a ⟨k,hk,rfl⟩;by_cases hlt:k<y.length
   ·left;have d:decide ((k:Int)<(y.length:Int))=true:=Yz (by omega);have hin:Ze (k:Int) y.length=true:=ZF.2 ⟨by omega,by omega⟩;have w:IntKind.wrap .i64 ((k:Int)+1)=((k+1:Nat):Int):=by rw[wrap_i64 _ (by omega) (by omega)];omega
    have hc:=(Zpp hr (y.take k) m hm).sm;refine⟨(g,wrL g m (y.take (k+1)),l,n,i,y,(y.length:Int),((k+1:Nat):Int),c,e,()),?_,⟨k+1,by omega,rfl⟩,by simp only;omega⟩;rw[ZL9 g m y k hlt];simp only[ZcI,RT.val,d,hin,w,hg,hc,YV,Yf,Ya];rfl
   ·right;left;have e1:k=y.length:=by omega
    subst e1;have d:decide ((y.length:Int)<(y.length:Int))=false:=Y0 (by omega);refine⟨(g,wrL g m y,l,n,i,y,(y.length:Int),(y.length:Int),c,e,()),?_,rfl⟩;rw[Yah]
    simp only[ZcI,RT.val,d,Yc])
  (g,m,l,n,i,y,(y.length:Int),0,c,e,()) ⟨0,Ys _,rfl⟩ (by simp only;omega)
 rw[h1] at hr1;exact hr1
theorem ZWb (c:TC) (g:List GT) (m:List Cell) (l:List EVTT) (hg:smG g=true) (hr:Zlo g) (hm:In16 m) (hml:m.length<=1000000) (hn:l.length<=most):ZeB c g m l=true/\Zie c g m l=memX c g m l:=by
 have hms:=mst;have h0:=Zhg hm;have r1:=Ziy (fl:=false) ZcH (λi=>(g,memF g c (normX m) (l.take i.toNat),l,iN l.length,i,Zjl c (l.take i.toNat),())) (λa=>a.2.2.2.2.1) l.length (λ_=>rfl)
  (λi hi=>by
   obtain⟨k1,k2,k3⟩:=Zkz hi hn;simp only[Int.toNat_natCast];rw[ZsY (r:=Zau) l i hi,Zwc,ZpF];have hM:=Zwd hr (l.take i) c (normX m) h0;generalize memF g c (normX m) (l.take i)=m' at hM|-;generalize Zjl c (l.take i)=c';generalize hgt:R.get Zau l (i:Int)=ee;have k:=z_wr c' g m' l (iN l.length) (i:Int) (Zak c' ee) ee hg hr (Z2q c' ee) hM;have hc:=(Zpp hr (Zak c' ee) m' hM).sm;have hE:(bif ee.1==5 then Zay g (wrL g m' (Zak c' ee)) ee.2.2.2.2.2.2.2.2.1 ee.2.2.2.2.2.2.2.2.2 else wrL g m' (Zak c' ee))=wrE c' g m' ee:=by
    unfold wrE;cases h5:ee.1==5
    ·rfl
    ·rw[Z18 c' ee h5];rfl
   simp only[iN,Le] at k k1|-
   simp only[ZcH,RT.val,iN,Le,k1,k2,k3,hgt,k,hg,hc,okB,getO,hE,ZcN,ZbT,Yg,Ym,Yj,YV,Yf,Ya])
  (by simp only[ZcH,RT.val,ZkG,Yc]) hn
 rw[Int.toNat_natCast,Yah] at r1;have r1:runF false ZcH (λ_=>10000000000000) (g,normX m,l,iN l.length,0,c,())=_:=r1;have hc0:smC m=true:=Zan (by omega);have hv:(ZfW c g m l).val=some (memX c g m l):=by simp only[ZfW,RT.val,r1,hc0,okB,getO,Ya];rfl
 exact⟨by simp only[ZeB,hv,okB],by simp only[Zie,hv,getO]⟩
def kKbT:RT (Option (Bool)):=
 let x1:LINT×Bool×Bool×Bool×Bool×Int×Int:=((false,false,false,false,false,false,false,false,false),false,false,false,false,0,0)
 let x2:List EVTT:=[(1,0,[62,7],x1),(1,0,[50,5,0,7],x1),(4,0,[],x1)]
 let x3:TC:=(1,(0,0,0,0,0,0,0,(false,false,false,false,false,false,false),0,0),false,false,false,0,false,false,false,false,false,false,false)
 let x4:=Zdc x3 x2
 let x5:Nat:=Le x4
 let x6:= !iN x5==3
 let x7:=Ze 1 x5
 let x8:=x6||x7
 let x9:= !x8
 let x10:TR:=(R.get Zr x4 1).2.1
 let x11:= !x10.1==7
 let x12:=x6||(x11||x7)
 let x13:= !x12
 let x14:= !x10.2.2.2.2.2.2.2.2.2==5
 let x15:=x6||(x11||(x14||Ze 2 x5))
 let p1:=(!(R.get Zr x4 2).2.1.2.2.2.2.2.2.2.2.2==0)::x14::x11::x6::(!x15)::x13::x9::[]
 .br (ZT5 x2) (.br (ZIB x3 [(0,65535,true,0)] [] x2) (.br (orR p1 (smC (ZS9 x3 [(0,65535,true,0)] [] x2))) (.br (x9||(x13||x15)) (.br (x9||x12) (.br (x8) (Ls (true)) Ln) Ln) Ln) Ln) Ln) Ln
def kKb:Bool:=getO Zof.Df (kKbT).val
def kKbC:Bool:=okB (kKbT).val
def kKbE:En:=Zg ZyL Zof (λa=>some (kKbC)) (λa=>kKb)
theorem Z2k:Za Tryz.prog 37 kKbE:=
 pureP 31 [(34,Ztv),(35,ZIA),(40,ZAe)] [] ZyL Zof ⟨Zrr,ZLX,ZEV,Tv⟩ Tryz.func37 Tryz.call37 trivial (t:=λa=>kKbT)
