import Derived.Test.YtpnjbfjomebppaaGreatCloneC
open Go.Proofs.Tryz (prog)
open Go.IntKind (u8 u16 i64)
set_option linter.unusedSimpArgs false
open Go Go.S3 Go.Proofs
set_option linter.unusedVariables false
set_option maxRecDepth 100000
namespace Go.Proofs.YtpnjbfjomebppaaGreat
noncomputable section
abbrev ZQQ:List Sh:=[]
def Zzw (s:List (Int×Int)):RT (Option (List (Int×Int))):=
 .br (ZnS (Stg.l (Zd3 Zc6 Zur s)) (iN (Le (Stg.l (Zd3 Zc6 Zur s))))) (Ls (Cells.isort (Stg.l (Zd3 Zc6 Zur s)))) Ln
def ZC8 (s:List (Int×Int)):List (Int×Int):=getO [] (Zzw s).val
def ZIu (s:List (Int×Int)):Bool:=okB (Zzw s).val
def ZQR:En:=stE Zc6 Zur 160 ZQQ (λa=>some (ZIu a.1)) (λa=>ZC8 a.1)
theorem ZIt:Za prog 159 ZQR:=
 ZnT (P:=prog) (n:=15) (k:=8) (l:=[(234,ZQP),(160,Zcc)]) (ol:=[]) ⟨ZQO,ZaH,Tv⟩ Tryz.func159 rfl (by kernel_rfl) Tryz.call159 trivial (r:=Zc6) (T:=Zur) (g0:=160) (ts:=ZQQ) (t:=λa=>Zzw a.1) (λa=>by kernel_rfl)
abbrev ZWj:List Sh:=[So rcCE]
abbrev ZHd:Rs:=Rs.one (So rcCE)
def Z0i:LS:={n:=45,Sl:=[(3,.tip 0),(4,.tip 1),(11,.tip 0),(12,.code (So Kc)),(13,.code (So Kc))],Bx:=[],Sg:=[⟨R.Pq Kb Ka,75,true⟩,⟨(R.Pq Kb Ka),75,true⟩]}
def Zkc (a:QT29):RT (Option (Go1 (QT29))):=
 let x1:=(R.get (R.Pq Kb Ka) a.2.2.1 a.2.1).2 !=0
 let x2:=i64.wrap (a.2.1+1)==iN (Le a.2.2.1)
 let x3:= !x1||(x2||Zg (i64.wrap (a.2.1+1)) (Le a.2.2.1))
 let x4:=x1&&(x2||(R.get (R.Pq Kb Ka) a.2.2.1 (i64.wrap (a.2.1+1))).1 !=(R.get (R.Pq Kb Ka) a.2.2.1 a.2.1).1)
 let x5:List (Int×Int):=a.2.2.2.1++[R.get (R.Pq Kb Ka) a.2.2.1 a.2.1]
 .br (decide (a.2.1<a.1)) (.br (!Zg a.2.1 (Le a.2.2.1)||(!x3||(!x4||Nat.ble (Le x5) most))) (.br (!Zg a.2.1 (Le a.2.2.1)||x3) (.br (Zg a.2.1 (Le a.2.2.1)) (Ls (Go1.cont (a.1,i64.wrap (a.2.1+1),a.2.2.1,bif x4 then x5 else a.2.2.2.1,PUnit.unit))) Ln) Ln) Ln) (Ls (Go1.brk (a.1,a.2.1,a.2.2.1,a.2.2.2.1,PUnit.unit)))
def ZLc:Ora:=Zbn false Z0i Zkc (λa=>(a.1-a.2.1).toNat+1)
theorem ZO4:ZaU (envX prog [(98,ZyN),(159,ZQR),(160,Zcc)] [] 127 8) (.block 0 (.loop (Z7 Tryz.f90.body 0))) ZLc:=
 loopP ⟨ZrF,ZIt,ZaH,Tv⟩
def ZBT (l:List (Int×Int)):RT (Option (List (Int×Int))):=
 let x1:=runF false Zkc (λa=>Int.toNat (a.1-a.2.1)+1) (iN (Le (ZC8 l)),0,ZC8 l,[],())
 .br (Nat.ble (Le l) most) (.br (ZIu l) (.br (okB x1) (Ls (getO (false,iN (Le (ZC8 l)),0,ZC8 l,[],()) x1).2.2.2.2.1) Ln) Ln) Ln
def ZWl (l:List (Int×Int)):List (Int×Int):=getO ZHd.Df (ZBT l).val
def ZBU (l:List (Int×Int)):Bool:=okB (ZBT l).val
def ZWk:En:=Zf ZWj ZHd (λa=>some (ZBU a)) (λa=>ZWl a)
theorem ZLb:Za prog 90 ZWk:=
 pureP 127 [(98,ZyN),(159,ZQR),(160,Zcc)] [(0,ZLc)] ZWj ZHd ⟨ZrF,ZIt,ZaH,Tv⟩ Tryz.func90 Tryz.call90 ⟨ZO4,Tv⟩ (t:=λa=>ZBT a)
abbrev Znf:Rs:=Rs.one (So R.bool)
def ZWc:LS:={n:=31,Sl:=[(0,.code (So rcCE)),(2,.code (So R.bool)),(5,.code (So rcCE)),(6,.code (So Kc)),(7,.code (So Kc))],Bx:=[],Sg:=[]}
def ZeV (a:List (Int×Int)×Bool×List (Int×Int)×Int×Int×PUnit):RT (Option (Go1 (List (Int×Int)×Bool×List (Int×Int)×Int×Int×PUnit))):=
 let x1:Int×Int:=R.get (R.Pq Kb Ka) a.2.2.1 a.2.2.2.2.1
 let x2:=x1.2==0
 let x3:List (Int×Int)×Int×Int×PUnit:=(a.2.2.1,a.2.2.2.1,a.2.2.2.2.1,PUnit.unit)
 .br (decide (a.2.2.2.2.1<a.2.2.2.1)) (.br (!Zg a.2.2.2.2.1 (Le a.2.2.1)||(x2||(!decide (a.2.2.2.2.1>0)||Zg (i64.wrap (a.2.2.2.2.1-1)) (Le a.1)))) (.br (Zg a.2.2.2.2.1 (Le a.2.2.1)) (.br (x2||decide (a.2.2.2.2.1>0)&&decide (x1.1<=(R.get (R.Pq Kb Ka) a.1 (i64.wrap (a.2.2.2.2.1-1))).1)) (Ls (Go1.ret (a.1,false,x3))) (Ls (Go1.cont (a.1,a.2.1,a.2.2.1,a.2.2.2.1,i64.wrap (a.2.2.2.2.1+1),PUnit.unit)))) Ln) Ln) (Ls (Go1.brk (a.1,a.2.1,x3)))
def ZBS:Ora:=Zbn true ZWc ZeV (λa=>1000000000000)
theorem ZHc:ZaU (envX prog [] [] 31 8) (.block 0 (.loop (Z7 Tryz.f103.body 0))) ZBS:=
 loopP trivial
def Zlx (m:List (Int×Int)):RT (Option (Bool)):=
 let x1:=runF true ZeV (λa=>1000000000000) (m,false,m,iN (Le m),0,())
 let x2:=getO (false,m,false,m,iN (Le m),0,()) x1
 .br (okB x1) (.br x2.1 (Ls x2.2.2.1) (Ls (true))) Ln
def ZqZ (m:List (Int×Int)):Bool:=getO Znf.Df (Zlx m).val
def Zyi (m:List (Int×Int)):Bool:=okB (Zlx m).val
def ZWd:En:=Zf ZWj Znf (λa=>some (Zyi a)) (λa=>ZqZ a)
theorem ZBR:Za prog 103 ZWd:=
 pureP 31 [] [(0,ZBS)] ZWj Znf trivial Tryz.func103 Tryz.call103 ⟨ZHc,Tv⟩ (t:=λa=>Zlx a)
def ZRH:LS:={n:=34,Sl:=[(0,.code (So rcCE)),(2,.code (So R.bool)),(5,.code (So Kc)),(6,.code (So Kc))],Bx:=[],Sg:=[]}
def ZeG (a:List (Int×Int)×Bool×Int×Int×PUnit):RT (Option (Go1 (List (Int×Int)×Bool×Int×Int×PUnit))):=
 let x1:=(R.get (R.Pq Kb Ka) a.1 a.2.2.2.1).2==0
 let x2:= !Zg a.2.2.2.1 (Le a.1)||(x1||(!decide (a.2.2.2.1>0)||(!Zg a.2.2.2.1 (Le a.1)||Zg (i64.wrap (a.2.2.2.1-1)) (Le a.1))))
 let x3:= !x2
 let x4:= !Zg a.2.2.2.1 (Le a.1)||(x1||(!decide (a.2.2.2.1>0)||Zg a.2.2.2.1 (Le a.1)))
 .br (decide (a.2.2.2.1<a.2.2.1)) (.br (x3||(!x4||Zg a.2.2.2.1 (Le a.1))) (.br (x3||x4) (.br (x2) (.br (x1||decide (a.2.2.2.1>0)&&decide ((R.get (R.Pq Kb Ka) a.1 a.2.2.2.1).1<=(R.get (R.Pq Kb Ka) a.1 (i64.wrap (a.2.2.2.1-1))).1)) (Ls (Go1.ret (a.1,false,a.2.2.1,a.2.2.2.1,PUnit.unit))) (Ls (Go1.cont (a.1,a.2.1,a.2.2.1,i64.wrap (a.2.2.2.1+1),PUnit.unit)))) Ln) Ln) Ln) (Ls (Go1.brk (a.1,a.2.1,a.2.2.1,a.2.2.2.1,PUnit.unit)))
def Zz3:Ora:=Zbn true ZRH ZeG (λa=>1000000000000)
theorem ZDz:ZaU (envX prog [] [] 15 8) (.block 0 (.loop (Z7 Tryz.f105.body 0))) Zz3:=
 loopP trivial
def Zk0 (m:List (Int×Int)):RT (Option (Bool)):=
 let x1:=runF true ZeG (λa=>1000000000000) (m,false,iN (Le m),0,())
 let x2:=getO (false,m,false,iN (Le m),0,()) x1
 .br (okB x1) (.br x2.1 (Ls x2.2.2.1) (Ls (true))) Ln
def Zoc (m:List (Int×Int)):Bool:=getO Znf.Df (Zk0 m).val
def Zk1 (m:List (Int×Int)):Bool:=okB (Zk0 m).val
def ZDA:En:=Zf ZWj Znf (λa=>some (Zk1 a)) (λa=>Zoc a)
theorem Zoa:Za prog 105 ZDA:=
 pureP 15 [] [(0,Zz3)] ZWj Znf trivial Tryz.func105 Tryz.call105 ⟨ZDz,Tv⟩ (t:=λa=>Zk0 a)
abbrev ZSD:List Sh:=[So rcCE,So Kb]
abbrev ZEI:Rs:=Rs.one (So Ka)
def ZY1:LS:={n:=25,Sl:=[(0,.code (So rcCE)),(1,.code (So Kb)),(4,.code (So Ka)),(5,.code (So Kc))],Bx:=[],Sg:=[]}
def Zh6 (a:List (Int×Int)×Int×Int×Int×PUnit):RT (Option (Go1 (List (Int×Int)×Int×Int×Int×PUnit))):=
 let x1:=(R.get (R.Pq Kb Ka) a.1 a.2.2.2.1).1==a.2.1
 .br (decide (a.2.2.2.1>=0)) (.br (!Zg a.2.2.2.1 (Le a.1)||(!x1||Zg a.2.2.2.1 (Le a.1))) (.br (Zg a.2.2.2.1 (Le a.1)) (.br (x1) (Ls (Go1.ret (a.1,a.2.1,(R.get (R.Pq Kb Ka) a.1 a.2.2.2.1).2,a.2.2.2.1,PUnit.unit))) (Ls (Go1.cont (a.1,a.2.1,a.2.2.1,i64.wrap (a.2.2.2.1-1),PUnit.unit)))) Ln) Ln) (Ls (Go1.brk (a.1,a.2.1,a.2.2.1,a.2.2.2.1,PUnit.unit)))
def ZJu:Ora:=Zbn true ZY1 Zh6 (λa=>1000000000000)
theorem ZMN:ZaU (envX prog [] [] 63 8) (.block 0 (.loop (Z7 Tryz.f60.body 0))) ZJu:=
 loopP trivial
def Zta (m:List (Int×Int)) (t:Int):RT (Option (Int)):=
 let x1:List (Int×Int)×Int×Int×Int×PUnit:=(m,t,0,i64.wrap (iN (Le m)-1),())
 let x2:=runF true Zh6 (λa=>1000000000000) x1
 let x3:=getO (false,x1) x2
 .br (okB x2) (.br x3.1 (Ls x3.2.2.2.1) (Ls (0))) Ln
def ZY2 (m:List (Int×Int)) (t:Int):Int:=getO ZEI.Df (Zta m t).val
def ZJv (m:List (Int×Int)) (t:Int):Bool:=okB (Zta m t).val
def Z10:En:=Zf ZSD ZEI (λa=>some (ZJv a.1 a.2)) (λa=>ZY2 a.1 a.2)
theorem ZY0:Za prog 60 Z10:=
 pureP 63 [] [(0,ZJu)] ZSD ZEI trivial Tryz.func60 Tryz.call60 ⟨ZMN,Tv⟩ (t:=λa=>Zta a.1 a.2)
abbrev ZR5:List Sh:=[So rcCE,Sh.agg (R.Pq Kb Ka)]
def ZYP:LS:={n:=53,Sl:=[(3,.fix (A.loc 0 0)),(5,.tip 0),(6,.code (So R.bool)),(9,.code (So rcCE)),(10,.code (So Kc)),(11,.code (So Kc))],Bx:=[[.many (R.Pq Kb Ka)]],Sg:=[⟨(R.Pq Kb Ka),75,true⟩]}
def Zjx (a:QT9):RT (Option (Go1 (QT9))):=
 let x1:Int×Int:=R.get (R.Pq Kb Ka) a.2.1 a.2.2.2.1
 let x2:=x1.1
 let x3:= !a.1&&decide (x2>=a.2.2.2.2.1.1)
 let x4:List (Int×Int):=a.2.2.2.2.2.1++[a.2.2.2.2.1]
 let x5:= !x3||(!a.2.2.2.2.1.2 !=0||Nat.ble (Le x4) most)
 let x6:=x2 !=a.2.2.2.2.1.1
 let x7:List (Int×Int):=bif x3 then bif a.2.2.2.2.1.2 !=0 then x4 else a.2.2.2.2.2.1 else a.2.2.2.2.2.1
 let x8:List (Int×Int):=x7++[x1]
 .br (decide (a.2.2.2.1<a.2.2.1)) (.br (!Zg a.2.2.2.1 (Le a.2.1)||(!x5||(!x6||Nat.ble (Le x8) most))) (.br (!Zg a.2.2.2.1 (Le a.2.1)||x5) (.br (Zg a.2.2.2.1 (Le a.2.1)) (Ls (Go1.cont (x3||a.1,a.2.1,a.2.2.1,i64.wrap (a.2.2.2.1+1),a.2.2.2.2.1,bif x6 then x8 else x7,PUnit.unit))) Ln) Ln) Ln) (Ls (Go1.brk (a.1,a.2.1,a.2.2.1,a.2.2.2.1,a.2.2.2.2.1,a.2.2.2.2.2.1,PUnit.unit)))
def ZJc:Ora:=Zbn false ZYP Zjx (λa=>1000000000000)
theorem ZMw:ZaU (envX prog [] [] 511 8) (.block 0 (.loop (Z7 Tryz.f165.body 0))) ZJc:=
 loopP trivial
def Zs2 (m:List (Int×Int)) (c:Int×Int):RT (Option (List (Int×Int))):=
 let x1:QT9:=(false,m,iN (Le m),0,c,[],())
 let x2:=runF false Zjx (λa=>1000000000000) x1
 let x3:QT9:=(getO (false,x1) x2).2
 let x4:=x3.2.2.2.2
 let x5:=x4.1
 let x6:= !x3.1&&x5.2 !=0
 let x7:=x4.2.1
 let x8:List (Int×Int):=x7++[x5]
 .br (okB x2) (.br (!x6||Nat.ble (Le x8) most) (Ls (bif x6 then x8 else x7)) Ln) Ln
def ZMx (m:List (Int×Int)) (c:Int×Int):List (Int×Int):=getO ZHd.Df (Zs2 m c).val
def Zs3 (m:List (Int×Int)) (c:Int×Int):Bool:=okB (Zs2 m c).val
def ZJd:En:=Zf ZR5 ZHd (λa=>some (Zs3 a.1 a.2)) (λa=>ZMx a.1 a.2)
theorem Zvd:Za prog 165 ZJd:=
 pureP 511 [] [(0,ZJc)] ZR5 ZHd trivial Tryz.func165 Tryz.call165 ⟨ZMw,Tv⟩ (t:=λa=>Zs2 a.1 a.2)
def ZYX:LS:={n:=21,Sl:=[(3,.code (So rcCE)),(10,.code (So rcCE)),(11,.code (So Kc)),(12,.code (So Kc))],Bx:=[],Sg:=[]}
def ZjA (a:List (Int×Int)×List (Int×Int)×Int×Int×PUnit):RT (Option (Go1 (List (Int×Int)×List (Int×Int)×Int×Int×PUnit))):=
 let x1:Int×Int:=R.get (R.Pq Kb Ka) a.2.1 a.2.2.2.1
 .br (decide (a.2.2.2.1<a.2.2.1)) (.br (!Zg a.2.2.2.1 (Le a.2.1)||Zs3 a.1 x1) (.br (Zg a.2.2.2.1 (Le a.2.1)) (Ls (Go1.cont (ZMx a.1 x1,a.2.1,a.2.2.1,i64.wrap (a.2.2.2.1+1),PUnit.unit))) Ln) Ln) (Ls (Go1.brk (a.1,a.2.1,a.2.2.1,a.2.2.2.1,PUnit.unit)))
def ZJk:Ora:=Zbn false ZYX ZjA (λa=>1000000000000)
theorem ZMz:ZaU (envX prog [(105,ZDA),(165,ZJd)] [] 63 8) (.block 0 (.loop (Z7 Tryz.f93.body 0))) ZJk:=
 loopP ⟨Zoa,Zvd,Tv⟩
def Zs7 (l:List (Int×Int)):RT (Option (List (Int×Int))):=
 let x1:=runF false ZjA (λa=>1000000000000) ([],l,iN (Le l),0,())
 .br (Zk1 l) (.br (!Zoc l||Nat.ble (Le ([]++l)) most) (.br (Zoc l) (Ls ([]++l)) (.br (okB x1) (Ls (getO (false,[],l,iN (Le l),0,()) x1).2.1) Ln)) Ln) Ln
def ZMA (l:List (Int×Int)):List (Int×Int):=getO ZHd.Df (Zs7 l).val
def Zs8 (l:List (Int×Int)):Bool:=okB (Zs7 l).val
def ZSp:En:=Zf ZWj ZHd (λa=>some (Zs8 a)) (λa=>ZMA a)
theorem Zvh:Za prog 93 ZSp:=
 pureP 63 [(105,ZDA),(165,ZJd)] [(0,ZJk)] ZWj ZHd ⟨Zoa,Zvd,Tv⟩ Tryz.func93 Tryz.call93 ⟨ZMz,Tv⟩ (t:=λa=>Zs7 a)
abbrev ZR4:List Sh:=[So rcCE,So Kb,So Ka]
def ZAk (m:List (Int×Int)) (t:Int) (v:Int):RT (Option (List (Int×Int))):=
 .br (!Zs8 m||Zs3 (ZMA m) (t,v)) (.br (Zs8 m) (Ls (ZMx (ZMA m) (t,v))) Ln) Ln
def ZYO (m:List (Int×Int)) (t:Int) (v:Int):List (Int×Int):=getO ZHd.Df (ZAk m t v).val
def ZJb (m:List (Int×Int)) (t:Int) (v:Int):Bool:=okB (ZAk m t v).val
def Z1K:En:=Zf ZR4 ZHd (λa=>some (ZJb a.1 a.2.1 a.2.2)) (λa=>ZYO a.1 a.2.1 a.2.2)
theorem ZYN:Za prog 170 Z1K:=
 pureP 127 [(93,ZSp),(165,ZJd)] [] ZR4 ZHd ⟨Zvh,Zvd,Tv⟩ Tryz.func170 Tryz.call170 trivial (t:=λa=>ZAk a.1 a.2.1 a.2.2)
abbrev Zu7:List Sh:=[So rcCE,So rcCE]
def ZRP:LS:={n:=26,Sl:=[(0,.code (So rcCE)),(1,.code (So rcCE)),(4,.code (So R.bool)),(12,.code (So Kc)),(13,.code (So Kc))],Bx:=[],Sg:=[]}
def ZfT (a:List (Int×Int)×List (Int×Int)×Bool×Int×Int×PUnit):RT (Option (Go1 (List (Int×Int)×List (Int×Int)×Bool×Int×Int×PUnit))):=
 let x1:= !Zg a.2.2.2.2.1 (Le a.1)||Zg a.2.2.2.2.1 (Le a.2.1)
 let x2:Int×Int:=R.get (R.Pq Kb Ka) a.1 a.2.2.2.2.1
 let x3:Int×Int:=R.get (R.Pq Kb Ka) a.2.1 a.2.2.2.2.1
 let x4:Int×Int×PUnit:=(a.2.2.2.1,a.2.2.2.2.1,PUnit.unit)
 .br (decide (a.2.2.2.2.1<a.2.2.2.1)) (.br (!x1||Zg a.2.2.2.2.1 (Le a.1)) (.br (x1) (.br (!(x2.1==x3.1&&(x2.2==x3.2&&true))) (Ls (Go1.ret (a.1,a.2.1,false,x4))) (Ls (Go1.cont (a.1,a.2.1,a.2.2.1,a.2.2.2.1,i64.wrap (a.2.2.2.2.1+1),PUnit.unit)))) Ln) Ln) (Ls (Go1.brk (a.1,a.2.1,a.2.2.1,x4)))
def ZAg:Ora:=Zbn true ZRP ZfT (λa=>1000000000000)
theorem ZDF:ZaU (envX prog [] [] 63 8) (.block 0 (.loop (Z7 Tryz.f34.body 0))) ZAg:=
 loopP trivial
def ZiQ (a:List (Int×Int)) (b:List (Int×Int)):RT (Option (Bool)):=
 let x1:=runF true ZfT (λa_1=>1000000000000) (a,b,false,iN (Le a),0,())
 let x2:=getO (false,a,b,false,iN (Le a),0,()) x1
 .br (iN (Le a) !=iN (Le b)) (Ls (false)) (.br (okB x1) (.br x2.1 (Ls x2.2.2.2.1) (Ls (true))) Ln)
def ZRQ (a:List (Int×Int)) (b:List (Int×Int)):Bool:=getO Znf.Df (ZiQ a b).val
def ZDG (a:List (Int×Int)) (b:List (Int×Int)):Bool:=okB (ZiQ a b).val
def Z3X:En:=Zf Zu7 Znf (λa=>some (ZDG a.1 a.2)) (λa=>ZRQ a.1 a.2)
theorem ZRO:Za prog 34 Z3X:=
 pureP 63 [] [(0,ZAg)] Zu7 Znf trivial Tryz.func34 Tryz.call34 ⟨ZDF,Tv⟩ (t:=λa=>ZiQ a.1 a.2)
abbrev ZSE:List Sh:=[So rcRG,So Kb]
def ZY3:LS:={n:=26,Sl:=[(1,.code (So Kb)),(4,.code (So Kc)),(7,.code (So rcRG)),(8,.code (So Kc)),(9,.code (So Kc))],Bx:=[],Sg:=[]}
def Zh7 (a:QT16):RT (Option (Go1 (QT16))):=
 let x1:QT6:=R.get (R.Pq Kb (R.Pq Kb (R.Pq R.bool Kc))) a.2.2.1 a.2.2.2.2.1
 let x2:List (QT6)×Int×Int×PUnit:=(a.2.2.1,a.2.2.2.1,a.2.2.2.2.1,PUnit.unit)
 .br (decide (a.2.2.2.2.1<a.2.2.2.1)) (.br (Zg a.2.2.2.2.1 (Le a.2.2.1)) (.br (decide (x1.1<=a.1)&&decide (a.1<=x1.2.1)) (Ls (Go1.ret (a.1,a.2.2.2.2.1,x2))) (Ls (Go1.cont (a.1,a.2.1,a.2.2.1,a.2.2.2.1,i64.wrap (a.2.2.2.2.1+1),PUnit.unit)))) Ln) (Ls (Go1.brk (a.1,a.2.1,x2)))
def ZJy:Ora:=Zbn true ZY3 Zh7 (λa=>1000000000000)
theorem ZMO:ZaU (envX prog [] [] 127 8) (.block 0 (.loop (Z7 Tryz.f169.body 0))) ZJy:=
 loopP trivial
def Zo6 (l:List (QT6)) (t:Int):RT (Option (Int)):=
 let x1:=runF true Zh7 (λa=>1000000000000) (t,0,l,iN (Le l),0,())
 let x2:=getO (false,t,0,l,iN (Le l),0,()) x1
 .br (okB x1) (.br x2.1 (Ls x2.2.2.1) (Ls (-1))) Ln
def Zk7 (l:List (QT6)) (t:Int):Int:=getO Z1t.Df (Zo6 l t).val
def Zo7 (l:List (QT6)) (t:Int):Bool:=okB (Zo6 l t).val
def ZJz:En:=Zf ZSE Z1t (λa=>some (Zo7 a.1 a.2)) (λa=>Zk7 a.1 a.2)
theorem Zvz:Za prog 169 ZJz:=
 pureP 127 [] [(0,ZJy)] ZSE Z1t trivial Tryz.func169 Tryz.call169 ⟨ZMO,Tv⟩ (t:=λa=>Zo6 a.1 a.2)
abbrev Zu9:List Sh:=[So rcRG,So rcCE,So Kb]
def Zoi (l:List (QT6)) (m:List (Int×Int)) (t:Int):RT (Option (Int)):=
 .br (Zo7 l t) (.br (decide (Zk7 l t<0)) (Ls (255)) (.br (ZJv m t) (Ls (ZY2 m t)) Ln)) Ln
def ZRY (l:List (QT6)) (m:List (Int×Int)) (t:Int):Int:=getO ZEI.Df (Zoi l m t).val
def ZDK (l:List (QT6)) (m:List (Int×Int)) (t:Int):Bool:=okB (Zoi l m t).val
def Z32:En:=Zf Zu9 ZEI (λa=>some (ZDK a.1 a.2.1 a.2.2)) (λa=>ZRY a.1 a.2.1 a.2.2)
theorem ZRX:Za prog 255 Z32:=
 pureP 127 [(60,Z10),(169,ZJz)] [] Zu9 ZEI ⟨ZY0,Zvz,Tv⟩ Tryz.func255 Tryz.call255 trivial (t:=λa=>Zoi a.1 a.2.1 a.2.2)
abbrev Zn6:List Sh:=[So rcRG,So rcCE,So Kb,So Ka]
def Zjq (l:List (QT6)) (m:List (Int×Int)) (t:Int) (v:Int):RT (Option (List (Int×Int))):=
 let x1:=decide (Zk7 l t>=0)&&(R.get (R.Pq Kb (R.Pq Kb (R.Pq R.bool Kc))) l (Zk7 l t)).2.2.1
 .br (Zo7 l t) (.br (!decide (Zk7 l t>=0)||Zg (Zk7 l t) (Le l)) (.br (!x1||ZJb m t v) (.br (x1) (Ls (ZYO m t v)) (.br (Zs8 m) (Ls (ZMA m)) Ln)) Ln) Ln) Ln
def ZDw (l:List (QT6)) (m:List (Int×Int)) (t:Int) (v:Int):List (Int×Int):=getO ZHd.Df (Zjq l m t v).val
def ZuW (l:List (QT6)) (m:List (Int×Int)) (t:Int) (v:Int):Bool:=okB (Zjq l m t v).val
def ZYC:En:=Zf Zn6 ZHd (λa=>some (ZuW a.1 a.2.1 a.2.2.1 a.2.2.2)) (λa=>ZDw a.1 a.2.1 a.2.2.1 a.2.2.2)
theorem ZMk:Za prog 95 ZYC:=
 pureP 1023 [(93,ZSp),(169,ZJz),(170,Z1K)] [] Zn6 ZHd ⟨Zvh,Zvz,ZYN,Tv⟩ Tryz.func95 Tryz.call95 trivial (t:=λa=>Zjq a.1 a.2.1 a.2.2.1 a.2.2.2)
def ZZT:LS:={n:=26,Sl:=[(1,.code (So Kb)),(4,.code (So Kc)),(7,.code (So rcRG)),(8,.code (So Kc)),(9,.code (So Kc))],Bx:=[],Sg:=[]}
def ZKE (a:QT16):RT (Option (Go1 (QT16))):=
 let x1:QT6:=R.get (R.Pq Kb (R.Pq Kb (R.Pq R.bool Kc))) a.2.2.1 a.2.2.2.2.1
 let x2:List (QT6)×Int×Int×PUnit:=(a.2.2.1,a.2.2.2.1,a.2.2.2.2.1,PUnit.unit)
 .br (decide (a.2.2.2.2.1<a.2.2.2.1)) (.br (Zg a.2.2.2.2.1 (Le a.2.2.1)) (.br (decide (x1.1<=a.1)&&decide (a.1<=x1.2.1)) (Ls (Go1.ret (a.1,a.2.2.2.2.1,x2))) (Ls (Go1.cont (a.1,a.2.1,a.2.2.1,a.2.2.2.1,i64.wrap (a.2.2.2.2.1+1),PUnit.unit)))) Ln) (Ls (Go1.brk (a.1,a.2.1,x2)))
def ZKF:Ora:=Zbn true ZZT ZKE (λa=>1000000000000)
theorem ZN6:ZaU (envX prog [] [] 127 8) (.block 0 (.loop (Z7 Tryz.f209.body 0))) ZKF:=
 loopP trivial
def ZKD (l:List (QT6)) (t:Int):RT (Option (Int)):=
 let x1:=runF true ZKE (λa=>1000000000000) (t,0,l,iN (Le l),0,())
 let x2:=getO (false,t,0,l,iN (Le l),0,()) x1
 .br (okB x1) (.br x2.1 (Ls x2.2.2.1) (Ls (-1))) Ln
def ZrY (l:List (QT6)) (t:Int):Int:=getO Z1t.Df (ZKD l t).val
def ZBh (l:List (QT6)) (t:Int):Bool:=okB (ZKD l t).val
def ZKG:En:=Zf ZSE Z1t (λa=>some (ZBh a.1 a.2)) (λa=>ZrY a.1 a.2)
theorem Zxm:Za prog 209 ZKG:=
 pureP 127 [] [(0,ZKF)] ZSE Z1t trivial Tryz.func209 Tryz.call209 ⟨ZN6,Tv⟩ (t:=λa=>ZKD a.1 a.2)
end
end Go.Proofs.YtpnjbfjomebppaaGreat
namespace Go.Proofs.Cells
def getX (l:List Cell) (a:Int):Int:=((flt a l).getLast?.map Prod.snd).getD 0
def Vld (m:List Cell):Prop:=m.Pairwise (λa b=>a.1<b.1)/\∀c∈m,c.2≠0
variable {l:List Cell}
theorem ZPh {l':List Cell} (h:Sm l l') (a:Int):getX l a=getX l' a:=by rw[getX,getX,h a]
variable {m:List Cell}
theorem Vld.srt (h:Vld m):Srt m:=h.1.imp λh=>Int.le_of_lt h
theorem Vld.tail {c:Cell} (h:Vld (c::m)):Vld m:=⟨(Yw.1 h.1).2,λx hx=>h.2 x (YR _ hx)⟩
theorem ZLs (a:Int):getX [] a=0:=rfl
theorem Znh (a:Int) (c:Cell) (l:List Cell):flt a (c::l)=if c.1=a then c::flt a l else flt a l:=by by_cases h:c.1=a<;>simp[flt,h]
theorem Ze0 (c:Cell) (l:List Cell) (a:Int):getX (c::l) a=if c.1=a/\flt a l=[] then c.2 else getX l a:=by
 simp only[getX,Znh];by_cases h:c.1=a
 ·simp only[h,if_true,true_and];cases hf:flt a l with
  |nil=>simp
  |cons x r=>simp[List.getLast?_cons_cons]
 ·simp[h]
theorem Vld.flt {m:List Cell} (h:Vld m) (a:Int):Cells.flt a m=if getX m a=0 then [] else [(a,getX m a)]:=by
 induction m with
 |nil=>simp[Cells.flt,ZLs]
 |cons c m ih=>
  have ih:=ih h.tail;have h1:=Yw.1 h.1;by_cases hc:c.1=a
  ·have hn:Cells.flt a m=[]:=Ze1 λx hx=>by have:=h1.1 x hx;omega
   have hz:=h.2 c (by simp);rw[Znh,Ze0];simp only[hc,hn,and_self,if_true,hz,if_false];rw[<-hc]
  ·rw[Znh,Ze0];simp only[hc,false_and,if_false,ih]
theorem Z3h {m':List Cell} (h:Vld m) (h':Vld m') (e:∀a,getX m a=getX m' a):m=m':=
 uniq h.srt h'.srt λk=>by rw[h.flt,h'.flt,e k]
def dd:List Cell->List Cell
 |[]=>[]
 |x::r=>match r with
  |[]=>if x.2=0 then [] else [x]
  |y::_=>if x.1=y.1 then dd r else if x.2=0 then dd r else x::dd r
theorem ZtV:∀{l:List Cell} {c:Cell},c∈dd l->c∈l/\c.2≠0
 |[],c,h=>by simp[dd] at h
 |[x],c,h=>by
  simp only[dd] at h;split at h
  ·simp at h
  ·rename_i hz;simp at h;subst h;exact⟨by simp,hz⟩
 |x::y::r,c,h=>by
  rw[dd] at h;split at h
  ·have:=ZtV h;exact⟨YR _ this.1,this.2⟩
  ·split at h
   ·have:=ZtV h;exact⟨YR _ this.1,this.2⟩
   ·rename_i hz;rcases Yx.1 h with e|e
    ·subst e;exact⟨by simp,hz⟩
    ·have:=ZtV e;exact⟨YR _ this.1,this.2⟩
theorem Z2Y:∀{l:List Cell},Srt l->Vld (dd l)
 |[],_=>⟨Yag,λc h=>by simp[dd] at h⟩
 |[x],_=>by refine⟨?_,λc h=>(ZtV h).2⟩;simp only[dd];split<;>simp
 |x::y::r,h=>by
  have h1:=Yw.1 h;have ih:=Z2Y (l:=y::r) h1.2;have h2:=Yw.1 h1.2;rw[dd];split
  ·exact ih
  ·rename_i hne;split
   ·exact ih
   ·rename_i hz;refine⟨Yw.2 ⟨λc hc=> ?_,ih.1⟩,λc hc=> ?_⟩
    ·have hxy:=h1.1 y (by simp);rcases Yx.1 (ZtV hc).1 with e|e
     ·rw[e];omega
     ·have:=h2.1 c e;omega
    ·rcases Yx.1 hc with e|e
     ·rw[e];exact hz
     ·exact ih.2 c e
theorem Z2Z:∀{l:List Cell},Srt l->∀a,getX (dd l) a=getX l a
 |[],_,_=>rfl
 |[x],_,a=>by
  simp only[dd];split
  ·rename_i hz;rw[Ze0];simp[flt,getX,hz]
  ·rfl
 |x::y::r,h,a=>by
  have h1:=Yw.1 h;have ih:=Z2Z (l:=y::r) h1.2 a;have h2:=Yw.1 h1.2;rw[dd,Ze0 x (y::r)];by_cases hxy:x.1=y.1
  ·rw[YW hxy,ih];by_cases hc:x.1=a/\flt a (y::r)=[]
   ·obtain⟨e,e2⟩:=hc;rw[Znh,YW (by rw[<-hxy];exact e)] at e2;simp at e2
   ·rw[Y1 hc]
  ·rw[Y1 hxy];have hlt:∀c∈y::r,x.1<c.1:=λc hc=>by
    have:=h1.1 y (by simp);rcases Yx.1 hc with e|e
    ·rw[e];omega
    ·have:=h2.1 c e;omega
   by_cases hc:x.1=a
   ·have hn:flt a (y::r)=[]:=Ze1 λc hc'=>by have:=hlt c hc';omega
    have hn2:flt a (dd (y::r))=[]:=Ze1 λc hc'=>by have:=hlt c (ZtV hc').1;omega
    by_cases hz:x.2=0
    ·rw[YW hz,YW ⟨hc,hn⟩,hz,getX,hn2];rfl
    ·rw[Y1 hz,YW ⟨hc,hn⟩,Ze0,YW ⟨hc,hn2⟩]
   ·by_cases hz:x.2=0
    ·rw[YW hz,Y1 (λh=>hc h.1),ih]
    ·rw[Y1 hz,Y1 (λh=>hc h.1),Ze0,Y1 (λh=>hc h.1),ih]
def putX:List Cell->Cell->List Cell
 |[],c=>if c.2=0 then [] else [c]
 |x::r,c=>if x.1<c.1 then x::putX r c else if c.2=0 then (if x.1=c.1 then r else x::r) else if x.1=c.1 then c::r else c::x::r
theorem Zwm:∀{m:List Cell} {c x:Cell},x∈putX m c->x=c\/x∈m
 |[],c,x,h=>by
  simp only[putX] at h;split at h
  ·simp at h
  ·left;simpa using h
 |y::r,c,x,h=>by
  simp only[putX] at h;split at h
  ·rcases Yx.1 h with e|e
   ·right;simp[e]
   ·rcases Zwm e with e|e
    ·exact .inl e
    ·right;simp[e]
  ·split at h
   ·split at h
    ·right;simp[h]
    ·right;exact h
   ·split at h
    ·rcases Yx.1 h with e|e
     ·exact .inl e
     ·right;simp[e]
    ·rcases Yx.1 h with e|e
     ·exact .inl e
     ·right;exact e
theorem ZJN:∀{m:List Cell} {c:Cell},Vld m->Vld (putX m c)
 |[],c,_=>by
  simp only[putX];split
  ·exact⟨Yag,λc h=>by simp at h⟩
  ·rename_i hz;exact⟨by simp,λx h=>by simp at h;rw[h];exact hz⟩
 |y::r,c,h=>by
  have h1:=Yw.1 h.1;have hy:=h.2 y (by simp);simp only[putX];split
  ·rename_i hlt;have ih:=ZJN (c:=c) h.tail;refine⟨Yw.2 ⟨λx hx=> ?_,ih.1⟩,λx hx=> ?_⟩
   ·rcases Zwm hx with e|e
    ·rw[e];exact hlt
    ·exact h1.1 x e
   ·rcases Yx.1 hx with e|e
    ·rw[e];exact hy
    ·exact ih.2 x e
  ·rename_i hge;split
   ·split
    ·exact h.tail
    ·exact h
   ·rename_i hz;split
    ·rename_i he;refine⟨Yw.2 ⟨λx hx=> ?_,h1.2⟩,λx hx=> ?_⟩
     ·have:=h1.1 x hx;omega
     ·rcases Yx.1 hx with e|e
      ·rw[e];exact hz
      ·exact h.2 x (YR _ e)
    ·rename_i hne;refine⟨Yw.2 ⟨λx hx=> ?_,h.1⟩,λx hx=> ?_⟩
     ·rcases Yx.1 hx with e|e
      ·rw[e];omega
      ·have:=h1.1 x e;omega
     ·rcases Yx.1 hx with e|e
      ·rw[e];exact hz
      ·exact h.2 x e
theorem Zkj {a:Int} (h:∀c∈l,c.1≠a):getX l a=0:=by rw[getX,Ze1 h];rfl
theorem Zez {x:Cell} {r:List Cell} (h:∀c∈r,x.1<c.1) (a:Int):getX (x::r) a=if x.1=a then x.2 else getX r a:=by
 rw[Ze0];by_cases hx:x.1=a
 ·have:flt a r=[]:=Ze1 λc hc=>by have:=h c hc;omega
  simp[hx,this]
 ·simp[hx]
theorem ZJO:∀{m:List Cell} {c:Cell},Vld m->∀a,getX (putX m c) a=if c.1=a then c.2 else getX m a
 |[],c,_,a=>by
  simp only[putX];split
  ·rename_i hz;rw[ZLs,hz];simp
  ·rw[Zez (by simp)]
 |y::r,c,h,a=>by
  have h1:=Yw.1 h.1;simp only[putX];split
  ·rename_i hlt
   rw[Zez (λx hx=>by
    rcases Zwm hx with e|e
    ·rw[e];exact hlt
    ·exact h1.1 x e),Zez h1.1,ZJO h.tail a]
   by_cases e1:y.1=a
   ·simp only[e1,if_true];rw[Y1 (by omega)]
   ·simp[e1]
  ·rename_i hge;split
   ·rename_i hz;split
    ·rename_i he;rw[Zez h1.1];by_cases e:c.1=a
     ·rw[YW e,hz];exact Zkj λx hx=>by have:=h1.1 x hx;omega
     ·rw[Y1 e,Y1 (by omega)]
    ·rename_i hne;by_cases e:c.1=a
     ·rw[YW e,hz];exact Zkj λx hx=>by
       rcases Yx.1 hx with e'|e'
       ·rw[e'];omega
       ·have:=h1.1 x e';omega
     ·rw[Y1 e]
   ·split
    ·rename_i he;rw[Zez (λx hx=>by have:=h1.1 x hx;omega),Zez h1.1];by_cases e:c.1=a
     ·simp[e]
     ·rw[Y1 e,Y1 e,Y1 (by omega)]
    ·rename_i hne
     rw[Zez (λx hx=>by
      rcases Yx.1 hx with e|e
      ·rw[e];omega
      ·have:=h1.1 x e;omega)]
def normX (l:List Cell):List Cell:=l.foldl putX []
theorem ZWO (l:List Cell) (c:Cell) (a:Int):getX (l++[c]) a=if c.1=a then c.2 else getX l a:=by
 rw[getX,getX,Zd7];by_cases h:c.1=a
 ·have:flt a [c]=[c]:=by simp[flt,h]
  rw[this,List.getLast?_append];simp[h]
 ·have:flt a [c]=[]:=Ze1 λx hx=>by simp at hx;rw[hx];exact h
  rw[this];simp[h]
theorem Zrp:∀(l:List Cell) {m:List Cell},Vld m->Vld (l.foldl putX m)/\∀a,getX (l.foldl putX m) a=getX (m++l) a
 |[],m,h=>⟨h,λa=>by simp⟩
 |c::l,m,h=>by
  obtain⟨h1,h2⟩:=Zrp l (ZJN (c:=c) h);refine⟨h1,λa=> ?_⟩;rw[List.foldl_cons,h2 a];have e:m++c::l=(m++[c])++l:=by simp
  rw[e];have key:∀{p q:List Cell},(∀b,getX p b=getX q b)->∀l b,getX (p++l) b=getX (q++l) b:=by
   intro p q hpq l b;simp only[getX,Zd7,List.getLast?_append];cases hl:(flt b l).getLast? with
   |none=>simpa [getX] using hpq b
   |some x=>simp
  exact key (λb=>by rw[ZJO h,ZWO]) l a
theorem Zj4 (l:List Cell):Vld (normX l):=(Zrp l ⟨Yag,λc h=>by simp at h⟩).1
theorem ZVL (l:List Cell) (a:Int):getX (normX l) a=getX l a:=(Zrp l ⟨Yag,λc h=>by simp at h⟩).2 a
theorem ZKT (h:Vld m) (e:∀a,getX m a=getX l a):normX l=m:=Z3h (Zj4 l) h λa=>by rw[ZVL,e]
theorem Zlr (h:Vld m):normX m=m:=ZKT h λ_=>rfl
theorem ZOO (l:List Cell):dd (isort l)=normX l:=
 (ZKT (Z2Y (Zcj l)) λa=>by rw[Z2Z (Zcj l),ZPh (Zgp l)]).symm
end Go.Proofs.Cells
open Go Go.S3 Go.Proofs Go.Proofs.Cells
namespace Go.Proofs.YtpnjbfjomebppaaGreat
noncomputable section
abbrev Z5:=QT6
theorem ZyG (l:List Cell) (i:Nat) (h:i<l.length):l.drop i=el l i::l.drop (i+1):=by rw[Y8 h];have:=Zc4 l i h;rw[Yk h,oinj] at this;rw[this]
theorem ZDb (l:List Cell) (i:Nat) (h:i<l.length):l.take (i+1)=l.take i++[el l i]:=by rw[YaO,Zc4 l i h];rfl
theorem Z7N (l:List Cell) (i:Nat) (h:i<l.length):el l i∈l:=List.mem_iff_getElem?.2 ⟨i,Zc4 l i h⟩
def okAt (m:List Cell) (i:Nat):Bool:= !((el m i).2==0||(decide ((i:Int)>0)&&decide ((el m i).1<=(el m (i-1)).1)))
def vldB (m:List Cell):Bool:=(List.range m.length).all (okAt m)
variable {m:List Cell} {i:Nat}
theorem Zsf (hi:i<m.length) (h:okAt m i=false):vldB m=false:=by rw[YD];intro he;have:=YU.1 he i (YaF.2 hi);rw[h] at this;exact absurd this (by simp)
theorem ZnA (h:∀i,i<m.length->okAt m i=true):vldB m=true:=YU.2 λi hi=>h i (YaF.1 hi)
theorem Zug:vldB m=true↔Vld m:=by
 constructor
 ·intro h;have ha:∀i,i<m.length->okAt m i=true:=λi hi=>YU.1 h i (YaF.2 hi)
  have hs:∀i,i+1<m.length->(el m i).1<(el m (i+1)).1:=λi hi=>by
   have:=ha (i+1) hi;simp only[okAt,YE,Yo,Yad,Y6,Nat.add_sub_cancel] at this;rcases this.2 with e|e
   ·omega
   ·omega
  refine⟨?_,λc hc=> ?_⟩
  ·rw[Yaz];have key:∀d i,i+d+1<m.length->(el m i).1<(el m (i+d+1)).1:=by
    intro d
    induction d with
    |zero=>intro i hi;exact hs i hi
    |succ d ih=>intro i hi;have h1:=ih i (by omega);have h2:=hs (i+d+1) (by omega);rw[show i+(d+1)+1=i+d+1+1 by omega];omega
   intro i j hi hj hij;have:=key (j-i-1) i (by omega);rw[show i+(j-i-1)+1=j by omega] at this;have e1:=Zc4 m i hi;have e2:=Zc4 m j hj;rw[Yk hi,oinj] at e1;rw[Yk hj,oinj] at e2;rw[e1,e2];exact this
  ·obtain⟨i,hi⟩:=List.mem_iff_getElem?.1 hc;have hlt:=(YB.1 hi).1;rw[Zc4 m i hlt,oinj] at hi;have:=ha i hlt;rw[<-hi];simp only[okAt,YE,Yo,beq_eq_false_iff_ne] at this;exact this.1
 ·intro h;refine ZnA λi hi=> ?_
  simp only[okAt,YE,Yo,beq_eq_false_iff_ne,Yad,Y6];refine⟨h.2 _ (Z7N m i hi),?_⟩;by_cases h0:i=0
  ·left;omega
  ·right;have:=Yaz.1 h.1 (i-1) i (by omega) hi (by omega);have e1:=Zc4 m (i-1) (by omega);have e2:=Zc4 m i hi;rw[Yk (by omega),oinj] at e1;rw[Yk hi,oinj] at e2;rw[e1,e2] at this;omega
theorem Z6j (i:Nat) (h:0<i) (h2:i<=4611686018427387904):IntKind.wrap .i64 ((i:Int)-1)=((i-1:Nat):Int):=by rw[wrap_i64 _ (by omega) (by omega)];omega
theorem ZVI (m:List Cell) (i:Nat):((el m i).2==0||(decide ((i:Int)>0)&&decide ((el m i).1<=(el m (i-1)).1)))= !okAt m i:=by simp only[okAt,Bool.not_not]
theorem ZOZ (m:List Cell) (hm:m.length<=most):(Zlx m).val=some (vldB m):=by
 have hms:=mst;obtain⟨r,hr,hR⟩:=ZS (fl:=true) (t:=ZeV) (fuel:=λa=>1000000000000)
  (I:=λa=>∃i:Nat,i<=m.length/\(∀k,k<i->okAt m k=true)/\a=(m,false,m,(m.length:Int),(i:Int),()))
  (m:=λa=>Int.toNat (a.2.2.2.1-a.2.2.2.2.1)) (R:=λr=>(r.1=false/\vldB m=true)\/(r.1=true/\vldB m=false/\r.2.2.1=false))
  (λa hi=>by
   obtain⟨i,hi,hk,rfl⟩:=hi;by_cases hlt:i<m.length
   ·have d:decide ((i:Int)<(m.length:Int))=true:=by simpa using hlt
    have r1:=Zay m i hlt;have hw:decide ((i:Int)>0)=true->Zg (IntKind.wrap .i64 ((i:Int)-1)) m.length=true/\IntKind.wrap .i64 ((i:Int)-1)=((i-1:Nat):Int):=λh=>by simp only[Yi] at h;have e:=Z6j i (by omega) (by omega);exact⟨by rw[e];exact Zay m (i-1) (by omega),e⟩
    have hck:((el m i).2==0||(!decide ((i:Int)>0)||Zg (IntKind.wrap .i64 ((i:Int)-1)) m.length))=true:=by
     cases h:decide ((i:Int)>0) with
     |false=>simp
     |true=>rw[(hw h).1];simp
    have hcd:((el m i).2==0||(decide ((i:Int)>0)&&decide ((el m i).1<=(R.get CR m (IntKind.wrap .i64 ((i:Int)-1))).1)))= !okAt m i:=by
     rw[<-ZVI];cases h:decide ((i:Int)>0) with
     |false=>simp
     |true=>rw[(hw h).2,ZcM]
    cases ho:okAt m i with
    |true=>
     left;refine⟨(m,false,m,(m.length:Int),((i+1:Nat):Int),()),?_,⟨i+1,hlt,λk hk'=> ?_,rfl⟩,by simp only;omega⟩
     ·rw[ho] at hcd;simp only[ZeV,RT.val,d,r1,ZcM,hck,hcd,Yf,Yj,Yb,Yc,Zio i (by omega)]
     ·by_cases e:k=i
      ·subst e;exact ho
      ·exact hk k (by omega)
    |false=>
     right;right;refine⟨(m,false,m,(m.length:Int),(i:Int),()),rfl,?_,.inr ⟨rfl,Zsf hlt ho,rfl⟩⟩;rw[ho] at hcd;simp only[ZeV,RT.val,d,r1,ZcM,hck,hcd,Yf,Ym,Yj,Yb,Yc]
   ·right;left;have d:decide ((i:Int)<(m.length:Int))=false:=by simpa using hlt
    exact⟨(m,false,m,(m.length:Int),(i:Int),()),by simp only[ZeV,RT.val,d,Yc],.inl ⟨rfl,ZnA λk hk'=>hk k (by omega)⟩⟩)
  (m,false,m,(m.length:Int),0,()) ⟨0,YA _,λk h=>by omega,rfl⟩ (by simp only;omega)
 have hr':runF true ZeV (λa=>1000000000000) (m,false,m,iN m.length,0,())=some r:=hr;rcases hR with ⟨h1,h2⟩|⟨h1,h2,h3⟩
 ·simp only[Zlx,RT.val,hr',okB,getO,Yb,h1,Yc,h2]
 ·simp only[Zlx,RT.val,hr',okB,getO,Yb,h1,h2,h3]
theorem ZsM (m:List Cell) (hm:m.length<=most):(Zk0 m).val=some (vldB m):=by
 have hms:=mst;obtain⟨r,hr,hR⟩:=ZS (fl:=true) (t:=ZeG) (fuel:=λa=>1000000000000)
  (I:=λa=>∃i:Nat,i<=m.length/\(∀k,k<i->okAt m k=true)/\a=(m,false,(m.length:Int),(i:Int),()))
  (m:=λa=>Int.toNat (a.2.2.1-a.2.2.2.1)) (R:=λr=>(r.1=false/\vldB m=true)\/(r.1=true/\vldB m=false/\r.2.2.1=false))
  (λa hi=>by
   obtain⟨i,hi,hk,rfl⟩:=hi;by_cases hlt:i<m.length
   ·have d:decide ((i:Int)<(m.length:Int))=true:=by simpa using hlt
    have r1:=Zay m i hlt;have hw:decide ((i:Int)>0)=true->Zg (IntKind.wrap .i64 ((i:Int)-1)) m.length=true/\IntKind.wrap .i64 ((i:Int)-1)=((i-1:Nat):Int):=λh=>by simp only[Yi] at h;have e:=Z6j i (by omega) (by omega);exact⟨by rw[e];exact Zay m (i-1) (by omega),e⟩
    have hck:((el m i).2==0||(!decide ((i:Int)>0)||Zg (IntKind.wrap .i64 ((i:Int)-1)) m.length))=true:=by
     cases h:decide ((i:Int)>0) with
     |false=>simp
     |true=>rw[(hw h).1];simp
    have hcd:((el m i).2==0||(decide ((i:Int)>0)&&decide ((el m i).1<=(R.get CR m (IntKind.wrap .i64 ((i:Int)-1))).1)))= !okAt m i:=by
     rw[<-ZVI];cases h:decide ((i:Int)>0) with
     |false=>simp
     |true=>rw[(hw h).2,ZcM]
    cases ho:okAt m i with
    |true=>
     left;refine⟨(m,false,(m.length:Int),((i+1:Nat):Int),()),?_,⟨i+1,hlt,λk hk'=> ?_,rfl⟩,by simp only;omega⟩
     ·rw[ho] at hcd;simp only[ZeG,RT.val,d,r1,ZcM,hck,hcd,Yf,Yj,Yh,Yb,Yc,Zio i (by omega)]
     ·by_cases e:k=i
      ·subst e;exact ho
      ·exact hk k (by omega)
    |false=>
     right;right;refine⟨(m,false,(m.length:Int),(i:Int),()),rfl,?_,.inr ⟨rfl,Zsf hlt ho,rfl⟩⟩;rw[ho] at hcd;simp only[ZeG,RT.val,d,r1,ZcM,hck,hcd,Yf,Ym,Yj,Yh,Yb,Yc]
   ·right;left;have d:decide ((i:Int)<(m.length:Int))=false:=by simpa using hlt
    exact⟨(m,false,(m.length:Int),(i:Int),()),by simp only[ZeG,RT.val,d,Yc],.inl ⟨rfl,ZnA λk hk'=>hk k (by omega)⟩⟩)
  (m,false,(m.length:Int),0,()) ⟨0,YA _,λk h=>by omega,rfl⟩ (by simp only;omega)
 have hr':runF true ZeG (λa=>1000000000000) (m,false,iN m.length,0,())=some r:=hr;rcases hR with ⟨h1,h2⟩|⟨h1,h2,h3⟩
 ·simp only[Zk0,RT.val,hr',okB,getO,Yb,h1,Yc,h2]
 ·simp only[Zk0,RT.val,hr',okB,getO,Yb,h1,h2,h3]
variable {t:Int}
theorem ZWP (hi:i<m.length) (he:(el m i).1=t) (hk:∀k,i<k->k<m.length->(el m k).1≠t):getX m t=(el m i).2:=by
 have e:m=m.take i++[el m i]++m.drop (i+1):=by rw[Yp,List.singleton_append,<-ZyG m i hi,Yal]
 have h0:flt t (m.drop (i+1))=[]:=Ze1 λc hc=>by obtain⟨k,h1,h2,rfl⟩:=Zkb hc;exact hk k (by omega) h2
 have h1:flt t [el m i]=[el m i]:=by simp[flt,he]
 have h2:flt t m=flt t (m.take i)++[el m i]:=by conv=>lhs;rw[e,Zd7,Zd7,h0,h1,Y2]
 rw[getX,h2,List.getLast?_append];simp
theorem ZYw (m:List Cell) (t:Int) (hm:m.length<=most):(Zta m t).val=some (getX m t):=by
 have hms:=mst;obtain⟨r,hr,hR⟩:=ZS (fl:=true) (t:=Zh6) (fuel:=λa=>1000000000000)
  (I:=λa=>∃i:Nat,i<=m.length/\(∀k,i<=k->k<m.length->(el m k).1≠t)/\a=(m,t,0,(i:Int)-1,()))
  (m:=λa=>Int.toNat (a.2.2.2.1+1)) (R:=λr=>(r.1=false/\getX m t=0)\/(r.1=true/\r.2.2.2.1=getX m t))
  (λa hi=>by
   obtain⟨i,hi,hk,rfl⟩:=hi;cases i with
   |zero=>
    right;left;refine⟨(m,t,0,((0:Nat):Int)-1,()),by simp[Zh6,RT.val],.inl ⟨rfl,Zkj λc hc=> ?_⟩⟩;obtain⟨k,hk'⟩:=List.mem_iff_getElem?.1 hc;have hlt:=(YB.1 hk').1;rw[Zc4 m k hlt,oinj] at hk';rw[<-hk'];exact hk k (YA _) hlt
   |succ i=>
    have ei:((i+1:Nat):Int)-1=(i:Int):=by omega
    rw[ei];have d:decide ((i:Int)>=0)=true:=by simp
    have r1:=Zay m i (by omega);cases he:((el m i).1==t) with
    |true=>
     right;right;refine⟨(m,t,(el m i).2,(i:Int),()),rfl,by simp only[Zh6,RT.val,d,r1,ZcM,he,Yb,Yf,Yj],.inr ⟨rfl,?_⟩⟩;exact (ZWP (by omega) (by simpa using he) λk h1 h2=>hk k (by omega) h2).symm
    |false=>
     left;refine⟨(m,t,0,(i:Int)-1,()),?_,⟨i,by omega,λk h1 h2=> ?_,rfl⟩,by simp only;omega⟩
     ·have w:IntKind.wrap .i64 ((i:Int)-1)=(i:Int)-1:=wrap_i64 _ (by omega) (by omega);simp only[Zh6,RT.val,d,r1,ZcM,he,Yb,Yc,Yf,Ym,Yt,Yj,w]
     ·by_cases e:k=i
      ·subst e;simpa using he
      ·exact hk k (by omega) h2)
  (m,t,0,(m.length:Int)-1,()) ⟨m.length,Ye _,λk h1 h2=>by omega,rfl⟩ (by simp only;omega)
 have w:IntKind.wrap .i64 (iN m.length-1)=(m.length:Int)-1:=wrap_i64 _ (by simp only[iN];omega) (by simp only[iN];omega);rcases hR with ⟨h1,h2⟩|⟨h1,h2⟩
 ·simp only[Zta,RT.val,w,hr,okB,getO,Yb,h1,Yc,h2]
 ·simp only[Zta,RT.val,w,hr,okB,getO,Yb,h1,h2]
def pst (c:Cell) (s:Bool×List Cell) (x:Cell):Bool×List Cell:=
 let t:= !s.1&&decide (x.1>=c.1)
 let o:=bif t then (bif c.2 !=0 then s.2++[c] else s.2) else s.2
 (t||s.1,bif x.1 !=c.1 then o++[x] else o)
def pfin (c:Cell) (s:Bool×List Cell):List Cell:=bif !s.1&&c.2 !=0 then s.2++[c] else s.2
theorem ZJS (c:Cell):∀(m:List Cell) (o:List Cell),(∀x∈m,x.1≠c.1)->m.foldl (pst c) (true,o)=(true,o++m)
 |[],o,_=>by simp
 |x::m,o,h=>by
  have hx:(x.1 !=c.1)=true:=by simpa using h x (by simp)
  simp only[List.foldl_cons,pst,Yf,YT,Yc,Yh,hx,Yb];rw[ZJS c m (o++[x]) λy hy=>h y (YR _ hy)];simp
theorem ZTl (c:Cell):∀(m:List Cell) (o:List Cell),m.Pairwise (λa b=>a.1<b.1)->pfin c (m.foldl (pst c) (false,o))=o++putX m c
 |[],o,_=>by
  simp only[List.foldl_nil,pfin,putX,Ym,YP];by_cases h:c.2=0
  ·simp[h]
  ·have:(c.2 !=0)=true:=by simpa using h
   simp[h,this]
 |x::m,o,h=>by
  have h1:=Yw.1 h;by_cases hx:x.1<c.1
  ·have e1:decide (x.1>=c.1)=false:=by simp;omega
   have e2:(x.1 !=c.1)=true:=by simp;omega
   simp only[List.foldl_cons,pst,e1,Y3,Yc,Yu,e2,Yb];rw[ZTl c m (o++[x]) h1.2,putX,YW hx];simp
  ·have e1:decide (x.1>=c.1)=true:=by simp;omega
   have hne:∀y∈m,y.1≠c.1:=λy hy=>by have:=h1.1 y hy;omega
   simp only[List.foldl_cons,pst,e1,Ym,YY,Yb,Yt];rw[ZJS c m _ hne,putX,Y1 hx];simp only[pfin,Yf,YT,Yc];by_cases hz:c.2=0
   ·by_cases hk:x.1=c.1
    ·simp[hz,hk]
    ·have:(x.1 !=c.1)=true:=by simpa using hk
     simp[hz,hk,this]
   ·have hz1:(c.2 !=0)=true:=by simpa using hz
    by_cases hk:x.1=c.1
    ·simp[hz,hk,hz1]
    ·have:(x.1 !=c.1)=true:=by simpa using hk
     simp[hz,hk,this,hz1]
theorem ZE3 (c:Cell):∀(m:List Cell) (s:Bool×List Cell),(m.foldl (pst c) s).2.length+(bif (m.foldl (pst c) s).1 then 0 else 1)<=s.2.length+(bif s.1 then 0 else 1)+m.length
 |[],s=>by simp
 |x::m,s=>by
  rw[List.foldl_cons];have ih:=ZE3 c m (pst c s x);have:(pst c s x).2.length+(bif (pst c s x).1 then 0 else 1)<=s.2.length+(bif s.1 then 0 else 1)+1:=by obtain⟨d,o⟩:=s;simp only[pst];generalize decide (x.1>=c.1)=b1;generalize (c.2 !=0)=b2;generalize (x.1 !=c.1)=b3;cases d<;>cases b1<;>cases b2<;>cases b3<;>simp<;>omega
  simp only[List.length_cons];omega
theorem Zn1 (m:List Cell) (c:Cell) (hv:Vld m) (hm:m.length+1<=most):Zs3 m c=true/\ZMx m c=putX m c:=by
 have hms:=mst;obtain⟨r,hr,h1,i,hR⟩:=ZS (fl:=false) (t:=Zjx) (fuel:=λa=>1000000000000)
  (λa=>∃i:Nat,i<=m.length/\a=(((m.take i).foldl (pst c) (false,[])).1,m,(m.length:Int),(i:Int),c,((m.take i).foldl (pst c) (false,[])).2,()))
  (λa=>Int.toNat (a.2.2.1-a.2.2.2.1)) (λr=>r.1=false/\∃i:Nat,r.2=((m.foldl (pst c) (false,[])).1,m,(m.length:Int),(i:Int),c,(m.foldl (pst c) (false,[])).2,()))
  (by
   rintro a ⟨i,hi,rfl⟩;by_cases hlt:i<m.length
   ·left;have d:decide ((i:Int)<(m.length:Int))=true:=by simpa using hlt
    have r1:=Zay m i hlt;have hl:=ZE3 c (m.take i) (false,[]);have hs:(m.take (i+1)).foldl (pst c) (false,[])=pst c ((m.take i).foldl (pst c) (false,[])) (el m i):=by rw[ZDb m i hlt,List.foldl_append];rfl
    rw[YH,YaS (by omega)] at hl;refine⟨_,?_,⟨i+1,hlt,rfl⟩,by simp only;omega⟩;rw[hs];generalize (m.take i).foldl (pst c) (false,[])=s at hl|-;obtain⟨dn,o⟩:=s;simp only[List.length_nil,Yc] at hl;simp only[Zjx,RT.val,d,r1,ZcM,Yb,Yf,Yj,pst,Zio i (by omega)];generalize decide ((el m i).1>=c.1)=b1;generalize hb2:(c.2 !=0)=b2;generalize hb3:((el m i).1 !=c.1)=b3;have l1:Nat.ble (o++[c]).length most=true\/dn=true:=by
     cases dn with
     |true=>exact .inr rfl
     |false=>left;rw[Yz];simp only[Yc] at hl;simp only[Yd,List.length_singleton];omega
    have l2:Nat.ble (o++[el m i]).length most=true:=by rw[Yz];simp only[Yd,List.length_singleton];cases dn<;>simp only[Yb,Yc] at hl<;>omega
    have l3:Nat.ble (o++[c]++[el m i]).length most=true\/dn=true:=by
     cases dn with
     |true=>exact .inr rfl
     |false=>left;rw[Yz];simp only[Yc] at hl;simp only[Yd,List.length_singleton];omega
    cases dn with
    |true=>
     cases b3<;>simp only[l2,Yf,Ym,YT,Yt,Yj,Yh,Yb,Yc]
    |false=>
     have l1:Nat.ble (o++[c]).length most=true:=by simpa using l1
     have l3:Nat.ble (o++[c]++[el m i]).length most=true:=by simpa using l3
     cases b1<;>cases b2<;>cases b3<;>simp only[l1,l2,l3,Yf,Ym,YT,YP,Yt,Yj,Yh,Yu,YY,Yb,Yc]
   ·right;left;have d:decide ((i:Int)<(m.length:Int))=false:=by simpa using hlt
    have e:m.take i=m:=YX (by omega);rw[e]
    exact⟨_,by simp only[Zjx,RT.val,d,Yc],rfl,i,rfl⟩)
  (false,m,iN m.length,0,c,[],()) ⟨0,YA _,rfl⟩ (by simp only[iN];omega)
 have hl:=ZE3 c m (false,[]);have hp:=ZTl c m [] hv.1;simp only[List.nil_append] at hp;obtain⟨r1,r2⟩:=r;simp only at h1 hR;subst h1 hR;generalize m.foldl (pst c) (false,[])=s at hl hp hr;obtain⟨dn,o⟩:=s;have hb:(!(!dn&&c.2 !=0)||Nat.ble (o++[c]).length most)=true:=by
  cases dn with
  |true=>rfl
  |false=>
   have:Nat.ble (o++[c]).length most=true:=by rw[Yz];simp only[Yc,List.length_nil] at hl;simp only[Yd,List.length_singleton];omega
   rw[this];simp
 have hv:(Zs2 m c).val=some (putX m c):=by simp only[Zs2,RT.val,hr,okB,getO,Yb,hb,<-hp,pfin]
 exact⟨by simp only[Zs3,hv];rfl,by simp only[ZMx,hv,getO]⟩
theorem Zwn (c:Cell):∀m:List Cell,(putX m c).length<=m.length+1
 |[]=>by simp only[putX];split<;>simp
 |x::m=>by
  have:=Zwn c m;simp only[putX];repeat' split
  all_goals simp only[List.length_cons];omega
theorem Zlq (l:List Cell) (c:Cell):normX (l++[c])=putX (normX l) c:=by simp[normX,List.foldl_append]
theorem ZLv:∀(l m:List Cell),(l.foldl putX m).length<=m.length+l.length
 |[],m=>by simp
 |x::l,m=>by have:=ZLv l (putX m x);have:=Zwn x m;simp only[List.foldl_cons,List.length_cons];omega
theorem ZeQ (l:List Cell):(normX l).length<=l.length:=by have:=ZLv l [];simpa [normX] using this
theorem Zn3 (l:List Cell) (hl:l.length+1<=most):Zs8 l=true/\ZMA l=normX l:=by
 have hms:=mst;have h1:=ZsM l (by omega);have hc:Zk1 l=true:=by simp only[Zk1,h1];rfl
 have hv0:Zoc l=vldB l:=by simp only[Zoc,h1,getO]
 have hv:(Zs7 l).val=some (normX l):=by
  cases hb:vldB l with
  |true=>
   have e:Nat.ble l.length most=true:=by rw[Yz];omega
   simp only[Zs7,RT.val,hc,hv0,hb,List.nil_append,e,Yb,Yf,Yj,Zlr (Zug.1 hb)]
  |false=>
   obtain⟨r,hr,h1,i,hR⟩:=ZS (fl:=false) (t:=ZjA) (fuel:=λa=>1000000000000)
    (λa=>∃i:Nat,i<=l.length/\a=(normX (l.take i),l,(l.length:Int),(i:Int),()))
    (λa=>Int.toNat (a.2.2.1-a.2.2.2.1)) (λr=>r.1=false/\∃i:Nat,r.2=(normX l,l,(l.length:Int),(i:Int),()))
    (by
     rintro a ⟨i,hi,rfl⟩;by_cases hlt:i<l.length
     ·left;have d:decide ((i:Int)<(l.length:Int))=true:=by simpa using hlt
      have r1:=Zay l i hlt;have hlen:=ZeQ (l.take i);rw[YH] at hlen;have hp:=Zn1 (normX (l.take i)) (el l i) (Zj4 _) (by omega);refine⟨_,?_,⟨i+1,hlt,rfl⟩,by simp only;omega⟩;rw[ZDb l i hlt,Zlq];simp only[ZjA,RT.val,d,r1,ZcM,hp.1,hp.2,Yb,Yh,Zio i (by omega)]
     ·right;left;have d:decide ((i:Int)<(l.length:Int))=false:=by simpa using hlt
      have e:l.take i=l:=YX (by omega);rw[e]
      exact⟨_,by simp only[ZjA,RT.val,d,Yc],rfl,i,rfl⟩)
    ([],l,iN l.length,0,()) ⟨0,YA _,rfl⟩ (by simp only[iN];omega)
   obtain⟨r1,r2⟩:=r;simp only at h1 hR;subst h1 hR;simp only[Zs7,RT.val,hc,hv0,hb,hr,okB,getO,Yb,Yc,Ym,Yt]
 exact⟨by simp only[Zs8,hv];rfl,by simp only[ZMA,hv,getO]⟩
theorem ZYt (m:List Cell) (t v:Int) (hm:m.length+1<=most):ZJb m t v=true/\ZYO m t v=putX (normX m) (t,v):=by
 have h1:=Zn3 m hm;have h2:=Zn1 (normX m) (t,v) (Zj4 m) (by have:=ZeQ m;omega);have hv:(ZAk m t v).val=some (putX (normX m) (t,v)):=by simp only[ZAk,RT.val,h1.1,h1.2,h2.1,h2.2,Yb,Yh]
 exact⟨by simp only[ZJb,hv];rfl,by simp only[ZYO,hv,getO]⟩
def ZHg (s:List Cell) (i:Nat):Bool:=(el s i).2 !=0&&(decide (i+1=s.length)||(el s (i+1)).1 !=(el s i).1)
theorem Z6a (s:List Cell) (i:Nat) (h:i<s.length):dd (s.drop i)=(bif ZHg s i then [el s i] else [])++dd (s.drop (i+1)):=by
 rw[ZyG s i h];by_cases hl:i+1<s.length
 ·rw[ZyG s (i+1) hl,dd];have e:decide (i+1=s.length)=false:=by simp;omega
  simp only[ZHg,e,Yj];by_cases h1:(el s i).1=(el s (i+1)).1
  ·have:((el s (i+1)).1 !=(el s i).1)=false:=by simp[h1]
   simp only[this,Y3,Yc,List.nil_append,YW h1]
  ·have:((el s (i+1)).1 !=(el s i).1)=true:=by simpa using λe=>h1 e.symm
   simp only[this,YV,Y1 h1];by_cases h2:(el s i).2=0
   ·have:((el s i).2 !=0)=false:=by simp[h2]
    simp only[this,YW h2,Yc,List.nil_append]
   ·have:((el s i).2 !=0)=true:=by simpa using h2
    simp only[this,Y1 h2,Yb,List.singleton_append]
 ·have hn:s.drop (i+1)=[]:=Y4 (by omega);have e:decide (i+1=s.length)=true:=by simp;omega
  rw[hn];simp only[ZHg,e,Yt,YV,dd,Y2];by_cases h2:(el s i).2=0
  ·have:((el s i).2 !=0)=false:=by simp[h2]
   simp only[this,YW h2,Yc]
  ·have:((el s i).2 !=0)=true:=by simpa using h2
   simp only[this,Y1 h2,Yb]
theorem ZQA (l:List Cell) (hl:l.length<=most):ZIu l=true/\ZC8 l=isort l:=by
 have hs:ZnS l (iN l.length)=true:=by simp[ZnS,iN];omega
 have hv:(Zzw l).val=some (isort l):=by simp only[Zzw,RT.val,Zd3,hs,Yb]
 exact⟨by simp only[ZIu,hv];rfl,by simp only[ZC8,hv,getO]⟩
theorem ZBJ (l:List Cell) (hl:l.length<=most):ZBU l=true/\ZWl l=normX l:=by
 have hms:=mst;have h1:=ZQA l hl;have hlen:=ZeY l;generalize hs:isort l=s at hlen h1;obtain⟨r,hr,h2,i,hR⟩:=ZS (fl:=false) (t:=Zkc) (fuel:=λa=>Int.toNat (a.1-a.2.1)+1)
  (λa=>∃(i:Nat) (o:List Cell),i<=s.length/\o.length<=i/\o++dd (s.drop i)=dd s/\a=((s.length:Int),(i:Int),s,o,()))
  (λa=>Int.toNat (a.1-a.2.1)) (λr=>r.1=false/\∃i:Nat,r.2=((s.length:Int),(i:Int),s,dd s,()))
  (by
   rintro a ⟨i,o,hi,ho,hd,rfl⟩;by_cases hlt:i<s.length
   ·left;have d:decide ((i:Int)<(s.length:Int))=true:=by simpa using hlt
    have r1:=Zay s i hlt;have w:=Zio i (by omega);have e1:(((i+1:Nat):Int)==iN s.length)=decide (i+1=s.length):=by rw[Bool.eq_iff_iff];simp[iN];omega
    have hst:=Z6a s i hlt;have hle:∀x:Cell,Nat.ble (o++[x]).length most=true:=λx=>by rw[Yz];simp only[Yd,List.length_singleton];omega
    refine⟨((s.length:Int),((i+1:Nat):Int),s,o++(bif ZHg s i then [el s i] else []),()),?_,⟨i+1,_,hlt,?_,?_,rfl⟩,by simp only;omega⟩
    ·have e3:(!((el s i).2 !=0)||(decide (i+1=s.length)||Zg ((i+1:Nat):Int) s.length))=true:=by
      by_cases hq:i+1=s.length
      ·simp[hq]
      ·rw[Zay s (i+1) (by omega)];simp
     have e4:((el s i).2 !=0&&(decide (i+1=s.length)||(el s (i+1)).1 !=(el s i).1))=ZHg s i:=rfl;have g1:=ZcM s i;have g2:=ZcM s (i+1);simp only[Zkc,RT.val,d,r1,w,g1,g2,e1,e3,e4,hle,Yb,Yf,Yj,Yh];cases ZHg s i<;>simp
    ·cases ZHg s i<;>simp only[Yb,Yc,Y2,Yd,List.length_singleton]<;>omega
    ·rw[Yp,<-hst,hd]
   ·right;left;have d:decide ((i:Int)<(s.length:Int))=false:=by simpa using hlt
    have e:s.drop i=[]:=Y4 (by omega);rw[e] at hd;simp only[dd,Y2] at hd;subst hd
    exact⟨_,by simp only[Zkc,RT.val,d,Yc],rfl,i,rfl⟩)
  (iN s.length,0,s,[],()) ⟨0,[],YA _,by simp,by simp,rfl⟩ (by simp only[iN];omega)
 obtain⟨r1,r2⟩:=r;simp only at h2 hR;subst h2 hR;have hb:Nat.ble l.length most=true:=by rw[Yz];exact hl
 have hv:(ZBT l).val=some (normX l):=by simp only[ZBT,RT.val,hb,h1.1,h1.2,hr,okB,getO,Yb];rw[<-hs,ZOO]
 exact⟨by simp only[ZBU,hv];rfl,by simp only[ZWl,hv,getO]⟩
abbrev BR:R:=R.int u8
theorem get_d (l:List Int) (i:Nat):R.get BR l (i:Int)=l.getD i 0:=by simp[R.get,R.Df]
def Zq7 (t:Int) (b:List Int) (n:Nat):List Cell:=(List.range n).map λi:Nat=>(IntKind.wrap .u16 (t+IntKind.wrap .u16 (i:Int)),b.getD i 0)
theorem ZO6 (t:Int) (b:List Int) (n:Nat):Zq7 t b (n+1)=Zq7 t b n++[(IntKind.wrap .u16 (t+IntKind.wrap .u16 (n:Int)),b.getD n 0)]:=by simp[Zq7,List.range_succ]
theorem Zq6 (t:Int) (b:List Int) (n:Nat):(Zq7 t b n).length=n:=by simp[Zq7]
def Zr2 (t:Int) (b:List Int):List Cell:=normX (Zq7 t b b.length)
theorem ZRt (a b:List Cell) (ha:a.length<=most):ZDG a b=true/\ZRQ a b=decide (a=b):=by
 have hms:=mst;have hv:(ZiQ a b).val=some (decide (a=b)):=by
  by_cases hl:a.length=b.length
  ·have hn:(iN a.length !=iN b.length)=false:=by simp[iN,hl]
   obtain⟨r,hr,hR⟩:=ZS (fl:=true) (t:=ZfT) (fuel:=λ_=>1000000000000)
    (λx=>∃i:Nat,i<=a.length/\(∀k,k<i->el a k=el b k)/\x=(a,b,false,(a.length:Int),(i:Int),()))
    (λx=>Int.toNat (x.2.2.2.1-x.2.2.2.2.1)) (λr=>(r.1=false/\a=b)\/(r.1=true/\a≠b/\r.2.2.2.1=false))
    (by
     rintro x ⟨i,hi,hk,rfl⟩;by_cases hlt:i<a.length
     ·have d:decide ((i:Int)<(a.length:Int))=true:=by simpa using hlt
      have r1:=Zay a i hlt;have r2:=Zay b i (by omega);have g1:=ZcM a i;have g2:=ZcM b i;by_cases he:el a i=el b i
      ·left;refine⟨(a,b,false,(a.length:Int),((i+1:Nat):Int),()),?_,⟨i+1,hlt,λk hk'=> ?_,rfl⟩,by simp only;omega⟩
       ·simp only[ZfT,RT.val,d,r1,r2,g1,g2,he,Yaq,YY,Yf,Yh,Yb,Yc,Zio i (by omega)]
       ·by_cases e:k=i
        ·subst e;exact he
        ·exact hk k (by omega)
      ·right;right;have hne:((el a i).1==(el b i).1&&((el a i).2==(el b i).2&&true))=false:=by rw[YD];intro h;simp only[Ya,Yav,and_true] at h;exact he (Prod.ext h.1 h.2)
       refine⟨(a,b,false,(a.length:Int),(i:Int),()),rfl,?_,.inr ⟨rfl,λh=>he (by rw[h]),rfl⟩⟩;simp only[ZfT,RT.val,d,r1,r2,g1,g2,hne,Yf,Ym,Yh,Yb]
     ·right;left;have d:decide ((i:Int)<(a.length:Int))=false:=by simpa using hlt
      refine⟨_,by simp only[ZfT,RT.val,d,Yc];rfl,.inl ⟨rfl,List.ext_getElem? λk=> ?_⟩⟩;by_cases hk':k<a.length
      ·rw[Zc4 a k hk',Zc4 b k (by omega),hk k (by omega)]
      ·rw[YO (by omega),YO (by omega)])
    (a,b,false,iN a.length,0,()) ⟨0,YA _,λk h=>by omega,rfl⟩ (by simp only[iN];omega)
   rcases hR with ⟨h1,h2⟩|⟨h1,h2,h3⟩
   ·have hd:decide (a=b)=true:=YJ h2;simp only[ZiQ,RT.val,hn,hr,okB,getO,Yb,Yc,h1,hd]
   ·have hd:decide (a=b)=false:=Yaj h2;simp only[ZiQ,RT.val,hn,hr,okB,getO,Yb,Yc,h1,h3,hd]
  ·have hn:(iN a.length !=iN b.length)=true:=by simp only[iN,bne_iff_ne,ne_eq];omega
   have hne:a≠b:=λh=>hl (by rw[h])
   simp only[ZiQ,RT.val,hn,Yb,hne,decide_false]
 exact⟨by simp only[ZDG,hv];rfl,by simp only[ZRQ,hv,getO]⟩
theorem ZBG (m:List Cell) (hm:m.length<=most):Zyi m=true/\ZqZ m=vldB m:=by have h:=ZOZ m hm;exact⟨by simp only[Zyi,h];rfl,by simp only[ZqZ,h,getO]⟩
theorem ZRq (m:List Cell) (hm:m.length<=most):Zk1 m=true/\Zoc m=vldB m:=by have h:=ZsM m hm;exact⟨by simp only[Zk1,h];rfl,by simp only[Zoc,h,getO]⟩
theorem Z3P (m:List Cell) (t:Int) (hm:m.length<=most):ZJv m t=true/\ZY2 m t=getX m t:=by have h:=ZYw m t hm;exact⟨by simp only[ZJv,h];rfl,by simp only[ZY2,h,getO]⟩
abbrev GR:R:=R.Pq Kb (R.Pq Kb (R.Pq R.bool Kc))
def hitB (t:Int) (r:Z5):Bool:=decide (r.1<=t)&&decide (t<=r.2.1)
def Zbl (l:List Z5) (t:Int):Int:=if l.findIdx (hitB t)<l.length then (l.findIdx (hitB t):Int) else-1
def rg (l:List Z5) (i:Nat):Z5:=l.getD i (0,0,false,0)
theorem Z2T (l:List Z5) (i:Nat):R.get GR l (i:Int)=rg l i:=by simp[R.get,R.Df,rg]
theorem ZzR (l:List Z5) (i:Nat) (h:i<l.length):l[i]=rg l i:=by simp[rg,h]
theorem Z5Z {l:List Z5} (hi:i<l.length) (h:hitB t (rg l i)=true) (hk:∀k,k<i->hitB t (rg l k)=false):Zbl l t=i:=by have:l.findIdx (hitB t)=i:=(List.findIdx_eq hi).2 ⟨by rw[ZzR l i hi];exact h,λj hj=>by rw[ZzR l j (by omega)];exact hk j hj⟩;simp only[Zbl,this,hi,if_true]
theorem Z5Y {l:List Z5} (hk:∀k,k<l.length->hitB t (rg l k)=false):Zbl l t= -1:=by
 have:¬l.findIdx (hitB t)<l.length:=by rw[List.findIdx_lt_length];rintro⟨x,hx,hp⟩;obtain⟨i,hi,rfl⟩:=YaH.1 hx;rw[ZzR l i hi,hk i hi] at hp;exact absurd hp (by simp)
 simp only[Zbl,this,if_false]
theorem Zjn (l:List Z5) (t:Int) (hl:l.length<=most):Zo7 l t=true/\Zk7 l t=Zbl l t:=by
 have hms:=mst;obtain⟨r,hr,hR⟩:=ZS (fl:=true) (t:=Zh7) (fuel:=λ_=>1000000000000)
  (λx=>∃i:Nat,i<=l.length/\(∀k,k<i->hitB t (rg l k)=false)/\x=(t,0,l,(l.length:Int),(i:Int),()))
  (λx=>Int.toNat (x.2.2.2.1-x.2.2.2.2.1)) (λr=>(r.1=false/\Zbl l t= -1)\/(r.1=true/\r.2.2.1=Zbl l t))
  (by
   rintro x ⟨i,hi,hk,rfl⟩;by_cases hlt:i<l.length
   ·have d:decide ((i:Int)<(l.length:Int))=true:=by simpa using hlt
    have r1:=Zay l i hlt;have g1:=Z2T l i;cases hh:hitB t (rg l i) with
    |false=>
     left;refine⟨(t,0,l,(l.length:Int),((i+1:Nat):Int),()),?_,⟨i+1,hlt,λk hk'=> ?_,rfl⟩,by simp only;omega⟩
     ·simp only[hitB] at hh;simp only[Zh7,RT.val,d,r1,g1,hh,Yb,Yc,Zio i (by omega)]
     ·by_cases e:k=i
      ·subst e;exact hh
      ·exact hk k (by omega)
    |true=>
     right;right;refine⟨(t,(i:Int),l,(l.length:Int),(i:Int),()),rfl,?_,.inr ⟨rfl,(Z5Z hlt hh hk).symm⟩⟩;simp only[hitB] at hh;simp only[Zh7,RT.val,d,r1,g1,hh,Yb]
   ·right;left;have d:decide ((i:Int)<(l.length:Int))=false:=by simpa using hlt
    exact⟨_,by simp only[Zh7,RT.val,d,Yc];rfl,.inl ⟨rfl,Z5Y λk h=>hk k (by omega)⟩⟩)
  (t,0,l,iN l.length,0,()) ⟨0,YA _,λk h=>by omega,rfl⟩ (by simp only[iN];omega)
 have hv:(Zo6 l t).val=some (Zbl l t):=by
  rcases hR with ⟨h1,h2⟩|⟨h1,h2⟩
  ·simp only[Zo6,RT.val,hr,okB,getO,Yb,h1,Yc,h2]
  ·simp only[Zo6,RT.val,hr,okB,getO,Yb,h1,h2]
 exact⟨by simp only[Zo7,hv];rfl,by simp only[Zk7,hv,getO]⟩
theorem Zps (l:List Z5) (t:Int) (hl:l.length<=most):ZBh l t=true/\ZrY l t=Zbl l t:=by have h:=Zjn l t hl;have e:ZKD l t=Zo6 l t:=rfl;simp only[Zo7,Zk7,<-e] at h;exact h
def Zfn (l:List Z5) (m:List Cell) (t:Int):Int:=bif decide (Zbl l t<0) then 255 else getX m t
theorem ZRu (l:List Z5) (m:List Cell) (t:Int) (hl:l.length<=most) (hm:m.length<=most):ZDK l m t=true/\ZRY l m t=Zfn l m t:=by
 have h1:=Zjn l t hl;have h2:=Z3P m t hm;have hv:(Zoi l m t).val=some (Zfn l m t):=by simp only[Zoi,RT.val,h1.1,h1.2,h2.1,h2.2,Yb,Zfn];cases decide (Zbl l t<0)<;>rfl
 exact⟨by simp only[ZDK,hv];rfl,by simp only[ZRY,hv,getO]⟩
