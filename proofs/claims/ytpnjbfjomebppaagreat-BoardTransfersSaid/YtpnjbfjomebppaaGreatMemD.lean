import Derived.Test.YtpnjbfjomebppaaGreatCloneC
open Go.Proofs.Tryz (prog)
open Go.IntKind (u8 u16 i64)
set_option linter.unusedSimpArgs false
open Go Go.S3 Go.Proofs
set_option linter.unusedVariables false
set_option maxRecDepth 100000
namespace Go.Proofs.YtpnjbfjomebppaaGreat
noncomputable section
abbrev ZJy:List Sh:=[]
def Zv2 (s:List (Int×Int)):RT (Option (List (Int×Int))):=
 .br (ZmT (Stg.l (ZdC ZcO Zr3 s)) (iN (Le (Stg.l (ZdC ZcO Zr3 s))))) (Ls (Cells.isort (Stg.l (ZdC ZcO Zr3 s)))) Ln
def Zzu (s:List (Int×Int)):List (Int×Int):=getO [] (Zv2 s).val
def ZDp (s:List (Int×Int)):Bool:=okB (Zv2 s).val
def ZJz:En:=stE ZcO Zr3 160 ZJy (λa=>some (ZDp a.1)) (λa=>Zzu a.1)
theorem ZDo:Zb prog 159 ZJz:=
 ZmU (P:=prog) (n:=15) (k:=8) (l:=[(234,ZJx),(160,Zb0)]) (ol:=[]) ⟨ZJw,Zay,Tv⟩ Tryz.func159 rfl (by kernel_rfl) Tryz.call159 trivial (r:=ZcO) (T:=Zr3) (g0:=160) (ts:=ZJy) (t:=λa=>Zv2 a.1) (λa=>by kernel_rfl)
abbrev ZN1:List Sh:=[So rcCE]
abbrev ZCr:Rs:=Rs.one (So rcCE)
def ZRQ:LS:={n:=45,Sl:=[(3,.tip 0),(4,.tip 1),(11,.tip 0),(12,.code (So Kc)),(13,.code (So Kc))],Bx:=[],Sg:=[⟨R.Pq Kb Ka,75,true⟩,⟨(R.Pq Kb Ka),75,true⟩]}
def ZjH (a:QT31):RT (Option (Go1 (QT31))):=
 let x1:=(R.get (R.Pq Kb Ka) a.2.2.1 a.2.1).2 !=0
 let x2:=i64.wrap (a.2.1+1)==iN (Le a.2.2.1)
 let x3:= !x1||(x2||Zg (i64.wrap (a.2.1+1)) (Le a.2.2.1))
 let x4:=x1&&(x2||(R.get (R.Pq Kb Ka) a.2.2.1 (i64.wrap (a.2.1+1))).1 !=(R.get (R.Pq Kb Ka) a.2.2.1 a.2.1).1)
 let x5:List (Int×Int):=a.2.2.2.1++[R.get (R.Pq Kb Ka) a.2.2.1 a.2.1]
 .br (decide (a.2.1<a.1)) (.br (!Zg a.2.1 (Le a.2.2.1)||(!x3||(!x4||Nat.ble (Le x5) most))) (.br (!Zg a.2.1 (Le a.2.2.1)||x3) (.br (Zg a.2.1 (Le a.2.2.1)) (Ls (Go1.cont (a.1,i64.wrap (a.2.1+1),a.2.2.1,bif x4 then x5 else a.2.2.2.1,PUnit.unit))) Ln) Ln) Ln) (Ls (Go1.brk (a.1,a.2.1,a.2.2.1,a.2.2.2.1,PUnit.unit)))
def ZFD:Ora:=Zbi false ZRQ ZjH (λa=>(a.1-a.2.1).toNat+1)
theorem ZIp:ZaM (envX prog [(98,Zvr),(159,ZJz),(160,Zb0)] [] 127 8) (.block 0 (.loop (Z5 Tryz.f90.body 0))) ZFD:=
 loopP ⟨ZpT,ZDo,Zay,Tv⟩
def Zyu (l:List (Int×Int)):RT (Option (List (Int×Int))):=
 let x1:=runF false ZjH (λa=>Int.toNat (a.1-a.2.1)+1) (iN (Le (Zzu l)),0,Zzu l,[],())
 .br (Nat.ble (Le l) most) (.br (ZDp l) (.br (okB x1) (Ls (getO (false,iN (Le (Zzu l)),0,Zzu l,[],()) x1).2.2.2.2.1) Ln) Ln) Ln
def ZN3 (l:List (Int×Int)):List (Int×Int):=getO ZCr.Df (Zyu l).val
def Zyv (l:List (Int×Int)):Bool:=okB (Zyu l).val
def ZN2:En:=Zi ZN1 ZCr (λa=>some (Zyv a)) (λa=>ZN3 a)
theorem ZFC:Zb prog 90 ZN2:=
 pureP 127 [(98,Zvr),(159,ZJz),(160,Zb0)] [(0,ZFD)] _ _ ⟨ZpT,ZDo,Zay,Tv⟩ Tryz.func90 Tryz.call90 ⟨ZIp,Tv⟩
abbrev Zmf:Rs:=Rs.one (So R.bool)
def ZNY:LS:={n:=31,Sl:=[(0,.code (So rcCE)),(2,.code (So R.bool)),(5,.code (So rcCE)),(6,.code (So Kc)),(7,.code (So Kc))],Bx:=[],Sg:=[]}
def Zew (a:List (Int×Int)×Bool×List (Int×Int)×Int×Int×PUnit):RT (Option (Go1 (List (Int×Int)×Bool×List (Int×Int)×Int×Int×PUnit))):=
 let x1:Int×Int:=R.get (R.Pq Kb Ka) a.2.2.1 a.2.2.2.2.1
 let x2:=x1.2==0
 let x3:List (Int×Int)×Int×Int×PUnit:=(a.2.2.1,a.2.2.2.1,a.2.2.2.2.1,PUnit.unit)
 .br (decide (a.2.2.2.2.1<a.2.2.2.1)) (.br (!Zg a.2.2.2.2.1 (Le a.2.2.1)||(x2||(!decide (a.2.2.2.2.1>0)||Zg (i64.wrap (a.2.2.2.2.1-1)) (Le a.1)))) (.br (Zg a.2.2.2.2.1 (Le a.2.2.1)) (.br (x2||decide (a.2.2.2.2.1>0)&&decide (x1.1<=(R.get (R.Pq Kb Ka) a.1 (i64.wrap (a.2.2.2.2.1-1))).1)) (Ls (Go1.ret (a.1,false,x3))) (Ls (Go1.cont (a.1,a.2.1,a.2.2.1,a.2.2.2.1,i64.wrap (a.2.2.2.2.1+1),PUnit.unit)))) Ln) Ln) (Ls (Go1.brk (a.1,a.2.1,x3)))
def Zyt:Ora:=Zbi true ZNY Zew (λa=>1000000000000)
theorem ZCq:ZaM (envX prog [] [] 31 8) (.block 0 (.loop (Z5 Tryz.f103.body 0))) Zyt:=
 loopP trivial
def ZkL (m:List (Int×Int)):RT (Option (Bool)):=
 let x1:=runF true Zew (λa=>1000000000000) (m,false,m,iN (Le m),0,())
 let x2:=getO (false,m,false,m,iN (Le m),0,()) x1
 .br (okB x1) (.br x2.1 (Ls x2.2.2.1) (Ls (true))) Ln
def Zpa (m:List (Int×Int)):Bool:=getO Zmf.Df (ZkL m).val
def ZuY (m:List (Int×Int)):Bool:=okB (ZkL m).val
def ZNZ:En:=Zi ZN1 Zmf (λa=>some (ZuY a)) (λa=>Zpa a)
theorem Zys:Zb prog 103 ZNZ:=
 pureP 31 [] [(0,Zyt)] _ _ trivial Tryz.func103 Tryz.call103 ⟨ZCq,Tv⟩
def ZKA:LS:={n:=34,Sl:=[(0,.code (So rcCE)),(2,.code (So R.bool)),(5,.code (So Kc)),(6,.code (So Kc))],Bx:=[],Sg:=[]}
def Zej (a:List (Int×Int)×Bool×Int×Int×PUnit):RT (Option (Go1 (List (Int×Int)×Bool×Int×Int×PUnit))):=
 let x1:=(R.get (R.Pq Kb Ka) a.1 a.2.2.2.1).2==0
 let x2:= !Zg a.2.2.2.1 (Le a.1)||(x1||(!decide (a.2.2.2.1>0)||(!Zg a.2.2.2.1 (Le a.1)||Zg (i64.wrap (a.2.2.2.1-1)) (Le a.1))))
 let x3:= !x2
 let x4:= !Zg a.2.2.2.1 (Le a.1)||(x1||(!decide (a.2.2.2.1>0)||Zg a.2.2.2.1 (Le a.1)))
 .br (decide (a.2.2.2.1<a.2.2.1)) (.br (x3||(!x4||Zg a.2.2.2.1 (Le a.1))) (.br (x3||x4) (.br (x2) (.br (x1||decide (a.2.2.2.1>0)&&decide ((R.get (R.Pq Kb Ka) a.1 a.2.2.2.1).1<=(R.get (R.Pq Kb Ka) a.1 (i64.wrap (a.2.2.2.1-1))).1)) (Ls (Go1.ret (a.1,false,a.2.2.1,a.2.2.2.1,PUnit.unit))) (Ls (Go1.cont (a.1,a.2.1,a.2.2.1,i64.wrap (a.2.2.2.1+1),PUnit.unit)))) Ln) Ln) Ln) (Ls (Go1.brk (a.1,a.2.1,a.2.2.1,a.2.2.2.1,PUnit.unit)))
def Zwu:Ora:=Zbi true ZKA Zej (λa=>1000000000000)
theorem ZzU:ZaM (envX prog [] [] 15 8) (.block 0 (.loop (Z5 Tryz.f105.body 0))) Zwu:=
 loopP trivial
def Zko (m:List (Int×Int)):RT (Option (Bool)):=
 let x1:=runF true Zej (λa=>1000000000000) (m,false,iN (Le m),0,())
 let x2:=getO (false,m,false,iN (Le m),0,()) x1
 .br (okB x1) (.br x2.1 (Ls x2.2.2.1) (Ls (true))) Ln
def Zm8 (m:List (Int×Int)):Bool:=getO Zmf.Df (Zko m).val
def Zkp (m:List (Int×Int)):Bool:=okB (Zko m).val
def ZzV:En:=Zi ZN1 Zmf (λa=>some (Zkp a)) (λa=>Zm8 a)
theorem Zm7:Zb prog 105 ZzV:=
 pureP 15 [] [(0,Zwu)] _ _ trivial Tryz.func105 Tryz.call105 ⟨ZzU,Tv⟩
abbrev Zz5:List Sh:=[So rcCE,So Kb]
abbrev ZsP:Rs:=Rs.one (So Ka)
def ZQB:LS:={n:=25,Sl:=[(0,.code (So rcCE)),(1,.code (So Kb)),(4,.code (So Ka)),(5,.code (So Kc))],Bx:=[],Sg:=[]}
def Zhy (a:List (Int×Int)×Int×Int×Int×PUnit):RT (Option (Go1 (List (Int×Int)×Int×Int×Int×PUnit))):=
 let x1:=(R.get (R.Pq Kb Ka) a.1 a.2.2.2.1).1==a.2.1
 .br (decide (a.2.2.2.1>=0)) (.br (!Zg a.2.2.2.1 (Le a.1)||(!x1||Zg a.2.2.2.1 (Le a.1))) (.br (Zg a.2.2.2.1 (Le a.1)) (.br (x1) (Ls (Go1.ret (a.1,a.2.1,(R.get (R.Pq Kb Ka) a.1 a.2.2.2.1).2,a.2.2.2.1,PUnit.unit))) (Ls (Go1.cont (a.1,a.2.1,a.2.2.1,i64.wrap (a.2.2.2.1-1),PUnit.unit)))) Ln) Ln) (Ls (Go1.brk (a.1,a.2.1,a.2.2.1,a.2.2.2.1,PUnit.unit)))
def ZEa:Ora:=Zbi true ZQB Zhy (λa=>1000000000000)
theorem ZGK:ZaM (envX prog [] [] 63 8) (.block 0 (.loop (Z5 Tryz.f60.body 0))) ZEa:=
 loopP trivial
def ZqU (m:List (Int×Int)) (t:Int):RT (Option (Int)):=
 let x1:List (Int×Int)×Int×Int×Int×PUnit:=(m,t,0,i64.wrap (iN (Le m)-1),())
 let x2:=runF true Zhy (λa=>1000000000000) x1
 let x3:=getO (false,x1) x2
 .br (okB x2) (.br x3.1 (Ls x3.2.2.2.1) (Ls (0))) Ln
def ZU6 (m:List (Int×Int)) (t:Int):Int:=getO ZsP.Df (ZqU m t).val
def ZKR (m:List (Int×Int)) (t:Int):Bool:=okB (ZqU m t).val
def ZXN:En:=Zi Zz5 ZsP (λa=>some (ZKR a.1 a.2)) (λa=>ZU6 a.1 a.2)
theorem ZQA:Zb prog 60 ZXN:=
 pureP 63 [] [(0,ZEa)] _ _ trivial Tryz.func60 Tryz.call60 ⟨ZGK,Tv⟩
abbrev ZKG:List Sh:=[So rcCE,Sh.agg (R.Pq Kb Ka)]
def ZQu:LS:={n:=53,Sl:=[(3,.fix (A.loc 0 0)),(5,.tip 0),(6,.code (So R.bool)),(9,.code (So rcCE)),(10,.code (So Kc)),(11,.code (So Kc))],Bx:=[[.many (R.Pq Kb Ka)]],Sg:=[⟨(R.Pq Kb Ka),75,true⟩]}
def Zi6 (a:QT9):RT (Option (Go1 (QT9))):=
 let x1:Int×Int:=R.get (R.Pq Kb Ka) a.2.1 a.2.2.2.1
 let x2:=x1.1
 let x3:= !a.1&&decide (x2>=a.2.2.2.2.1.1)
 let x4:List (Int×Int):=a.2.2.2.2.2.1++[a.2.2.2.2.1]
 let x5:= !x3||(!a.2.2.2.2.1.2 !=0||Nat.ble (Le x4) most)
 let x6:=x2 !=a.2.2.2.2.1.1
 let x7:List (Int×Int):=bif x3 then bif a.2.2.2.2.1.2 !=0 then x4 else a.2.2.2.2.2.1 else a.2.2.2.2.2.1
 let x8:List (Int×Int):=x7++[x1]
 .br (decide (a.2.2.2.1<a.2.2.1)) (.br (!Zg a.2.2.2.1 (Le a.2.1)||(!x5||(!x6||Nat.ble (Le x8) most))) (.br (!Zg a.2.2.2.1 (Le a.2.1)||x5) (.br (Zg a.2.2.2.1 (Le a.2.1)) (Ls (Go1.cont (x3||a.1,a.2.1,a.2.2.1,i64.wrap (a.2.2.2.1+1),a.2.2.2.2.1,bif x6 then x8 else x7,PUnit.unit))) Ln) Ln) Ln) (Ls (Go1.brk (a.1,a.2.1,a.2.2.1,a.2.2.2.1,a.2.2.2.2.1,a.2.2.2.2.2.1,PUnit.unit)))
def ZDW:Ora:=Zbi false ZQu Zi6 (λa=>1000000000000)
theorem ZGG:ZaM (envX prog [] [] 511 8) (.block 0 (.loop (Z5 Tryz.f165.body 0))) ZDW:=
 loopP trivial
def ZqR (m:List (Int×Int)) (c:Int×Int):RT (Option (List (Int×Int))):=
 let x1:QT9:=(false,m,iN (Le m),0,c,[],())
 let x2:=runF false Zi6 (λa=>1000000000000) x1
 let x3:QT9:=(getO (false,x1) x2).2
 let x4:=x3.2.2.2.2
 let x5:=x4.1
 let x6:= !x3.1&&x5.2 !=0
 let x7:=x4.2.1
 let x8:List (Int×Int):=x7++[x5]
 .br (okB x2) (.br (!x6||Nat.ble (Le x8) most) (Ls (bif x6 then x8 else x7)) Ln) Ln
def ZKI (m:List (Int×Int)) (c:Int×Int):List (Int×Int):=getO ZCr.Df (ZqR m c).val
def Zwy (m:List (Int×Int)) (c:Int×Int):Bool:=okB (ZqR m c).val
def ZKH:En:=Zi ZKG ZCr (λa=>some (Zwy a.1 a.2)) (λa=>ZKI a.1 a.2)
theorem ZDV:Zb prog 165 ZKH:=
 pureP 511 [] [(0,ZDW)] _ _ trivial Tryz.func165 Tryz.call165 ⟨ZGG,Tv⟩
def ZQy:LS:={n:=21,Sl:=[(3,.code (So rcCE)),(10,.code (So rcCE)),(11,.code (So Kc)),(12,.code (So Kc))],Bx:=[],Sg:=[]}
def Zi8 (a:List (Int×Int)×List (Int×Int)×Int×Int×PUnit):RT (Option (Go1 (List (Int×Int)×List (Int×Int)×Int×Int×PUnit))):=
 let x1:Int×Int:=R.get (R.Pq Kb Ka) a.2.1 a.2.2.2.1
 .br (decide (a.2.2.2.1<a.2.2.1)) (.br (!Zg a.2.2.2.1 (Le a.2.1)||Zwy a.1 x1) (.br (Zg a.2.2.2.1 (Le a.2.1)) (Ls (Go1.cont (ZKI a.1 x1,a.2.1,a.2.2.1,i64.wrap (a.2.2.2.1+1),PUnit.unit))) Ln) Ln) (Ls (Go1.brk (a.1,a.2.1,a.2.2.1,a.2.2.2.1,PUnit.unit)))
def ZDZ:Ora:=Zbi false ZQy Zi8 (λa=>1000000000000)
theorem ZGI:ZaM (envX prog [(105,ZzV),(165,ZKH)] [] 63 8) (.block 0 (.loop (Z5 Tryz.f93.body 0))) ZDZ:=
 loopP ⟨Zm7,ZDV,Tv⟩
def ZqS (l:List (Int×Int)):RT (Option (List (Int×Int))):=
 let x1:=runF false Zi8 (λa=>1000000000000) ([],l,iN (Le l),0,())
 .br (Zkp l) (.br (!Zm8 l||Nat.ble (Le ([]++l)) most) (.br (Zm8 l) (Ls ([]++l)) (.br (okB x1) (Ls (getO (false,[],l,iN (Le l),0,()) x1).2.1) Ln)) Ln) Ln
def ZU5 (l:List (Int×Int)):List (Int×Int):=getO ZCr.Df (ZqS l).val
def ZKM (l:List (Int×Int)):Bool:=okB (ZqS l).val
def ZXI:En:=Zi ZN1 ZCr (λa=>some (ZKM a)) (λa=>ZU5 a)
theorem ZQx:Zb prog 93 ZXI:=
 pureP 63 [(105,ZzV),(165,ZKH)] [(0,ZDZ)] _ _ ⟨Zm7,ZDV,Tv⟩ Tryz.func93 Tryz.call93 ⟨ZGI,Tv⟩
def Zi9 (a:QT17):RT (Option (Go1 (QT17))):=
 let x1:QT7:=R.get (R.Pq Kb (R.Pq Kb (R.Pq R.bool Kc))) a.2.2.1 a.2.2.2.2.1
 let x2:List (QT7)×Int×Int×PUnit:=(a.2.2.1,a.2.2.2.1,a.2.2.2.2.1,PUnit.unit)
 .br (decide (a.2.2.2.2.1<a.2.2.2.1)) (.br (Zg a.2.2.2.2.1 (Le a.2.2.1)) (.br (decide (x1.1<=a.1)&&decide (a.1<=x1.2.1)) (Ls (Go1.ret (a.1,a.2.2.2.2.1,x2))) (Ls (Go1.cont (a.1,a.2.1,a.2.2.1,a.2.2.2.1,i64.wrap (a.2.2.2.2.1+1),PUnit.unit)))) Ln) (Ls (Go1.brk (a.1,a.2.1,x2)))
def ZqV (l:List (QT7)) (t:Int):RT (Option (Int)):=
 let x1:=runF true Zi9 (λa=>1000000000000) (t,0,l,iN (Le l),0,())
 let x2:=getO (false,t,0,l,iN (Le l),0,()) x1
 .br (okB x1) (.br x2.1 (Ls x2.2.2.1) (Ls (-1))) Ln
def ZU8 (l:List (QT7)) (t:Int):Int:=getO ZSX.Df (ZqV l t).val
def ZKT (l:List (QT7)) (t:Int):Bool:=okB (ZqV l t).val
abbrev ZMS:List Sh:=[So rcRG,So Kb]
def ZRq:LS:={n:=26,Sl:=[(1,.code (So Kb)),(4,.code (So Kc)),(7,.code (So rcRG)),(8,.code (So Kc)),(9,.code (So Kc))],Bx:=[],Sg:=[]}
def ZE7 (a:QT17):RT (Option (Go1 (QT17))):=
 let x1:QT7:=R.get (R.Pq Kb (R.Pq Kb (R.Pq R.bool Kc))) a.2.2.1 a.2.2.2.2.1
 let x2:List (QT7)×Int×Int×PUnit:=(a.2.2.1,a.2.2.2.1,a.2.2.2.2.1,PUnit.unit)
 .br (decide (a.2.2.2.2.1<a.2.2.2.1)) (.br (Zg a.2.2.2.2.1 (Le a.2.2.1)) (.br (decide (x1.1<=a.1)&&decide (a.1<=x1.2.1)) (Ls (Go1.ret (a.1,a.2.2.2.2.1,x2))) (Ls (Go1.cont (a.1,a.2.1,a.2.2.1,a.2.2.2.1,i64.wrap (a.2.2.2.2.1+1),PUnit.unit)))) Ln) (Ls (Go1.brk (a.1,a.2.1,x2)))
def ZE8:Ora:=Zbi true ZRq ZE7 (λa=>1000000000000)
theorem ZHq:ZaM (envX prog [] [] 127 8) (.block 0 (.loop (Z5 Tryz.f209.body 0))) ZE8:=
 loopP trivial
def ZE6 (l:List (QT7)) (t:Int):RT (Option (Int)):=
 let x1:=runF true ZE7 (λa=>1000000000000) (t,0,l,iN (Le l),0,())
 let x2:=getO (false,t,0,l,iN (Le l),0,()) x1
 .br (okB x1) (.br x2.1 (Ls x2.2.2.1) (Ls (-1))) Ln
def Zqd (l:List (QT7)) (t:Int):Int:=getO ZSX.Df (ZE6 l t).val
def ZxS (l:List (QT7)) (t:Int):Bool:=okB (ZE6 l t).val
def ZE9:En:=Zi ZMS ZSX (λa=>some (ZxS a.1 a.2)) (λa=>Zqd a.1 a.2)
theorem ZtY:Zb prog 209 ZE9:=
 pureP 127 [] [(0,ZE8)] _ _ trivial Tryz.func209 Tryz.call209 ⟨ZHq,Tv⟩
end
end Go.Proofs.YtpnjbfjomebppaaGreat
namespace Go.Proofs.Cells
def getX (l:List Cell) (a:Int):Int:=((flt a l).getLast?.map Prod.snd).getD 0
def Vld (m:List Cell):Prop:=m.Pairwise (λa b=>a.1<b.1)/\∀c∈m,c.2≠0
variable {l:List Cell}
theorem ZIC {l':List Cell} (h:Sm l l') (a:Int):getX l a=getX l' a:=by rw[getX,getX,h a]
variable {m:List Cell}
theorem Vld.srt (h:Vld m):Srt m:=h.1.imp λh=>Int.le_of_lt h
theorem Vld.tail {c:Cell} (h:Vld (c::m)):Vld m:=⟨(YA.1 h.1).2,λx hx=>h.2 x (YR _ hx)⟩
theorem ZFS (a:Int):getX [] a=0:=rfl
theorem Zmh (a:Int) (c:Cell) (l:List Cell):flt a (c::l)=if c.1=a then c::flt a l else flt a l:=by by_cases h:c.1=a<;>simp[flt,h]
theorem ZeC (c:Cell) (l:List Cell) (a:Int):getX (c::l) a=if c.1=a/\flt a l=[] then c.2 else getX l a:=by
 simp only[getX,Zmh];by_cases h:c.1=a
 ·simp only[h,if_true,true_and];cases hf:flt a l with
  |nil=>simp
  |cons x r=>simp[List.getLast?_cons_cons]
 ·simp[h]
theorem Vld.flt {m:List Cell} (h:Vld m) (a:Int):Cells.flt a m=if getX m a=0 then [] else [(a,getX m a)]:=by
 induction m with
 |nil=>simp[Cells.flt,ZFS]
 |cons c m ih=>
  have ih:=ih h.tail;have h1:=YA.1 h.1;by_cases hc:c.1=a
  ·have hn:Cells.flt a m=[]:=ZeD λx hx=>by have:=h1.1 x hx;omega
   have hz:=h.2 c (by simp);rw[Zmh,ZeC];simp only[hc,hn,and_self,if_true,hz,if_false];rw[<-hc]
  ·rw[Zmh,ZeC];simp only[hc,false_and,if_false,ih]
theorem ZUd {m':List Cell} (h:Vld m) (h':Vld m') (e:∀a,getX m a=getX m' a):m=m':=
 uniq h.srt h'.srt λk=>by rw[h.flt,h'.flt,e k]
def dd:List Cell->List Cell
 |[]=>[]
 |x::r=>match r with
  |[]=>if x.2=0 then [] else [x]
  |y::_=>if x.1=y.1 then dd r else if x.2=0 then dd r else x::dd r
theorem ZrG:∀{l:List Cell} {c:Cell},c∈dd l->c∈l/\c.2≠0
 |[],c,h=>by simp[dd] at h
 |[x],c,h=>by
  simp only[dd] at h;split at h
  ·simp at h
  ·rename_i hz;simp at h;subst h;exact⟨by simp,hz⟩
 |x::y::r,c,h=>by
  rw[dd] at h;split at h
  ·have:=ZrG h;exact⟨YR _ this.1,this.2⟩
  ·split at h
   ·have:=ZrG h;exact⟨YR _ this.1,this.2⟩
   ·rename_i hz;rcases Yy.1 h with e|e
    ·subst e;exact⟨by simp,hz⟩
    ·have:=ZrG e;exact⟨YR _ this.1,this.2⟩
theorem ZTZ:∀{l:List Cell},Srt l->Vld (dd l)
 |[],_=>⟨Yan,λc h=>by simp[dd] at h⟩
 |[x],_=>by refine⟨?_,λc h=>(ZrG h).2⟩;simp only[dd];split<;>simp
 |x::y::r,h=>by
  have h1:=YA.1 h;have ih:=ZTZ (l:=y::r) h1.2;have h2:=YA.1 h1.2;rw[dd];split
  ·exact ih
  ·rename_i hne;split
   ·exact ih
   ·rename_i hz;refine⟨YA.2 ⟨λc hc=> ?_,ih.1⟩,λc hc=> ?_⟩
    ·have hxy:=h1.1 y (by simp);rcases Yy.1 (ZrG hc).1 with e|e
     ·rw[e];omega
     ·have:=h2.1 c e;omega
    ·rcases Yy.1 hc with e|e
     ·rw[e];exact hz
     ·exact ih.2 c e
theorem ZT0:∀{l:List Cell},Srt l->∀a,getX (dd l) a=getX l a
 |[],_,_=>rfl
 |[x],_,a=>by
  simp only[dd];split
  ·rename_i hz;rw[ZeC];simp[flt,getX,hz]
  ·rfl
 |x::y::r,h,a=>by
  have h1:=YA.1 h;have ih:=ZT0 (l:=y::r) h1.2 a;have h2:=YA.1 h1.2;rw[dd,ZeC x (y::r)];by_cases hxy:x.1=y.1
  ·rw[YY hxy,ih];by_cases hc:x.1=a/\flt a (y::r)=[]
   ·obtain⟨e,e2⟩:=hc;rw[Zmh,YY (by rw[<-hxy];exact e)] at e2;simp at e2
   ·rw[Y3 hc]
  ·rw[Y3 hxy];have hlt:∀c∈y::r,x.1<c.1:=λc hc=>by
    have:=h1.1 y (by simp);rcases Yy.1 hc with e|e
    ·rw[e];omega
    ·have:=h2.1 c e;omega
   by_cases hc:x.1=a
   ·have hn:flt a (y::r)=[]:=ZeD λc hc'=>by have:=hlt c hc';omega
    have hn2:flt a (dd (y::r))=[]:=ZeD λc hc'=>by have:=hlt c (ZrG hc').1;omega
    by_cases hz:x.2=0
    ·rw[YY hz,YY ⟨hc,hn⟩,hz,getX,hn2];rfl
    ·rw[Y3 hz,YY ⟨hc,hn⟩,ZeC,YY ⟨hc,hn2⟩]
   ·by_cases hz:x.2=0
    ·rw[YY hz,Y3 (λh=>hc h.1),ih]
    ·rw[Y3 hz,Y3 (λh=>hc h.1),ZeC,Y3 (λh=>hc h.1),ih]
def putX:List Cell->Cell->List Cell
 |[],c=>if c.2=0 then [] else [c]
 |x::r,c=>if x.1<c.1 then x::putX r c else if c.2=0 then (if x.1=c.1 then r else x::r) else if x.1=c.1 then c::r else c::x::r
theorem ZsV:∀{m:List Cell} {c x:Cell},x∈putX m c->x=c\/x∈m
 |[],c,x,h=>by
  simp only[putX] at h;split at h
  ·simp at h
  ·left;simpa using h
 |y::r,c,x,h=>by
  simp only[putX] at h;split at h
  ·rcases Yy.1 h with e|e
   ·right;simp[e]
   ·rcases ZsV e with e|e
    ·exact .inl e
    ·right;simp[e]
  ·split at h
   ·split at h
    ·right;simp[h]
    ·right;exact h
   ·split at h
    ·rcases Yy.1 h with e|e
     ·exact .inl e
     ·right;simp[e]
    ·rcases Yy.1 h with e|e
     ·exact .inl e
     ·right;exact e
theorem ZEf:∀{m:List Cell} {c:Cell},Vld m->Vld (putX m c)
 |[],c,_=>by
  simp only[putX];split
  ·exact⟨Yan,λc h=>by simp at h⟩
  ·rename_i hz;exact⟨by simp,λx h=>by simp at h;rw[h];exact hz⟩
 |y::r,c,h=>by
  have h1:=YA.1 h.1;have hy:=h.2 y (by simp);simp only[putX];split
  ·rename_i hlt;have ih:=ZEf (c:=c) h.tail;refine⟨YA.2 ⟨λx hx=> ?_,ih.1⟩,λx hx=> ?_⟩
   ·rcases ZsV hx with e|e
    ·rw[e];exact hlt
    ·exact h1.1 x e
   ·rcases Yy.1 hx with e|e
    ·rw[e];exact hy
    ·exact ih.2 x e
  ·rename_i hge;split
   ·split
    ·exact h.tail
    ·exact h
   ·rename_i hz;split
    ·rename_i he;refine⟨YA.2 ⟨λx hx=> ?_,h1.2⟩,λx hx=> ?_⟩
     ·have:=h1.1 x hx;omega
     ·rcases Yy.1 hx with e|e
      ·rw[e];exact hz
      ·exact h.2 x (YR _ e)
    ·rename_i hne;refine⟨YA.2 ⟨λx hx=> ?_,h.1⟩,λx hx=> ?_⟩
     ·rcases Yy.1 hx with e|e
      ·rw[e];omega
      ·have:=h1.1 x e;omega
     ·rcases Yy.1 hx with e|e
      ·rw[e];exact hz
      ·exact h.2 x e
theorem ZhJ {a:Int} (h:∀c∈l,c.1≠a):getX l a=0:=by rw[getX,ZeD h];rfl
theorem Zed {x:Cell} {r:List Cell} (h:∀c∈r,x.1<c.1) (a:Int):getX (x::r) a=if x.1=a then x.2 else getX r a:=by
 rw[ZeC];by_cases hx:x.1=a
 ·have:flt a r=[]:=ZeD λc hc=>by have:=h c hc;omega
  simp[hx,this]
 ·simp[hx]
theorem ZsX:∀{m:List Cell} {c:Cell},Vld m->∀a,getX (putX m c) a=if c.1=a then c.2 else getX m a
 |[],c,_,a=>by
  simp only[putX];split
  ·rename_i hz;rw[ZFS,hz];simp
  ·rw[Zed (by simp)]
 |y::r,c,h,a=>by
  have h1:=YA.1 h.1;simp only[putX];split
  ·rename_i hlt
   rw[Zed (λx hx=>by
    rcases ZsV hx with e|e
    ·rw[e];exact hlt
    ·exact h1.1 x e),Zed h1.1,ZsX h.tail a]
   by_cases e1:y.1=a
   ·simp only[e1,if_true];rw[Y3 (by omega)]
   ·simp[e1]
  ·rename_i hge;split
   ·rename_i hz;split
    ·rename_i he;rw[Zed h1.1];by_cases e:c.1=a
     ·rw[YY e,hz];exact ZhJ λx hx=>by have:=h1.1 x hx;omega
     ·rw[Y3 e,Y3 (by omega)]
    ·rename_i hne;by_cases e:c.1=a
     ·rw[YY e,hz];exact ZhJ λx hx=>by
       rcases Yy.1 hx with e'|e'
       ·rw[e'];omega
       ·have:=h1.1 x e';omega
     ·rw[Y3 e]
   ·split
    ·rename_i he;rw[Zed (λx hx=>by have:=h1.1 x hx;omega),Zed h1.1];by_cases e:c.1=a
     ·simp[e]
     ·rw[Y3 e,Y3 e,Y3 (by omega)]
    ·rename_i hne
     rw[Zed (λx hx=>by
      rcases Yy.1 hx with e|e
      ·rw[e];omega
      ·have:=h1.1 x e;omega)]
def normX (l:List Cell):List Cell:=l.foldl putX []
theorem ZOH (l:List Cell) (c:Cell) (a:Int):getX (l++[c]) a=if c.1=a then c.2 else getX l a:=by
 rw[getX,getX,ZdE];by_cases h:c.1=a
 ·have:flt a [c]=[c]:=by simp[flt,h]
  rw[this,List.getLast?_append];simp[h]
 ·have:flt a [c]=[]:=ZeD λx hx=>by simp at hx;rw[hx];exact h
  rw[this];simp[h]
theorem ZpB:∀(l:List Cell) {m:List Cell},Vld m->Vld (l.foldl putX m)/\∀a,getX (l.foldl putX m) a=getX (m++l) a
 |[],m,h=>⟨h,λa=>by simp⟩
 |c::l,m,h=>by
  obtain⟨h1,h2⟩:=ZpB l (ZEf (c:=c) h);refine⟨h1,λa=> ?_⟩;rw[List.foldl_cons,h2 a];have e:m++c::l=(m++[c])++l:=by simp
  rw[e];have key:∀{p q:List Cell},(∀b,getX p b=getX q b)->∀l b,getX (p++l) b=getX (q++l) b:=by
   intro p q hpq l b;simp only[getX,ZdE,List.getLast?_append];cases hl:(flt b l).getLast? with
   |none=>simpa [getX] using hpq b
   |some x=>simp
  exact key (λb=>by rw[ZsX h,ZOH]) l a
theorem Zep (l:List Cell):Vld (normX l):=(ZpB l ⟨Yan,λc h=>by simp at h⟩).1
theorem Zjw (l:List Cell) (a:Int):getX (normX l) a=getX l a:=(ZpB l ⟨Yan,λc h=>by simp at h⟩).2 a
theorem ZFm (h:Vld m) (e:∀a,getX m a=getX l a):normX l=m:=ZUd (Zep l) h λa=>by rw[Zjw,e]
theorem ZhC (h:Vld m):normX m=m:=ZFm h λ_=>rfl
theorem ZH9 (l:List Cell):dd (isort l)=normX l:=
 (ZFm (ZTZ (Zca l)) λa=>by rw[ZT0 (Zca l),ZIC (ZfZ l)]).symm
end Go.Proofs.Cells
open Go Go.S3 Go.Proofs Go.Proofs.Cells
namespace Go.Proofs.YtpnjbfjomebppaaGreat
noncomputable section
abbrev ZO:=QT7
theorem Zvi (l:List Cell) (i:Nat) (h:i<l.length):l.drop i=el l i::l.drop (i+1):=by rw[Yab h];have:=Zc8 l i h;rw[Yj h,oinj] at this;rw[this]
theorem Zzx (l:List Cell) (i:Nat) (h:i<l.length):l.take (i+1)=l.take i++[el l i]:=by rw[YaK,Zc8 l i h];rfl
theorem ZYH (l:List Cell) (i:Nat) (h:i<l.length):el l i∈l:=List.mem_iff_getElem?.2 ⟨i,Zc8 l i h⟩
def okAt (m:List Cell) (i:Nat):Bool:= !((el m i).2==0||(decide ((i:Int)>0)&&decide ((el m i).1<=(el m (i-1)).1)))
def vldB (m:List Cell):Bool:=(List.range m.length).all (okAt m)
variable {m:List Cell} {i:Nat}
theorem Zqo (hi:i<m.length) (h:okAt m i=false):vldB m=false:=by rw[YI];intro he;have:=YT.1 he i (YaA.2 hi);rw[h] at this;exact absurd this (by simp)
theorem ZmC (h:∀i,i<m.length->okAt m i=true):vldB m=true:=YT.2 λi hi=>h i (YaA.1 hi)
theorem ZfF:vldB m=true↔Vld m:=by
 constructor
 ·intro h;have ha:∀i,i<m.length->okAt m i=true:=λi hi=>YT.1 h i (YaA.2 hi)
  have hs:∀i,i+1<m.length->(el m i).1<(el m (i+1)).1:=λi hi=>by
   have:=ha (i+1) hi;simp only[okAt,YC,Yp,Yat,Yah,Nat.add_sub_cancel] at this;rcases this.2 with e|e
   ·omega
   ·omega
  refine⟨?_,λc hc=> ?_⟩
  ·rw[YaE];have key:∀d i,i+d+1<m.length->(el m i).1<(el m (i+d+1)).1:=by
    intro d
    induction d with
    |zero=>intro i hi;exact hs i hi
    |succ d ih=>intro i hi;have h1:=ih i (by omega);have h2:=hs (i+d+1) (by omega);rw[show i+(d+1)+1=i+d+1+1 by omega];omega
   intro i j hi hj hij;have:=key (j-i-1) i (by omega);rw[show i+(j-i-1)+1=j by omega] at this;have e1:=Zc8 m i hi;have e2:=Zc8 m j hj;rw[Yj hi,oinj] at e1;rw[Yj hj,oinj] at e2;rw[e1,e2];exact this
  ·obtain⟨i,hi⟩:=List.mem_iff_getElem?.1 hc;have hlt:=(YE.1 hi).1;rw[Zc8 m i hlt,oinj] at hi;have:=ha i hlt;rw[<-hi];simp only[okAt,YC,Yp,beq_eq_false_iff_ne] at this;exact this.1
 ·intro h;refine ZmC λi hi=> ?_
  simp only[okAt,YC,Yp,beq_eq_false_iff_ne,Yat,Yah];refine⟨h.2 _ (ZYH m i hi),?_⟩;by_cases h0:i=0
  ·left;omega
  ·right;have:=YaE.1 h.1 (i-1) i (by omega) hi (by omega);have e1:=Zc8 m (i-1) (by omega);have e2:=Zc8 m i hi;rw[Yj (by omega),oinj] at e1;rw[Yj hi,oinj] at e2;rw[e1,e2] at this;omega
theorem ZW8 (i:Nat) (h:0<i) (h2:i<=4611686018427387904):IntKind.wrap .i64 ((i:Int)-1)=((i-1:Nat):Int):=by rw[wrap_i64 _ (by omega) (by omega)];omega
theorem ZNy (m:List Cell) (i:Nat):((el m i).2==0||(decide ((i:Int)>0)&&decide ((el m i).1<=(el m (i-1)).1)))= !okAt m i:=by simp only[okAt,Bool.not_not]
theorem ZIk (m:List Cell) (hm:m.length<=most):(ZkL m).val=some (vldB m):=by
 have hms:=mst;obtain⟨r,hr,hR⟩:=ZN (fl:=true) (t:=Zew) (fuel:=λa=>1000000000000)
  (I:=λa=>∃i:Nat,i<=m.length/\(∀k,k<i->okAt m k=true)/\a=(m,false,m,(m.length:Int),(i:Int),()))
  (m:=λa=>Int.toNat (a.2.2.2.1-a.2.2.2.2.1)) (R:=λr=>(r.1=false/\vldB m=true)\/(r.1=true/\vldB m=false/\r.2.2.1=false))
  (λa hi=>by
   obtain⟨i,hi,hk,rfl⟩:=hi;by_cases hlt:i<m.length
   ·have d:decide ((i:Int)<(m.length:Int))=true:=by simpa using hlt
    have r1:=ZaO m i hlt;have hw:decide ((i:Int)>0)=true->Zg (IntKind.wrap .i64 ((i:Int)-1)) m.length=true/\IntKind.wrap .i64 ((i:Int)-1)=((i-1:Nat):Int):=λh=>by simp only[Yi] at h;have e:=ZW8 i (by omega) (by omega);exact⟨by rw[e];exact ZaO m (i-1) (by omega),e⟩
    have hck:((el m i).2==0||(!decide ((i:Int)>0)||Zg (IntKind.wrap .i64 ((i:Int)-1)) m.length))=true:=by
     cases h:decide ((i:Int)>0) with
     |false=>simp
     |true=>rw[(hw h).1];simp
    have hcd:((el m i).2==0||(decide ((i:Int)>0)&&decide ((el m i).1<=(R.get CR m (IntKind.wrap .i64 ((i:Int)-1))).1)))= !okAt m i:=by
     rw[<-ZNy];cases h:decide ((i:Int)>0) with
     |false=>simp
     |true=>rw[(hw h).2,ZcV]
    cases ho:okAt m i with
    |true=>
     left;refine⟨(m,false,m,(m.length:Int),((i+1:Nat):Int),()),?_,⟨i+1,hlt,λk hk'=> ?_,rfl⟩,by simp only;omega⟩
     ·rw[ho] at hcd;simp only[Zew,RT.val,d,r1,ZcV,hck,hcd,Yf,Yh,Ya,Yb,ZiG i (by omega)]
     ·by_cases e:k=i
      ·subst e;exact ho
      ·exact hk k (by omega)
    |false=>
     right;right;refine⟨(m,false,m,(m.length:Int),(i:Int),()),rfl,?_,.inr ⟨rfl,Zqo hlt ho,rfl⟩⟩;rw[ho] at hcd;simp only[Zew,RT.val,d,r1,ZcV,hck,hcd,Yf,Ym,Yh,Ya,Yb]
   ·right;left;have d:decide ((i:Int)<(m.length:Int))=false:=by simpa using hlt
    exact⟨(m,false,m,(m.length:Int),(i:Int),()),by simp only[Zew,RT.val,d,Yb],.inl ⟨rfl,ZmC λk hk'=>hk k (by omega)⟩⟩)
  (m,false,m,(m.length:Int),0,()) ⟨0,Yv _,λk h=>by omega,rfl⟩ (by simp only;omega)
 have hr':runF true Zew (λa=>1000000000000) (m,false,m,iN m.length,0,())=some r:=hr;rcases hR with ⟨h1,h2⟩|⟨h1,h2,h3⟩
 ·simp only[ZkL,RT.val,hr',okB,getO,Ya,h1,Yb,h2]
 ·simp only[ZkL,RT.val,hr',okB,getO,Ya,h1,h2,h3]
theorem ZqK (m:List Cell) (hm:m.length<=most):(Zko m).val=some (vldB m):=by
 have hms:=mst;obtain⟨r,hr,hR⟩:=ZN (fl:=true) (t:=Zej) (fuel:=λa=>1000000000000)
  (I:=λa=>∃i:Nat,i<=m.length/\(∀k,k<i->okAt m k=true)/\a=(m,false,(m.length:Int),(i:Int),()))
  (m:=λa=>Int.toNat (a.2.2.1-a.2.2.2.1)) (R:=λr=>(r.1=false/\vldB m=true)\/(r.1=true/\vldB m=false/\r.2.2.1=false))
  (λa hi=>by
   obtain⟨i,hi,hk,rfl⟩:=hi;by_cases hlt:i<m.length
   ·have d:decide ((i:Int)<(m.length:Int))=true:=by simpa using hlt
    have r1:=ZaO m i hlt;have hw:decide ((i:Int)>0)=true->Zg (IntKind.wrap .i64 ((i:Int)-1)) m.length=true/\IntKind.wrap .i64 ((i:Int)-1)=((i-1:Nat):Int):=λh=>by simp only[Yi] at h;have e:=ZW8 i (by omega) (by omega);exact⟨by rw[e];exact ZaO m (i-1) (by omega),e⟩
    have hck:((el m i).2==0||(!decide ((i:Int)>0)||Zg (IntKind.wrap .i64 ((i:Int)-1)) m.length))=true:=by
     cases h:decide ((i:Int)>0) with
     |false=>simp
     |true=>rw[(hw h).1];simp
    have hcd:((el m i).2==0||(decide ((i:Int)>0)&&decide ((el m i).1<=(R.get CR m (IntKind.wrap .i64 ((i:Int)-1))).1)))= !okAt m i:=by
     rw[<-ZNy];cases h:decide ((i:Int)>0) with
     |false=>simp
     |true=>rw[(hw h).2,ZcV]
    cases ho:okAt m i with
    |true=>
     left;refine⟨(m,false,(m.length:Int),((i+1:Nat):Int),()),?_,⟨i+1,hlt,λk hk'=> ?_,rfl⟩,by simp only;omega⟩
     ·rw[ho] at hcd;simp only[Zej,RT.val,d,r1,ZcV,hck,hcd,Yf,Yh,Yk,Ya,Yb,ZiG i (by omega)]
     ·by_cases e:k=i
      ·subst e;exact ho
      ·exact hk k (by omega)
    |false=>
     right;right;refine⟨(m,false,(m.length:Int),(i:Int),()),rfl,?_,.inr ⟨rfl,Zqo hlt ho,rfl⟩⟩;rw[ho] at hcd;simp only[Zej,RT.val,d,r1,ZcV,hck,hcd,Yf,Ym,Yh,Yk,Ya,Yb]
   ·right;left;have d:decide ((i:Int)<(m.length:Int))=false:=by simpa using hlt
    exact⟨(m,false,(m.length:Int),(i:Int),()),by simp only[Zej,RT.val,d,Yb],.inl ⟨rfl,ZmC λk hk'=>hk k (by omega)⟩⟩)
  (m,false,(m.length:Int),0,()) ⟨0,Yv _,λk h=>by omega,rfl⟩ (by simp only;omega)
 have hr':runF true Zej (λa=>1000000000000) (m,false,iN m.length,0,())=some r:=hr;rcases hR with ⟨h1,h2⟩|⟨h1,h2,h3⟩
 ·simp only[Zko,RT.val,hr',okB,getO,Ya,h1,Yb,h2]
 ·simp only[Zko,RT.val,hr',okB,getO,Ya,h1,h2,h3]
variable {t:Int}
theorem ZCJ (hi:i<m.length) (he:(el m i).1=t) (hk:∀k,i<k->k<m.length->(el m k).1≠t):getX m t=(el m i).2:=by
 have e:m=m.take i++[el m i]++m.drop (i+1):=by rw[Yl,List.singleton_append,<-Zvi m i hi,Yad]
 have h0:flt t (m.drop (i+1))=[]:=ZeD λc hc=>by obtain⟨k,h1,h2,rfl⟩:=ZjD hc;exact hk k (by omega) h2
 have h1:flt t [el m i]=[el m i]:=by simp[flt,he]
 have h2:flt t m=flt t (m.take i)++[el m i]:=by conv=>lhs;rw[e,ZdE,ZdE,h0,h1,Yx]
 rw[getX,h2,List.getLast?_append];simp
theorem ZQj (m:List Cell) (t:Int) (hm:m.length<=most):(ZqU m t).val=some (getX m t):=by
 have hms:=mst;obtain⟨r,hr,hR⟩:=ZN (fl:=true) (t:=Zhy) (fuel:=λa=>1000000000000)
  (I:=λa=>∃i:Nat,i<=m.length/\(∀k,i<=k->k<m.length->(el m k).1≠t)/\a=(m,t,0,(i:Int)-1,()))
  (m:=λa=>Int.toNat (a.2.2.2.1+1)) (R:=λr=>(r.1=false/\getX m t=0)\/(r.1=true/\r.2.2.2.1=getX m t))
  (λa hi=>by
   obtain⟨i,hi,hk,rfl⟩:=hi;cases i with
   |zero=>
    right;left;refine⟨(m,t,0,((0:Nat):Int)-1,()),by simp[Zhy,RT.val],.inl ⟨rfl,ZhJ λc hc=> ?_⟩⟩;obtain⟨k,hk'⟩:=List.mem_iff_getElem?.1 hc;have hlt:=(YE.1 hk').1;rw[Zc8 m k hlt,oinj] at hk';rw[<-hk'];exact hk k (Yv _) hlt
   |succ i=>
    have ei:((i+1:Nat):Int)-1=(i:Int):=by omega
    rw[ei];have d:decide ((i:Int)>=0)=true:=by simp
    have r1:=ZaO m i (by omega);cases he:((el m i).1==t) with
    |true=>
     right;right;refine⟨(m,t,(el m i).2,(i:Int),()),rfl,by simp only[Zhy,RT.val,d,r1,ZcV,he,Ya,Yf,Yh],.inr ⟨rfl,?_⟩⟩;exact (ZCJ (by omega) (by simpa using he) λk h1 h2=>hk k (by omega) h2).symm
    |false=>
     left;refine⟨(m,t,0,(i:Int)-1,()),?_,⟨i,by omega,λk h1 h2=> ?_,rfl⟩,by simp only;omega⟩
     ·have w:IntKind.wrap .i64 ((i:Int)-1)=(i:Int)-1:=wrap_i64 _ (by omega) (by omega);simp only[Zhy,RT.val,d,r1,ZcV,he,Ya,Yb,Yf,Ym,Yt,Yh,w]
     ·by_cases e:k=i
      ·subst e;simpa using he
      ·exact hk k (by omega) h2)
  (m,t,0,(m.length:Int)-1,()) ⟨m.length,Ye _,λk h1 h2=>by omega,rfl⟩ (by simp only;omega)
 have w:IntKind.wrap .i64 (iN m.length-1)=(m.length:Int)-1:=wrap_i64 _ (by simp only[iN,Le];omega) (by simp only[iN,Le];omega);rcases hR with ⟨h1,h2⟩|⟨h1,h2⟩
 ·simp only[ZqU,RT.val,w,hr,okB,getO,Ya,h1,Yb,h2]
 ·simp only[ZqU,RT.val,w,hr,okB,getO,Ya,h1,h2]
def pst (c:Cell) (s:Bool×List Cell) (x:Cell):Bool×List Cell:=
 let t:= !s.1&&decide (x.1>=c.1)
 let o:=bif t then (bif c.2 !=0 then s.2++[c] else s.2) else s.2
 (t||s.1,bif x.1 !=c.1 then o++[x] else o)
def pfin (c:Cell) (s:Bool×List Cell):List Cell:=bif !s.1&&c.2 !=0 then s.2++[c] else s.2
theorem ZEj (c:Cell):∀(m:List Cell) (o:List Cell),(∀x∈m,x.1≠c.1)->m.foldl (pst c) (true,o)=(true,o++m)
 |[],o,_=>by simp
 |x::m,o,h=>by
  have hx:(x.1 !=c.1)=true:=by simpa using h x (by simp)
  simp only[List.foldl_cons,pst,Yf,YX,Yb,Yk,hx,Ya];rw[ZEj c m (o++[x]) λy hy=>h y (YR _ hy)];simp
theorem ZK8 (c:Cell):∀(m:List Cell) (o:List Cell),m.Pairwise (λa b=>a.1<b.1)->pfin c (m.foldl (pst c) (false,o))=o++putX m c
 |[],o,_=>by
  simp only[List.foldl_nil,pfin,putX,Ym,YN];by_cases h:c.2=0
  ·simp[h]
  ·have:(c.2 !=0)=true:=by simpa using h
   simp[h,this]
 |x::m,o,h=>by
  have h1:=YA.1 h;by_cases hx:x.1<c.1
  ·have e1:decide (x.1>=c.1)=false:=by simp;omega
   have e2:(x.1 !=c.1)=true:=by simp;omega
   simp only[List.foldl_cons,pst,e1,Yas,Yb,Yz,e2,Ya];rw[ZK8 c m (o++[x]) h1.2,putX,YY hx];simp
  ·have e1:decide (x.1>=c.1)=true:=by simp;omega
   have hne:∀y∈m,y.1≠c.1:=λy hy=>by have:=h1.1 y hy;omega
   simp only[List.foldl_cons,pst,e1,Ym,YZ,Ya,Yt];rw[ZEj c m _ hne,putX,Y3 hx];simp only[pfin,Yf,YX,Yb];by_cases hz:c.2=0
   ·by_cases hk:x.1=c.1
    ·simp[hz,hk]
    ·have:(x.1 !=c.1)=true:=by simpa using hk
     simp[hz,hk,this]
   ·have hz1:(c.2 !=0)=true:=by simpa using hz
    by_cases hk:x.1=c.1
    ·simp[hz,hk,hz1]
    ·have:(x.1 !=c.1)=true:=by simpa using hk
     simp[hz,hk,this,hz1]
theorem ZAb (c:Cell):∀(m:List Cell) (s:Bool×List Cell),(m.foldl (pst c) s).2.length+(bif (m.foldl (pst c) s).1 then 0 else 1)<=s.2.length+(bif s.1 then 0 else 1)+m.length
 |[],s=>by simp
 |x::m,s=>by
  rw[List.foldl_cons];have ih:=ZAb c m (pst c s x);have:(pst c s x).2.length+(bif (pst c s x).1 then 0 else 1)<=s.2.length+(bif s.1 then 0 else 1)+1:=by obtain⟨d,o⟩:=s;simp only[pst];generalize decide (x.1>=c.1)=b1;generalize (c.2 !=0)=b2;generalize (x.1 !=c.1)=b3;cases d<;>cases b1<;>cases b2<;>cases b3<;>simp<;>omega
  simp only[List.length_cons];omega
theorem Zwn (m:List Cell) (c:Cell) (hv:Vld m) (hm:m.length+1<=most):Zwy m c=true/\ZKI m c=putX m c:=by
 have hms:=mst;obtain⟨r,hr,h1,i,hR⟩:=ZN (fl:=false) (t:=Zi6) (fuel:=λa=>1000000000000)
  (λa=>∃i:Nat,i<=m.length/\a=(((m.take i).foldl (pst c) (false,[])).1,m,(m.length:Int),(i:Int),c,((m.take i).foldl (pst c) (false,[])).2,()))
  (λa=>Int.toNat (a.2.2.1-a.2.2.2.1)) (λr=>r.1=false/\∃i:Nat,r.2=((m.foldl (pst c) (false,[])).1,m,(m.length:Int),(i:Int),c,(m.foldl (pst c) (false,[])).2,()))
  (by
   rintro a ⟨i,hi,rfl⟩;by_cases hlt:i<m.length
   ·left;have d:decide ((i:Int)<(m.length:Int))=true:=by simpa using hlt
    have r1:=ZaO m i hlt;have hl:=ZAb c (m.take i) (false,[]);have hs:(m.take (i+1)).foldl (pst c) (false,[])=pst c ((m.take i).foldl (pst c) (false,[])) (el m i):=by rw[Zzx m i hlt,YaL];rfl
    rw[YK,Ya2 (by omega)] at hl;refine⟨_,?_,⟨i+1,hlt,rfl⟩,by simp only;omega⟩;rw[hs];generalize (m.take i).foldl (pst c) (false,[])=s at hl|-;obtain⟨dn,o⟩:=s;simp only[List.length_nil,Yb] at hl;simp only[Zi6,RT.val,d,r1,ZcV,Ya,Yf,Yh,pst,ZiG i (by omega)];generalize decide ((el m i).1>=c.1)=b1;generalize hb2:(c.2 !=0)=b2;generalize hb3:((el m i).1 !=c.1)=b3;have l1:Nat.ble (o++[c]).length most=true\/dn=true:=by
     cases dn with
     |true=>exact .inr rfl
     |false=>left;rw[YD];simp only[Yb] at hl;simp only[Yd,List.length_singleton];omega
    have l2:Nat.ble (o++[el m i]).length most=true:=by rw[YD];simp only[Yd,List.length_singleton];cases dn<;>simp only[Ya,Yb] at hl<;>omega
    have l3:Nat.ble (o++[c]++[el m i]).length most=true\/dn=true:=by
     cases dn with
     |true=>exact .inr rfl
     |false=>left;rw[YD];simp only[Yb] at hl;simp only[Yd,List.length_singleton];omega
    cases dn with
    |true=>
     cases b3<;>simp only[l2,Yf,Ym,YX,Yt,Yh,Yk,Ya,Yb]
    |false=>
     have l1:Nat.ble (o++[c]).length most=true:=by simpa using l1
     have l3:Nat.ble (o++[c]++[el m i]).length most=true:=by simpa using l3
     cases b1<;>cases b2<;>cases b3<;>simp only[l1,l2,l3,Yf,Ym,YX,YN,Yt,Yh,Yk,Yz,YZ,Ya,Yb]
   ·right;left;have d:decide ((i:Int)<(m.length:Int))=false:=by simpa using hlt
    have e:m.take i=m:=Y4 (by omega);rw[e]
    exact⟨_,by simp only[Zi6,RT.val,d,Yb],rfl,i,rfl⟩)
  (false,m,iN m.length,0,c,[],()) ⟨0,Yv _,rfl⟩ (by simp only[iN,Le];omega)
 have hl:=ZAb c m (false,[]);have hp:=ZK8 c m [] hv.1;simp only[List.nil_append] at hp;obtain⟨r1,r2⟩:=r;simp only at h1 hR;subst h1 hR;generalize m.foldl (pst c) (false,[])=s at hl hp hr;obtain⟨dn,o⟩:=s;have hb:(!(!dn&&c.2 !=0)||Nat.ble (o++[c]).length most)=true:=by
  cases dn with
  |true=>rfl
  |false=>
   have:Nat.ble (o++[c]).length most=true:=by rw[YD];simp only[Yb,List.length_nil] at hl;simp only[Yd,List.length_singleton];omega
   rw[this];simp
 have hv:(ZqR m c).val=some (putX m c):=by simp only[ZqR,RT.val,hr,okB,getO,Ya,hb,<-hp,pfin]
 exact⟨by simp only[Zwy,hv];rfl,by simp only[ZKI,hv,getO]⟩
theorem ZsW (c:Cell):∀m:List Cell,(putX m c).length<=m.length+1
 |[]=>by simp only[putX];split<;>simp
 |x::m=>by
  have:=ZsW c m;simp only[putX];repeat' split
  all_goals simp only[List.length_cons];omega
theorem ZkG (l:List Cell) (c:Cell):normX (l++[c])=putX (normX l) c:=by simp[normX,YaL]
theorem ZFW:∀(l m:List Cell),(l.foldl putX m).length<=m.length+l.length
 |[],m=>by simp
 |x::l,m=>by have:=ZFW l (putX m x);have:=ZsW x m;simp only[List.foldl_cons,List.length_cons];omega
theorem Zeq (l:List Cell):(normX l).length<=l.length:=by have:=ZFW l [];simpa [normX] using this
theorem ZKr (l:List Cell) (hl:l.length+1<=most):ZKM l=true/\ZU5 l=normX l:=by
 have hms:=mst;have h1:=ZqK l (by omega);have hc:Zkp l=true:=by simp only[Zkp,h1];rfl
 have hv0:Zm8 l=vldB l:=by simp only[Zm8,h1,getO]
 have hv:(ZqS l).val=some (normX l):=by
  cases hb:vldB l with
  |true=>
   have e:Nat.ble l.length most=true:=by rw[YD];omega
   simp only[ZqS,RT.val,hc,hv0,hb,List.nil_append,e,Ya,Yf,Yh,ZhC (ZfF.1 hb)]
  |false=>
   obtain⟨r,hr,h1,i,hR⟩:=ZN (fl:=false) (t:=Zi8) (fuel:=λa=>1000000000000)
    (λa=>∃i:Nat,i<=l.length/\a=(normX (l.take i),l,(l.length:Int),(i:Int),()))
    (λa=>Int.toNat (a.2.2.1-a.2.2.2.1)) (λr=>r.1=false/\∃i:Nat,r.2=(normX l,l,(l.length:Int),(i:Int),()))
    (by
     rintro a ⟨i,hi,rfl⟩;by_cases hlt:i<l.length
     ·left;have d:decide ((i:Int)<(l.length:Int))=true:=by simpa using hlt
      have r1:=ZaO l i hlt;have hlen:=Zeq (l.take i);rw[YK] at hlen;have hp:=Zwn (normX (l.take i)) (el l i) (Zep _) (by omega);refine⟨_,?_,⟨i+1,hlt,rfl⟩,by simp only;omega⟩;rw[Zzx l i hlt,ZkG];simp only[Zi8,RT.val,d,r1,ZcV,hp.1,hp.2,Ya,Yk,ZiG i (by omega)]
     ·right;left;have d:decide ((i:Int)<(l.length:Int))=false:=by simpa using hlt
      have e:l.take i=l:=Y4 (by omega);rw[e]
      exact⟨_,by simp only[Zi8,RT.val,d,Yb],rfl,i,rfl⟩)
    ([],l,iN l.length,0,()) ⟨0,Yv _,rfl⟩ (by simp only[iN,Le];omega)
   obtain⟨r1,r2⟩:=r;simp only at h1 hR;subst h1 hR;simp only[ZqS,RT.val,hc,hv0,hb,hr,okB,getO,Ya,Yb,Ym,Yt]
 exact⟨by simp only[ZKM,hv];rfl,by simp only[ZU5,hv,getO]⟩
def ZCx (s:List Cell) (i:Nat):Bool:=(el s i).2 !=0&&(decide (i+1=s.length)||(el s (i+1)).1 !=(el s i).1)
theorem ZWY (s:List Cell) (i:Nat) (h:i<s.length):dd (s.drop i)=(bif ZCx s i then [el s i] else [])++dd (s.drop (i+1)):=by
 rw[Zvi s i h];by_cases hl:i+1<s.length
 ·rw[Zvi s (i+1) hl,dd];have e:decide (i+1=s.length)=false:=by simp;omega
  simp only[ZCx,e,Yh];by_cases h1:(el s i).1=(el s (i+1)).1
  ·have:((el s (i+1)).1 !=(el s i).1)=false:=by simp[h1]
   simp only[this,Yas,Yb,List.nil_append,YY h1]
  ·have:((el s (i+1)).1 !=(el s i).1)=true:=by simpa using λe=>h1 e.symm
   simp only[this,YV,Y3 h1];by_cases h2:(el s i).2=0
   ·have:((el s i).2 !=0)=false:=by simp[h2]
    simp only[this,YY h2,Yb,List.nil_append]
   ·have:((el s i).2 !=0)=true:=by simpa using h2
    simp only[this,Y3 h2,Ya,List.singleton_append]
 ·have hn:s.drop (i+1)=[]:=Y7 (by omega);have e:decide (i+1=s.length)=true:=by simp;omega
  rw[hn];simp only[ZCx,e,Yt,YV,dd,Yx];by_cases h2:(el s i).2=0
  ·have:((el s i).2 !=0)=false:=by simp[h2]
   simp only[this,YY h2,Yb]
  ·have:((el s i).2 !=0)=true:=by simpa using h2
   simp only[this,Y3 h2,Ya]
theorem ZJi (l:List Cell) (hl:l.length<=most):ZDp l=true/\Zzu l=isort l:=by
 have hs:ZmT l (iN l.length)=true:=by simp[ZmT,iN,Le];omega
 have hv:(Zv2 l).val=some (isort l):=by simp only[Zv2,RT.val,ZdC,hs,Ya]
 exact⟨by simp only[ZDp,hv];rfl,by simp only[Zzu,hv,getO]⟩
theorem Zyk (l:List Cell) (hl:l.length<=most):Zyv l=true/\ZN3 l=normX l:=by
 have hms:=mst;have h1:=ZJi l hl;have hlen:=Zey l;generalize hs:isort l=s at hlen h1;obtain⟨r,hr,h2,i,hR⟩:=ZN (fl:=false) (t:=ZjH) (fuel:=λa=>Int.toNat (a.1-a.2.1)+1)
  (λa=>∃(i:Nat) (o:List Cell),i<=s.length/\o.length<=i/\o++dd (s.drop i)=dd s/\a=((s.length:Int),(i:Int),s,o,()))
  (λa=>Int.toNat (a.1-a.2.1)) (λr=>r.1=false/\∃i:Nat,r.2=((s.length:Int),(i:Int),s,dd s,()))
  (by
   rintro a ⟨i,o,hi,ho,hd,rfl⟩;by_cases hlt:i<s.length
   ·left;have d:decide ((i:Int)<(s.length:Int))=true:=by simpa using hlt
    have r1:=ZaO s i hlt;have w:=ZiG i (by omega);have e1:(((i+1:Nat):Int)==iN s.length)=decide (i+1=s.length):=by rw[Bool.eq_iff_iff];simp[iN,Le];omega
    have hst:=ZWY s i hlt;have hle:∀x:Cell,Nat.ble (o++[x]).length most=true:=λx=>by rw[YD];simp only[Yd,List.length_singleton];omega
    refine⟨((s.length:Int),((i+1:Nat):Int),s,o++(bif ZCx s i then [el s i] else []),()),?_,⟨i+1,_,hlt,?_,?_,rfl⟩,by simp only;omega⟩
    ·have e3:(!((el s i).2 !=0)||(decide (i+1=s.length)||Zg ((i+1:Nat):Int) s.length))=true:=by
      by_cases hq:i+1=s.length
      ·simp[hq]
      ·rw[ZaO s (i+1) (by omega)];simp
     have e4:((el s i).2 !=0&&(decide (i+1=s.length)||(el s (i+1)).1 !=(el s i).1))=ZCx s i:=rfl;have g1:=ZcV s i;have g2:=ZcV s (i+1);simp only[ZjH,RT.val,d,r1,w,g1,g2,e1,e3,e4,hle,Ya,Yf,Yh,Yk];cases ZCx s i<;>simp
    ·cases ZCx s i<;>simp only[Ya,Yb,Yx,Yd,List.length_singleton]<;>omega
    ·rw[Yl,<-hst,hd]
   ·right;left;have d:decide ((i:Int)<(s.length:Int))=false:=by simpa using hlt
    have e:s.drop i=[]:=Y7 (by omega);rw[e] at hd;simp only[dd,Yx] at hd;subst hd
    exact⟨_,by simp only[ZjH,RT.val,d,Yb],rfl,i,rfl⟩)
  (iN s.length,0,s,[],()) ⟨0,[],Yv _,by simp,by simp,rfl⟩ (by simp only[iN,Le];omega)
 obtain⟨r1,r2⟩:=r;simp only at h2 hR;subst h2 hR;have hb:Nat.ble l.length most=true:=by rw[YD];exact hl
 have hv:(Zyu l).val=some (normX l):=by simp only[Zyu,RT.val,hb,h1.1,h1.2,hr,okB,getO,Ya];rw[<-hs,ZH9]
 exact⟨by simp only[Zyv,hv];rfl,by simp only[ZN3,hv,getO]⟩
abbrev BR:R:=R.int u8
theorem get_d (l:List Int) (i:Nat):R.get BR l (i:Int)=l.getD i 0:=by simp[R.get,R.Df]
def Zix (t:Int) (b:List Int) (n:Nat):List Cell:=(List.range n).map λi:Nat=>(IntKind.wrap .u16 (t+IntKind.wrap .u16 (i:Int)),b.getD i 0)
theorem ZIr (t:Int) (b:List Int) (n:Nat):Zix t b (n+1)=Zix t b n++[(IntKind.wrap .u16 (t+IntKind.wrap .u16 (n:Int)),b.getD n 0)]:=by simp[Zix,List.range_succ]
theorem ZjK (t:Int) (b:List Int) (n:Nat):(Zix t b n).length=n:=by simp[Zix]
def Zfu (t:Int) (b:List Int):List Cell:=normX (Zix t b b.length)
theorem Zyj (m:List Cell) (hm:m.length<=most):ZuY m=true/\Zpa m=vldB m:=by have h:=ZIk m hm;exact⟨by simp only[ZuY,h];rfl,by simp only[Zpa,h,getO]⟩
theorem ZKi (m:List Cell) (hm:m.length<=most):Zkp m=true/\Zm8 m=vldB m:=by have h:=ZqK m hm;exact⟨by simp only[Zkp,h];rfl,by simp only[Zm8,h,getO]⟩
theorem ZUQ (m:List Cell) (t:Int) (hm:m.length<=most):ZKR m t=true/\ZU6 m t=getX m t:=by have h:=ZQj m t hm;exact⟨by simp only[ZKR,h];rfl,by simp only[ZU6,h,getO]⟩
abbrev GR:R:=R.Pq Kb (R.Pq Kb (R.Pq R.bool Kc))
def hitB (t:Int) (r:ZO):Bool:=decide (r.1<=t)&&decide (t<=r.2.1)
def Zcp (l:List ZO) (t:Int):Int:=if l.findIdx (hitB t)<l.length then (l.findIdx (hitB t):Int) else-1
def rg (l:List ZO) (i:Nat):ZO:=l.getD i (0,0,false,0)
theorem ZTR (l:List ZO) (i:Nat):R.get GR l (i:Int)=rg l i:=by simp[R.get,R.Df,rg]
theorem Zwo (l:List ZO) (i:Nat) (h:i<l.length):l[i]=rg l i:=by simp[rg,h]
theorem ZWL {l:List ZO} (hi:i<l.length) (h:hitB t (rg l i)=true) (hk:∀k,k<i->hitB t (rg l k)=false):Zcp l t=i:=by have:l.findIdx (hitB t)=i:=(List.findIdx_eq hi).2 ⟨by rw[Zwo l i hi];exact h,λj hj=>by rw[Zwo l j (by omega)];exact hk j hj⟩;simp only[Zcp,this,hi,if_true]
theorem ZWK {l:List ZO} (hk:∀k,k<l.length->hitB t (rg l k)=false):Zcp l t= -1:=by
 have:¬l.findIdx (hitB t)<l.length:=by rw[List.findIdx_lt_length];rintro⟨x,hx,hp⟩;obtain⟨i,hi,rfl⟩:=YaO.1 hx;rw[Zwo l i hi,hk i hi] at hp;exact absurd hp (by simp)
 simp only[Zcp,this,if_false]
theorem ZKs (l:List ZO) (t:Int) (hl:l.length<=most):ZKT l t=true/\ZU8 l t=Zcp l t:=by
 have hms:=mst;obtain⟨r,hr,hR⟩:=ZN (fl:=true) (t:=Zi9) (fuel:=λ_=>1000000000000)
  (λx=>∃i:Nat,i<=l.length/\(∀k,k<i->hitB t (rg l k)=false)/\x=(t,0,l,(l.length:Int),(i:Int),()))
  (λx=>Int.toNat (x.2.2.2.1-x.2.2.2.2.1)) (λr=>(r.1=false/\Zcp l t= -1)\/(r.1=true/\r.2.2.1=Zcp l t))
  (by
   rintro x ⟨i,hi,hk,rfl⟩;by_cases hlt:i<l.length
   ·have d:decide ((i:Int)<(l.length:Int))=true:=by simpa using hlt
    have r1:=ZaO l i hlt;have g1:=ZTR l i;cases hh:hitB t (rg l i) with
    |false=>
     left;refine⟨(t,0,l,(l.length:Int),((i+1:Nat):Int),()),?_,⟨i+1,hlt,λk hk'=> ?_,rfl⟩,by simp only;omega⟩
     ·simp only[hitB] at hh;simp only[Zi9,RT.val,d,r1,g1,hh,Ya,Yb,ZiG i (by omega)]
     ·by_cases e:k=i
      ·subst e;exact hh
      ·exact hk k (by omega)
    |true=>
     right;right;refine⟨(t,(i:Int),l,(l.length:Int),(i:Int),()),rfl,?_,.inr ⟨rfl,(ZWL hlt hh hk).symm⟩⟩;simp only[hitB] at hh;simp only[Zi9,RT.val,d,r1,g1,hh,Ya]
   ·right;left;have d:decide ((i:Int)<(l.length:Int))=false:=by simpa using hlt
    exact⟨_,by simp only[Zi9,RT.val,d,Yb];rfl,.inl ⟨rfl,ZWK λk h=>hk k (by omega)⟩⟩)
  (t,0,l,iN l.length,0,()) ⟨0,Yv _,λk h=>by omega,rfl⟩ (by simp only[iN,Le];omega)
 have hv:(ZqV l t).val=some (Zcp l t):=by
  rcases hR with ⟨h1,h2⟩|⟨h1,h2⟩
  ·simp only[ZqV,RT.val,hr,okB,getO,Ya,h1,Yb,h2]
  ·simp only[ZqV,RT.val,hr,okB,getO,Ya,h1,h2]
 exact⟨by simp only[ZKT,hv];rfl,by simp only[ZU8,hv,getO]⟩
theorem Znz (l:List ZO) (t:Int) (hl:l.length<=most):ZxS l t=true/\Zqd l t=Zcp l t:=by have h:=ZKs l t hl;have e:ZE6 l t=ZqV l t:=rfl;simp only[ZKT,ZU8,<-e] at h;exact h
def ZeS (l:List ZO) (m:List Cell) (t:Int):Int:=bif decide (Zcp l t<0) then 255 else getX m t
