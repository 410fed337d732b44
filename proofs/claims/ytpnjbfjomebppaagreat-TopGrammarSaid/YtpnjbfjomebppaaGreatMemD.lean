import Derived.Test.YtpnjbfjomebppaaGreatCloneC
open Go.Proofs.Tryz (prog)
open Go.IntKind (u8 u16 i64)
set_option linter.unusedSimpArgs false
open Go Go.S3 Go.Proofs
set_option linter.unusedVariables false
set_option maxRecDepth 100000
namespace Go.Proofs.YtpnjbfjomebppaaGreat
noncomputable section
abbrev ZI9:List Sh:=[]
def Zvu (s:List (Int×Int)):RT (Option (List (Int×Int))):=
 .br (ZmM (Stg.l (ZdC ZcN ZrM s)) (iN (Le (Stg.l (ZdC ZcN ZrM s))))) (Ls (Cells.isort (Stg.l (ZdC ZcN ZrM s)))) Ln
def ZyZ (s:List (Int×Int)):List (Int×Int):=getO [] (Zvu s).val
def ZCX (s:List (Int×Int)):Bool:=okB (Zvu s).val
def ZJa:En:=stE ZcN ZrM 160 ZI9 (λa=>some (ZCX a.1)) (λa=>ZyZ a.1)
theorem ZCW:Zb prog 159 ZJa:=
 ZmN (P:=prog) (n:=15) (k:=8) (l:=[(234,ZI8),(160,ZbS)]) (ol:=[]) ⟨ZI7,Zay,Tv⟩ Tryz.func159 rfl (by kernel_rfl) Tryz.call159 trivial (r:=ZcN) (T:=ZrM) (g0:=160) (ts:=ZI9) (t:=λa=>Zvu a.1) (λa=>by kernel_rfl)
abbrev ZNE:List Sh:=[So rcCE]
abbrev ZB3:Rs:=Rs.one (So rcCE)
def ZRC:LS:={n:=45,Sl:=[(3,.tip 0),(4,.tip 1),(11,.tip 0),(12,.code (So Kc)),(13,.code (So Kc))],Bx:=[],Sg:=[⟨R.Pq Kb Ka,75,true⟩,⟨(R.Pq Kb Ka),75,true⟩]}
def Zjj (a:QT27):RT (Option (Go1 (QT27))):=
 let x1:=(R.get (R.Pq Kb Ka) a.2.2.1 a.2.1).2 !=0
 let x2:=i64.wrap (a.2.1+1)==iN (Le a.2.2.1)
 let x3:= !x1||(x2||Zf (i64.wrap (a.2.1+1)) (Le a.2.2.1))
 let x4:=x1&&(x2||(R.get (R.Pq Kb Ka) a.2.2.1 (i64.wrap (a.2.1+1))).1 !=(R.get (R.Pq Kb Ka) a.2.2.1 a.2.1).1)
 let x5:List (Int×Int):=a.2.2.2.1++[R.get (R.Pq Kb Ka) a.2.2.1 a.2.1]
 .br (decide (a.2.1<a.1)) (.br (!Zf a.2.1 (Le a.2.2.1)||(!x3||(!x4||Nat.ble (Le x5) most))) (.br (!Zf a.2.1 (Le a.2.2.1)||x3) (.br (Zf a.2.1 (Le a.2.2.1)) (Ls (Go1.cont (a.1,i64.wrap (a.2.1+1),a.2.2.1,bif x4 then x5 else a.2.2.2.1,PUnit.unit))) Ln) Ln) Ln) (Ls (Go1.brk (a.1,a.2.1,a.2.2.1,a.2.2.2.1,PUnit.unit)))
def ZFi:Ora:=Zbr false ZRC Zjj (λa=>(a.1-a.2.1).toNat+1)
theorem ZH0:Za1 (envX prog [(98,ZuZ),(159,ZJa),(160,ZbS)] [] 127 8) (.block 0 (.loop (Z7 Tryz.f90.body 0))) ZFi:=
 loopP ⟨ZpJ,ZCW,Zay,Tv⟩
def ZxX (l:List (Int×Int)):RT (Option (List (Int×Int))):=
 let x1:=runF false Zjj (λa=>Int.toNat (a.1-a.2.1)+1) (iN (Le (ZyZ l)),0,ZyZ l,[],())
 .br (Nat.ble (Le l) most) (.br (ZCX l) (.br (okB x1) (Ls (getO (false,iN (Le (ZyZ l)),0,ZyZ l,[],()) x1).2.2.2.2.1) Ln) Ln) Ln
def ZNG (l:List (Int×Int)):List (Int×Int):=getO ZB3.Df (ZxX l).val
def ZxY (l:List (Int×Int)):Bool:=okB (ZxX l).val
def ZNF:En:=Zh ZNE ZB3 (λa=>some (ZxY a)) (λa=>ZNG a)
theorem ZFh:Zb prog 90 ZNF:=
 pureP 127 [(98,ZuZ),(159,ZJa),(160,ZbS)] [(0,ZFi)] _ _ ⟨ZpJ,ZCW,Zay,Tv⟩ Tryz.func90 Tryz.call90 ⟨ZH0,Tv⟩
abbrev Zl6:Rs:=Rs.one (So R.bool)
def ZNy:LS:={n:=31,Sl:=[(0,.code (So rcCE)),(2,.code (So R.bool)),(5,.code (So rcCE)),(6,.code (So Kc)),(7,.code (So Kc))],Bx:=[],Sg:=[]}
def Zeq (a:List (Int×Int)×Bool×List (Int×Int)×Int×Int×PUnit):RT (Option (Go1 (List (Int×Int)×Bool×List (Int×Int)×Int×Int×PUnit))):=
 let x1:Int×Int:=R.get (R.Pq Kb Ka) a.2.2.1 a.2.2.2.2.1
 let x2:=x1.2==0
 let x3:List (Int×Int)×Int×Int×PUnit:=(a.2.2.1,a.2.2.2.1,a.2.2.2.2.1,PUnit.unit)
 .br (decide (a.2.2.2.2.1<a.2.2.2.1)) (.br (!Zf a.2.2.2.2.1 (Le a.2.2.1)||(x2||(!decide (a.2.2.2.2.1>0)||Zf (i64.wrap (a.2.2.2.2.1-1)) (Le a.1)))) (.br (Zf a.2.2.2.2.1 (Le a.2.2.1)) (.br (x2||decide (a.2.2.2.2.1>0)&&decide (x1.1<=(R.get (R.Pq Kb Ka) a.1 (i64.wrap (a.2.2.2.2.1-1))).1)) (Ls (Go1.ret (a.1,false,x3))) (Ls (Go1.cont (a.1,a.2.1,a.2.2.1,a.2.2.2.1,i64.wrap (a.2.2.2.2.1+1),PUnit.unit)))) Ln) Ln) (Ls (Go1.brk (a.1,a.2.1,x3)))
def ZxW:Ora:=Zbr true ZNy Zeq (λa=>1000000000000)
theorem ZB2:Za1 (envX prog [] [] 31 8) (.block 0 (.loop (Z7 Tryz.f103.body 0))) ZxW:=
 loopP trivial
def Zkw (m:List (Int×Int)):RT (Option (Bool)):=
 let x1:=runF true Zeq (λa=>1000000000000) (m,false,m,iN (Le m),0,())
 let x2:=getO (false,m,false,m,iN (Le m),0,()) x1
 .br (okB x1) (.br x2.1 (Ls x2.2.2.1) (Ls (true))) Ln
def ZoY (m:List (Int×Int)):Bool:=getO Zl6.Df (Zkw m).val
def Zuv (m:List (Int×Int)):Bool:=okB (Zkw m).val
def ZNz:En:=Zh ZNE Zl6 (λa=>some (Zuv a)) (λa=>ZoY a)
theorem ZxV:Zb prog 103 ZNz:=
 pureP 31 [] [(0,ZxW)] _ _ trivial Tryz.func103 Tryz.call103 ⟨ZB2,Tv⟩
def ZKc:LS:={n:=34,Sl:=[(0,.code (So rcCE)),(2,.code (So R.bool)),(5,.code (So Kc)),(6,.code (So Kc))],Bx:=[],Sg:=[]}
def Zed (a:List (Int×Int)×Bool×Int×Int×PUnit):RT (Option (Go1 (List (Int×Int)×Bool×Int×Int×PUnit))):=
 let x1:=(R.get (R.Pq Kb Ka) a.1 a.2.2.2.1).2==0
 let x2:= !Zf a.2.2.2.1 (Le a.1)||(x1||(!decide (a.2.2.2.1>0)||(!Zf a.2.2.2.1 (Le a.1)||Zf (i64.wrap (a.2.2.2.1-1)) (Le a.1))))
 let x3:= !x2
 let x4:= !Zf a.2.2.2.1 (Le a.1)||(x1||(!decide (a.2.2.2.1>0)||Zf a.2.2.2.1 (Le a.1)))
 .br (decide (a.2.2.2.1<a.2.2.1)) (.br (x3||(!x4||Zf a.2.2.2.1 (Le a.1))) (.br (x3||x4) (.br (x2) (.br (x1||decide (a.2.2.2.1>0)&&decide ((R.get (R.Pq Kb Ka) a.1 a.2.2.2.1).1<=(R.get (R.Pq Kb Ka) a.1 (i64.wrap (a.2.2.2.1-1))).1)) (Ls (Go1.ret (a.1,false,a.2.2.1,a.2.2.2.1,PUnit.unit))) (Ls (Go1.cont (a.1,a.2.1,a.2.2.1,i64.wrap (a.2.2.2.1+1),PUnit.unit)))) Ln) Ln) Ln) (Ls (Go1.brk (a.1,a.2.1,a.2.2.1,a.2.2.2.1,PUnit.unit)))
def ZvZ:Ora:=Zbr true ZKc Zed (λa=>1000000000000)
theorem Zzt:Za1 (envX prog [] [] 15 8) (.block 0 (.loop (Z7 Tryz.f105.body 0))) ZvZ:=
 loopP trivial
def Zj5 (m:List (Int×Int)):RT (Option (Bool)):=
 let x1:=runF true Zed (λa=>1000000000000) (m,false,iN (Le m),0,())
 let x2:=getO (false,m,false,iN (Le m),0,()) x1
 .br (okB x1) (.br x2.1 (Ls x2.2.2.1) (Ls (true))) Ln
def Zm0 (m:List (Int×Int)):Bool:=getO Zl6.Df (Zj5 m).val
def Zj6 (m:List (Int×Int)):Bool:=okB (Zj5 m).val
def Zzu:En:=Zh ZNE Zl6 (λa=>some (Zj6 a)) (λa=>Zm0 a)
theorem ZmZ:Zb prog 105 Zzu:=
 pureP 15 [] [(0,ZvZ)] _ _ trivial Tryz.func105 Tryz.call105 ⟨Zzt,Tv⟩
abbrev ZzG:List Sh:=[So rcCE,So Kb]
abbrev Zsu:Rs:=Rs.one (So Ka)
def ZQo:LS:={n:=25,Sl:=[(0,.code (So rcCE)),(1,.code (So Kb)),(4,.code (So Ka)),(5,.code (So Kc))],Bx:=[],Sg:=[]}
def Zg7 (a:List (Int×Int)×Int×Int×Int×PUnit):RT (Option (Go1 (List (Int×Int)×Int×Int×Int×PUnit))):=
 let x1:=(R.get (R.Pq Kb Ka) a.1 a.2.2.2.1).1==a.2.1
 .br (decide (a.2.2.2.1>=0)) (.br (!Zf a.2.2.2.1 (Le a.1)||(!x1||Zf a.2.2.2.1 (Le a.1))) (.br (Zf a.2.2.2.1 (Le a.1)) (.br (x1) (Ls (Go1.ret (a.1,a.2.1,(R.get (R.Pq Kb Ka) a.1 a.2.2.2.1).2,a.2.2.2.1,PUnit.unit))) (Ls (Go1.cont (a.1,a.2.1,a.2.2.1,i64.wrap (a.2.2.2.1-1),PUnit.unit)))) Ln) Ln) (Ls (Go1.brk (a.1,a.2.1,a.2.2.1,a.2.2.2.1,PUnit.unit)))
def ZDO:Ora:=Zbr true ZQo Zg7 (λa=>1000000000000)
theorem ZGl:Za1 (envX prog [] [] 63 8) (.block 0 (.loop (Z7 Tryz.f60.body 0))) ZDO:=
 loopP trivial
def ZqL (m:List (Int×Int)) (t:Int):RT (Option (Int)):=
 let x1:List (Int×Int)×Int×Int×Int×PUnit:=(m,t,0,i64.wrap (iN (Le m)-1),())
 let x2:=runF true Zg7 (λa=>1000000000000) x1
 let x3:=getO (false,x1) x2
 .br (okB x2) (.br x3.1 (Ls x3.2.2.2.1) (Ls (0))) Ln
def ZUY (m:List (Int×Int)) (t:Int):Int:=getO Zsu.Df (ZqL m t).val
def ZKt (m:List (Int×Int)) (t:Int):Bool:=okB (ZqL m t).val
def ZXL:En:=Zh ZzG Zsu (λa=>some (ZKt a.1 a.2)) (λa=>ZUY a.1 a.2)
theorem ZQn:Zb prog 60 ZXL:=
 pureP 63 [] [(0,ZDO)] _ _ trivial Tryz.func60 Tryz.call60 ⟨ZGl,Tv⟩
abbrev ZKi:List Sh:=[So rcCE,Sh.agg (R.Pq Kb Ka)]
def ZQh:LS:={n:=53,Sl:=[(3,.fix (A.loc 0 0)),(5,.tip 0),(6,.code (So R.bool)),(9,.code (So rcCE)),(10,.code (So Kc)),(11,.code (So Kc))],Bx:=[[.many (R.Pq Kb Ka)]],Sg:=[⟨(R.Pq Kb Ka),75,true⟩]}
def ZiG (a:QT9):RT (Option (Go1 (QT9))):=
 let x1:Int×Int:=R.get (R.Pq Kb Ka) a.2.1 a.2.2.2.1
 let x2:=x1.1
 let x3:= !a.1&&decide (x2>=a.2.2.2.2.1.1)
 let x4:List (Int×Int):=a.2.2.2.2.2.1++[a.2.2.2.2.1]
 let x5:= !x3||(!a.2.2.2.2.1.2 !=0||Nat.ble (Le x4) most)
 let x6:=x2 !=a.2.2.2.2.1.1
 let x7:List (Int×Int):=bif x3 then bif a.2.2.2.2.1.2 !=0 then x4 else a.2.2.2.2.2.1 else a.2.2.2.2.2.1
 let x8:List (Int×Int):=x7++[x1]
 .br (decide (a.2.2.2.1<a.2.2.1)) (.br (!Zf a.2.2.2.1 (Le a.2.1)||(!x5||(!x6||Nat.ble (Le x8) most))) (.br (!Zf a.2.2.2.1 (Le a.2.1)||x5) (.br (Zf a.2.2.2.1 (Le a.2.1)) (Ls (Go1.cont (x3||a.1,a.2.1,a.2.2.1,i64.wrap (a.2.2.2.1+1),a.2.2.2.2.1,bif x6 then x8 else x7,PUnit.unit))) Ln) Ln) Ln) (Ls (Go1.brk (a.1,a.2.1,a.2.2.1,a.2.2.2.1,a.2.2.2.2.1,a.2.2.2.2.2.1,PUnit.unit)))
def ZDA:Ora:=Zbr false ZQh ZiG (λa=>1000000000000)
theorem ZGh:Za1 (envX prog [] [] 511 8) (.block 0 (.loop (Z7 Tryz.f165.body 0))) ZDA:=
 loopP trivial
def ZqH (m:List (Int×Int)) (c:Int×Int):RT (Option (List (Int×Int))):=
 let x1:QT9:=(false,m,iN (Le m),0,c,[],())
 let x2:=runF false ZiG (λa=>1000000000000) x1
 let x3:QT9:=(getO (false,x1) x2).2
 let x4:=x3.2.2.2.2
 let x5:=x4.1
 let x6:= !x3.1&&x5.2 !=0
 let x7:=x4.2.1
 let x8:List (Int×Int):=x7++[x5]
 .br (okB x2) (.br (!x6||Nat.ble (Le x8) most) (Ls (bif x6 then x8 else x7)) Ln) Ln
def ZKk (m:List (Int×Int)) (c:Int×Int):List (Int×Int):=getO ZB3.Df (ZqH m c).val
def Zv2 (m:List (Int×Int)) (c:Int×Int):Bool:=okB (ZqH m c).val
def ZKj:En:=Zh ZKi ZB3 (λa=>some (Zv2 a.1 a.2)) (λa=>ZKk a.1 a.2)
theorem ZDz:Zb prog 165 ZKj:=
 pureP 511 [] [(0,ZDA)] _ _ trivial Tryz.func165 Tryz.call165 ⟨ZGh,Tv⟩
def ZQl:LS:={n:=21,Sl:=[(3,.code (So rcCE)),(10,.code (So rcCE)),(11,.code (So Kc)),(12,.code (So Kc))],Bx:=[],Sg:=[]}
def ZiI (a:List (Int×Int)×List (Int×Int)×Int×Int×PUnit):RT (Option (Go1 (List (Int×Int)×List (Int×Int)×Int×Int×PUnit))):=
 let x1:Int×Int:=R.get (R.Pq Kb Ka) a.2.1 a.2.2.2.1
 .br (decide (a.2.2.2.1<a.2.2.1)) (.br (!Zf a.2.2.2.1 (Le a.2.1)||Zv2 a.1 x1) (.br (Zf a.2.2.2.1 (Le a.2.1)) (Ls (Go1.cont (ZKk a.1 x1,a.2.1,a.2.2.1,i64.wrap (a.2.2.2.1+1),PUnit.unit))) Ln) Ln) (Ls (Go1.brk (a.1,a.2.1,a.2.2.1,a.2.2.2.1,PUnit.unit)))
def ZDD:Ora:=Zbr false ZQl ZiI (λa=>1000000000000)
theorem ZGj:Za1 (envX prog [(105,Zzu),(165,ZKj)] [] 63 8) (.block 0 (.loop (Z7 Tryz.f93.body 0))) ZDD:=
 loopP ⟨ZmZ,ZDz,Tv⟩
def ZqI (l:List (Int×Int)):RT (Option (List (Int×Int))):=
 let x1:=runF false ZiI (λa=>1000000000000) ([],l,iN (Le l),0,())
 .br (Zj6 l) (.br (!Zm0 l||Nat.ble (Le ([]++l)) most) (.br (Zm0 l) (Ls ([]++l)) (.br (okB x1) (Ls (getO (false,[],l,iN (Le l),0,()) x1).2.1) Ln)) Ln) Ln
def ZUX (l:List (Int×Int)):List (Int×Int):=getO ZB3.Df (ZqI l).val
def ZKo (l:List (Int×Int)):Bool:=okB (ZqI l).val
def ZXG:En:=Zh ZNE ZB3 (λa=>some (ZKo a)) (λa=>ZUX a)
theorem ZQk:Zb prog 93 ZXG:=
 pureP 63 [(105,Zzu),(165,ZKj)] [(0,ZDD)] _ _ ⟨ZmZ,ZDz,Tv⟩ Tryz.func93 Tryz.call93 ⟨ZGj,Tv⟩
def ZiJ (a:QT16):RT (Option (Go1 (QT16))):=
 let x1:QT7:=R.get (R.Pq Kb (R.Pq Kb (R.Pq R.bool Kc))) a.2.2.1 a.2.2.2.2.1
 let x2:List (QT7)×Int×Int×PUnit:=(a.2.2.1,a.2.2.2.1,a.2.2.2.2.1,PUnit.unit)
 .br (decide (a.2.2.2.2.1<a.2.2.2.1)) (.br (Zf a.2.2.2.2.1 (Le a.2.2.1)) (.br (decide (x1.1<=a.1)&&decide (a.1<=x1.2.1)) (Ls (Go1.ret (a.1,a.2.2.2.2.1,x2))) (Ls (Go1.cont (a.1,a.2.1,a.2.2.1,a.2.2.2.1,i64.wrap (a.2.2.2.2.1+1),PUnit.unit)))) Ln) (Ls (Go1.brk (a.1,a.2.1,x2)))
def ZqM (l:List (QT7)) (t:Int):RT (Option (Int)):=
 let x1:=runF true ZiJ (λa=>1000000000000) (t,0,l,iN (Le l),0,())
 let x2:=getO (false,t,0,l,iN (Le l),0,()) x1
 .br (okB x1) (.br x2.1 (Ls x2.2.2.1) (Ls (-1))) Ln
def ZU0 (l:List (QT7)) (t:Int):Int:=getO ZSL.Df (ZqM l t).val
def ZKx (l:List (QT7)) (t:Int):Bool:=okB (ZqM l t).val
abbrev ZMv:List Sh:=[So rcRG,So Kb]
def ZRc:LS:={n:=26,Sl:=[(1,.code (So Kb)),(4,.code (So Kc)),(7,.code (So rcRG)),(8,.code (So Kc)),(9,.code (So Kc))],Bx:=[],Sg:=[]}
def ZEM (a:QT16):RT (Option (Go1 (QT16))):=
 let x1:QT7:=R.get (R.Pq Kb (R.Pq Kb (R.Pq R.bool Kc))) a.2.2.1 a.2.2.2.2.1
 let x2:List (QT7)×Int×Int×PUnit:=(a.2.2.1,a.2.2.2.1,a.2.2.2.2.1,PUnit.unit)
 .br (decide (a.2.2.2.2.1<a.2.2.2.1)) (.br (Zf a.2.2.2.2.1 (Le a.2.2.1)) (.br (decide (x1.1<=a.1)&&decide (a.1<=x1.2.1)) (Ls (Go1.ret (a.1,a.2.2.2.2.1,x2))) (Ls (Go1.cont (a.1,a.2.1,a.2.2.1,a.2.2.2.1,i64.wrap (a.2.2.2.2.1+1),PUnit.unit)))) Ln) (Ls (Go1.brk (a.1,a.2.1,x2)))
def ZEN:Ora:=Zbr true ZRc ZEM (λa=>1000000000000)
theorem ZG1:Za1 (envX prog [] [] 127 8) (.block 0 (.loop (Z7 Tryz.f209.body 0))) ZEN:=
 loopP trivial
def ZEL (l:List (QT7)) (t:Int):RT (Option (Int)):=
 let x1:=runF true ZEM (λa=>1000000000000) (t,0,l,iN (Le l),0,())
 let x2:=getO (false,t,0,l,iN (Le l),0,()) x1
 .br (okB x1) (.br x2.1 (Ls x2.2.2.1) (Ls (-1))) Ln
def Zp5 (l:List (QT7)) (t:Int):Int:=getO ZSL.Df (ZEL l t).val
def Zxl (l:List (QT7)) (t:Int):Bool:=okB (ZEL l t).val
def ZEO:En:=Zh ZMv ZSL (λa=>some (Zxl a.1 a.2)) (λa=>Zp5 a.1 a.2)
theorem Ztz:Zb prog 209 ZEO:=
 pureP 127 [] [(0,ZEN)] _ _ trivial Tryz.func209 Tryz.call209 ⟨ZG1,Tv⟩
end
end Go.Proofs.YtpnjbfjomebppaaGreat
namespace Go.Proofs.Cells
def getX (l:List Cell) (a:Int):Int:=((flt a l).getLast?.map Prod.snd).getD 0
def Vld (m:List Cell):Prop:=m.Pairwise (λa b=>a.1<b.1)/\∀c∈m,c.2≠0
variable {l:List Cell}
theorem ZIb {l':List Cell} (h:Sm l l') (a:Int):getX l a=getX l' a:=by rw[getX,getX,h a]
variable {m:List Cell}
theorem Vld.srt (h:Vld m):Srt m:=h.1.imp λh=>Int.le_of_lt h
theorem Vld.tail {c:Cell} (h:Vld (c::m)):Vld m:=⟨(YB.1 h.1).2,λx hx=>h.2 x (YS _ hx)⟩
theorem ZFv (a:Int):getX [] a=0:=rfl
theorem Zl8 (a:Int) (c:Cell) (l:List Cell):flt a (c::l)=if c.1=a then c::flt a l else flt a l:=by by_cases h:c.1=a<;>simp[flt,h]
theorem Zeu (c:Cell) (l:List Cell) (a:Int):getX (c::l) a=if c.1=a/\flt a l=[] then c.2 else getX l a:=by
 simp only[getX,Zl8];by_cases h:c.1=a
 ·simp only[h,if_true,true_and];cases hf:flt a l with
  |nil=>simp
  |cons x r=>simp[List.getLast?_cons_cons]
 ·simp[h]
theorem Vld.flt {m:List Cell} (h:Vld m) (a:Int):Cells.flt a m=if getX m a=0 then [] else [(a,getX m a)]:=by
 induction m with
 |nil=>simp[Cells.flt,ZFv]
 |cons c m ih=>
  have ih:=ih h.tail;have h1:=YB.1 h.1;by_cases hc:c.1=a
  ·have hn:Cells.flt a m=[]:=Zev λx hx=>by have:=h1.1 x hx;omega
   have hz:=h.2 c (by simp);rw[Zl8,Zeu];simp only[hc,hn,and_self,if_true,hz,if_false];rw[<-hc]
  ·rw[Zl8,Zeu];simp only[hc,false_and,if_false,ih]
theorem ZT3 {m':List Cell} (h:Vld m) (h':Vld m') (e:∀a,getX m a=getX m' a):m=m':=
 uniq h.srt h'.srt λk=>by rw[h.flt,h'.flt,e k]
def dd:List Cell->List Cell
 |[]=>[]
 |x::r=>match r with
  |[]=>if x.2=0 then [] else [x]
  |y::_=>if x.1=y.1 then dd r else if x.2=0 then dd r else x::dd r
theorem Zrp:∀{l:List Cell} {c:Cell},c∈dd l->c∈l/\c.2≠0
 |[],c,h=>by simp[dd] at h
 |[x],c,h=>by
  simp only[dd] at h;split at h
  ·simp at h
  ·rename_i hz;simp at h;subst h;exact⟨by simp,hz⟩
 |x::y::r,c,h=>by
  rw[dd] at h;split at h
  ·have:=Zrp h;exact⟨YS _ this.1,this.2⟩
  ·split at h
   ·have:=Zrp h;exact⟨YS _ this.1,this.2⟩
   ·rename_i hz;rcases Yx.1 h with e|e
    ·subst e;exact⟨by simp,hz⟩
    ·have:=Zrp e;exact⟨YS _ this.1,this.2⟩
theorem ZTO:∀{l:List Cell},Srt l->Vld (dd l)
 |[],_=>⟨Yan,λc h=>by simp[dd] at h⟩
 |[x],_=>by refine⟨?_,λc h=>(Zrp h).2⟩;simp only[dd];split<;>simp
 |x::y::r,h=>by
  have h1:=YB.1 h;have ih:=ZTO (l:=y::r) h1.2;have h2:=YB.1 h1.2;rw[dd];split
  ·exact ih
  ·rename_i hne;split
   ·exact ih
   ·rename_i hz;refine⟨YB.2 ⟨λc hc=> ?_,ih.1⟩,λc hc=> ?_⟩
    ·have hxy:=h1.1 y (by simp);rcases Yx.1 (Zrp hc).1 with e|e
     ·rw[e];omega
     ·have:=h2.1 c e;omega
    ·rcases Yx.1 hc with e|e
     ·rw[e];exact hz
     ·exact ih.2 c e
theorem ZTP:∀{l:List Cell},Srt l->∀a,getX (dd l) a=getX l a
 |[],_,_=>rfl
 |[x],_,a=>by
  simp only[dd];split
  ·rename_i hz;rw[Zeu];simp[flt,getX,hz]
  ·rfl
 |x::y::r,h,a=>by
  have h1:=YB.1 h;have ih:=ZTP (l:=y::r) h1.2 a;have h2:=YB.1 h1.2;rw[dd,Zeu x (y::r)];by_cases hxy:x.1=y.1
  ·rw[YZ hxy,ih];by_cases hc:x.1=a/\flt a (y::r)=[]
   ·obtain⟨e,e2⟩:=hc;rw[Zl8,YZ (by rw[<-hxy];exact e)] at e2;simp at e2
   ·rw[Y1 hc]
  ·rw[Y1 hxy];have hlt:∀c∈y::r,x.1<c.1:=λc hc=>by
    have:=h1.1 y (by simp);rcases Yx.1 hc with e|e
    ·rw[e];omega
    ·have:=h2.1 c e;omega
   by_cases hc:x.1=a
   ·have hn:flt a (y::r)=[]:=Zev λc hc'=>by have:=hlt c hc';omega
    have hn2:flt a (dd (y::r))=[]:=Zev λc hc'=>by have:=hlt c (Zrp hc').1;omega
    by_cases hz:x.2=0
    ·rw[YZ hz,YZ ⟨hc,hn⟩,hz,getX,hn2];rfl
    ·rw[Y1 hz,YZ ⟨hc,hn⟩,Zeu,YZ ⟨hc,hn2⟩]
   ·by_cases hz:x.2=0
    ·rw[YZ hz,Y1 (λh=>hc h.1),ih]
    ·rw[Y1 hz,Y1 (λh=>hc h.1),Zeu,Y1 (λh=>hc h.1),ih]
def putX:List Cell->Cell->List Cell
 |[],c=>if c.2=0 then [] else [c]
 |x::r,c=>if x.1<c.1 then x::putX r c else if c.2=0 then (if x.1=c.1 then r else x::r) else if x.1=c.1 then c::r else c::x::r
theorem Zsz:∀{m:List Cell} {c x:Cell},x∈putX m c->x=c\/x∈m
 |[],c,x,h=>by
  simp only[putX] at h;split at h
  ·simp at h
  ·left;simpa using h
 |y::r,c,x,h=>by
  simp only[putX] at h;split at h
  ·rcases Yx.1 h with e|e
   ·right;simp[e]
   ·rcases Zsz e with e|e
    ·exact .inl e
    ·right;simp[e]
  ·split at h
   ·split at h
    ·right;simp[h]
    ·right;exact h
   ·split at h
    ·rcases Yx.1 h with e|e
     ·exact .inl e
     ·right;simp[e]
    ·rcases Yx.1 h with e|e
     ·exact .inl e
     ·right;exact e
theorem ZDT:∀{m:List Cell} {c:Cell},Vld m->Vld (putX m c)
 |[],c,_=>by
  simp only[putX];split
  ·exact⟨Yan,λc h=>by simp at h⟩
  ·rename_i hz;exact⟨by simp,λx h=>by simp at h;rw[h];exact hz⟩
 |y::r,c,h=>by
  have h1:=YB.1 h.1;have hy:=h.2 y (by simp);simp only[putX];split
  ·rename_i hlt;have ih:=ZDT (c:=c) h.tail;refine⟨YB.2 ⟨λx hx=> ?_,ih.1⟩,λx hx=> ?_⟩
   ·rcases Zsz hx with e|e
    ·rw[e];exact hlt
    ·exact h1.1 x e
   ·rcases Yx.1 hx with e|e
    ·rw[e];exact hy
    ·exact ih.2 x e
  ·rename_i hge;split
   ·split
    ·exact h.tail
    ·exact h
   ·rename_i hz;split
    ·rename_i he;refine⟨YB.2 ⟨λx hx=> ?_,h1.2⟩,λx hx=> ?_⟩
     ·have:=h1.1 x hx;omega
     ·rcases Yx.1 hx with e|e
      ·rw[e];exact hz
      ·exact h.2 x (YS _ e)
    ·rename_i hne;refine⟨YB.2 ⟨λx hx=> ?_,h.1⟩,λx hx=> ?_⟩
     ·rcases Yx.1 hx with e|e
      ·rw[e];omega
      ·have:=h1.1 x e;omega
     ·rcases Yx.1 hx with e|e
      ·rw[e];exact hz
      ·exact h.2 x e
theorem Zju {a:Int} (h:∀c∈l,c.1≠a):getX l a=0:=by rw[getX,Zev h];rfl
theorem Zd7 {x:Cell} {r:List Cell} (h:∀c∈r,x.1<c.1) (a:Int):getX (x::r) a=if x.1=a then x.2 else getX r a:=by
 rw[Zeu];by_cases hx:x.1=a
 ·have:flt a r=[]:=Zev λc hc=>by have:=h c hc;omega
  simp[hx,this]
 ·simp[hx]
theorem ZDU:∀{m:List Cell} {c:Cell},Vld m->∀a,getX (putX m c) a=if c.1=a then c.2 else getX m a
 |[],c,_,a=>by
  simp only[putX];split
  ·rename_i hz;rw[ZFv,hz];simp
  ·rw[Zd7 (by simp)]
 |y::r,c,h,a=>by
  have h1:=YB.1 h.1;simp only[putX];split
  ·rename_i hlt
   rw[Zd7 (λx hx=>by
    rcases Zsz hx with e|e
    ·rw[e];exact hlt
    ·exact h1.1 x e),Zd7 h1.1,ZDU h.tail a]
   by_cases e1:y.1=a
   ·simp only[e1,if_true];rw[Y1 (by omega)]
   ·simp[e1]
  ·rename_i hge;split
   ·rename_i hz;split
    ·rename_i he;rw[Zd7 h1.1];by_cases e:c.1=a
     ·rw[YZ e,hz];exact Zju λx hx=>by have:=h1.1 x hx;omega
     ·rw[Y1 e,Y1 (by omega)]
    ·rename_i hne;by_cases e:c.1=a
     ·rw[YZ e,hz];exact Zju λx hx=>by
       rcases Yx.1 hx with e'|e'
       ·rw[e'];omega
       ·have:=h1.1 x e';omega
     ·rw[Y1 e]
   ·split
    ·rename_i he;rw[Zd7 (λx hx=>by have:=h1.1 x hx;omega),Zd7 h1.1];by_cases e:c.1=a
     ·simp[e]
     ·rw[Y1 e,Y1 e,Y1 (by omega)]
    ·rename_i hne
     rw[Zd7 (λx hx=>by
      rcases Yx.1 hx with e|e
      ·rw[e];omega
      ·have:=h1.1 x e;omega)]
def normX (l:List Cell):List Cell:=l.foldl putX []
theorem ZOd (l:List Cell) (c:Cell) (a:Int):getX (l++[c]) a=if c.1=a then c.2 else getX l a:=by
 rw[getX,getX,ZdE];by_cases h:c.1=a
 ·have:flt a [c]=[c]:=by simp[flt,h]
  rw[this,List.getLast?_append];simp[h]
 ·have:flt a [c]=[]:=Zev λx hx=>by simp at hx;rw[hx];exact h
  rw[this];simp[h]
theorem Zps:∀(l:List Cell) {m:List Cell},Vld m->Vld (l.foldl putX m)/\∀a,getX (l.foldl putX m) a=getX (m++l) a
 |[],m,h=>⟨h,λa=>by simp⟩
 |c::l,m,h=>by
  obtain⟨h1,h2⟩:=Zps l (ZDT (c:=c) h);refine⟨h1,λa=> ?_⟩;rw[List.foldl_cons,h2 a];have e:m++c::l=(m++[c])++l:=by simp
  rw[e];have key:∀{p q:List Cell},(∀b,getX p b=getX q b)->∀l b,getX (p++l) b=getX (q++l) b:=by
   intro p q hpq l b;simp only[getX,ZdE,List.getLast?_append];cases hl:(flt b l).getLast? with
   |none=>simpa [getX] using hpq b
   |some x=>simp
  exact key (λb=>by rw[ZDU h,ZOd]) l a
theorem Zi9 (l:List Cell):Vld (normX l):=(Zps l ⟨Yan,λc h=>by simp at h⟩).1
theorem ZNf (l:List Cell) (a:Int):getX (normX l) a=getX l a:=(Zps l ⟨Yan,λc h=>by simp at h⟩).2 a
theorem ZE1 (h:Vld m) (e:∀a,getX m a=getX l a):normX l=m:=ZT3 (Zi9 l) h λa=>by rw[ZNf,e]
theorem Zhc (h:Vld m):normX m=m:=ZE1 h λ_=>rfl
theorem ZHK (l:List Cell):dd (isort l)=normX l:=
 (ZE1 (ZTO (Zb1 l)) λa=>by rw[ZTP (Zb1 l),ZIb (ZfI l)]).symm
end Go.Proofs.Cells
open Go Go.S3 Go.Proofs Go.Proofs.Cells
namespace Go.Proofs.YtpnjbfjomebppaaGreat
noncomputable section
abbrev ZT:=QT7
theorem ZuQ (l:List Cell) (i:Nat) (h:i<l.length):l.drop i=el l i::l.drop (i+1):=by rw[Y7 h];have:=Zc8 l i h;rw[Yh h,oinj] at this;rw[this]
theorem Zy4 (l:List Cell) (i:Nat) (h:i<l.length):l.take (i+1)=l.take i++[el l i]:=by rw[Yau,Zc8 l i h];rfl
theorem ZYL (l:List Cell) (i:Nat) (h:i<l.length):el l i∈l:=Ya0.2 ⟨i,Zc8 l i h⟩
def okAt (m:List Cell) (i:Nat):Bool:= !((el m i).2==0||(decide ((i:Int)>0)&&decide ((el m i).1<=(el m (i-1)).1)))
def vldB (m:List Cell):Bool:=(List.range m.length).all (okAt m)
variable {m:List Cell} {i:Nat}
theorem Zqf (hi:i<m.length) (h:okAt m i=false):vldB m=false:=by rw[YK];intro he;have:=YW.1 he i (YaA.2 hi);rw[h] at this;exact absurd this (by simp)
theorem Zmp (h:∀i,i<m.length->okAt m i=true):vldB m=true:=YW.2 λi hi=>h i (YaA.1 hi)
theorem Ziq:vldB m=true↔Vld m:=by
 constructor
 ·intro h;have ha:∀i,i<m.length->okAt m i=true:=λi hi=>YW.1 h i (YaA.2 hi)
  have hs:∀i,i+1<m.length->(el m i).1<(el m (i+1)).1:=λi hi=>by
   have:=ha (i+1) hi;simp only[okAt,YH,Yn,Yas,Yaa,Nat.add_sub_cancel] at this;rcases this.2 with e|e
   ·omega
   ·omega
  refine⟨?_,λc hc=> ?_⟩
  ·rw[YaG];have key:∀d i,i+d+1<m.length->(el m i).1<(el m (i+d+1)).1:=by
    intro d
    induction d with
    |zero=>intro i hi;exact hs i hi
    |succ d ih=>intro i hi;have h1:=ih i (by omega);have h2:=hs (i+d+1) (by omega);rw[show i+(d+1)+1=i+d+1+1 by omega];omega
   intro i j hi hj hij;have:=key (j-i-1) i (by omega);rw[show i+(j-i-1)+1=j by omega] at this;have e1:=Zc8 m i hi;have e2:=Zc8 m j hj;rw[Yh hi,oinj] at e1;rw[Yh hj,oinj] at e2;rw[e1,e2];exact this
  ·obtain⟨i,hi⟩:=Ya0.1 hc;have hlt:=(YD.1 hi).1;rw[Zc8 m i hlt,oinj] at hi;have:=ha i hlt;rw[<-hi];simp only[okAt,YH,Yn,beq_eq_false_iff_ne] at this;exact this.1
 ·intro h;refine Zmp λi hi=> ?_
  simp only[okAt,YH,Yn,beq_eq_false_iff_ne,Yas,Yaa];refine⟨h.2 _ (ZYL m i hi),?_⟩;by_cases h0:i=0
  ·left;omega
  ·right;have:=YaG.1 h.1 (i-1) i (by omega) hi (by omega);have e1:=Zc8 m (i-1) (by omega);have e2:=Zc8 m i hi;rw[Yh (by omega),oinj] at e1;rw[Yh hi,oinj] at e2;rw[e1,e2] at this;omega
theorem ZW1 (i:Nat) (h:0<i) (h2:i<=4611686018427387904):IntKind.wrap .i64 ((i:Int)-1)=((i-1:Nat):Int):=by rw[wrap_i64 _ (by omega) (by omega)];omega
theorem ZNd (m:List Cell) (i:Nat):((el m i).2==0||(decide ((i:Int)>0)&&decide ((el m i).1<=(el m (i-1)).1)))= !okAt m i:=by simp only[okAt,Bool.not_not]
theorem ZHV (m:List Cell) (hm:m.length<=most):(Zkw m).val=some (vldB m):=by
 have hms:=mst;obtain⟨r,hr,hR⟩:=ZI (fl:=true) (t:=Zeq) (fuel:=λa=>1000000000000)
  (I:=λa=>∃i:Nat,i<=m.length/\(∀k,k<i->okAt m k=true)/\a=(m,false,m,(m.length:Int),(i:Int),()))
  (m:=λa=>Int.toNat (a.2.2.2.1-a.2.2.2.2.1)) (R:=λr=>(r.1=false/\vldB m=true)\/(r.1=true/\vldB m=false/\r.2.2.1=false))
  (λa hi=>by
   obtain⟨i,hi,hk,rfl⟩:=hi;by_cases hlt:i<m.length
   ·have d:decide ((i:Int)<(m.length:Int))=true:=by simpa using hlt
    have r1:=ZaP m i hlt;have hw:decide ((i:Int)>0)=true->Zf (IntKind.wrap .i64 ((i:Int)-1)) m.length=true/\IntKind.wrap .i64 ((i:Int)-1)=((i-1:Nat):Int):=λh=>by simp only[Yk] at h;have e:=ZW1 i (by omega) (by omega);exact⟨by rw[e];exact ZaP m (i-1) (by omega),e⟩
    have hck:((el m i).2==0||(!decide ((i:Int)>0)||Zf (IntKind.wrap .i64 ((i:Int)-1)) m.length))=true:=by
     cases h:decide ((i:Int)>0) with
     |false=>simp
     |true=>rw[(hw h).1];simp
    have hcd:((el m i).2==0||(decide ((i:Int)>0)&&decide ((el m i).1<=(R.get CR m (IntKind.wrap .i64 ((i:Int)-1))).1)))= !okAt m i:=by
     rw[<-ZNd];cases h:decide ((i:Int)>0) with
     |false=>simp
     |true=>rw[(hw h).2,ZcX]
    cases ho:okAt m i with
    |true=>
     left;refine⟨(m,false,m,(m.length:Int),((i+1:Nat):Int),()),?_,⟨i+1,hlt,λk hk'=> ?_,rfl⟩,by simp only;omega⟩
     ·rw[ho] at hcd;simp only[Zeq,RT.val,d,r1,ZcX,hck,hcd,Yf,Yi,Ya,Yb,Zik i (by omega)]
     ·by_cases e:k=i
      ·subst e;exact ho
      ·exact hk k (by omega)
    |false=>
     right;right;refine⟨(m,false,m,(m.length:Int),(i:Int),()),rfl,?_,.inr ⟨rfl,Zqf hlt ho,rfl⟩⟩;rw[ho] at hcd;simp only[Zeq,RT.val,d,r1,ZcX,hck,hcd,Yf,Yl,Yi,Ya,Yb]
   ·right;left;have d:decide ((i:Int)<(m.length:Int))=false:=by simpa using hlt
    exact⟨(m,false,m,(m.length:Int),(i:Int),()),by simp only[Zeq,RT.val,d,Yb],.inl ⟨rfl,Zmp λk hk'=>hk k (by omega)⟩⟩)
  (m,false,m,(m.length:Int),0,()) ⟨0,Yq _,λk h=>by omega,rfl⟩ (by simp only;omega)
 have hr':runF true Zeq (λa=>1000000000000) (m,false,m,iN m.length,0,())=some r:=hr;rcases hR with ⟨h1,h2⟩|⟨h1,h2,h3⟩
 ·simp only[Zkw,RT.val,hr',okB,getO,Ya,h1,Yb,h2]
 ·simp only[Zkw,RT.val,hr',okB,getO,Ya,h1,h2,h3]
theorem ZqB (m:List Cell) (hm:m.length<=most):(Zj5 m).val=some (vldB m):=by
 have hms:=mst;obtain⟨r,hr,hR⟩:=ZI (fl:=true) (t:=Zed) (fuel:=λa=>1000000000000)
  (I:=λa=>∃i:Nat,i<=m.length/\(∀k,k<i->okAt m k=true)/\a=(m,false,(m.length:Int),(i:Int),()))
  (m:=λa=>Int.toNat (a.2.2.1-a.2.2.2.1)) (R:=λr=>(r.1=false/\vldB m=true)\/(r.1=true/\vldB m=false/\r.2.2.1=false))
  (λa hi=>by
   obtain⟨i,hi,hk,rfl⟩:=hi;by_cases hlt:i<m.length
   ·have d:decide ((i:Int)<(m.length:Int))=true:=by simpa using hlt
    have r1:=ZaP m i hlt;have hw:decide ((i:Int)>0)=true->Zf (IntKind.wrap .i64 ((i:Int)-1)) m.length=true/\IntKind.wrap .i64 ((i:Int)-1)=((i-1:Nat):Int):=λh=>by simp only[Yk] at h;have e:=ZW1 i (by omega) (by omega);exact⟨by rw[e];exact ZaP m (i-1) (by omega),e⟩
    have hck:((el m i).2==0||(!decide ((i:Int)>0)||Zf (IntKind.wrap .i64 ((i:Int)-1)) m.length))=true:=by
     cases h:decide ((i:Int)>0) with
     |false=>simp
     |true=>rw[(hw h).1];simp
    have hcd:((el m i).2==0||(decide ((i:Int)>0)&&decide ((el m i).1<=(R.get CR m (IntKind.wrap .i64 ((i:Int)-1))).1)))= !okAt m i:=by
     rw[<-ZNd];cases h:decide ((i:Int)>0) with
     |false=>simp
     |true=>rw[(hw h).2,ZcX]
    cases ho:okAt m i with
    |true=>
     left;refine⟨(m,false,(m.length:Int),((i+1:Nat):Int),()),?_,⟨i+1,hlt,λk hk'=> ?_,rfl⟩,by simp only;omega⟩
     ·rw[ho] at hcd;simp only[Zed,RT.val,d,r1,ZcX,hck,hcd,Yf,Yi,Yj,Ya,Yb,Zik i (by omega)]
     ·by_cases e:k=i
      ·subst e;exact ho
      ·exact hk k (by omega)
    |false=>
     right;right;refine⟨(m,false,(m.length:Int),(i:Int),()),rfl,?_,.inr ⟨rfl,Zqf hlt ho,rfl⟩⟩;rw[ho] at hcd;simp only[Zed,RT.val,d,r1,ZcX,hck,hcd,Yf,Yl,Yi,Yj,Ya,Yb]
   ·right;left;have d:decide ((i:Int)<(m.length:Int))=false:=by simpa using hlt
    exact⟨(m,false,(m.length:Int),(i:Int),()),by simp only[Zed,RT.val,d,Yb],.inl ⟨rfl,Zmp λk hk'=>hk k (by omega)⟩⟩)
  (m,false,(m.length:Int),0,()) ⟨0,Yq _,λk h=>by omega,rfl⟩ (by simp only;omega)
 have hr':runF true Zed (λa=>1000000000000) (m,false,iN m.length,0,())=some r:=hr;rcases hR with ⟨h1,h2⟩|⟨h1,h2,h3⟩
 ·simp only[Zj5,RT.val,hr',okB,getO,Ya,h1,Yb,h2]
 ·simp only[Zj5,RT.val,hr',okB,getO,Ya,h1,h2,h3]
variable {t:Int}
theorem ZOe (hi:i<m.length) (he:(el m i).1=t) (hk:∀k,i<k->k<m.length->(el m k).1≠t):getX m t=(el m i).2:=by
 have e:m=m.take i++[el m i]++m.drop (i+1):=by rw[Yp,List.singleton_append,<-ZuQ m i hi,Yak]
 have h0:flt t (m.drop (i+1))=[]:=Zev λc hc=>by obtain⟨k,h1,h2,rfl⟩:=Zjg hc;exact hk k (by omega) h2
 have h1:flt t [el m i]=[el m i]:=by simp[flt,he]
 have h2:flt t m=flt t (m.take i)++[el m i]:=by conv=>lhs;rw[e,ZdE,ZdE,h0,h1,YC]
 rw[getX,h2,List.getLast?_append];simp
theorem ZP8 (m:List Cell) (t:Int) (hm:m.length<=most):(ZqL m t).val=some (getX m t):=by
 have hms:=mst;obtain⟨r,hr,hR⟩:=ZI (fl:=true) (t:=Zg7) (fuel:=λa=>1000000000000)
  (I:=λa=>∃i:Nat,i<=m.length/\(∀k,i<=k->k<m.length->(el m k).1≠t)/\a=(m,t,0,(i:Int)-1,()))
  (m:=λa=>Int.toNat (a.2.2.2.1+1)) (R:=λr=>(r.1=false/\getX m t=0)\/(r.1=true/\r.2.2.2.1=getX m t))
  (λa hi=>by
   obtain⟨i,hi,hk,rfl⟩:=hi;cases i with
   |zero=>
    right;left;refine⟨(m,t,0,((0:Nat):Int)-1,()),by simp[Zg7,RT.val],.inl ⟨rfl,Zju λc hc=> ?_⟩⟩;obtain⟨k,hk'⟩:=Ya0.1 hc;have hlt:=(YD.1 hk').1;rw[Zc8 m k hlt,oinj] at hk';rw[<-hk'];exact hk k (Yq _) hlt
   |succ i=>
    have ei:((i+1:Nat):Int)-1=(i:Int):=by omega
    rw[ei];have d:decide ((i:Int)>=0)=true:=by simp
    have r1:=ZaP m i (by omega);cases he:((el m i).1==t) with
    |true=>
     right;right;refine⟨(m,t,(el m i).2,(i:Int),()),rfl,by simp only[Zg7,RT.val,d,r1,ZcX,he,Ya,Yf,Yi],.inr ⟨rfl,?_⟩⟩;exact (ZOe (by omega) (by simpa using he) λk h1 h2=>hk k (by omega) h2).symm
    |false=>
     left;refine⟨(m,t,0,(i:Int)-1,()),?_,⟨i,by omega,λk h1 h2=> ?_,rfl⟩,by simp only;omega⟩
     ·have w:IntKind.wrap .i64 ((i:Int)-1)=(i:Int)-1:=wrap_i64 _ (by omega) (by omega);simp only[Zg7,RT.val,d,r1,ZcX,he,Ya,Yb,Yf,Yl,Yv,Yi,w]
     ·by_cases e:k=i
      ·subst e;simpa using he
      ·exact hk k (by omega) h2)
  (m,t,0,(m.length:Int)-1,()) ⟨m.length,Ye _,λk h1 h2=>by omega,rfl⟩ (by simp only;omega)
 have w:IntKind.wrap .i64 (iN m.length-1)=(m.length:Int)-1:=wrap_i64 _ (by simp only[iN,Le];omega) (by simp only[iN,Le];omega);rcases hR with ⟨h1,h2⟩|⟨h1,h2⟩
 ·simp only[ZqL,RT.val,w,hr,okB,getO,Ya,h1,Yb,h2]
 ·simp only[ZqL,RT.val,w,hr,okB,getO,Ya,h1,h2]
def pst (c:Cell) (s:Bool×List Cell) (x:Cell):Bool×List Cell:=
 let t:= !s.1&&decide (x.1>=c.1)
 let o:=bif t then (bif c.2 !=0 then s.2++[c] else s.2) else s.2
 (t||s.1,bif x.1 !=c.1 then o++[x] else o)
def pfin (c:Cell) (s:Bool×List Cell):List Cell:=bif !s.1&&c.2 !=0 then s.2++[c] else s.2
theorem ZDY (c:Cell):∀(m:List Cell) (o:List Cell),(∀x∈m,x.1≠c.1)->m.foldl (pst c) (true,o)=(true,o++m)
 |[],o,_=>by simp
 |x::m,o,h=>by
  have hx:(x.1 !=c.1)=true:=by simpa using h x (by simp)
  simp only[List.foldl_cons,pst,Yf,YP,Yb,Yj,hx,Ya];rw[ZDY c m (o++[x]) λy hy=>h y (YS _ hy)];simp
theorem ZKN (c:Cell):∀(m:List Cell) (o:List Cell),m.Pairwise (λa b=>a.1<b.1)->pfin c (m.foldl (pst c) (false,o))=o++putX m c
 |[],o,_=>by
  simp only[List.foldl_nil,pfin,putX,Yl,YI];by_cases h:c.2=0
  ·simp[h]
  ·have:(c.2 !=0)=true:=by simpa using h
   simp[h,this]
 |x::m,o,h=>by
  have h1:=YB.1 h;by_cases hx:x.1<c.1
  ·have e1:decide (x.1>=c.1)=false:=by simp;omega
   have e2:(x.1 !=c.1)=true:=by simp;omega
   simp only[List.foldl_cons,pst,e1,Yab,Yb,Yw,e2,Ya];rw[ZKN c m (o++[x]) h1.2,putX,YZ hx];simp
  ·have e1:decide (x.1>=c.1)=true:=by simp;omega
   have hne:∀y∈m,y.1≠c.1:=λy hy=>by have:=h1.1 y hy;omega
   simp only[List.foldl_cons,pst,e1,Yl,Y6,Ya,Yv];rw[ZDY c m _ hne,putX,Y1 hx];simp only[pfin,Yf,YP,Yb];by_cases hz:c.2=0
   ·by_cases hk:x.1=c.1
    ·simp[hz,hk]
    ·have:(x.1 !=c.1)=true:=by simpa using hk
     simp[hz,hk,this]
   ·have hz1:(c.2 !=0)=true:=by simpa using hz
    by_cases hk:x.1=c.1
    ·simp[hz,hk,hz1]
    ·have:(x.1 !=c.1)=true:=by simpa using hk
     simp[hz,hk,this,hz1]
theorem ZzM (c:Cell):∀(m:List Cell) (s:Bool×List Cell),(m.foldl (pst c) s).2.length+(bif (m.foldl (pst c) s).1 then 0 else 1)<=s.2.length+(bif s.1 then 0 else 1)+m.length
 |[],s=>by simp
 |x::m,s=>by
  rw[List.foldl_cons];have ih:=ZzM c m (pst c s x);have:(pst c s x).2.length+(bif (pst c s x).1 then 0 else 1)<=s.2.length+(bif s.1 then 0 else 1)+1:=by obtain⟨d,o⟩:=s;simp only[pst];generalize decide (x.1>=c.1)=b1;generalize (c.2 !=0)=b2;generalize (x.1 !=c.1)=b3;cases d<;>cases b1<;>cases b2<;>cases b3<;>simp<;>omega
  simp only[List.length_cons];omega
theorem ZvS (m:List Cell) (c:Cell) (hv:Vld m) (hm:m.length+1<=most):Zv2 m c=true/\ZKk m c=putX m c:=by
 have hms:=mst;obtain⟨r,hr,h1,i,hR⟩:=ZI (fl:=false) (t:=ZiG) (fuel:=λa=>1000000000000)
  (λa=>∃i:Nat,i<=m.length/\a=(((m.take i).foldl (pst c) (false,[])).1,m,(m.length:Int),(i:Int),c,((m.take i).foldl (pst c) (false,[])).2,()))
  (λa=>Int.toNat (a.2.2.1-a.2.2.2.1)) (λr=>r.1=false/\∃i:Nat,r.2=((m.foldl (pst c) (false,[])).1,m,(m.length:Int),(i:Int),c,(m.foldl (pst c) (false,[])).2,()))
  (by
   rintro a ⟨i,hi,rfl⟩;by_cases hlt:i<m.length
   ·left;have d:decide ((i:Int)<(m.length:Int))=true:=by simpa using hlt
    have r1:=ZaP m i hlt;have hl:=ZzM c (m.take i) (false,[]);have hs:(m.take (i+1)).foldl (pst c) (false,[])=pst c ((m.take i).foldl (pst c) (false,[])) (el m i):=by rw[Zy4 m i hlt,List.foldl_append];rfl
    rw[YJ,YaZ (by omega)] at hl;refine⟨_,?_,⟨i+1,hlt,rfl⟩,by simp only;omega⟩;rw[hs];generalize (m.take i).foldl (pst c) (false,[])=s at hl|-;obtain⟨dn,o⟩:=s;simp only[List.length_nil,Yb] at hl;simp only[ZiG,RT.val,d,r1,ZcX,Ya,Yf,Yi,pst,Zik i (by omega)];generalize decide ((el m i).1>=c.1)=b1;generalize hb2:(c.2 !=0)=b2;generalize hb3:((el m i).1 !=c.1)=b3;have l1:Nat.ble (o++[c]).length most=true\/dn=true:=by
     cases dn with
     |true=>exact .inr rfl
     |false=>left;rw[YF];simp only[Yb] at hl;simp only[Yd,List.length_singleton];omega
    have l2:Nat.ble (o++[el m i]).length most=true:=by rw[YF];simp only[Yd,List.length_singleton];cases dn<;>simp only[Ya,Yb] at hl<;>omega
    have l3:Nat.ble (o++[c]++[el m i]).length most=true\/dn=true:=by
     cases dn with
     |true=>exact .inr rfl
     |false=>left;rw[YF];simp only[Yb] at hl;simp only[Yd,List.length_singleton];omega
    cases dn with
    |true=>
     cases b3<;>simp only[l2,Yf,Yl,YP,Yv,Yi,Yj,Ya,Yb]
    |false=>
     have l1:Nat.ble (o++[c]).length most=true:=by simpa using l1
     have l3:Nat.ble (o++[c]++[el m i]).length most=true:=by simpa using l3
     cases b1<;>cases b2<;>cases b3<;>simp only[l1,l2,l3,Yf,Yl,YP,YI,Yv,Yi,Yj,Yw,Y6,Ya,Yb]
   ·right;left;have d:decide ((i:Int)<(m.length:Int))=false:=by simpa using hlt
    have e:m.take i=m:=Y0 (by omega);rw[e]
    exact⟨_,by simp only[ZiG,RT.val,d,Yb],rfl,i,rfl⟩)
  (false,m,iN m.length,0,c,[],()) ⟨0,Yq _,rfl⟩ (by simp only[iN,Le];omega)
 have hl:=ZzM c m (false,[]);have hp:=ZKN c m [] hv.1;simp only[List.nil_append] at hp;obtain⟨r1,r2⟩:=r;simp only at h1 hR;subst h1 hR;generalize m.foldl (pst c) (false,[])=s at hl hp hr;obtain⟨dn,o⟩:=s;have hb:(!(!dn&&c.2 !=0)||Nat.ble (o++[c]).length most)=true:=by
  cases dn with
  |true=>rfl
  |false=>
   have:Nat.ble (o++[c]).length most=true:=by rw[YF];simp only[Yb,List.length_nil] at hl;simp only[Yd,List.length_singleton];omega
   rw[this];simp
 have hv:(ZqH m c).val=some (putX m c):=by simp only[ZqH,RT.val,hr,okB,getO,Ya,hb,<-hp,pfin]
 exact⟨by simp only[Zv2,hv];rfl,by simp only[ZKk,hv,getO]⟩
theorem ZsA (c:Cell):∀m:List Cell,(putX m c).length<=m.length+1
 |[]=>by simp only[putX];split<;>simp
 |x::m=>by
  have:=ZsA c m;simp only[putX];repeat' split
  all_goals simp only[List.length_cons];omega
theorem Zkr (l:List Cell) (c:Cell):normX (l++[c])=putX (normX l) c:=by simp[normX,List.foldl_append]
theorem ZFD:∀(l m:List Cell),(l.foldl putX m).length<=m.length+l.length
 |[],m=>by simp
 |x::l,m=>by have:=ZFD l (putX m x);have:=ZsA x m;simp only[List.foldl_cons,List.length_cons];omega
theorem Zel (l:List Cell):(normX l).length<=l.length:=by have:=ZFD l [];simpa [normX] using this
theorem ZJ3 (l:List Cell) (hl:l.length+1<=most):ZKo l=true/\ZUX l=normX l:=by
 have hms:=mst;have h1:=ZqB l (by omega);have hc:Zj6 l=true:=by simp only[Zj6,h1];rfl
 have hv0:Zm0 l=vldB l:=by simp only[Zm0,h1,getO]
 have hv:(ZqI l).val=some (normX l):=by
  cases hb:vldB l with
  |true=>
   have e:Nat.ble l.length most=true:=by rw[YF];omega
   simp only[ZqI,RT.val,hc,hv0,hb,List.nil_append,e,Ya,Yf,Yi,Zhc (Ziq.1 hb)]
  |false=>
   obtain⟨r,hr,h1,i,hR⟩:=ZI (fl:=false) (t:=ZiI) (fuel:=λa=>1000000000000)
    (λa=>∃i:Nat,i<=l.length/\a=(normX (l.take i),l,(l.length:Int),(i:Int),()))
    (λa=>Int.toNat (a.2.2.1-a.2.2.2.1)) (λr=>r.1=false/\∃i:Nat,r.2=(normX l,l,(l.length:Int),(i:Int),()))
    (by
     rintro a ⟨i,hi,rfl⟩;by_cases hlt:i<l.length
     ·left;have d:decide ((i:Int)<(l.length:Int))=true:=by simpa using hlt
      have r1:=ZaP l i hlt;have hlen:=Zel (l.take i);rw[YJ] at hlen;have hp:=ZvS (normX (l.take i)) (el l i) (Zi9 _) (by omega);refine⟨_,?_,⟨i+1,hlt,rfl⟩,by simp only;omega⟩;rw[Zy4 l i hlt,Zkr];simp only[ZiI,RT.val,d,r1,ZcX,hp.1,hp.2,Ya,Yj,Zik i (by omega)]
     ·right;left;have d:decide ((i:Int)<(l.length:Int))=false:=by simpa using hlt
      have e:l.take i=l:=Y0 (by omega);rw[e]
      exact⟨_,by simp only[ZiI,RT.val,d,Yb],rfl,i,rfl⟩)
    ([],l,iN l.length,0,()) ⟨0,Yq _,rfl⟩ (by simp only[iN,Le];omega)
   obtain⟨r1,r2⟩:=r;simp only at h1 hR;subst h1 hR;simp only[ZqI,RT.val,hc,hv0,hb,hr,okB,getO,Ya,Yb,Yl,Yv]
 exact⟨by simp only[ZKo,hv];rfl,by simp only[ZUX,hv,getO]⟩
def ZB7 (s:List Cell) (i:Nat):Bool:=(el s i).2 !=0&&(decide (i+1=s.length)||(el s (i+1)).1 !=(el s i).1)
theorem ZWQ (s:List Cell) (i:Nat) (h:i<s.length):dd (s.drop i)=(bif ZB7 s i then [el s i] else [])++dd (s.drop (i+1)):=by
 rw[ZuQ s i h];by_cases hl:i+1<s.length
 ·rw[ZuQ s (i+1) hl,dd];have e:decide (i+1=s.length)=false:=by simp;omega
  simp only[ZB7,e,Yi];by_cases h1:(el s i).1=(el s (i+1)).1
  ·have:((el s (i+1)).1 !=(el s i).1)=false:=by simp[h1]
   simp only[this,Yab,Yb,List.nil_append,YZ h1]
  ·have:((el s (i+1)).1 !=(el s i).1)=true:=by simpa using λe=>h1 e.symm
   simp only[this,YR,Y1 h1];by_cases h2:(el s i).2=0
   ·have:((el s i).2 !=0)=false:=by simp[h2]
    simp only[this,YZ h2,Yb,List.nil_append]
   ·have:((el s i).2 !=0)=true:=by simpa using h2
    simp only[this,Y1 h2,Ya,List.singleton_append]
 ·have hn:s.drop (i+1)=[]:=Y4 (by omega);have e:decide (i+1=s.length)=true:=by simp;omega
  rw[hn];simp only[ZB7,e,Yv,YR,dd,YC];by_cases h2:(el s i).2=0
  ·have:((el s i).2 !=0)=false:=by simp[h2]
   simp only[this,YZ h2,Yb]
  ·have:((el s i).2 !=0)=true:=by simpa using h2
   simp only[this,Y1 h2,Ya]
theorem ZIT (l:List Cell) (hl:l.length<=most):ZCX l=true/\ZyZ l=isort l:=by
 have hs:ZmM l (iN l.length)=true:=by simp[ZmM,iN,Le];omega
 have hv:(Zvu l).val=some (isort l):=by simp only[Zvu,RT.val,ZdC,hs,Ya]
 exact⟨by simp only[ZCX,hv];rfl,by simp only[ZyZ,hv,getO]⟩
theorem ZxN (l:List Cell) (hl:l.length<=most):ZxY l=true/\ZNG l=normX l:=by
 have hms:=mst;have h1:=ZIT l hl;have hlen:=Zes l;generalize hs:isort l=s at hlen h1;obtain⟨r,hr,h2,i,hR⟩:=ZI (fl:=false) (t:=Zjj) (fuel:=λa=>Int.toNat (a.1-a.2.1)+1)
  (λa=>∃(i:Nat) (o:List Cell),i<=s.length/\o.length<=i/\o++dd (s.drop i)=dd s/\a=((s.length:Int),(i:Int),s,o,()))
  (λa=>Int.toNat (a.1-a.2.1)) (λr=>r.1=false/\∃i:Nat,r.2=((s.length:Int),(i:Int),s,dd s,()))
  (by
   rintro a ⟨i,o,hi,ho,hd,rfl⟩;by_cases hlt:i<s.length
   ·left;have d:decide ((i:Int)<(s.length:Int))=true:=by simpa using hlt
    have r1:=ZaP s i hlt;have w:=Zik i (by omega);have e1:(((i+1:Nat):Int)==iN s.length)=decide (i+1=s.length):=by rw[Bool.eq_iff_iff];simp[iN,Le];omega
    have hst:=ZWQ s i hlt;have hle:∀x:Cell,Nat.ble (o++[x]).length most=true:=λx=>by rw[YF];simp only[Yd,List.length_singleton];omega
    refine⟨((s.length:Int),((i+1:Nat):Int),s,o++(bif ZB7 s i then [el s i] else []),()),?_,⟨i+1,_,hlt,?_,?_,rfl⟩,by simp only;omega⟩
    ·have e3:(!((el s i).2 !=0)||(decide (i+1=s.length)||Zf ((i+1:Nat):Int) s.length))=true:=by
      by_cases hq:i+1=s.length
      ·simp[hq]
      ·rw[ZaP s (i+1) (by omega)];simp
     have e4:((el s i).2 !=0&&(decide (i+1=s.length)||(el s (i+1)).1 !=(el s i).1))=ZB7 s i:=rfl;have g1:=ZcX s i;have g2:=ZcX s (i+1);simp only[Zjj,RT.val,d,r1,w,g1,g2,e1,e3,e4,hle,Ya,Yf,Yi,Yj];cases ZB7 s i<;>simp
    ·cases ZB7 s i<;>simp only[Ya,Yb,YC,Yd,List.length_singleton]<;>omega
    ·rw[Yp,<-hst,hd]
   ·right;left;have d:decide ((i:Int)<(s.length:Int))=false:=by simpa using hlt
    have e:s.drop i=[]:=Y4 (by omega);rw[e] at hd;simp only[dd,YC] at hd;subst hd
    exact⟨_,by simp only[Zjj,RT.val,d,Yb],rfl,i,rfl⟩)
  (iN s.length,0,s,[],()) ⟨0,[],Yq _,by simp,by simp,rfl⟩ (by simp only[iN,Le];omega)
 obtain⟨r1,r2⟩:=r;simp only at h2 hR;subst h2 hR;have hb:Nat.ble l.length most=true:=by rw[YF];exact hl
 have hv:(ZxX l).val=some (normX l):=by simp only[ZxX,RT.val,hb,h1.1,h1.2,hr,okB,getO,Ya];rw[<-hs,ZHK]
 exact⟨by simp only[ZxY,hv];rfl,by simp only[ZNG,hv,getO]⟩
abbrev BR:R:=R.int u8
theorem get_d (l:List Int) (i:Nat):R.get BR l (i:Int)=l.getD i 0:=by simp[R.get,R.Df]
def Zo6 (t:Int) (b:List Int) (n:Nat):List Cell:=(List.range n).map λi:Nat=>(IntKind.wrap .u16 (t+IntKind.wrap .u16 (i:Int)),b.getD i 0)
theorem ZH2 (t:Int) (b:List Int) (n:Nat):Zo6 t b (n+1)=Zo6 t b n++[(IntKind.wrap .u16 (t+IntKind.wrap .u16 (n:Int)),b.getD n 0)]:=by simp[Zo6,List.range_succ]
theorem Zo5 (t:Int) (b:List Int) (n:Nat):(Zo6 t b n).length=n:=by simp[Zo6]
def Zo4 (t:Int) (b:List Int):List Cell:=normX (Zo6 t b b.length)
theorem ZxL (m:List Cell) (hm:m.length<=most):Zuv m=true/\ZoY m=vldB m:=by have h:=ZHV m hm;exact⟨by simp only[Zuv,h];rfl,by simp only[ZoY,h,getO]⟩
theorem ZJU (m:List Cell) (hm:m.length<=most):Zj6 m=true/\Zm0 m=vldB m:=by have h:=ZqB m hm;exact⟨by simp only[Zj6,h];rfl,by simp only[Zm0,h,getO]⟩
theorem ZUH (m:List Cell) (t:Int) (hm:m.length<=most):ZKt m t=true/\ZUY m t=getX m t:=by have h:=ZP8 m t hm;exact⟨by simp only[ZKt,h];rfl,by simp only[ZUY,h,getO]⟩
abbrev GR:R:=R.Pq Kb (R.Pq Kb (R.Pq R.bool Kc))
def hitB (t:Int) (r:ZT):Bool:=decide (r.1<=t)&&decide (t<=r.2.1)
def Zcw (l:List ZT) (t:Int):Int:=if l.findIdx (hitB t)<l.length then (l.findIdx (hitB t):Int) else-1
def rg (l:List ZT) (i:Nat):ZT:=l.getD i (0,0,false,0)
theorem ZTE (l:List ZT) (i:Nat):R.get GR l (i:Int)=rg l i:=by simp[R.get,R.Df,rg]
theorem ZvT (l:List ZT) (i:Nat) (h:i<l.length):l[i]=rg l i:=by simp[rg,h]
theorem ZWE {l:List ZT} (hi:i<l.length) (h:hitB t (rg l i)=true) (hk:∀k,k<i->hitB t (rg l k)=false):Zcw l t=i:=by have:l.findIdx (hitB t)=i:=(List.findIdx_eq hi).2 ⟨by rw[ZvT l i hi];exact h,λj hj=>by rw[ZvT l j (by omega)];exact hk j hj⟩;simp only[Zcw,this,hi,if_true]
theorem ZWD {l:List ZT} (hk:∀k,k<l.length->hitB t (rg l k)=false):Zcw l t= -1:=by
 have:¬l.findIdx (hitB t)<l.length:=by rw[List.findIdx_lt_length];rintro⟨x,hx,hp⟩;obtain⟨i,hi,rfl⟩:=YaP.1 hx;rw[ZvT l i hi,hk i hi] at hp;exact absurd hp (by simp)
 simp only[Zcw,this,if_false]
theorem ZJ4 (l:List ZT) (t:Int) (hl:l.length<=most):ZKx l t=true/\ZU0 l t=Zcw l t:=by
 have hms:=mst;obtain⟨r,hr,hR⟩:=ZI (fl:=true) (t:=ZiJ) (fuel:=λ_=>1000000000000)
  (λx=>∃i:Nat,i<=l.length/\(∀k,k<i->hitB t (rg l k)=false)/\x=(t,0,l,(l.length:Int),(i:Int),()))
  (λx=>Int.toNat (x.2.2.2.1-x.2.2.2.2.1)) (λr=>(r.1=false/\Zcw l t= -1)\/(r.1=true/\r.2.2.1=Zcw l t))
  (by
   rintro x ⟨i,hi,hk,rfl⟩;by_cases hlt:i<l.length
   ·have d:decide ((i:Int)<(l.length:Int))=true:=by simpa using hlt
    have r1:=ZaP l i hlt;have g1:=ZTE l i;cases hh:hitB t (rg l i) with
    |false=>
     left;refine⟨(t,0,l,(l.length:Int),((i+1:Nat):Int),()),?_,⟨i+1,hlt,λk hk'=> ?_,rfl⟩,by simp only;omega⟩
     ·simp only[hitB] at hh;simp only[ZiJ,RT.val,d,r1,g1,hh,Ya,Yb,Zik i (by omega)]
     ·by_cases e:k=i
      ·subst e;exact hh
      ·exact hk k (by omega)
    |true=>
     right;right;refine⟨(t,(i:Int),l,(l.length:Int),(i:Int),()),rfl,?_,.inr ⟨rfl,(ZWE hlt hh hk).symm⟩⟩;simp only[hitB] at hh;simp only[ZiJ,RT.val,d,r1,g1,hh,Ya]
   ·right;left;have d:decide ((i:Int)<(l.length:Int))=false:=by simpa using hlt
    exact⟨_,by simp only[ZiJ,RT.val,d,Yb];rfl,.inl ⟨rfl,ZWD λk h=>hk k (by omega)⟩⟩)
  (t,0,l,iN l.length,0,()) ⟨0,Yq _,λk h=>by omega,rfl⟩ (by simp only[iN,Le];omega)
 have hv:(ZqM l t).val=some (Zcw l t):=by
  rcases hR with ⟨h1,h2⟩|⟨h1,h2⟩
  ·simp only[ZqM,RT.val,hr,okB,getO,Ya,h1,Yb,h2]
  ·simp only[ZqM,RT.val,hr,okB,getO,Ya,h1,h2]
 exact⟨by simp only[ZKx,hv];rfl,by simp only[ZU0,hv,getO]⟩
theorem Znn (l:List ZT) (t:Int) (hl:l.length<=most):Zxl l t=true/\Zp5 l t=Zcw l t:=by have h:=ZJ4 l t hl;have e:ZEL l t=ZqM l t:=rfl;simp only[ZKx,ZU0,<-e] at h;exact h
def Zk1 (l:List ZT) (m:List Cell) (t:Int):Int:=bif decide (Zcw l t<0) then 255 else getX m t
