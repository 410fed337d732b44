import Derived.Test.YtpnjbfjomebppaaGreatProg
import Derived.Shelf.Spec.SlicesInsertGrow
import Derived.Deep.RegionLaw
import Derived.Lib.SliceRun
import Derived.Test.YtpnjbfjomebppaaGreatS3Rows
import Derived.Test.YtpnjbfjomebppaaGreatS3Nil
set_option linter.unusedVariables false
set_option linter.unusedSimpArgs false
namespace Go.Proofs.YtpnjbfjomebppaaGreat
open Go Go.S3 Go.Proofs Go.Shelf Go.RowKit Go.Lib
noncomputable section
end
open Go Go.S3 Go.Proofs Go.Shelf Go.RowKit Go.Lib
noncomputable section
end
end Go.Proofs.YtpnjbfjomebppaaGreat
namespace Go.Proofs.Cells
abbrev Cell:=Int×Int
def flt (k:Int) (l:List Cell):List Cell:=l.filter (λc=>c.1==k)
def Srt (l:List Cell):Prop:=l.Pairwise (λa b=>a.1<=b.1)
def Sm (l l':List Cell):Prop:=∀k,flt k l=flt k l'
theorem Ziu (k:Int) (a b:List Cell):flt k (a++b)=flt k a++flt k b:=List.filter_append ..
theorem Zl7 {k:Int} {l:List Cell} (h:∀c∈l,c.1≠k):flt k l=[]:=by simp only[flt,List.filter_eq_nil_iff,beq_iff_eq];exact h
theorem Sm.refl (l:List Cell):Sm l l:=λ_=>rfl
theorem Sm.symm {a b:List Cell} (h:Sm a b):Sm b a:=λk=>(h k).symm
theorem Sm.trans {a b c:List Cell} (h:Sm a b) (k:Sm b c):Sm a c:=λi=>(h i).trans (k i)
variable {a b:List Cell}
theorem Sm.app {c d:List Cell} (h:Sm a b) (k:Sm c d):Sm (a++c) (b++d):=λi=>by rw[Ziu,Ziu,h i,k i]
theorem Sm.mem (h:Sm a b) (x:Cell):x∈a↔x∈b:=by
 have e:∀l:List Cell,x∈l↔x∈flt x.1 l:=λl=>by simp[flt]
 rw[e a,e b,h x.1]
theorem uniq:∀{l l':List Cell},Srt l->Srt l'->Sm l l'->l=l'
 |[],[],_,_,_=>rfl
 |[],y::r,_,_,h=>by have:=h y.1;simp[flt] at this
 |x::l,[],_,_,h=>by have:=h x.1;simp[flt] at this
 |x::l,y::r,hl,hr,h=>by
  have h1:=YZ.1 hl;have h2:=YZ.1 hr;have hx:x∈y::r:=(h.mem x).1 (by simp);have hy:y∈x::l:=(h.mem y).2 (by simp);have e1:y.1<=x.1:=by
   rcases YC.1 hx with e|e
   ·rw[e];exact Int.le_refl _
   ·exact h2.1 x e
  have e2:x.1<=y.1:=by
   rcases YC.1 hy with e|e
   ·rw[e];exact Int.le_refl _
   ·exact h1.1 y e
  have e:x.1=y.1:=Int.le_antisymm e2 e1;have hxy:=h x.1;have k1:flt x.1 (x::l)=x::flt x.1 l:=by simp[flt]
  have k2:flt x.1 (y::r)=y::flt x.1 r:=by simp[flt,e]
  rw[k1,k2] at hxy;obtain⟨exy,_⟩:=List.cons.inj hxy;subst exy;have:l=r:=uniq h1.2 h2.2 λk=>by
   have:=h k;by_cases hk:x.1=k
   ·subst hk;simpa [flt] using this
   ·simpa [flt,hk] using this
  rw[this]
end Go.Proofs.Cells
set_option maxRecDepth 100000
namespace Go.Proofs.YtpnjbfjomebppaaGreat
open Go Go.S3 Go.Proofs Go.Proofs.Cells
noncomputable section
end
end Go.Proofs.YtpnjbfjomebppaaGreat
open Go Go.S3 Go.Proofs
namespace Go.Proofs.YtpnjbfjomebppaaGreat
noncomputable section
end
end Go.Proofs.YtpnjbfjomebppaaGreat
open Go.S3
namespace Go.Proofs.Cells
end Go.Proofs.Cells
open Go.IntKind (u8 u16 i64)
open Go Go.S3 Go.Proofs Go.Proofs.Cells
namespace Go.Proofs.YtpnjbfjomebppaaGreat
noncomputable section
theorem ml:(maxLen:Int)<=9223372036854775807:=by decide
abbrev CR:R:=R.Pq (R.int u16) (R.int u8)
theorem mst:most=1073741824:=rfl
def el (l:List Cell) (i:Nat):Cell:=l.getD i (0,0)
theorem ZiN (l:List Cell) (i:Nat):R.get CR l (i:Int)=el l i:=by simp[R.get,el,R.Df]
theorem Zf9 (V:List Cell) (i:Nat) (h:i<V.length):V[i]? =some (el V i):=by simp[el,Yo,Yn h]
theorem ZI2 {V:List Cell} {p:Nat} {y:Cell} (h:y∈V.drop p):∃i,p<=i/\i<V.length/\y=el V i:=by obtain⟨i,hi,rfl⟩:=List.mem_iff_getElem.1 h;simp only[Yaj] at hi;refine⟨p+i,by omega,by omega,?_⟩;have:=Zf9 V (p+i) (by omega);rw[Yn (by omega)] at this;simp only[oinj] at this;rw[<-this];simp
theorem ZdT {α:Type} (l:List α) (i:Nat) (h:i<l.length):Ze (i:Int) l.length=true:=Zw.2 (by omega)
theorem Zub (i:Nat) (h:i<=4611686018427387904):IntKind.wrap .i64 ((i:Int)+1)=((i+1:Nat):Int):=by rw[Zv _ (by omega) (by omega)];simp
end
end Go.Proofs.YtpnjbfjomebppaaGreat
open Go.Proofs.Tryz (prog)
namespace Go.Proofs.YtpnjbfjomebppaaGreat
noncomputable section
abbrev Zos:List Sh:=[Sh.one rcCE]
abbrev Zjd:Rs:=Rs.one (Sh.one R.bool)
def ZD6:LS:={n:=34,Sl:=[(0,.code (Sh.one rcCE)),(2,.code (Sh.one R.bool)),(5,.code (Sh.one (R.int i64))),(6,.code (Sh.one (R.int i64)))],Bx:=[],Sg:=[]}
def Zdo (a:List (Int×Int)×Bool×Int×Int×PUnit):RT (Option (Go1 (List (Int×Int)×Bool×Int×Int×PUnit))):=
 let x1:=(R.get (R.Pq (R.int u16) (R.int u8)) a.1 a.2.2.2.1).2==0
 let x2:= !Ze a.2.2.2.1 (List.length a.1)||(x1||(!decide (a.2.2.2.1>0)||(!Ze a.2.2.2.1 (List.length a.1)||Ze (i64.wrap (a.2.2.2.1-1)) (List.length a.1))))
 let x3:= !x2
 let x4:= !Ze a.2.2.2.1 (List.length a.1)||(x1||(!decide (a.2.2.2.1>0)||Ze a.2.2.2.1 (List.length a.1)))
 .br (decide (a.2.2.2.1<a.2.2.1)) (.br (x3||(!x4||Ze a.2.2.2.1 (List.length a.1))) (.br (x3||x4) (.br (x2) (.br (x1||decide (a.2.2.2.1>0)&&decide ((R.get (R.Pq (R.int u16) (R.int u8)) a.1 a.2.2.2.1).1<=(R.get (R.Pq (R.int u16) (R.int u8)) a.1 (i64.wrap (a.2.2.2.1-1))).1)) (.Lf (some (Go1.ret (a.1,false,a.2.2.1,a.2.2.2.1,PUnit.unit)))) (.Lf (some (Go1.cont (a.1,a.2.1,a.2.2.1,i64.wrap (a.2.2.2.1+1),PUnit.unit))))) (.Lf none)) (.Lf none)) (.Lf none)) (.Lf (some (Go1.brk (a.1,a.2.1,a.2.2.1,a.2.2.2.1,PUnit.unit))))
def ZrE:Ora:=ZcQ true ZD6 Zdo (λa=>1000000000000)
theorem ZuQ:Zb6 (envX prog [] [] 15 8) (.block 0 (.loop (ZaU Tryz.f105.body 0))) ZrE:=
 loopP trivial
def ZhW (m:List (Int×Int)):RT (Option (Bool)):=
 let x1:=runF true Zdo (λa=>1000000000000) (m,false,iN (List.length m),0,())
 let x2:=getO (false,m,false,iN (List.length m),0,()) x1
 .br (okB x1) (.br x2.1 (.Lf (some x2.2.2.1)) (.Lf (some (true)))) (.Lf none)
def Zj6 (m:List (Int×Int)):Bool:=getO Zjd.Df (ZhW m).val
def ZhY (m:List (Int×Int)):Bool:=okB (ZhW m).val
def ZuR:En:=Zi Zos Zjd (λa=>some (ZhY a)) (λa=>Zj6 a)
theorem Zj3:Zd prog 105 ZuR:=
 pureP 15 [] [(0,ZrE)] Zos Zjd trivial Tryz.func105 Tryz.call105 ⟨ZuQ,Tv⟩ (t:=λa=>ZhW a)
abbrev ZEW:List Sh:=[Sh.one rcCE,Sh.one (R.int u16)]
abbrev ZvW:Rs:=Rs.one (Sh.one (R.int u8))
def ZIB:LS:={n:=25,Sl:=[(0,.code (Sh.one rcCE)),(1,.code (Sh.one (R.int u16))),(4,.code (Sh.one (R.int u8))),(5,.code (Sh.one (R.int i64)))],Bx:=[],Sg:=[]}
def ZfE (a:List (Int×Int)×Int×Int×Int×PUnit):RT (Option (Go1 (List (Int×Int)×Int×Int×Int×PUnit))):=
 let x1:=(R.get (R.Pq (R.int u16) (R.int u8)) a.1 a.2.2.2.1).1==a.2.1
 .br (decide (a.2.2.2.1>=0)) (.br (!Ze a.2.2.2.1 (List.length a.1)||(!x1||Ze a.2.2.2.1 (List.length a.1))) (.br (Ze a.2.2.2.1 (List.length a.1)) (.br (x1) (.Lf (some (Go1.ret (a.1,a.2.1,(R.get (R.Pq (R.int u16) (R.int u8)) a.1 a.2.2.2.1).2,a.2.2.2.1,PUnit.unit)))) (.Lf (some (Go1.cont (a.1,a.2.1,a.2.2.1,i64.wrap (a.2.2.2.1-1),PUnit.unit))))) (.Lf none)) (.Lf none)) (.Lf (some (Go1.brk (a.1,a.2.1,a.2.2.1,a.2.2.2.1,PUnit.unit))))
def ZyN:Ora:=ZcQ true ZIB ZfE (λa=>1000000000000)
theorem ZA2:Zb6 (envX prog [] [] 63 8) (.block 0 (.loop (ZaU Tryz.f60.body 0))) ZyN:=
 loopP trivial
def Znc (m:List (Int×Int)) (t:Int):RT (Option (Int)):=
 let x1:List (Int×Int)×Int×Int×Int×PUnit:=(m,t,0,i64.wrap (iN (List.length m)-1),())
 let x2:=runF true ZfE (λa=>1000000000000) x1
 let x3:=getO (false,x1) x2
 .br (okB x2) (.br x3.1 (.Lf (some x3.2.2.2.1)) (.Lf (some (0)))) (.Lf none)
def ZIC (m:List (Int×Int)) (t:Int):Int:=getO ZvW.Df (Znc m t).val
def ZyO (m:List (Int×Int)) (t:Int):Bool:=okB (Znc m t).val
def ZKo:En:=Zi ZEW ZvW (λa=>some (ZyO a.1 a.2)) (λa=>ZIC a.1 a.2)
theorem ZIA:Zd prog 60 ZKo:=
 pureP 63 [] [(0,ZyN)] ZEW ZvW trivial Tryz.func60 Tryz.call60 ⟨ZA2,Tv⟩ (t:=λa=>Znc a.1 a.2)
abbrev ZEm:List Sh:=[Sh.one rcCE,Sh.agg (R.Pq (R.int u16) (R.int u8))]
abbrev Zu6:Rs:=Rs.one (Sh.one rcCE)
def ZIp:LS:={n:=53,Sl:=[(3,.fix (A.loc 0 0)),(5,.tip 0),(6,.code (Sh.one R.bool)),(9,.code (Sh.one rcCE)),(10,.code (Sh.one (R.int i64))),(11,.code (Sh.one (R.int i64)))],Bx:=[[.many (R.Pq (R.int u16) (R.int u8))]],Sg:=[⟨(R.Pq (R.int u16) (R.int u8)),75,true⟩]}
def Zg3 (a:QT7):RT (Option (Go1 (QT7))):=
 let x1:Int×Int:=R.get (R.Pq (R.int u16) (R.int u8)) a.2.1 a.2.2.2.1
 let x2:=x1.1
 let x3:= !a.1&&decide (x2>=a.2.2.2.2.1.1)
 let x4:List (Int×Int):=a.2.2.2.2.2.1++[a.2.2.2.2.1]
 let x5:= !x3||(!a.2.2.2.2.1.2 !=0||Nat.ble (List.length x4) most)
 let x6:=x2 !=a.2.2.2.2.1.1
 let x7:List (Int×Int):=bif x3 then bif a.2.2.2.2.1.2 !=0 then x4 else a.2.2.2.2.2.1 else a.2.2.2.2.2.1
 let x8:List (Int×Int):=x7++[x1]
 .br (decide (a.2.2.2.1<a.2.2.1)) (.br (!Ze a.2.2.2.1 (List.length a.2.1)||(!x5||(!x6||Nat.ble (List.length x8) most))) (.br (!Ze a.2.2.2.1 (List.length a.2.1)||x5) (.br (Ze a.2.2.2.1 (List.length a.2.1)) (.Lf (some (Go1.cont (x3||a.1,a.2.1,a.2.2.1,i64.wrap (a.2.2.2.1+1),a.2.2.2.2.1,bif x6 then x8 else x7,PUnit.unit)))) (.Lf none)) (.Lf none)) (.Lf none)) (.Lf (some (Go1.brk (a.1,a.2.1,a.2.2.1,a.2.2.2.1,a.2.2.2.2.1,a.2.2.2.2.2.1,PUnit.unit))))
def Zyu:Ora:=ZcQ false ZIp Zg3 (λa=>1000000000000)
theorem ZAK:Zb6 (envX prog [] [] 511 8) (.block 0 (.loop (ZaU Tryz.f165.body 0))) Zyu:=
 loopP trivial
def Zm6 (m:List (Int×Int)) (c:Int×Int):RT (Option (List (Int×Int))):=
 let x1:QT7:=(false,m,iN (List.length m),0,c,[],())
 let x2:=runF false Zg3 (λa=>1000000000000) x1
 let x3:QT7:=(getO (false,x1) x2).2
 let x4:=x3.2.2.2.2
 let x5:=x4.1
 let x6:= !x3.1&&x5.2 !=0
 let x7:=x4.2.1
 let x8:List (Int×Int):=x7++[x5]
 .br (okB x2) (.br (!x6||Nat.ble (List.length x8) most) (.Lf (some (bif x6 then x8 else x7))) (.Lf none)) (.Lf none)
def ZAL (m:List (Int×Int)) (c:Int×Int):List (Int×Int):=getO Zu6.Df (Zm6 m c).val
def Zm7 (m:List (Int×Int)) (c:Int×Int):Bool:=okB (Zm6 m c).val
def Zyv:En:=Zi ZEm Zu6 (λa=>some (Zm7 a.1 a.2)) (λa=>ZAL a.1 a.2)
theorem ZoG:Zd prog 165 Zyv:=
 pureP 511 [] [(0,Zyu)] ZEm Zu6 trivial Tryz.func165 Tryz.call165 ⟨ZAK,Tv⟩ (t:=λa=>Zm6 a.1 a.2)
abbrev Zvc:List Sh:=[Sh.one rcCE]
abbrev ZoL:Rs:=Rs.one (Sh.one rcCE)
def ZIx:LS:={n:=21,Sl:=[(3,.code (Sh.one rcCE)),(10,.code (Sh.one rcCE)),(11,.code (Sh.one (R.int i64))),(12,.code (Sh.one (R.int i64)))],Bx:=[],Sg:=[]}
def Zg6 (a:List (Int×Int)×List (Int×Int)×Int×Int×PUnit):RT (Option (Go1 (List (Int×Int)×List (Int×Int)×Int×Int×PUnit))):=
 let x1:Int×Int:=R.get (R.Pq (R.int u16) (R.int u8)) a.2.1 a.2.2.2.1
 .br (decide (a.2.2.2.1<a.2.2.1)) (.br (!Ze a.2.2.2.1 (List.length a.2.1)||Zm7 a.1 x1) (.br (Ze a.2.2.2.1 (List.length a.2.1)) (.Lf (some (Go1.cont (ZAL a.1 x1,a.2.1,a.2.2.1,i64.wrap (a.2.2.2.1+1),PUnit.unit)))) (.Lf none)) (.Lf none)) (.Lf (some (Go1.brk (a.1,a.2.1,a.2.2.1,a.2.2.2.1,PUnit.unit))))
def ZyD:Ora:=ZcQ false ZIx Zg6 (λa=>1000000000000)
theorem ZAN:Zb6 (envX prog [(105,ZuR),(165,Zyv)] [] 63 8) (.block 0 (.loop (ZaU Tryz.f93.body 0))) ZyD:=
 loopP ⟨Zj3,ZoG,Tv⟩
def Zm9 (l:List (Int×Int)):RT (Option (List (Int×Int))):=
 let x1:=runF false Zg6 (λa=>1000000000000) ([],l,iN (List.length l),0,())
 .br (ZhY l) (.br (!Zj6 l||Nat.ble (List.length ([]++l)) most) (.br (Zj6 l) (.Lf (some ([]++l))) (.br (okB x1) (.Lf (some (getO (false,[],l,iN (List.length l),0,()) x1).2.1)) (.Lf none))) (.Lf none)) (.Lf none)
def ZAO (l:List (Int×Int)):List (Int×Int):=getO ZoL.Df (Zm9 l).val
def Zna (l:List (Int×Int)):Bool:=okB (Zm9 l).val
def ZEF:En:=Zi Zvc ZoL (λa=>some (Zna a)) (λa=>ZAO a)
theorem ZoK:Zd prog 93 ZEF:=
 pureP 63 [(105,ZuR),(165,Zyv)] [(0,ZyD)] Zvc ZoL ⟨Zj3,ZoG,Tv⟩ Tryz.func93 Tryz.call93 ⟨ZAN,Tv⟩ (t:=λa=>Zm9 a)
abbrev ZEl:List Sh:=[Sh.one rcCE,Sh.one (R.int u16),Sh.one (R.int u8)]
abbrev Zu5:Rs:=Rs.one (Sh.one rcCE)
def ZrV (m:List (Int×Int)) (t:Int) (v:Int):RT (Option (List (Int×Int))):=
 .br (!Zna m||Zm7 (ZAO m) (t,v)) (.br (Zna m) (.Lf (some (ZAL (ZAO m) (t,v)))) (.Lf none)) (.Lf none)
def ZIo (m:List (Int×Int)) (t:Int) (v:Int):List (Int×Int):=getO Zu5.Df (ZrV m t v).val
def Zyt (m:List (Int×Int)) (t:Int) (v:Int):Bool:=okB (ZrV m t v).val
def ZJ6:En:=Zi ZEl Zu5 (λa=>some (Zyt a.1 a.2.1 a.2.2)) (λa=>ZIo a.1 a.2.1 a.2.2)
theorem ZIn:Zd prog 170 ZJ6:=
 pureP 127 [(93,ZEF),(165,Zyv)] [] ZEl Zu5 ⟨ZoK,ZoG,Tv⟩ Tryz.func170 Tryz.call170 trivial (t:=λa=>ZrV a.1 a.2.1 a.2.2)
abbrev ZEX:List Sh:=[Sh.one rcRG,Sh.one (R.int u16)]
abbrev Zv0:Rs:=Rs.one (Sh.one (R.int i64))
def ZID:LS:={n:=26,Sl:=[(1,.code (Sh.one (R.int u16))),(4,.code (Sh.one (R.int i64))),(7,.code (Sh.one rcRG)),(8,.code (Sh.one (R.int i64))),(9,.code (Sh.one (R.int i64)))],Bx:=[],Sg:=[]}
def ZfF (a:QT18):RT (Option (Go1 (QT18))):=
 let x1:QT9:=R.get (R.Pq (R.int u16) (R.Pq (R.int u16) (R.Pq R.bool (R.int i64)))) a.2.2.1 a.2.2.2.2.1
 let x2:List (QT9)×Int×Int×PUnit:=(a.2.2.1,a.2.2.2.1,a.2.2.2.2.1,PUnit.unit)
 .br (decide (a.2.2.2.2.1<a.2.2.2.1)) (.br (Ze a.2.2.2.2.1 (List.length a.2.2.1)) (.br (decide (x1.1<=a.1)&&decide (a.1<=x1.2.1)) (.Lf (some (Go1.ret (a.1,a.2.2.2.2.1,x2)))) (.Lf (some (Go1.cont (a.1,a.2.1,a.2.2.1,a.2.2.2.1,i64.wrap (a.2.2.2.2.1+1),PUnit.unit))))) (.Lf none)) (.Lf (some (Go1.brk (a.1,a.2.1,x2))))
def ZyR:Ora:=ZcQ true ZID ZfF (λa=>1000000000000)
theorem ZA3:Zb6 (envX prog [] [] 127 8) (.block 0 (.loop (ZaU Tryz.f169.body 0))) ZyR:=
 loopP trivial
def Znd (l:List (QT9)) (t:Int):RT (Option (Int)):=
 let x1:=runF true ZfF (λa=>1000000000000) (t,0,l,iN (List.length l),0,())
 let x2:=getO (false,t,0,l,iN (List.length l),0,()) x1
 .br (okB x1) (.br x2.1 (.Lf (some x2.2.2.1)) (.Lf (some (-1)))) (.Lf none)
def Zi1 (l:List (QT9)) (t:Int):Int:=getO Zv0.Df (Znd l t).val
def Zne (l:List (QT9)) (t:Int):Bool:=okB (Znd l t).val
def ZyS:En:=Zi ZEX Zv0 (λa=>some (Zne a.1 a.2)) (λa=>Zi1 a.1 a.2)
theorem Zo2:Zd prog 169 ZyS:=
 pureP 127 [] [(0,ZyR)] ZEX Zv0 trivial Tryz.func169 Tryz.call169 ⟨ZA3,Tv⟩ (t:=λa=>Znd a.1 a.2)
abbrev ZoC:List Sh:=[Sh.one rcRG,Sh.one rcCE,Sh.one (R.int u16)]
abbrev Zjf:Rs:=Rs.one (Sh.one (R.int u8))
def Zke (l:List (QT9)) (m:List (Int×Int)) (t:Int):RT (Option (Int)):=
 .br (Zne l t) (.br (decide (Zi1 l t<0)) (.Lf (some (255))) (.br (ZyO m t) (.Lf (some (ZIC m t))) (.Lf none))) (.Lf none)
def ZEf (l:List (QT9)) (m:List (Int×Int)) (t:Int):Int:=getO Zjf.Df (Zke l m t).val
def Zu1 (l:List (QT9)) (m:List (Int×Int)) (t:Int):Bool:=okB (Zke l m t).val
def ZLN:En:=Zi ZoC Zjf (λa=>some (Zu1 a.1 a.2.1 a.2.2)) (λa=>ZEf a.1 a.2.1 a.2.2)
theorem ZEe:Zd prog 255 ZLN:=
 pureP 127 [(60,ZKo),(169,ZyS)] [] ZoC Zjf ⟨ZIA,Zo2,Tv⟩ Tryz.func255 Tryz.call255 trivial (t:=λa=>Zke a.1 a.2.1 a.2.2)
abbrev ZjZ:List Sh:=[Sh.one rcRG,Sh.one rcCE,Sh.one (R.int u16),Sh.one (R.int u8)]
abbrev ZgV:Rs:=Rs.one (Sh.one rcCE)
def ZgU (l:List (QT9)) (m:List (Int×Int)) (t:Int) (v:Int):RT (Option (List (Int×Int))):=
 let x1:=decide (Zi1 l t>=0)&&(R.get (R.Pq (R.int u16) (R.Pq (R.int u16) (R.Pq R.bool (R.int i64)))) l (Zi1 l t)).2.2.1
 .br (Zne l t) (.br (!decide (Zi1 l t>=0)||Ze (Zi1 l t) (List.length l)) (.br (!x1||Zyt m t v) (.br (x1) (.Lf (some (ZIo m t v))) (.br (Zna m) (.Lf (some (ZAO m))) (.Lf none))) (.Lf none)) (.Lf none)) (.Lf none)
def ZuM (l:List (QT9)) (m:List (Int×Int)) (t:Int) (v:Int):List (Int×Int):=getO ZgV.Df (ZgU l m t v).val
def Zoq (l:List (QT9)) (m:List (Int×Int)) (t:Int) (v:Int):Bool:=okB (ZgU l m t v).val
def ZIc:En:=Zi ZjZ ZgV (λa=>some (Zoq a.1 a.2.1 a.2.2.1 a.2.2.2)) (λa=>ZuM a.1 a.2.1 a.2.2.1 a.2.2.2)
theorem ZAx:Zd prog 95 ZIc:=
 pureP 1023 [(93,ZEF),(169,ZyS),(170,ZJ6)] [] ZjZ ZgV ⟨ZoK,Zo2,ZIn,Tv⟩ Tryz.func95 Tryz.call95 trivial (t:=λa=>ZgU a.1 a.2.1 a.2.2.1 a.2.2.2)
end
end Go.Proofs.YtpnjbfjomebppaaGreat
namespace Go.Proofs.Cells
def getX (l:List Cell) (a:Int):Int:=((flt a l).getLast?.map Prod.snd).getD 0
def Vld (m:List Cell):Prop:=m.Pairwise (λa b=>a.1<b.1)/\∀c∈m,c.2≠0
variable {m:List Cell}
theorem Vld.srt (h:Vld m):Srt m:=h.1.imp λh=>Int.le_of_lt h
theorem Vld.tail {c:Cell} (h:Vld (c::m)):Vld m:=⟨(YZ.1 h.1).2,λx hx=>h.2 x (YQ _ hx)⟩
theorem ZzU (a:Int):getX [] a=0:=rfl
theorem Zqx (a:Int) (c:Cell) (l:List Cell):flt a (c::l)=if c.1=a then c::flt a l else flt a l:=by by_cases h:c.1=a<;>simp[flt,h]
theorem ZlW (c:Cell) (l:List Cell) (a:Int):getX (c::l) a=if c.1=a/\flt a l=[] then c.2 else getX l a:=by
 simp only[getX,Zqx];by_cases h:c.1=a
 ·simp only[h,if_true,true_and];cases hf:flt a l with
  |nil=>simp
  |cons x r=>simp[List.getLast?_cons_cons]
 ·simp[h]
theorem Vld.flt {m:List Cell} (h:Vld m) (a:Int):Cells.flt a m=if getX m a=0 then [] else [(a,getX m a)]:=by
 induction m with
 |nil=>simp[Cells.flt,ZzU]
 |cons c m ih=>
  have ih:=ih h.tail;have h1:=YZ.1 h.1;by_cases hc:c.1=a
  ·have hn:Cells.flt a m=[]:=Zl7 λx hx=>by have:=h1.1 x hx;omega
   have hz:=h.2 c (by simp);rw[Zqx,ZlW];simp only[hc,hn,and_self,if_true,hz,if_false];rw[<-hc]
  ·rw[Zqx,ZlW];simp only[hc,false_and,if_false,ih]
theorem ZLe {m':List Cell} (h:Vld m) (h':Vld m') (e:∀a,getX m a=getX m' a):m=m':=
 uniq h.srt h'.srt λk=>by rw[h.flt,h'.flt,e k]
def putX:List Cell->Cell->List Cell
 |[],c=>if c.2=0 then [] else [c]
 |x::r,c=>if x.1<c.1 then x::putX r c else if c.2=0 then (if x.1=c.1 then r else x::r) else if x.1=c.1 then c::r else c::x::r
theorem ZpM:∀{m:List Cell} {c x:Cell},x∈putX m c->x=c\/x∈m
 |[],c,x,h=>by
  simp only[putX] at h;split at h
  ·simp at h
  ·left;simpa using h
 |y::r,c,x,h=>by
  simp only[putX] at h;split at h
  ·rcases YC.1 h with e|e
   ·right;simp[e]
   ·rcases ZpM e with e|e
    ·exact .inl e
    ·right;simp[e]
  ·split at h
   ·split at h
    ·right;simp[h]
    ·right;exact h
   ·split at h
    ·rcases YC.1 h with e|e
     ·exact .inl e
     ·right;simp[e]
    ·rcases YC.1 h with e|e
     ·exact .inl e
     ·right;exact e
theorem Zy3:∀{m:List Cell} {c:Cell},Vld m->Vld (putX m c)
 |[],c,_=>by
  simp only[putX];split
  ·exact⟨List.Pairwise.nil,λc h=>by simp at h⟩
  ·rename_i hz;exact⟨by simp,λx h=>by simp at h;rw[h];exact hz⟩
 |y::r,c,h=>by
  have h1:=YZ.1 h.1;have hy:=h.2 y (by simp);simp only[putX];split
  ·rename_i hlt;have ih:=Zy3 (c:=c) h.tail;refine⟨YZ.2 ⟨λx hx=> ?_,ih.1⟩,λx hx=> ?_⟩
   ·rcases ZpM hx with e|e
    ·rw[e];exact hlt
    ·exact h1.1 x e
   ·rcases YC.1 hx with e|e
    ·rw[e];exact hy
    ·exact ih.2 x e
  ·rename_i hge;split
   ·split
    ·exact h.tail
    ·exact h
   ·rename_i hz;split
    ·rename_i he;refine⟨YZ.2 ⟨λx hx=> ?_,h1.2⟩,λx hx=> ?_⟩
     ·have:=h1.1 x hx;omega
     ·rcases YC.1 hx with e|e
      ·rw[e];exact hz
      ·exact h.2 x (YQ _ e)
    ·rename_i hne;refine⟨YZ.2 ⟨λx hx=> ?_,h.1⟩,λx hx=> ?_⟩
     ·rcases YC.1 hx with e|e
      ·rw[e];omega
      ·have:=h1.1 x e;omega
     ·rcases YC.1 hx with e|e
      ·rw[e];exact hz
      ·exact h.2 x e
variable {l:List Cell}
theorem Zqq {a:Int} (h:∀c∈l,c.1≠a):getX l a=0:=by rw[getX,Zl7 h];rfl
theorem Zdl {x:Cell} {r:List Cell} (h:∀c∈r,x.1<c.1) (a:Int):getX (x::r) a=if x.1=a then x.2 else getX r a:=by
 rw[ZlW];by_cases hx:x.1=a
 ·have:flt a r=[]:=Zl7 λc hc=>by have:=h c hc;omega
  simp[hx,this]
 ·simp[hx]
theorem Zy4:∀{m:List Cell} {c:Cell},Vld m->∀a,getX (putX m c) a=if c.1=a then c.2 else getX m a
 |[],c,_,a=>by
  simp only[putX];split
  ·rename_i hz;rw[ZzU,hz];simp
  ·rw[Zdl (by simp)]
 |y::r,c,h,a=>by
  have h1:=YZ.1 h.1;simp only[putX];split
  ·rename_i hlt
   rw[Zdl (λx hx=>by
    rcases ZpM hx with e|e
    ·rw[e];exact hlt
    ·exact h1.1 x e),Zdl h1.1,Zy4 h.tail a]
   by_cases e1:y.1=a
   ·simp only[e1,if_true];rw[Y0 (by omega)]
   ·simp[e1]
  ·rename_i hge;split
   ·rename_i hz;split
    ·rename_i he;rw[Zdl h1.1];by_cases e:c.1=a
     ·rw[YW e,hz];exact Zqq λx hx=>by have:=h1.1 x hx;omega
     ·rw[Y0 e,Y0 (by omega)]
    ·rename_i hne;by_cases e:c.1=a
     ·rw[YW e,hz];exact Zqq λx hx=>by
       rcases YC.1 hx with e'|e'
       ·rw[e'];omega
       ·have:=h1.1 x e';omega
     ·rw[Y0 e]
   ·split
    ·rename_i he;rw[Zdl (λx hx=>by have:=h1.1 x hx;omega),Zdl h1.1];by_cases e:c.1=a
     ·simp[e]
     ·rw[Y0 e,Y0 e,Y0 (by omega)]
    ·rename_i hne
     rw[Zdl (λx hx=>by
      rcases YC.1 hx with e|e
      ·rw[e];omega
      ·have:=h1.1 x e;omega)]
def normX (l:List Cell):List Cell:=l.foldl putX []
theorem ZGM (l:List Cell) (c:Cell) (a:Int):getX (l++[c]) a=if c.1=a then c.2 else getX l a:=by
 rw[getX,getX,Ziu];by_cases h:c.1=a
 ·have:flt a [c]=[c]:=by simp[flt,h]
  rw[this,List.getLast?_append];simp[h]
 ·have:flt a [c]=[]:=Zl7 λx hx=>by simp at hx;rw[hx];exact h
  rw[this];simp[h]
theorem Zl2:∀(l:List Cell) {m:List Cell},Vld m->Vld (l.foldl putX m)/\∀a,getX (l.foldl putX m) a=getX (m++l) a
 |[],m,h=>⟨h,λa=>by simp⟩
 |c::l,m,h=>by
  obtain⟨h1,h2⟩:=Zl2 l (Zy3 (c:=c) h);refine⟨h1,λa=> ?_⟩;rw[List.foldl_cons,h2 a];have e:m++c::l=(m++[c])++l:=by simp
  rw[e];have key:∀{p q:List Cell},(∀b,getX p b=getX q b)->∀l b,getX (p++l) b=getX (q++l) b:=by
   intro p q hpq l b;simp only[getX,Ziu,List.getLast?_append];cases hl:(flt b l).getLast? with
   |none=>simpa [getX] using hpq b
   |some x=>simp
  exact key (λb=>by rw[Zy4 h,ZGM]) l a
theorem Zhh (l:List Cell):Vld (normX l):=(Zl2 l ⟨List.Pairwise.nil,λc h=>by simp at h⟩).1
theorem ZFU (l:List Cell) (a:Int):getX (normX l) a=getX l a:=(Zl2 l ⟨List.Pairwise.nil,λc h=>by simp at h⟩).2 a
theorem ZIY (h:Vld m) (e:∀a,getX m a=getX l a):normX l=m:=ZLe (Zhh l) h λa=>by rw[ZFU,e]
theorem Zno (h:Vld m):normX m=m:=ZIY h λ_=>rfl
end Go.Proofs.Cells
namespace Go.Proofs.YtpnjbfjomebppaaGreat
noncomputable section
abbrev Z7:=QT9
theorem ZMW (l:List Cell) (i:Nat) (h:i<l.length):l.drop i=el l i::l.drop (i+1):=by rw[List.drop_eq_getElem_cons h];have:=Zf9 l i h;rw[Yn h,oinj] at this;rw[this]
theorem Zuw (l:List Cell) (i:Nat) (h:i<l.length):l.take (i+1)=l.take i++[el l i]:=by rw[List.take_add_one,Zf9 l i h];rfl
theorem ZOh (l:List Cell) (i:Nat) (h:i<l.length):el l i∈l:=YaE.2 ⟨i,Zf9 l i h⟩
def okAt (m:List Cell) (i:Nat):Bool:= !((el m i).2==0||(decide ((i:Int)>0)&&decide ((el m i).1<=(el m (i-1)).1)))
def vldB (m:List Cell):Bool:=(List.range m.length).all (okAt m)
variable {m:List Cell} {i:Nat}
theorem ZAh (hi:i<m.length) (h:okAt m i=false):vldB m=false:=by rw[YG];intro he;have:=YT.1 he i (Yaw.2 hi);rw[h] at this;exact absurd this (by simp)
theorem Zq1 (h:∀i,i<m.length->okAt m i=true):vldB m=true:=YT.2 λi hi=>h i (Yaw.1 hi)
theorem Zxt:vldB m=true↔Vld m:=by
 constructor
 ·intro h;have ha:∀i,i<m.length->okAt m i=true:=λi hi=>YT.1 h i (Yaw.2 hi)
  have hs:∀i,i+1<m.length->(el m i).1<(el m (i+1)).1:=λi hi=>by
   have:=ha (i+1) hi;simp only[okAt,YN,Yi,Yab,Yaf,Nat.add_sub_cancel] at this;rcases this.2 with e|e
   ·omega
   ·omega
  refine⟨?_,λc hc=> ?_⟩
  ·rw[List.pairwise_iff_getElem];have key:∀d i,i+d+1<m.length->(el m i).1<(el m (i+d+1)).1:=by
    intro d
    induction d with
    |zero=>intro i hi;exact hs i hi
    |succ d ih=>intro i hi;have h1:=ih i (by omega);have h2:=hs (i+d+1) (by omega);rw[show i+(d+1)+1=i+d+1+1 by omega];omega
   intro i j hi hj hij;have:=key (j-i-1) i (by omega);rw[show i+(j-i-1)+1=j by omega] at this;have e1:=Zf9 m i hi;have e2:=Zf9 m j hj;rw[Yn hi,oinj] at e1;rw[Yn hj,oinj] at e2;rw[e1,e2];exact this
  ·obtain⟨i,hi⟩:=YaE.1 hc;have hlt:=(Yx.1 hi).1;rw[Zf9 m i hlt,oinj] at hi;have:=ha i hlt;rw[<-hi];simp only[okAt,YN,Yi,beq_eq_false_iff_ne] at this;exact this.1
 ·intro h;refine Zq1 λi hi=> ?_
  simp only[okAt,YN,Yi,beq_eq_false_iff_ne,Yab,Yaf];refine⟨h.2 _ (ZOh m i hi),?_⟩;by_cases h0:i=0
  ·left;omega
  ·right;have:=List.pairwise_iff_getElem.1 h.1 (i-1) i (by omega) hi (by omega);have e1:=Zf9 m (i-1) (by omega);have e2:=Zf9 m i hi;rw[Yn (by omega),oinj] at e1;rw[Yn hi,oinj] at e2;rw[e1,e2] at this;omega
theorem wsub1 (i:Nat) (h:0<i) (h2:i<=4611686018427387904):IntKind.wrap .i64 ((i:Int)-1)=((i-1:Nat):Int):=by rw[Zv _ (by omega) (by omega)];omega
theorem ZMo (m:List Cell) (i:Nat):((el m i).2==0||(decide ((i:Int)>0)&&decide ((el m i).1<=(el m (i-1)).1)))= !okAt m i:=by simp only[okAt,Bool.not_not]
theorem ZmP (m:List Cell) (hm:m.length<=most):(ZhW m).val=some (vldB m):=by
 have hms:=mst;obtain⟨r,hr,hR⟩:=Zat (fl:=true) (t:=Zdo) (fuel:=λa=>1000000000000)
  (I:=λa=>∃i:Nat,i<=m.length/\(∀k,k<i->okAt m k=true)/\a=(m,false,(m.length:Int),(i:Int),()))
  (m:=λa=>Int.toNat (a.2.2.1-a.2.2.2.1)) (R:=λr=>(r.1=false/\vldB m=true)\/(r.1=true/\vldB m=false/\r.2.2.1=false))
  (λa hi=>by
   obtain⟨i,hi,hk,rfl⟩:=hi;by_cases hlt:i<m.length
   ·have d:decide ((i:Int)<(m.length:Int))=true:=by simpa using hlt
    have r1:=ZdT m i hlt;have hw:decide ((i:Int)>0)=true->Ze (IntKind.wrap .i64 ((i:Int)-1)) m.length=true/\IntKind.wrap .i64 ((i:Int)-1)=((i-1:Nat):Int):=λh=>by simp only[YF] at h;have e:=wsub1 i (by omega) (by omega);exact⟨by rw[e];exact ZdT m (i-1) (by omega),e⟩
    have hck:((el m i).2==0||(!decide ((i:Int)>0)||Ze (IntKind.wrap .i64 ((i:Int)-1)) m.length))=true:=by
     cases h:decide ((i:Int)>0) with
     |false=>simp
     |true=>rw[(hw h).1];simp
    have hcd:((el m i).2==0||(decide ((i:Int)>0)&&decide ((el m i).1<=(R.get CR m (IntKind.wrap .i64 ((i:Int)-1))).1)))= !okAt m i:=by
     rw[<-ZMo];cases h:decide ((i:Int)>0) with
     |false=>simp
     |true=>rw[(hw h).2,ZiN]
    cases ho:okAt m i with
    |true=>
     left;refine⟨(m,false,(m.length:Int),((i+1:Nat):Int),()),?_,⟨i+1,hlt,λk hk'=> ?_,rfl⟩,by simp only;omega⟩
     ·rw[ho] at hcd;simp only[Zdo,RT.val,d,r1,ZiN,hck,hcd,Yf,Yk,Ye,Ya,Yb,Zub i (by omega)]
     ·by_cases e:k=i
      ·subst e;exact ho
      ·exact hk k (by omega)
    |false=>
     right;right;refine⟨(m,false,(m.length:Int),(i:Int),()),rfl,?_,.inr ⟨rfl,ZAh hlt ho,rfl⟩⟩;rw[ho] at hcd;simp only[Zdo,RT.val,d,r1,ZiN,hck,hcd,Yf,Yl,Yk,Ye,Ya,Yb]
   ·right;left;have d:decide ((i:Int)<(m.length:Int))=false:=by simpa using hlt
    exact⟨(m,false,(m.length:Int),(i:Int),()),by simp only[Zdo,RT.val,d,Yb],.inl ⟨rfl,Zq1 λk hk'=>hk k (by omega)⟩⟩)
  (m,false,(m.length:Int),0,()) ⟨0,Yr _,λk h=>by omega,rfl⟩ (by simp only;omega)
 have hr':runF true Zdo (λa=>1000000000000) (m,false,iN m.length,0,())=some r:=hr;rcases hR with ⟨h1,h2⟩|⟨h1,h2,h3⟩
 ·simp only[ZhW,RT.val,hr',okB,getO,Ya,h1,Yb,h2]
 ·simp only[ZhW,RT.val,hr',okB,getO,Ya,h1,h2,h3]
variable {t:Int}
theorem ZMJ (hi:i<m.length) (he:(el m i).1=t) (hk:∀k,i<k->k<m.length->(el m k).1≠t):getX m t=(el m i).2:=by
 have e:m=m.take i++[el m i]++m.drop (i+1):=by rw[YI,List.singleton_append,<-ZMW m i hi,List.take_append_drop]
 have h0:flt t (m.drop (i+1))=[]:=Zl7 λc hc=>by obtain⟨k,h1,h2,rfl⟩:=ZI2 hc;exact hk k (by omega) h2
 have h1:flt t [el m i]=[el m i]:=by simp[flt,he]
 have h2:flt t m=flt t (m.take i)++[el m i]:=by conv=>lhs;rw[e,Ziu,Ziu,h0,h1,YS]
 rw[getX,h2,List.getLast?_append];simp
theorem ZIa (m:List Cell) (t:Int) (hm:m.length<=most):(Znc m t).val=some (getX m t):=by
 have hms:=mst;obtain⟨r,hr,hR⟩:=Zat (fl:=true) (t:=ZfE) (fuel:=λa=>1000000000000)
  (I:=λa=>∃i:Nat,i<=m.length/\(∀k,i<=k->k<m.length->(el m k).1≠t)/\a=(m,t,0,(i:Int)-1,()))
  (m:=λa=>Int.toNat (a.2.2.2.1+1)) (R:=λr=>(r.1=false/\getX m t=0)\/(r.1=true/\r.2.2.2.1=getX m t))
  (λa hi=>by
   obtain⟨i,hi,hk,rfl⟩:=hi;cases i with
   |zero=>
    right;left;refine⟨(m,t,0,((0:Nat):Int)-1,()),by simp[ZfE,RT.val],.inl ⟨rfl,Zqq λc hc=> ?_⟩⟩;obtain⟨k,hk'⟩:=YaE.1 hc;have hlt:=(Yx.1 hk').1;rw[Zf9 m k hlt,oinj] at hk';rw[<-hk'];exact hk k (Yr _) hlt
   |succ i=>
    have ei:((i+1:Nat):Int)-1=(i:Int):=by omega
    rw[ei];have d:decide ((i:Int)>=0)=true:=by simp
    have r1:=ZdT m i (by omega);cases he:((el m i).1==t) with
    |true=>
     right;right;refine⟨(m,t,(el m i).2,(i:Int),()),rfl,by simp only[ZfE,RT.val,d,r1,ZiN,he,Ya,Yf,Yk],.inr ⟨rfl,?_⟩⟩;exact (ZMJ (by omega) (by simpa using he) λk h1 h2=>hk k (by omega) h2).symm
    |false=>
     left;refine⟨(m,t,0,(i:Int)-1,()),?_,⟨i,by omega,λk h1 h2=> ?_,rfl⟩,by simp only;omega⟩
     ·have w:IntKind.wrap .i64 ((i:Int)-1)=(i:Int)-1:=Zv _ (by omega) (by omega);simp only[ZfE,RT.val,d,r1,ZiN,he,Ya,Yb,Yf,Yl,Yt,Yk,w]
     ·by_cases e:k=i
      ·subst e;simpa using he
      ·exact hk k (by omega) h2)
  (m,t,0,(m.length:Int)-1,()) ⟨m.length,Yd _,λk h1 h2=>by omega,rfl⟩ (by simp only;omega)
 have w:IntKind.wrap .i64 (iN m.length-1)=(m.length:Int)-1:=Zv _ (by simp only[iN];omega) (by simp only[iN];omega);rcases hR with ⟨h1,h2⟩|⟨h1,h2⟩
 ·simp only[Znc,RT.val,w,hr,okB,getO,Ya,h1,Yb,h2]
 ·simp only[Znc,RT.val,w,hr,okB,getO,Ya,h1,h2]
def pst (c:Cell) (s:Bool×List Cell) (x:Cell):Bool×List Cell:=
 let t:= !s.1&&decide (x.1>=c.1)
 let o:=bif t then (bif c.2 !=0 then s.2++[c] else s.2) else s.2
 (t||s.1,bif x.1 !=c.1 then o++[x] else o)
def pfin (c:Cell) (s:Bool×List Cell):List Cell:=bif !s.1&&c.2 !=0 then s.2++[c] else s.2
theorem Zy9 (c:Cell):∀(m:List Cell) (o:List Cell),(∀x∈m,x.1≠c.1)->m.foldl (pst c) (true,o)=(true,o++m)
 |[],o,_=>by simp
 |x::m,o,h=>by
  have hx:(x.1 !=c.1)=true:=by simpa using h x (by simp)
  simp only[List.foldl_cons,pst,Yf,YD,Yb,Ye,hx,Ya];rw[Zy9 c m (o++[x]) λy hy=>h y (YQ _ hy)];simp
theorem ZFv (c:Cell):∀(m:List Cell) (o:List Cell),m.Pairwise (λa b=>a.1<b.1)->pfin c (m.foldl (pst c) (false,o))=o++putX m c
 |[],o,_=>by
  simp only[List.foldl_nil,pfin,putX,Yl,YL];by_cases h:c.2=0
  ·simp[h]
  ·have:(c.2 !=0)=true:=by simpa using h
   simp[h,this]
 |x::m,o,h=>by
  have h1:=YZ.1 h;by_cases hx:x.1<c.1
  ·have e1:decide (x.1>=c.1)=false:=by simp;omega
   have e2:(x.1 !=c.1)=true:=by simp;omega
   simp only[List.foldl_cons,pst,e1,YP,Yb,Yw,e2,Ya];rw[ZFv c m (o++[x]) h1.2,putX,YW hx];simp
  ·have e1:decide (x.1>=c.1)=true:=by simp;omega
   have hne:∀y∈m,y.1≠c.1:=λy hy=>by have:=h1.1 y hy;omega
   simp only[List.foldl_cons,pst,e1,Yl,Yah,Ya,Yt];rw[Zy9 c m _ hne,putX,Y0 hx];simp only[pfin,Yf,YD,Yb];by_cases hz:c.2=0
   ·by_cases hk:x.1=c.1
    ·simp[hz,hk]
    ·have:(x.1 !=c.1)=true:=by simpa using hk
     simp[hz,hk,this]
   ·have hz1:(c.2 !=0)=true:=by simpa using hz
    by_cases hk:x.1=c.1
    ·simp[hz,hk,hz1]
    ·have:(x.1 !=c.1)=true:=by simpa using hk
     simp[hz,hk,this,hz1]
theorem Zwc (c:Cell):∀(m:List Cell) (s:Bool×List Cell),(m.foldl (pst c) s).2.length+(bif (m.foldl (pst c) s).1 then 0 else 1)<=s.2.length+(bif s.1 then 0 else 1)+m.length
 |[],s=>by simp
 |x::m,s=>by
  rw[List.foldl_cons];have ih:=Zwc c m (pst c s x);have:(pst c s x).2.length+(bif (pst c s x).1 then 0 else 1)<=s.2.length+(bif s.1 then 0 else 1)+1:=by obtain⟨d,o⟩:=s;simp only[pst];generalize decide (x.1>=c.1)=b1;generalize (c.2 !=0)=b2;generalize (x.1 !=c.1)=b3;cases d<;>cases b1<;>cases b2<;>cases b3<;>simp<;>omega
  simp only[List.length_cons];omega
theorem ZjT (m:List Cell) (c:Cell) (hv:Vld m) (hm:m.length+1<=most):Zm7 m c=true/\ZAL m c=putX m c:=by
 have hms:=mst;obtain⟨r,hr,h1,i,hR⟩:=Zat (fl:=false) (t:=Zg3) (fuel:=λa=>1000000000000)
  (λa=>∃i:Nat,i<=m.length/\a=(((m.take i).foldl (pst c) (false,[])).1,m,(m.length:Int),(i:Int),c,((m.take i).foldl (pst c) (false,[])).2,()))
  (λa=>Int.toNat (a.2.2.1-a.2.2.2.1)) (λr=>r.1=false/\∃i:Nat,r.2=((m.foldl (pst c) (false,[])).1,m,(m.length:Int),(i:Int),c,(m.foldl (pst c) (false,[])).2,()))
  (by
   rintro a ⟨i,hi,rfl⟩;by_cases hlt:i<m.length
   ·left;have d:decide ((i:Int)<(m.length:Int))=true:=by simpa using hlt
    have r1:=ZdT m i hlt;have hl:=Zwc c (m.take i) (false,[]);have hs:(m.take (i+1)).foldl (pst c) (false,[])=pst c ((m.take i).foldl (pst c) (false,[])) (el m i):=by rw[Zuw m i hlt,List.foldl_append];rfl
    rw[Y4,Nat.min_eq_left (by omega)] at hl;refine⟨_,?_,⟨i+1,hlt,rfl⟩,by simp only;omega⟩;rw[hs];generalize (m.take i).foldl (pst c) (false,[])=s at hl|-;obtain⟨dn,o⟩:=s;simp only[List.length_nil,Yb] at hl;simp only[Zg3,RT.val,d,r1,ZiN,Ya,Yf,Yk,pst,Zub i (by omega)];generalize decide ((el m i).1>=c.1)=b1;generalize hb2:(c.2 !=0)=b2;generalize hb3:((el m i).1 !=c.1)=b3;have l1:Nat.ble (o++[c]).length most=true\/dn=true:=by
     cases dn with
     |true=>exact .inr rfl
     |false=>left;rw[YU];simp only[Yb] at hl;simp only[Yh,List.length_singleton];omega
    have l2:Nat.ble (o++[el m i]).length most=true:=by rw[YU];simp only[Yh,List.length_singleton];cases dn<;>simp only[Ya,Yb] at hl<;>omega
    have l3:Nat.ble (o++[c]++[el m i]).length most=true\/dn=true:=by
     cases dn with
     |true=>exact .inr rfl
     |false=>left;rw[YU];simp only[Yb] at hl;simp only[Yh,List.length_singleton];omega
    cases dn with
    |true=>
     cases b3<;>simp only[l2,Yf,Yl,YD,Yt,Yk,Ye,Ya,Yb]
    |false=>
     have l1:Nat.ble (o++[c]).length most=true:=by simpa using l1
     have l3:Nat.ble (o++[c]++[el m i]).length most=true:=by simpa using l3
     cases b1<;>cases b2<;>cases b3<;>simp only[l1,l2,l3,Yf,Yl,YD,YL,Yt,Yk,Ye,Yw,Yah,Ya,Yb]
   ·right;left;have d:decide ((i:Int)<(m.length:Int))=false:=by simpa using hlt
    have e:m.take i=m:=YaB (by omega);rw[e]
    exact⟨_,by simp only[Zg3,RT.val,d,Yb],rfl,i,rfl⟩)
  (false,m,iN m.length,0,c,[],()) ⟨0,Yr _,rfl⟩ (by simp only[iN];omega)
 have hl:=Zwc c m (false,[]);have hp:=ZFv c m [] hv.1;simp only[List.nil_append] at hp;obtain⟨r1,r2⟩:=r;simp only at h1 hR;subst h1 hR;generalize m.foldl (pst c) (false,[])=s at hl hp hr;obtain⟨dn,o⟩:=s;have hb:(!(!dn&&c.2 !=0)||Nat.ble (o++[c]).length most)=true:=by
  cases dn with
  |true=>rfl
  |false=>
   have:Nat.ble (o++[c]).length most=true:=by rw[YU];simp only[Yb,List.length_nil] at hl;simp only[Yh,List.length_singleton];omega
   rw[this];simp
 have hv:(Zm6 m c).val=some (putX m c):=by simp only[Zm6,RT.val,hr,okB,getO,Ya,hb,<-hp,pfin]
 exact⟨by simp only[Zm7,hv];rfl,by simp only[ZAL,hv,getO]⟩
theorem ZpN (c:Cell):∀m:List Cell,(putX m c).length<=m.length+1
 |[]=>by simp only[putX];split<;>simp
 |x::m=>by
  have:=ZpN c m;simp only[putX];repeat' split
  all_goals simp only[List.length_cons];omega
theorem Znn (l:List Cell) (c:Cell):normX (l++[c])=putX (normX l) c:=by simp[normX,List.foldl_append]
theorem ZzZ:∀(l m:List Cell),(l.foldl putX m).length<=m.length+l.length
 |[],m=>by simp
 |x::l,m=>by have:=ZzZ l (putX m x);have:=ZpN x m;simp only[List.foldl_cons,List.length_cons];omega
theorem Zdu (l:List Cell):(normX l).length<=l.length:=by have:=ZzZ l [];simpa [normX] using this
theorem ZjW (l:List Cell) (hl:l.length+1<=most):Zna l=true/\ZAO l=normX l:=by
 have hms:=mst;have h1:=ZmP l (by omega);have hc:ZhY l=true:=by simp only[ZhY,h1];rfl
 have hv0:Zj6 l=vldB l:=by simp only[Zj6,h1,getO]
 have hv:(Zm9 l).val=some (normX l):=by
  cases hb:vldB l with
  |true=>
   have e:Nat.ble l.length most=true:=by rw[YU];omega
   simp only[Zm9,RT.val,hc,hv0,hb,List.nil_append,e,Ya,Yf,Yk,Zno (Zxt.1 hb)]
  |false=>
   obtain⟨r,hr,h1,i,hR⟩:=Zat (fl:=false) (t:=Zg6) (fuel:=λa=>1000000000000)
    (λa=>∃i:Nat,i<=l.length/\a=(normX (l.take i),l,(l.length:Int),(i:Int),()))
    (λa=>Int.toNat (a.2.2.1-a.2.2.2.1)) (λr=>r.1=false/\∃i:Nat,r.2=(normX l,l,(l.length:Int),(i:Int),()))
    (by
     rintro a ⟨i,hi,rfl⟩;by_cases hlt:i<l.length
     ·left;have d:decide ((i:Int)<(l.length:Int))=true:=by simpa using hlt
      have r1:=ZdT l i hlt;have hlen:=Zdu (l.take i);rw[Y4] at hlen;have hp:=ZjT (normX (l.take i)) (el l i) (Zhh _) (by omega);refine⟨_,?_,⟨i+1,hlt,rfl⟩,by simp only;omega⟩;rw[Zuw l i hlt,Znn];simp only[Zg6,RT.val,d,r1,ZiN,hp.1,hp.2,Ya,Ye,Zub i (by omega)]
     ·right;left;have d:decide ((i:Int)<(l.length:Int))=false:=by simpa using hlt
      have e:l.take i=l:=YaB (by omega);rw[e]
      exact⟨_,by simp only[Zg6,RT.val,d,Yb],rfl,i,rfl⟩)
    ([],l,iN l.length,0,()) ⟨0,Yr _,rfl⟩ (by simp only[iN];omega)
   obtain⟨r1,r2⟩:=r;simp only at h1 hR;subst h1 hR;simp only[Zm9,RT.val,hc,hv0,hb,hr,okB,getO,Ya,Yb,Yl,Yt]
 exact⟨by simp only[Zna,hv];rfl,by simp only[ZAO,hv,getO]⟩
theorem ZH7 (m:List Cell) (t v:Int) (hm:m.length+1<=most):Zyt m t v=true/\ZIo m t v=putX (normX m) (t,v):=by
 have h1:=ZjW m hm;have h2:=ZjT (normX m) (t,v) (Zhh m) (by have:=Zdu m;omega);have hv:(ZrV m t v).val=some (putX (normX m) (t,v)):=by simp only[ZrV,RT.val,h1.1,h1.2,h2.1,h2.2,Ya,Ye]
 exact⟨by simp only[Zyt,hv];rfl,by simp only[ZIo,hv,getO]⟩
abbrev BR:R:=R.int u8
theorem get_d (l:List Int) (i:Nat):R.get BR l (i:Int)=l.getD i 0:=by simp[R.get,R.Df]
def ZlN (t:Int) (b:List Int) (n:Nat):List Cell:=(List.range n).map λi:Nat=>(IntKind.wrap .u16 (t+IntKind.wrap .u16 (i:Int)),b.getD i 0)
theorem ZCa (t:Int) (b:List Int) (n:Nat):ZlN t b (n+1)=ZlN t b n++[(IntKind.wrap .u16 (t+IntKind.wrap .u16 (n:Int)),b.getD n 0)]:=by simp[ZlN,List.range_succ]
theorem ZlM (t:Int) (b:List Int) (n:Nat):(ZlN t b n).length=n:=by simp[ZlN]
def Zmr (t:Int) (b:List Int):List Cell:=normX (ZlN t b b.length)
theorem ZDR (m:List Cell) (hm:m.length<=most):ZhY m=true/\Zj6 m=vldB m:=by have h:=ZmP m hm;exact⟨by simp only[ZhY,h];rfl,by simp only[Zj6,h,getO]⟩
theorem ZLB (m:List Cell) (t:Int) (hm:m.length<=most):ZyO m t=true/\ZIC m t=getX m t:=by have h:=ZIa m t hm;exact⟨by simp only[ZyO,h];rfl,by simp only[ZIC,h,getO]⟩
abbrev GR:R:=R.Pq (R.int u16) (R.Pq (R.int u16) (R.Pq R.bool (R.int i64)))
def hitB (t:Int) (r:Z7):Bool:=decide (r.1<=t)&&decide (t<=r.2.1)
def ZbI (l:List Z7) (t:Int):Int:=if l.findIdx (hitB t)<l.length then (l.findIdx (hitB t):Int) else-1
def rg (l:List Z7) (i:Nat):Z7:=l.getD i (0,0,false,0)
theorem ZKS (l:List Z7) (i:Nat):R.get GR l (i:Int)=rg l i:=by simp[R.get,R.Df,rg]
theorem Zrp (l:List Z7) (i:Nat) (h:i<l.length):l[i]=rg l i:=by simp[rg,h]
theorem ZMP {l:List Z7} (hi:i<l.length) (h:hitB t (rg l i)=true) (hk:∀k,k<i->hitB t (rg l k)=false):ZbI l t=i:=by have:l.findIdx (hitB t)=i:=(List.findIdx_eq hi).2 ⟨by rw[Zrp l i hi];exact h,λj hj=>by rw[Zrp l j (by omega)];exact hk j hj⟩;simp only[ZbI,this,hi,if_true]
theorem ZMO {l:List Z7} (hk:∀k,k<l.length->hitB t (rg l k)=false):ZbI l t= -1:=by
 have:¬l.findIdx (hitB t)<l.length:=by rw[List.findIdx_lt_length];rintro⟨x,hx,hp⟩;obtain⟨i,hi,rfl⟩:=List.mem_iff_getElem.1 hx;rw[Zrp l i hi,hk i hi] at hp;exact absurd hp (by simp)
 simp only[ZbI,this,if_false]
theorem ZjX (l:List Z7) (t:Int) (hl:l.length<=most):Zne l t=true/\Zi1 l t=ZbI l t:=by
 have hms:=mst;obtain⟨r,hr,hR⟩:=Zat (fl:=true) (t:=ZfF) (fuel:=λ_=>1000000000000)
  (λx=>∃i:Nat,i<=l.length/\(∀k,k<i->hitB t (rg l k)=false)/\x=(t,0,l,(l.length:Int),(i:Int),()))
  (λx=>Int.toNat (x.2.2.2.1-x.2.2.2.2.1)) (λr=>(r.1=false/\ZbI l t= -1)\/(r.1=true/\r.2.2.1=ZbI l t))
  (by
   rintro x ⟨i,hi,hk,rfl⟩;by_cases hlt:i<l.length
   ·have d:decide ((i:Int)<(l.length:Int))=true:=by simpa using hlt
    have r1:=ZdT l i hlt;have g1:=ZKS l i;cases hh:hitB t (rg l i) with
    |false=>
     left;refine⟨(t,0,l,(l.length:Int),((i+1:Nat):Int),()),?_,⟨i+1,hlt,λk hk'=> ?_,rfl⟩,by simp only;omega⟩
     ·simp only[hitB] at hh;simp only[ZfF,RT.val,d,r1,g1,hh,Ya,Yb,Zub i (by omega)]
     ·by_cases e:k=i
      ·subst e;exact hh
      ·exact hk k (by omega)
    |true=>
     right;right;refine⟨(t,(i:Int),l,(l.length:Int),(i:Int),()),rfl,?_,.inr ⟨rfl,(ZMP hlt hh hk).symm⟩⟩;simp only[hitB] at hh;simp only[ZfF,RT.val,d,r1,g1,hh,Ya]
   ·right;left;have d:decide ((i:Int)<(l.length:Int))=false:=by simpa using hlt
    exact⟨_,by simp only[ZfF,RT.val,d,Yb];rfl,.inl ⟨rfl,ZMO λk h=>hk k (by omega)⟩⟩)
  (t,0,l,iN l.length,0,()) ⟨0,Yr _,λk h=>by omega,rfl⟩ (by simp only[iN];omega)
 have hv:(Znd l t).val=some (ZbI l t):=by
  rcases hR with ⟨h1,h2⟩|⟨h1,h2⟩
  ·simp only[Znd,RT.val,hr,okB,getO,Ya,h1,Yb,h2]
  ·simp only[Znd,RT.val,hr,okB,getO,Ya,h1,h2]
 exact⟨by simp only[Zne,hv];rfl,by simp only[Zi1,hv,getO]⟩
def ZmS (l:List Z7) (m:List Cell) (t:Int):Int:=bif decide (ZbI l t<0) then 255 else getX m t
theorem ZDV (l:List Z7) (m:List Cell) (t:Int) (hl:l.length<=most) (hm:m.length<=most):Zu1 l m t=true/\ZEf l m t=ZmS l m t:=by
 have h1:=ZjX l t hl;have h2:=ZLB m t hm;have hv:(Zke l m t).val=some (ZmS l m t):=by simp only[Zke,RT.val,h1.1,h1.2,h2.1,h2.2,Ya,ZmS];cases decide (ZbI l t<0)<;>rfl
 exact⟨by simp only[Zu1,hv];rfl,by simp only[ZEf,hv,getO]⟩
end
end Go.Proofs.YtpnjbfjomebppaaGreat
