import Derived.Test.YtghoimllhpjkjaaGreatProg
import Derived.Shelf.Spec.SlicesInsertGrow
import Derived.Deep.RegionLaw
import Derived.Lib.SliceRun
import Derived.Test.YtghoimllhpjkjaaGreatS3Rows
import Derived.Test.YtghoimllhpjkjaaGreatS3Nil
set_option linter.unusedVariables false
set_option linter.unusedSimpArgs false
namespace Go.Proofs.YtghoimllhpjkjaaGreat
open Go Go.S3 Go.Proofs Go.Shelf Go.RowKit Go.Lib
noncomputable section
end
open Go Go.S3 Go.Proofs Go.Shelf Go.RowKit Go.Lib
noncomputable section
end
end Go.Proofs.YtghoimllhpjkjaaGreat
namespace Go.Proofs.Cells
abbrev Cell:=Int×Int
def flt (k:Int) (l:List Cell):List Cell:=l.filter (λc=>c.1==k)
def Srt (l:List Cell):Prop:=l.Pairwise (λa b=>a.1<=b.1)
def Sm (l l':List Cell):Prop:=∀k,flt k l=flt k l'
theorem Zh6 (k:Int) (a b:List Cell):flt k (a++b)=flt k a++flt k b:=List.filter_append ..
theorem ZlN {k:Int} {l:List Cell} (h:∀c∈l,c.1≠k):flt k l=[]:=by simp only[flt,List.filter_eq_nil_iff,beq_iff_eq];exact h
theorem Sm.refl (l:List Cell):Sm l l:=λ_=>rfl
theorem Sm.symm {a b:List Cell} (h:Sm a b):Sm b a:=λk=>(h k).symm
theorem Sm.trans {a b c:List Cell} (h:Sm a b) (k:Sm b c):Sm a c:=λi=>(h i).trans (k i)
variable {a b:List Cell}
theorem Sm.app {c d:List Cell} (h:Sm a b) (k:Sm c d):Sm (a++c) (b++d):=λi=>by rw[Zh6,Zh6,h i,k i]
theorem Sm.mem (h:Sm a b) (x:Cell):x∈a↔x∈b:=by
 have e:∀l:List Cell,x∈l↔x∈flt x.1 l:=λl=>by simp[flt]
 rw[e a,e b,h x.1]
theorem uniq:∀{l l':List Cell},Srt l->Srt l'->Sm l l'->l=l'
 |[],[],_,_,_=>rfl
 |[],y::r,_,_,h=>by have:=h y.1;simp[flt] at this
 |x::l,[],_,_,h=>by have:=h x.1;simp[flt] at this
 |x::l,y::r,hl,hr,h=>by
  have h1:=YY.1 hl;have h2:=YY.1 hr;have hx:x∈y::r:=(h.mem x).1 (by simp);have hy:y∈x::l:=(h.mem y).2 (by simp);have e1:y.1<=x.1:=by
   rcases YA.1 hx with e|e
   ·rw[e];exact Int.le_refl _
   ·exact h2.1 x e
  have e2:x.1<=y.1:=by
   rcases YA.1 hy with e|e
   ·rw[e];exact Int.le_refl _
   ·exact h1.1 y e
  have e:x.1=y.1:=Int.le_antisymm e2 e1;have hxy:=h x.1;have k1:flt x.1 (x::l)=x::flt x.1 l:=by simp[flt]
  have k2:flt x.1 (y::r)=y::flt x.1 r:=by simp[flt,e]
  rw[k1,k2] at hxy;obtain⟨exy,_⟩:=List.cons.inj hxy;subst exy;have:l=r:=uniq h1.2 h2.2 λk=>by
   have:=h k;by_cases hk:x.1=k
   ·subst hk;simpa [flt] using this
   ·simpa [flt,hk] using this
  rw[this]
end Go.Proofs.Cells
set_option maxRecDepth 100000
namespace Go.Proofs.YtghoimllhpjkjaaGreat
open Go Go.S3 Go.Proofs Go.Proofs.Cells
noncomputable section
end
end Go.Proofs.YtghoimllhpjkjaaGreat
open Go Go.S3 Go.Proofs
namespace Go.Proofs.YtghoimllhpjkjaaGreat
noncomputable section
end
end Go.Proofs.YtghoimllhpjkjaaGreat
open Go.S3
namespace Go.Proofs.Cells
end Go.Proofs.Cells
open Go.IntKind (u8 u16 i64)
open Go Go.S3 Go.Proofs Go.Proofs.Cells
namespace Go.Proofs.YtghoimllhpjkjaaGreat
noncomputable section
theorem ml:(maxLen:Int)<=9223372036854775807:=by decide
abbrev CR:R:=R.Pq (R.int u16) (R.int u8)
theorem mst:most=1073741824:=rfl
def el (l:List Cell) (i:Nat):Cell:=l.getD i (0,0)
theorem Zir (l:List Cell) (i:Nat):R.get CR l (i:Int)=el l i:=by simp[R.get,el,R.Df]
theorem ZfU (V:List Cell) (i:Nat) (h:i<V.length):V[i]? =some (el V i):=by simp[el,Yl,Yk h]
theorem ZIi {V:List Cell} {p:Nat} {y:Cell} (h:y∈V.drop p):∃i,p<=i/\i<V.length/\y=el V i:=by obtain⟨i,hi,rfl⟩:=List.mem_iff_getElem.1 h;simp only[Yah] at hi;refine⟨p+i,by omega,by omega,?_⟩;have:=ZfU V (p+i) (by omega);rw[Yk (by omega)] at this;simp only[oinj] at this;rw[<-this];simp
theorem ZdI {α:Type} (l:List α) (i:Nat) (h:i<l.length):Ze (i:Int) l.length=true:=ZB.2 (by omega)
theorem ZtD (i:Nat) (h:i<=4611686018427387904):IntKind.wrap .i64 ((i:Int)+1)=((i+1:Nat):Int):=by rw[Zq _ (by omega) (by omega)];simp
end
end Go.Proofs.YtghoimllhpjkjaaGreat
open Go.Proofs.Tryz (prog)
namespace Go.Proofs.YtghoimllhpjkjaaGreat
noncomputable section
abbrev Zn2:List Sh:=[Sh.one rcCE]
abbrev ZiR:Rs:=Rs.one (Sh.one R.bool)
def ZDp:LS:={n:=34,Sl:=[(0,.code (Sh.one rcCE)),(2,.code (Sh.one R.bool)),(5,.code (Sh.one (R.int i64))),(6,.code (Sh.one (R.int i64)))],Bx:=[],Sg:=[]}
def Zdc (a:List (Int×Int)×Bool×Int×Int×PUnit):RT (Option (Go1 (List (Int×Int)×Bool×Int×Int×PUnit))):=
 let x1:=(R.get (R.Pq (R.int u16) (R.int u8)) a.1 a.2.2.2.1).2==0
 let x2:= !Ze a.2.2.2.1 (List.length a.1)||(x1||(!decide (a.2.2.2.1>0)||(!Ze a.2.2.2.1 (List.length a.1)||Ze (i64.wrap (a.2.2.2.1-1)) (List.length a.1))))
 let x3:= !x2
 let x4:= !Ze a.2.2.2.1 (List.length a.1)||(x1||(!decide (a.2.2.2.1>0)||Ze a.2.2.2.1 (List.length a.1)))
 .br (decide (a.2.2.2.1<a.2.2.1)) (.br (x3||(!x4||Ze a.2.2.2.1 (List.length a.1))) (.br (x3||x4) (.br (x2) (.br (x1||decide (a.2.2.2.1>0)&&decide ((R.get (R.Pq (R.int u16) (R.int u8)) a.1 a.2.2.2.1).1<=(R.get (R.Pq (R.int u16) (R.int u8)) a.1 (i64.wrap (a.2.2.2.1-1))).1)) (.Lf (some (Go1.ret (a.1,false,a.2.2.1,a.2.2.2.1,PUnit.unit)))) (.Lf (some (Go1.cont (a.1,a.2.1,a.2.2.1,i64.wrap (a.2.2.2.1+1),PUnit.unit))))) (.Lf none)) (.Lf none)) (.Lf none)) (.Lf (some (Go1.brk (a.1,a.2.1,a.2.2.1,a.2.2.2.1,PUnit.unit))))
def Zq9:Ora:=Zdo true ZDp Zdc (λa=>1000000000000)
theorem Zuk:Zb9 (envX prog [] [] 15 8) (.block 0 (.loop (ZaV Tryz.f44.body 0))) Zq9:=
 loopP trivial
def ZhC (m:List (Int×Int)):RT (Option (Bool)):=
 let x1:=runF true Zdc (λa=>1000000000000) (m,false,iN (List.length m),0,())
 let x2:=getO (false,m,false,iN (List.length m),0,()) x1
 .br (okB x1) (.br x2.1 (.Lf (some x2.2.2.1)) (.Lf (some (true)))) (.Lf none)
def ZjN (m:List (Int×Int)):Bool:=getO ZiR.Df (ZhC m).val
def ZhD (m:List (Int×Int)):Bool:=okB (ZhC m).val
def Zul:En:=Zi Zn2 ZiR (λa=>some (ZhD a)) (λa=>ZjN a)
theorem ZjL:Zd prog 44 Zul:=
 pureP 15 [] [(0,Zq9)] Zn2 ZiR trivial Tryz.func44 Tryz.call44 ⟨Zuk,Tv⟩ (t:=λa=>ZhC a)
abbrev ZEf:List Sh:=[Sh.one rcCE,Sh.one (R.int u16)]
abbrev Zvp:Rs:=Rs.one (Sh.one (R.int u8))
def ZHP:LS:={n:=25,Sl:=[(0,.code (Sh.one rcCE)),(1,.code (Sh.one (R.int u16))),(4,.code (Sh.one (R.int u8))),(5,.code (Sh.one (R.int i64)))],Bx:=[],Sg:=[]}
def Zfs (a:List (Int×Int)×Int×Int×Int×PUnit):RT (Option (Go1 (List (Int×Int)×Int×Int×Int×PUnit))):=
 let x1:=(R.get (R.Pq (R.int u16) (R.int u8)) a.1 a.2.2.2.1).1==a.2.1
 .br (decide (a.2.2.2.1>=0)) (.br (!Ze a.2.2.2.1 (List.length a.1)||(!x1||Ze a.2.2.2.1 (List.length a.1))) (.br (Ze a.2.2.2.1 (List.length a.1)) (.br (x1) (.Lf (some (Go1.ret (a.1,a.2.1,(R.get (R.Pq (R.int u16) (R.int u8)) a.1 a.2.2.2.1).2,a.2.2.2.1,PUnit.unit)))) (.Lf (some (Go1.cont (a.1,a.2.1,a.2.2.1,i64.wrap (a.2.2.2.1-1),PUnit.unit))))) (.Lf none)) (.Lf none)) (.Lf (some (Go1.brk (a.1,a.2.1,a.2.2.1,a.2.2.2.1,PUnit.unit))))
def Zyc:Ora:=Zdo true ZHP Zfs (λa=>1000000000000)
theorem ZAn:Zb9 (envX prog [] [] 63 8) (.block 0 (.loop (ZaV Tryz.f35.body 0))) Zyc:=
 loopP trivial
def ZmP (m:List (Int×Int)) (t:Int):RT (Option (Int)):=
 let x1:List (Int×Int)×Int×Int×Int×PUnit:=(m,t,0,i64.wrap (iN (List.length m)-1),())
 let x2:=runF true Zfs (λa=>1000000000000) x1
 let x3:=getO (false,x1) x2
 .br (okB x2) (.br x3.1 (.Lf (some x3.2.2.2.1)) (.Lf (some (0)))) (.Lf none)
def ZHQ (m:List (Int×Int)) (t:Int):Int:=getO Zvp.Df (ZmP m t).val
def Zyd (m:List (Int×Int)) (t:Int):Bool:=okB (ZmP m t).val
def ZJz:En:=Zi ZEf Zvp (λa=>some (Zyd a.1 a.2)) (λa=>ZHQ a.1 a.2)
theorem ZHO:Zd prog 35 ZJz:=
 pureP 63 [] [(0,Zyc)] ZEf Zvp trivial Tryz.func35 Tryz.call35 ⟨ZAn,Tv⟩ (t:=λa=>ZmP a.1 a.2)
abbrev ZDF:List Sh:=[Sh.one rcCE,Sh.agg (R.Pq (R.int u16) (R.int u8))]
abbrev Zuy:Rs:=Rs.one (Sh.one rcCE)
def ZHD:LS:={n:=53,Sl:=[(3,.fix (A.loc 0 0)),(5,.tip 0),(6,.code (Sh.one R.bool)),(9,.code (Sh.one rcCE)),(10,.code (Sh.one (R.int i64))),(11,.code (Sh.one (R.int i64)))],Bx:=[[.many (R.Pq (R.int u16) (R.int u8))]],Sg:=[⟨(R.Pq (R.int u16) (R.int u8)),106,true⟩]}
def ZgM (a:QT7):RT (Option (Go1 (QT7))):=
 let x1:Int×Int:=R.get (R.Pq (R.int u16) (R.int u8)) a.2.1 a.2.2.2.1
 let x2:=x1.1
 let x3:= !a.1&&decide (x2>=a.2.2.2.2.1.1)
 let x4:List (Int×Int):=a.2.2.2.2.2.1++[a.2.2.2.2.1]
 let x5:= !x3||(!a.2.2.2.2.1.2 !=0||Nat.ble (List.length x4) most)
 let x6:=x2 !=a.2.2.2.2.1.1
 let x7:List (Int×Int):=bif x3 then bif a.2.2.2.2.1.2 !=0 then x4 else a.2.2.2.2.2.1 else a.2.2.2.2.2.1
 let x8:List (Int×Int):=x7++[x1]
 .br (decide (a.2.2.2.1<a.2.2.1)) (.br (!Ze a.2.2.2.1 (List.length a.2.1)||(!x5||(!x6||Nat.ble (List.length x8) most))) (.br (!Ze a.2.2.2.1 (List.length a.2.1)||x5) (.br (Ze a.2.2.2.1 (List.length a.2.1)) (.Lf (some (Go1.cont (x3||a.1,a.2.1,a.2.2.1,i64.wrap (a.2.2.2.1+1),a.2.2.2.2.1,bif x6 then x8 else x7,PUnit.unit)))) (.Lf none)) (.Lf none)) (.Lf none)) (.Lf (some (Go1.brk (a.1,a.2.1,a.2.2.1,a.2.2.2.1,a.2.2.2.2.1,a.2.2.2.2.2.1,PUnit.unit))))
def ZxT:Ora:=Zdo false ZHD ZgM (λa=>1000000000000)
theorem Zz5:Zb9 (envX prog [] [] 511 8) (.block 0 (.loop (ZaV Tryz.f149.body 0))) ZxT:=
 loopP trivial
def ZmJ (m:List (Int×Int)) (c:Int×Int):RT (Option (List (Int×Int))):=
 let x1:QT7:=(false,m,iN (List.length m),0,c,[],())
 let x2:=runF false ZgM (λa=>1000000000000) x1
 let x3:QT7:=(getO (false,x1) x2).2
 let x4:=x3.2.2.2.2
 let x5:=x4.1
 let x6:= !x3.1&&x5.2 !=0
 let x7:=x4.2.1
 let x8:List (Int×Int):=x7++[x5]
 .br (okB x2) (.br (!x6||Nat.ble (List.length x8) most) (.Lf (some (bif x6 then x8 else x7))) (.Lf none)) (.Lf none)
def Zz6 (m:List (Int×Int)) (c:Int×Int):List (Int×Int):=getO Zuy.Df (ZmJ m c).val
def ZmK (m:List (Int×Int)) (c:Int×Int):Bool:=okB (ZmJ m c).val
def ZxU:En:=Zi ZDF Zuy (λa=>some (ZmK a.1 a.2)) (λa=>Zz6 a.1 a.2)
theorem Zof:Zd prog 149 ZxU:=
 pureP 511 [] [(0,ZxT)] ZDF Zuy trivial Tryz.func149 Tryz.call149 ⟨Zz5,Tv⟩ (t:=λa=>ZmJ a.1 a.2)
abbrev ZuF:List Sh:=[Sh.one rcCE]
abbrev Zok:Rs:=Rs.one (Sh.one rcCE)
def ZHL:LS:={n:=21,Sl:=[(3,.code (Sh.one rcCE)),(10,.code (Sh.one rcCE)),(11,.code (Sh.one (R.int i64))),(12,.code (Sh.one (R.int i64)))],Bx:=[],Sg:=[]}
def ZgP (a:List (Int×Int)×List (Int×Int)×Int×Int×PUnit):RT (Option (Go1 (List (Int×Int)×List (Int×Int)×Int×Int×PUnit))):=
 let x1:Int×Int:=R.get (R.Pq (R.int u16) (R.int u8)) a.2.1 a.2.2.2.1
 .br (decide (a.2.2.2.1<a.2.2.1)) (.br (!Ze a.2.2.2.1 (List.length a.2.1)||ZmK a.1 x1) (.br (Ze a.2.2.2.1 (List.length a.2.1)) (.Lf (some (Go1.cont (Zz6 a.1 x1,a.2.1,a.2.2.1,i64.wrap (a.2.2.2.1+1),PUnit.unit)))) (.Lf none)) (.Lf none)) (.Lf (some (Go1.brk (a.1,a.2.1,a.2.2.1,a.2.2.2.1,PUnit.unit))))
def Zx2:Ora:=Zdo false ZHL ZgP (λa=>1000000000000)
theorem Zz8:Zb9 (envX prog [(44,Zul),(149,ZxU)] [] 63 8) (.block 0 (.loop (ZaV Tryz.f92.body 0))) Zx2:=
 loopP ⟨ZjL,Zof,Tv⟩
def ZmM (l:List (Int×Int)):RT (Option (List (Int×Int))):=
 let x1:=runF false ZgP (λa=>1000000000000) ([],l,iN (List.length l),0,())
 .br (ZhD l) (.br (!ZjN l||Nat.ble (List.length ([]++l)) most) (.br (ZjN l) (.Lf (some ([]++l))) (.br (okB x1) (.Lf (some (getO (false,[],l,iN (List.length l),0,()) x1).2.1)) (.Lf none))) (.Lf none)) (.Lf none)
def Zz9 (l:List (Int×Int)):List (Int×Int):=getO Zok.Df (ZmM l).val
def ZmN (l:List (Int×Int)):Bool:=okB (ZmM l).val
def ZDY:En:=Zi ZuF Zok (λa=>some (ZmN a)) (λa=>Zz9 a)
theorem Zoj:Zd prog 92 ZDY:=
 pureP 63 [(44,Zul),(149,ZxU)] [(0,Zx2)] ZuF Zok ⟨ZjL,Zof,Tv⟩ Tryz.func92 Tryz.call92 ⟨Zz8,Tv⟩ (t:=λa=>ZmM a)
abbrev ZDE:List Sh:=[Sh.one rcCE,Sh.one (R.int u16),Sh.one (R.int u8)]
abbrev Zux:Rs:=Rs.one (Sh.one rcCE)
def Zrp (m:List (Int×Int)) (t:Int) (v:Int):RT (Option (List (Int×Int))):=
 .br (!ZmN m||ZmK (Zz9 m) (t,v)) (.br (ZmN m) (.Lf (some (Zz6 (Zz9 m) (t,v)))) (.Lf none)) (.Lf none)
def ZHC (m:List (Int×Int)) (t:Int) (v:Int):List (Int×Int):=getO Zux.Df (Zrp m t v).val
def ZxS (m:List (Int×Int)) (t:Int) (v:Int):Bool:=okB (Zrp m t v).val
def ZJh:En:=Zi ZDE Zux (λa=>some (ZxS a.1 a.2.1 a.2.2)) (λa=>ZHC a.1 a.2.1 a.2.2)
theorem ZHB:Zd prog 161 ZJh:=
 pureP 127 [(92,ZDY),(149,ZxU)] [] ZDE Zux ⟨Zoj,Zof,Tv⟩ Tryz.func161 Tryz.call161 trivial (t:=λa=>Zrp a.1 a.2.1 a.2.2)
abbrev ZEg:List Sh:=[Sh.one rcRG,Sh.one (R.int u16)]
abbrev Zvt:Rs:=Rs.one (Sh.one (R.int i64))
def ZHR:LS:={n:=26,Sl:=[(1,.code (Sh.one (R.int u16))),(4,.code (Sh.one (R.int i64))),(7,.code (Sh.one rcRG)),(8,.code (Sh.one (R.int i64))),(9,.code (Sh.one (R.int i64)))],Bx:=[],Sg:=[]}
def Zft (a:QT18):RT (Option (Go1 (QT18))):=
 let x1:QT9:=R.get (R.Pq (R.int u16) (R.Pq (R.int u16) (R.Pq R.bool (R.int i64)))) a.2.2.1 a.2.2.2.2.1
 let x2:List (QT9)×Int×Int×PUnit:=(a.2.2.1,a.2.2.2.1,a.2.2.2.2.1,PUnit.unit)
 .br (decide (a.2.2.2.2.1<a.2.2.2.1)) (.br (Ze a.2.2.2.2.1 (List.length a.2.2.1)) (.br (decide (x1.1<=a.1)&&decide (a.1<=x1.2.1)) (.Lf (some (Go1.ret (a.1,a.2.2.2.2.1,x2)))) (.Lf (some (Go1.cont (a.1,a.2.1,a.2.2.1,a.2.2.2.1,i64.wrap (a.2.2.2.2.1+1),PUnit.unit))))) (.Lf none)) (.Lf (some (Go1.brk (a.1,a.2.1,x2))))
def Zyg:Ora:=Zdo true ZHR Zft (λa=>1000000000000)
theorem ZAo:Zb9 (envX prog [] [] 127 8) (.block 0 (.loop (ZaV Tryz.f43.body 0))) Zyg:=
 loopP trivial
def ZmQ (l:List (QT9)) (t:Int):RT (Option (Int)):=
 let x1:=runF true Zft (λa=>1000000000000) (t,0,l,iN (List.length l),0,())
 let x2:=getO (false,t,0,l,iN (List.length l),0,()) x1
 .br (okB x1) (.br x2.1 (.Lf (some x2.2.2.1)) (.Lf (some (-1)))) (.Lf none)
def ZiF (l:List (QT9)) (t:Int):Int:=getO Zvt.Df (ZmQ l t).val
def ZmR (l:List (QT9)) (t:Int):Bool:=okB (ZmQ l t).val
def Zyh:En:=Zi ZEg Zvt (λa=>some (ZmR a.1 a.2)) (λa=>ZiF a.1 a.2)
theorem ZoB:Zd prog 43 Zyh:=
 pureP 127 [] [(0,Zyg)] ZEg Zvt trivial Tryz.func43 Tryz.call43 ⟨ZAo,Tv⟩ (t:=λa=>ZmQ a.1 a.2)
abbrev Zob:List Sh:=[Sh.one rcRG,Sh.one rcCE,Sh.one (R.int u16)]
abbrev ZiT:Rs:=Rs.one (Sh.one (R.int u8))
def ZjV (l:List (QT9)) (m:List (Int×Int)) (t:Int):RT (Option (Int)):=
 .br (ZmR l t) (.br (decide (ZiF l t<0)) (.Lf (some (255))) (.br (Zyd m t) (.Lf (some (ZHQ m t))) (.Lf none))) (.Lf none)
def ZDy (l:List (QT9)) (m:List (Int×Int)) (t:Int):Int:=getO ZiT.Df (ZjV l m t).val
def Zut (l:List (QT9)) (m:List (Int×Int)) (t:Int):Bool:=okB (ZjV l m t).val
def ZKU:En:=Zi Zob ZiT (λa=>some (Zut a.1 a.2.1 a.2.2)) (λa=>ZDy a.1 a.2.1 a.2.2)
theorem ZDx:Zd prog 102 ZKU:=
 pureP 127 [(35,ZJz),(43,Zyh)] [] Zob ZiT ⟨ZHO,ZoB,Tv⟩ Tryz.func102 Tryz.call102 trivial (t:=λa=>ZjV a.1 a.2.1 a.2.2)
abbrev ZjH:List Sh:=[Sh.one rcRG,Sh.one rcCE,Sh.one (R.int u16),Sh.one (R.int u8)]
abbrev ZgE:Rs:=Rs.one (Sh.one rcCE)
def ZgD (l:List (QT9)) (m:List (Int×Int)) (t:Int) (v:Int):RT (Option (List (Int×Int))):=
 let x1:=decide (ZiF l t>=0)&&(R.get (R.Pq (R.int u16) (R.Pq (R.int u16) (R.Pq R.bool (R.int i64)))) l (ZiF l t)).2.2.1
 .br (ZmR l t) (.br (!decide (ZiF l t>=0)||Ze (ZiF l t) (List.length l)) (.br (!x1||ZxS m t v) (.br (x1) (.Lf (some (ZHC m t v))) (.br (ZmN m) (.Lf (some (Zz9 m))) (.Lf none))) (.Lf none)) (.Lf none)) (.Lf none)
def Zug (l:List (QT9)) (m:List (Int×Int)) (t:Int) (v:Int):List (Int×Int):=getO ZgE.Df (ZgD l m t v).val
def Zn0 (l:List (QT9)) (m:List (Int×Int)) (t:Int) (v:Int):Bool:=okB (ZgD l m t v).val
def ZHq:En:=Zi ZjH ZgE (λa=>some (Zn0 a.1 a.2.1 a.2.2.1 a.2.2.2)) (λa=>Zug a.1 a.2.1 a.2.2.1 a.2.2.2)
theorem ZzU:Zd prog 101 ZHq:=
 pureP 1023 [(43,Zyh),(92,ZDY),(161,ZJh)] [] ZjH ZgE ⟨ZoB,Zoj,ZHB,Tv⟩ Tryz.func101 Tryz.call101 trivial (t:=λa=>ZgD a.1 a.2.1 a.2.2.1 a.2.2.2)
end
end Go.Proofs.YtghoimllhpjkjaaGreat
namespace Go.Proofs.Cells
def getX (l:List Cell) (a:Int):Int:=((flt a l).getLast?.map Prod.snd).getD 0
def Vld (m:List Cell):Prop:=m.Pairwise (λa b=>a.1<b.1)/\∀c∈m,c.2≠0
variable {m:List Cell}
theorem Vld.srt (h:Vld m):Srt m:=h.1.imp λh=>Int.le_of_lt h
theorem Vld.tail {c:Cell} (h:Vld (c::m)):Vld m:=⟨(YY.1 h.1).2,λx hx=>h.2 x (YO _ hx)⟩
theorem Zzf (a:Int):getX [] a=0:=rfl
theorem Zp4 (a:Int) (c:Cell) (l:List Cell):flt a (c::l)=if c.1=a then c::flt a l else flt a l:=by by_cases h:c.1=a<;>simp[flt,h]
theorem ZlC (c:Cell) (l:List Cell) (a:Int):getX (c::l) a=if c.1=a/\flt a l=[] then c.2 else getX l a:=by
 simp only[getX,Zp4];by_cases h:c.1=a
 ·simp only[h,if_true,true_and];cases hf:flt a l with
  |nil=>simp
  |cons x r=>simp[List.getLast?_cons_cons]
 ·simp[h]
theorem Vld.flt {m:List Cell} (h:Vld m) (a:Int):Cells.flt a m=if getX m a=0 then [] else [(a,getX m a)]:=by
 induction m with
 |nil=>simp[Cells.flt,Zzf]
 |cons c m ih=>
  have ih:=ih h.tail;have h1:=YY.1 h.1;by_cases hc:c.1=a
  ·have hn:Cells.flt a m=[]:=ZlN λx hx=>by have:=h1.1 x hx;omega
   have hz:=h.2 c (by simp);rw[Zp4,ZlC];simp only[hc,hn,and_self,if_true,hz,if_false];rw[<-hc]
  ·rw[Zp4,ZlC];simp only[hc,false_and,if_false,ih]
theorem ZKm {m':List Cell} (h:Vld m) (h':Vld m') (e:∀a,getX m a=getX m' a):m=m':=
 uniq h.srt h'.srt λk=>by rw[h.flt,h'.flt,e k]
def putX:List Cell->Cell->List Cell
 |[],c=>if c.2=0 then [] else [c]
 |x::r,c=>if x.1<c.1 then x::putX r c else if c.2=0 then (if x.1=c.1 then r else x::r) else if x.1=c.1 then c::r else c::x::r
theorem Zpl:∀{m:List Cell} {c x:Cell},x∈putX m c->x=c\/x∈m
 |[],c,x,h=>by
  simp only[putX] at h;split at h
  ·simp at h
  ·left;simpa using h
 |y::r,c,x,h=>by
  simp only[putX] at h;split at h
  ·rcases YA.1 h with e|e
   ·right;simp[e]
   ·rcases Zpl e with e|e
    ·exact .inl e
    ·right;simp[e]
  ·split at h
   ·split at h
    ·right;simp[h]
    ·right;exact h
   ·split at h
    ·rcases YA.1 h with e|e
     ·exact .inl e
     ·right;simp[e]
    ·rcases YA.1 h with e|e
     ·exact .inl e
     ·right;exact e
theorem Zys:∀{m:List Cell} {c:Cell},Vld m->Vld (putX m c)
 |[],c,_=>by
  simp only[putX];split
  ·exact⟨List.Pairwise.nil,λc h=>by simp at h⟩
  ·rename_i hz;exact⟨by simp,λx h=>by simp at h;rw[h];exact hz⟩
 |y::r,c,h=>by
  have h1:=YY.1 h.1;have hy:=h.2 y (by simp);simp only[putX];split
  ·rename_i hlt;have ih:=Zys (c:=c) h.tail;refine⟨YY.2 ⟨λx hx=> ?_,ih.1⟩,λx hx=> ?_⟩
   ·rcases Zpl hx with e|e
    ·rw[e];exact hlt
    ·exact h1.1 x e
   ·rcases YA.1 hx with e|e
    ·rw[e];exact hy
    ·exact ih.2 x e
  ·rename_i hge;split
   ·split
    ·exact h.tail
    ·exact h
   ·rename_i hz;split
    ·rename_i he;refine⟨YY.2 ⟨λx hx=> ?_,h1.2⟩,λx hx=> ?_⟩
     ·have:=h1.1 x hx;omega
     ·rcases YA.1 hx with e|e
      ·rw[e];exact hz
      ·exact h.2 x (YO _ e)
    ·rename_i hne;refine⟨YY.2 ⟨λx hx=> ?_,h.1⟩,λx hx=> ?_⟩
     ·rcases YA.1 hx with e|e
      ·rw[e];omega
      ·have:=h1.1 x e;omega
     ·rcases YA.1 hx with e|e
      ·rw[e];exact hz
      ·exact h.2 x e
variable {l:List Cell}
theorem ZpX {a:Int} (h:∀c∈l,c.1≠a):getX l a=0:=by rw[getX,ZlN h];rfl
theorem Zc9 {x:Cell} {r:List Cell} (h:∀c∈r,x.1<c.1) (a:Int):getX (x::r) a=if x.1=a then x.2 else getX r a:=by
 rw[ZlC];by_cases hx:x.1=a
 ·have:flt a r=[]:=ZlN λc hc=>by have:=h c hc;omega
  simp[hx,this]
 ·simp[hx]
theorem Zyt:∀{m:List Cell} {c:Cell},Vld m->∀a,getX (putX m c) a=if c.1=a then c.2 else getX m a
 |[],c,_,a=>by
  simp only[putX];split
  ·rename_i hz;rw[Zzf,hz];simp
  ·rw[Zc9 (by simp)]
 |y::r,c,h,a=>by
  have h1:=YY.1 h.1;simp only[putX];split
  ·rename_i hlt
   rw[Zc9 (λx hx=>by
    rcases Zpl hx with e|e
    ·rw[e];exact hlt
    ·exact h1.1 x e),Zc9 h1.1,Zyt h.tail a]
   by_cases e1:y.1=a
   ·simp only[e1,if_true];rw[YX (by omega)]
   ·simp[e1]
  ·rename_i hge;split
   ·rename_i hz;split
    ·rename_i he;rw[Zc9 h1.1];by_cases e:c.1=a
     ·rw[YV e,hz];exact ZpX λx hx=>by have:=h1.1 x hx;omega
     ·rw[YX e,YX (by omega)]
    ·rename_i hne;by_cases e:c.1=a
     ·rw[YV e,hz];exact ZpX λx hx=>by
       rcases YA.1 hx with e'|e'
       ·rw[e'];omega
       ·have:=h1.1 x e';omega
     ·rw[YX e]
   ·split
    ·rename_i he;rw[Zc9 (λx hx=>by have:=h1.1 x hx;omega),Zc9 h1.1];by_cases e:c.1=a
     ·simp[e]
     ·rw[YX e,YX e,YX (by omega)]
    ·rename_i hne
     rw[Zc9 (λx hx=>by
      rcases YA.1 hx with e|e
      ·rw[e];omega
      ·have:=h1.1 x e;omega)]
def normX (l:List Cell):List Cell:=l.foldl putX []
theorem ZF2 (l:List Cell) (c:Cell) (a:Int):getX (l++[c]) a=if c.1=a then c.2 else getX l a:=by
 rw[getX,getX,Zh6];by_cases h:c.1=a
 ·have:flt a [c]=[c]:=by simp[flt,h]
  rw[this,List.getLast?_append];simp[h]
 ·have:flt a [c]=[]:=ZlN λx hx=>by simp at hx;rw[hx];exact h
  rw[this];simp[h]
theorem ZlI:∀(l:List Cell) {m:List Cell},Vld m->Vld (l.foldl putX m)/\∀a,getX (l.foldl putX m) a=getX (m++l) a
 |[],m,h=>⟨h,λa=>by simp⟩
 |c::l,m,h=>by
  obtain⟨h1,h2⟩:=ZlI l (Zys (c:=c) h);refine⟨h1,λa=> ?_⟩;rw[List.foldl_cons,h2 a];have e:m++c::l=(m++[c])++l:=by simp
  rw[e];have key:∀{p q:List Cell},(∀b,getX p b=getX q b)->∀l b,getX (p++l) b=getX (q++l) b:=by
   intro p q hpq l b;simp only[getX,Zh6,List.getLast?_append];cases hl:(flt b l).getLast? with
   |none=>simpa [getX] using hpq b
   |some x=>simp
  exact key (λb=>by rw[Zyt h,ZF2]) l a
theorem ZgZ (l:List Cell):Vld (normX l):=(ZlI l ⟨List.Pairwise.nil,λc h=>by simp at h⟩).1
theorem ZFa (l:List Cell) (a:Int):getX (normX l) a=getX l a:=(ZlI l ⟨List.Pairwise.nil,λc h=>by simp at h⟩).2 a
theorem ZIc (h:Vld m) (e:∀a,getX m a=getX l a):normX l=m:=ZKm (ZgZ l) h λa=>by rw[ZFa,e]
theorem Zm1 (h:Vld m):normX m=m:=ZIc h λ_=>rfl
end Go.Proofs.Cells
namespace Go.Proofs.YtghoimllhpjkjaaGreat
noncomputable section
abbrev Z4:=QT9
theorem ZL2 (l:List Cell) (i:Nat) (h:i<l.length):l.drop i=el l i::l.drop (i+1):=by rw[List.drop_eq_getElem_cons h];have:=ZfU l i h;rw[Yk h,oinj] at this;rw[this]
theorem ZtX (l:List Cell) (i:Nat) (h:i<l.length):l.take (i+1)=l.take i++[el l i]:=by rw[List.take_add_one,ZfU l i h];rfl
theorem ZNj (l:List Cell) (i:Nat) (h:i<l.length):el l i∈l:=YaD.2 ⟨i,ZfU l i h⟩
def okAt (m:List Cell) (i:Nat):Bool:= !((el m i).2==0||(decide ((i:Int)>0)&&decide ((el m i).1<=(el m (i-1)).1)))
def vldB (m:List Cell):Bool:=(List.range m.length).all (okAt m)
variable {m:List Cell} {i:Nat}
theorem ZzC (hi:i<m.length) (h:okAt m i=false):vldB m=false:=by rw[YL];intro he;have:=YR.1 he i (Yaw.2 hi);rw[h] at this;exact absurd this (by simp)
theorem Zqy (h:∀i,i<m.length->okAt m i=true):vldB m=true:=YR.2 λi hi=>h i (Yaw.1 hi)
theorem ZwT:vldB m=true↔Vld m:=by
 constructor
 ·intro h;have ha:∀i,i<m.length->okAt m i=true:=λi hi=>YR.1 h i (Yaw.2 hi)
  have hs:∀i,i+1<m.length->(el m i).1<(el m (i+1)).1:=λi hi=>by
   have:=ha (i+1) hi;simp only[okAt,YJ,Yj,Y8,Yam,Nat.add_sub_cancel] at this;rcases this.2 with e|e
   ·omega
   ·omega
  refine⟨?_,λc hc=> ?_⟩
  ·rw[List.pairwise_iff_getElem];have key:∀d i,i+d+1<m.length->(el m i).1<(el m (i+d+1)).1:=by
    intro d
    induction d with
    |zero=>intro i hi;exact hs i hi
    |succ d ih=>intro i hi;have h1:=ih i (by omega);have h2:=hs (i+d+1) (by omega);rw[show i+(d+1)+1=i+d+1+1 by omega];omega
   intro i j hi hj hij;have:=key (j-i-1) i (by omega);rw[show i+(j-i-1)+1=j by omega] at this;have e1:=ZfU m i hi;have e2:=ZfU m j hj;rw[Yk hi,oinj] at e1;rw[Yk hj,oinj] at e2;rw[e1,e2];exact this
  ·obtain⟨i,hi⟩:=YaD.1 hc;have hlt:=(Yu.1 hi).1;rw[ZfU m i hlt,oinj] at hi;have:=ha i hlt;rw[<-hi];simp only[okAt,YJ,Yj,beq_eq_false_iff_ne] at this;exact this.1
 ·intro h;refine Zqy λi hi=> ?_
  simp only[okAt,YJ,Yj,beq_eq_false_iff_ne,Y8,Yam];refine⟨h.2 _ (ZNj m i hi),?_⟩;by_cases h0:i=0
  ·left;omega
  ·right;have:=List.pairwise_iff_getElem.1 h.1 (i-1) i (by omega) hi (by omega);have e1:=ZfU m (i-1) (by omega);have e2:=ZfU m i hi;rw[Yk (by omega),oinj] at e1;rw[Yk hi,oinj] at e2;rw[e1,e2] at this;omega
theorem wsub1 (i:Nat) (h:0<i) (h2:i<=4611686018427387904):IntKind.wrap .i64 ((i:Int)-1)=((i-1:Nat):Int):=by rw[Zq _ (by omega) (by omega)];omega
theorem ZLv (m:List Cell) (i:Nat):((el m i).2==0||(decide ((i:Int)>0)&&decide ((el m i).1<=(el m (i-1)).1)))= !okAt m i:=by simp only[okAt,Bool.not_not]
theorem Zmt (m:List Cell) (hm:m.length<=most):(ZhC m).val=some (vldB m):=by
 have hms:=mst;obtain⟨r,hr,hR⟩:=Zaj (fl:=true) (t:=Zdc) (fuel:=λa=>1000000000000)
  (I:=λa=>∃i:Nat,i<=m.length/\(∀k,k<i->okAt m k=true)/\a=(m,false,(m.length:Int),(i:Int),()))
  (m:=λa=>Int.toNat (a.2.2.1-a.2.2.2.1)) (R:=λr=>(r.1=false/\vldB m=true)\/(r.1=true/\vldB m=false/\r.2.2.1=false))
  (λa hi=>by
   obtain⟨i,hi,hk,rfl⟩:=hi;by_cases hlt:i<m.length
   ·have d:decide ((i:Int)<(m.length:Int))=true:=by simpa using hlt
    have r1:=ZdI m i hlt;have hw:decide ((i:Int)>0)=true->Ze (IntKind.wrap .i64 ((i:Int)-1)) m.length=true/\IntKind.wrap .i64 ((i:Int)-1)=((i-1:Nat):Int):=λh=>by simp only[YK] at h;have e:=wsub1 i (by omega) (by omega);exact⟨by rw[e];exact ZdI m (i-1) (by omega),e⟩
    have hck:((el m i).2==0||(!decide ((i:Int)>0)||Ze (IntKind.wrap .i64 ((i:Int)-1)) m.length))=true:=by
     cases h:decide ((i:Int)>0) with
     |false=>simp
     |true=>rw[(hw h).1];simp
    have hcd:((el m i).2==0||(decide ((i:Int)>0)&&decide ((el m i).1<=(R.get CR m (IntKind.wrap .i64 ((i:Int)-1))).1)))= !okAt m i:=by
     rw[<-ZLv];cases h:decide ((i:Int)>0) with
     |false=>simp
     |true=>rw[(hw h).2,Zir]
    cases ho:okAt m i with
    |true=>
     left;refine⟨(m,false,(m.length:Int),((i+1:Nat):Int),()),?_,⟨i+1,hlt,λk hk'=> ?_,rfl⟩,by simp only;omega⟩
     ·rw[ho] at hcd;simp only[Zdc,RT.val,d,r1,Zir,hck,hcd,Yg,Yn,Ye,Ya,Yb,ZtD i (by omega)]
     ·by_cases e:k=i
      ·subst e;exact ho
      ·exact hk k (by omega)
    |false=>
     right;right;refine⟨(m,false,(m.length:Int),(i:Int),()),rfl,?_,.inr ⟨rfl,ZzC hlt ho,rfl⟩⟩;rw[ho] at hcd;simp only[Zdc,RT.val,d,r1,Zir,hck,hcd,Yg,Yq,Yn,Ye,Ya,Yb]
   ·right;left;have d:decide ((i:Int)<(m.length:Int))=false:=by simpa using hlt
    exact⟨(m,false,(m.length:Int),(i:Int),()),by simp only[Zdc,RT.val,d,Yb],.inl ⟨rfl,Zqy λk hk'=>hk k (by omega)⟩⟩)
  (m,false,(m.length:Int),0,()) ⟨0,Yo _,λk h=>by omega,rfl⟩ (by simp only;omega)
 have hr':runF true Zdc (λa=>1000000000000) (m,false,iN m.length,0,())=some r:=hr;rcases hR with ⟨h1,h2⟩|⟨h1,h2,h3⟩
 ·simp only[ZhC,RT.val,hr',okB,getO,Ya,h1,Yb,h2]
 ·simp only[ZhC,RT.val,hr',okB,getO,Ya,h1,h2,h3]
variable {t:Int}
theorem ZLP (hi:i<m.length) (he:(el m i).1=t) (hk:∀k,i<k->k<m.length->(el m k).1≠t):getX m t=(el m i).2:=by
 have e:m=m.take i++[el m i]++m.drop (i+1):=by rw[YF,List.singleton_append,<-ZL2 m i hi,YaC]
 have h0:flt t (m.drop (i+1))=[]:=ZlN λc hc=>by obtain⟨k,h1,h2,rfl⟩:=ZIi hc;exact hk k (by omega) h2
 have h1:flt t [el m i]=[el m i]:=by simp[flt,he]
 have h2:flt t m=flt t (m.take i)++[el m i]:=by conv=>lhs;rw[e,Zh6,Zh6,h0,h1,YQ]
 rw[getX,h2,List.getLast?_append];simp
theorem ZHo (m:List Cell) (t:Int) (hm:m.length<=most):(ZmP m t).val=some (getX m t):=by
 have hms:=mst;obtain⟨r,hr,hR⟩:=Zaj (fl:=true) (t:=Zfs) (fuel:=λa=>1000000000000)
  (I:=λa=>∃i:Nat,i<=m.length/\(∀k,i<=k->k<m.length->(el m k).1≠t)/\a=(m,t,0,(i:Int)-1,()))
  (m:=λa=>Int.toNat (a.2.2.2.1+1)) (R:=λr=>(r.1=false/\getX m t=0)\/(r.1=true/\r.2.2.2.1=getX m t))
  (λa hi=>by
   obtain⟨i,hi,hk,rfl⟩:=hi;cases i with
   |zero=>
    right;left;refine⟨(m,t,0,((0:Nat):Int)-1,()),by simp[Zfs,RT.val],.inl ⟨rfl,ZpX λc hc=> ?_⟩⟩;obtain⟨k,hk'⟩:=YaD.1 hc;have hlt:=(Yu.1 hk').1;rw[ZfU m k hlt,oinj] at hk';rw[<-hk'];exact hk k (Yo _) hlt
   |succ i=>
    have ei:((i+1:Nat):Int)-1=(i:Int):=by omega
    rw[ei];have d:decide ((i:Int)>=0)=true:=by simp
    have r1:=ZdI m i (by omega);cases he:((el m i).1==t) with
    |true=>
     right;right;refine⟨(m,t,(el m i).2,(i:Int),()),rfl,by simp only[Zfs,RT.val,d,r1,Zir,he,Ya,Yg,Yn],.inr ⟨rfl,?_⟩⟩;exact (ZLP (by omega) (by simpa using he) λk h1 h2=>hk k (by omega) h2).symm
    |false=>
     left;refine⟨(m,t,0,(i:Int)-1,()),?_,⟨i,by omega,λk h1 h2=> ?_,rfl⟩,by simp only;omega⟩
     ·have w:IntKind.wrap .i64 ((i:Int)-1)=(i:Int)-1:=Zq _ (by omega) (by omega);simp only[Zfs,RT.val,d,r1,Zir,he,Ya,Yb,Yg,Yq,YC,Yn,w]
     ·by_cases e:k=i
      ·subst e;simpa using he
      ·exact hk k (by omega) h2)
  (m,t,0,(m.length:Int)-1,()) ⟨m.length,Yd _,λk h1 h2=>by omega,rfl⟩ (by simp only;omega)
 have w:IntKind.wrap .i64 (iN m.length-1)=(m.length:Int)-1:=Zq _ (by simp only[iN];omega) (by simp only[iN];omega);rcases hR with ⟨h1,h2⟩|⟨h1,h2⟩
 ·simp only[ZmP,RT.val,w,hr,okB,getO,Ya,h1,Yb,h2]
 ·simp only[ZmP,RT.val,w,hr,okB,getO,Ya,h1,h2]
def pst (c:Cell) (s:Bool×List Cell) (x:Cell):Bool×List Cell:=
 let t:= !s.1&&decide (x.1>=c.1)
 let o:=bif t then (bif c.2 !=0 then s.2++[c] else s.2) else s.2
 (t||s.1,bif x.1 !=c.1 then o++[x] else o)
def pfin (c:Cell) (s:Bool×List Cell):List Cell:=bif !s.1&&c.2 !=0 then s.2++[c] else s.2
theorem Zyy (c:Cell):∀(m:List Cell) (o:List Cell),(∀x∈m,x.1≠c.1)->m.foldl (pst c) (true,o)=(true,o++m)
 |[],o,_=>by simp
 |x::m,o,h=>by
  have hx:(x.1 !=c.1)=true:=by simpa using h x (by simp)
  simp only[List.foldl_cons,pst,Yg,YN,Yb,Ye,hx,Ya];rw[Zyy c m (o++[x]) λy hy=>h y (YO _ hy)];simp
theorem ZEO (c:Cell):∀(m:List Cell) (o:List Cell),m.Pairwise (λa b=>a.1<b.1)->pfin c (m.foldl (pst c) (false,o))=o++putX m c
 |[],o,_=>by
  simp only[List.foldl_nil,pfin,putX,Yq,YM];by_cases h:c.2=0
  ·simp[h]
  ·have:(c.2 !=0)=true:=by simpa using h
   simp[h,this]
 |x::m,o,h=>by
  have h1:=YY.1 h;by_cases hx:x.1<c.1
  ·have e1:decide (x.1>=c.1)=false:=by simp;omega
   have e2:(x.1 !=c.1)=true:=by simp;omega
   simp only[List.foldl_cons,pst,e1,YU,Yb,Yz,e2,Ya];rw[ZEO c m (o++[x]) h1.2,putX,YV hx];simp
  ·have e1:decide (x.1>=c.1)=true:=by simp;omega
   have hne:∀y∈m,y.1≠c.1:=λy hy=>by have:=h1.1 y hy;omega
   simp only[List.foldl_cons,pst,e1,Yq,Yaf,Ya,YC];rw[Zyy c m _ hne,putX,YX hx];simp only[pfin,Yg,YN,Yb];by_cases hz:c.2=0
   ·by_cases hk:x.1=c.1
    ·simp[hz,hk]
    ·have:(x.1 !=c.1)=true:=by simpa using hk
     simp[hz,hk,this]
   ·have hz1:(c.2 !=0)=true:=by simpa using hz
    by_cases hk:x.1=c.1
    ·simp[hz,hk,hz1]
    ·have:(x.1 !=c.1)=true:=by simpa using hk
     simp[hz,hk,this,hz1]
theorem ZvG (c:Cell):∀(m:List Cell) (s:Bool×List Cell),(m.foldl (pst c) s).2.length+(bif (m.foldl (pst c) s).1 then 0 else 1)<=s.2.length+(bif s.1 then 0 else 1)+m.length
 |[],s=>by simp
 |x::m,s=>by
  rw[List.foldl_cons];have ih:=ZvG c m (pst c s x);have:(pst c s x).2.length+(bif (pst c s x).1 then 0 else 1)<=s.2.length+(bif s.1 then 0 else 1)+1:=by obtain⟨d,o⟩:=s;simp only[pst];generalize decide (x.1>=c.1)=b1;generalize (c.2 !=0)=b2;generalize (x.1 !=c.1)=b3;cases d<;>cases b1<;>cases b2<;>cases b3<;>simp<;>omega
  simp only[List.length_cons];omega
theorem ZjB (m:List Cell) (c:Cell) (hv:Vld m) (hm:m.length+1<=most):ZmK m c=true/\Zz6 m c=putX m c:=by
 have hms:=mst;obtain⟨r,hr,h1,i,hR⟩:=Zaj (fl:=false) (t:=ZgM) (fuel:=λa=>1000000000000)
  (λa=>∃i:Nat,i<=m.length/\a=(((m.take i).foldl (pst c) (false,[])).1,m,(m.length:Int),(i:Int),c,((m.take i).foldl (pst c) (false,[])).2,()))
  (λa=>Int.toNat (a.2.2.1-a.2.2.2.1)) (λr=>r.1=false/\∃i:Nat,r.2=((m.foldl (pst c) (false,[])).1,m,(m.length:Int),(i:Int),c,(m.foldl (pst c) (false,[])).2,()))
  (by
   rintro a ⟨i,hi,rfl⟩;by_cases hlt:i<m.length
   ·left;have d:decide ((i:Int)<(m.length:Int))=true:=by simpa using hlt
    have r1:=ZdI m i hlt;have hl:=ZvG c (m.take i) (false,[]);have hs:(m.take (i+1)).foldl (pst c) (false,[])=pst c ((m.take i).foldl (pst c) (false,[])) (el m i):=by rw[ZtX m i hlt,List.foldl_append];rfl
    rw[Y2,Nat.min_eq_left (by omega)] at hl;refine⟨_,?_,⟨i+1,hlt,rfl⟩,by simp only;omega⟩;rw[hs];generalize (m.take i).foldl (pst c) (false,[])=s at hl|-;obtain⟨dn,o⟩:=s;simp only[List.length_nil,Yb] at hl;simp only[ZgM,RT.val,d,r1,Zir,Ya,Yg,Yn,pst,ZtD i (by omega)];generalize decide ((el m i).1>=c.1)=b1;generalize hb2:(c.2 !=0)=b2;generalize hb3:((el m i).1 !=c.1)=b3;have l1:Nat.ble (o++[c]).length most=true\/dn=true:=by
     cases dn with
     |true=>exact .inr rfl
     |false=>left;rw[YT];simp only[Yb] at hl;simp only[Yf,List.length_singleton];omega
    have l2:Nat.ble (o++[el m i]).length most=true:=by rw[YT];simp only[Yf,List.length_singleton];cases dn<;>simp only[Ya,Yb] at hl<;>omega
    have l3:Nat.ble (o++[c]++[el m i]).length most=true\/dn=true:=by
     cases dn with
     |true=>exact .inr rfl
     |false=>left;rw[YT];simp only[Yb] at hl;simp only[Yf,List.length_singleton];omega
    cases dn with
    |true=>
     cases b3<;>simp only[l2,Yg,Yq,YN,YC,Yn,Ye,Ya,Yb]
    |false=>
     have l1:Nat.ble (o++[c]).length most=true:=by simpa using l1
     have l3:Nat.ble (o++[c]++[el m i]).length most=true:=by simpa using l3
     cases b1<;>cases b2<;>cases b3<;>simp only[l1,l2,l3,Yg,Yq,YN,YM,YC,Yn,Ye,Yz,Yaf,Ya,Yb]
   ·right;left;have d:decide ((i:Int)<(m.length:Int))=false:=by simpa using hlt
    have e:m.take i=m:=Yao (by omega);rw[e]
    exact⟨_,by simp only[ZgM,RT.val,d,Yb],rfl,i,rfl⟩)
  (false,m,iN m.length,0,c,[],()) ⟨0,Yo _,rfl⟩ (by simp only[iN];omega)
 have hl:=ZvG c m (false,[]);have hp:=ZEO c m [] hv.1;simp only[List.nil_append] at hp;obtain⟨r1,r2⟩:=r;simp only at h1 hR;subst h1 hR;generalize m.foldl (pst c) (false,[])=s at hl hp hr;obtain⟨dn,o⟩:=s;have hb:(!(!dn&&c.2 !=0)||Nat.ble (o++[c]).length most)=true:=by
  cases dn with
  |true=>rfl
  |false=>
   have:Nat.ble (o++[c]).length most=true:=by rw[YT];simp only[Yb,List.length_nil] at hl;simp only[Yf,List.length_singleton];omega
   rw[this];simp
 have hv:(ZmJ m c).val=some (putX m c):=by simp only[ZmJ,RT.val,hr,okB,getO,Ya,hb,<-hp,pfin]
 exact⟨by simp only[ZmK,hv];rfl,by simp only[Zz6,hv,getO]⟩
theorem Zpm (c:Cell):∀m:List Cell,(putX m c).length<=m.length+1
 |[]=>by simp only[putX];split<;>simp
 |x::m=>by
  have:=Zpm c m;simp only[putX];repeat' split
  all_goals simp only[List.length_cons];omega
theorem Zm0 (l:List Cell) (c:Cell):normX (l++[c])=putX (normX l) c:=by simp[normX,List.foldl_append]
theorem Zzl:∀(l m:List Cell),(l.foldl putX m).length<=m.length+l.length
 |[],m=>by simp
 |x::l,m=>by have:=Zzl l (putX m x);have:=Zpm x m;simp only[List.foldl_cons,List.length_cons];omega
theorem Zdj (l:List Cell):(normX l).length<=l.length:=by have:=Zzl l [];simpa [normX] using this
theorem ZjE (l:List Cell) (hl:l.length+1<=most):ZmN l=true/\Zz9 l=normX l:=by
 have hms:=mst;have h1:=Zmt l (by omega);have hc:ZhD l=true:=by simp only[ZhD,h1];rfl
 have hv0:ZjN l=vldB l:=by simp only[ZjN,h1,getO]
 have hv:(ZmM l).val=some (normX l):=by
  cases hb:vldB l with
  |true=>
   have e:Nat.ble l.length most=true:=by rw[YT];omega
   simp only[ZmM,RT.val,hc,hv0,hb,List.nil_append,e,Ya,Yg,Yn,Zm1 (ZwT.1 hb)]
  |false=>
   obtain⟨r,hr,h1,i,hR⟩:=Zaj (fl:=false) (t:=ZgP) (fuel:=λa=>1000000000000)
    (λa=>∃i:Nat,i<=l.length/\a=(normX (l.take i),l,(l.length:Int),(i:Int),()))
    (λa=>Int.toNat (a.2.2.1-a.2.2.2.1)) (λr=>r.1=false/\∃i:Nat,r.2=(normX l,l,(l.length:Int),(i:Int),()))
    (by
     rintro a ⟨i,hi,rfl⟩;by_cases hlt:i<l.length
     ·left;have d:decide ((i:Int)<(l.length:Int))=true:=by simpa using hlt
      have r1:=ZdI l i hlt;have hlen:=Zdj (l.take i);rw[Y2] at hlen;have hp:=ZjB (normX (l.take i)) (el l i) (ZgZ _) (by omega);refine⟨_,?_,⟨i+1,hlt,rfl⟩,by simp only;omega⟩;rw[ZtX l i hlt,Zm0];simp only[ZgP,RT.val,d,r1,Zir,hp.1,hp.2,Ya,Ye,ZtD i (by omega)]
     ·right;left;have d:decide ((i:Int)<(l.length:Int))=false:=by simpa using hlt
      have e:l.take i=l:=Yao (by omega);rw[e]
      exact⟨_,by simp only[ZgP,RT.val,d,Yb],rfl,i,rfl⟩)
    ([],l,iN l.length,0,()) ⟨0,Yo _,rfl⟩ (by simp only[iN];omega)
   obtain⟨r1,r2⟩:=r;simp only at h1 hR;subst h1 hR;simp only[ZmM,RT.val,hc,hv0,hb,hr,okB,getO,Ya,Yb,Yq,YC]
 exact⟨by simp only[ZmN,hv];rfl,by simp only[Zz9,hv,getO]⟩
theorem ZHl (m:List Cell) (t v:Int) (hm:m.length+1<=most):ZxS m t v=true/\ZHC m t v=putX (normX m) (t,v):=by
 have h1:=ZjE m hm;have h2:=ZjB (normX m) (t,v) (ZgZ m) (by have:=Zdj m;omega);have hv:(Zrp m t v).val=some (putX (normX m) (t,v)):=by simp only[Zrp,RT.val,h1.1,h1.2,h2.1,h2.2,Ya,Ye]
 exact⟨by simp only[ZxS,hv];rfl,by simp only[ZHC,hv,getO]⟩
abbrev BR:R:=R.int u8
theorem get_d (l:List Int) (i:Nat):R.get BR l (i:Int)=l.getD i 0:=by simp[R.get,R.Df]
def Zls (t:Int) (b:List Int) (n:Nat):List Cell:=(List.range n).map λi:Nat=>(IntKind.wrap .u16 (t+IntKind.wrap .u16 (i:Int)),b.getD i 0)
theorem ZBv (t:Int) (b:List Int) (n:Nat):Zls t b (n+1)=Zls t b n++[(IntKind.wrap .u16 (t+IntKind.wrap .u16 (n:Int)),b.getD n 0)]:=by simp[Zls,List.range_succ]
theorem Zlr (t:Int) (b:List Int) (n:Nat):(Zls t b n).length=n:=by simp[Zls]
def Zl6 (t:Int) (b:List Int):List Cell:=normX (Zls t b b.length)
theorem ZDa (m:List Cell) (hm:m.length<=most):ZhD m=true/\ZjN m=vldB m:=by have h:=Zmt m hm;exact⟨by simp only[ZhD,h];rfl,by simp only[ZjN,h,getO]⟩
theorem ZKI (m:List Cell) (t:Int) (hm:m.length<=most):Zyd m t=true/\ZHQ m t=getX m t:=by have h:=ZHo m t hm;exact⟨by simp only[Zyd,h];rfl,by simp only[ZHQ,h,getO]⟩
abbrev GR:R:=R.Pq (R.int u16) (R.Pq (R.int u16) (R.Pq R.bool (R.int i64)))
def hitB (t:Int) (r:Z4):Bool:=decide (r.1<=t)&&decide (t<=r.2.1)
def ZbA (l:List Z4) (t:Int):Int:=if l.findIdx (hitB t)<l.length then (l.findIdx (hitB t):Int) else-1
def rg (l:List Z4) (i:Nat):Z4:=l.getD i (0,0,false,0)
theorem ZJ3 (l:List Z4) (i:Nat):R.get GR l (i:Int)=rg l i:=by simp[R.get,R.Df,rg]
theorem ZqU (l:List Z4) (i:Nat) (h:i<l.length):l[i]=rg l i:=by simp[rg,h]
theorem ZLW {l:List Z4} (hi:i<l.length) (h:hitB t (rg l i)=true) (hk:∀k,k<i->hitB t (rg l k)=false):ZbA l t=i:=by have:l.findIdx (hitB t)=i:=(List.findIdx_eq hi).2 ⟨by rw[ZqU l i hi];exact h,λj hj=>by rw[ZqU l j (by omega)];exact hk j hj⟩;simp only[ZbA,this,hi,if_true]
theorem ZLV {l:List Z4} (hk:∀k,k<l.length->hitB t (rg l k)=false):ZbA l t= -1:=by
 have:¬l.findIdx (hitB t)<l.length:=by rw[List.findIdx_lt_length];rintro⟨x,hx,hp⟩;obtain⟨i,hi,rfl⟩:=List.mem_iff_getElem.1 hx;rw[ZqU l i hi,hk i hi] at hp;exact absurd hp (by simp)
 simp only[ZbA,this,if_false]
theorem ZjF (l:List Z4) (t:Int) (hl:l.length<=most):ZmR l t=true/\ZiF l t=ZbA l t:=by
 have hms:=mst;obtain⟨r,hr,hR⟩:=Zaj (fl:=true) (t:=Zft) (fuel:=λ_=>1000000000000)
  (λx=>∃i:Nat,i<=l.length/\(∀k,k<i->hitB t (rg l k)=false)/\x=(t,0,l,(l.length:Int),(i:Int),()))
  (λx=>Int.toNat (x.2.2.2.1-x.2.2.2.2.1)) (λr=>(r.1=false/\ZbA l t= -1)\/(r.1=true/\r.2.2.1=ZbA l t))
  (by
   rintro x ⟨i,hi,hk,rfl⟩;by_cases hlt:i<l.length
   ·have d:decide ((i:Int)<(l.length:Int))=true:=by simpa using hlt
    have r1:=ZdI l i hlt;have g1:=ZJ3 l i;cases hh:hitB t (rg l i) with
    |false=>
     left;refine⟨(t,0,l,(l.length:Int),((i+1:Nat):Int),()),?_,⟨i+1,hlt,λk hk'=> ?_,rfl⟩,by simp only;omega⟩
     ·simp only[hitB] at hh;simp only[Zft,RT.val,d,r1,g1,hh,Ya,Yb,ZtD i (by omega)]
     ·by_cases e:k=i
      ·subst e;exact hh
      ·exact hk k (by omega)
    |true=>
     right;right;refine⟨(t,(i:Int),l,(l.length:Int),(i:Int),()),rfl,?_,.inr ⟨rfl,(ZLW hlt hh hk).symm⟩⟩;simp only[hitB] at hh;simp only[Zft,RT.val,d,r1,g1,hh,Ya]
   ·right;left;have d:decide ((i:Int)<(l.length:Int))=false:=by simpa using hlt
    exact⟨_,by simp only[Zft,RT.val,d,Yb];rfl,.inl ⟨rfl,ZLV λk h=>hk k (by omega)⟩⟩)
  (t,0,l,iN l.length,0,()) ⟨0,Yo _,λk h=>by omega,rfl⟩ (by simp only[iN];omega)
 have hv:(ZmQ l t).val=some (ZbA l t):=by
  rcases hR with ⟨h1,h2⟩|⟨h1,h2⟩
  ·simp only[ZmQ,RT.val,hr,okB,getO,Ya,h1,Yb,h2]
  ·simp only[ZmQ,RT.val,hr,okB,getO,Ya,h1,h2]
 exact⟨by simp only[ZmR,hv];rfl,by simp only[ZiF,hv,getO]⟩
def Zmw (l:List Z4) (m:List Cell) (t:Int):Int:=bif decide (ZbA l t<0) then 255 else getX m t
theorem ZDe (l:List Z4) (m:List Cell) (t:Int) (hl:l.length<=most) (hm:m.length<=most):Zut l m t=true/\ZDy l m t=Zmw l m t:=by
 have h1:=ZjF l t hl;have h2:=ZKI m t hm;have hv:(ZjV l m t).val=some (Zmw l m t):=by simp only[ZjV,RT.val,h1.1,h1.2,h2.1,h2.2,Ya,Zmw];cases decide (ZbA l t<0)<;>rfl
 exact⟨by simp only[Zut,hv];rfl,by simp only[ZDy,hv,getO]⟩
end
end Go.Proofs.YtghoimllhpjkjaaGreat
