import Derived.Test.YtghoimllhpjkjaaGreatMemD
import Derived.RangeFuncNested
import Derived.RangeFuncLeaves
import Derived.Shelf.Abstract
import Derived.WalkKit
import Derived.OwnWalkIn
import Derived.TacticsInMore
import Derived.LoopNIn
import Derived.LoopIn
import Derived.Test.YtghoimllhpjkjaaGreatS3D
import Derived.Test.YtghoimllhpjkjaaGreatProg
import Derived.Test.YtghoimllhpjkjaaGreatSortA
import Derived.Test.YtghoimllhpjkjaaGreatS3Clo
import Derived.Test.YtghoimllhpjkjaaGreatMakeOk5
import Derived.Test.YtghoimllhpjkjaaGreatS3Box1
import Derived.Test.YtghoimllhpjkjaaGreatPicL
set_option linter.unusedVariables false
set_option linter.unusedSimpArgs false
namespace Go.Proofs.YtghoimllhpjkjaaGreat
open Go Go.S3 Go.Proofs Go.Proofs.Cells Go.RowKit Go.Shelf
attribute [local go_sem] Oper.semAt_some
noncomputable section
def Held (n₀:Nat) (W:World) (sv:Value) (l:List Cell):Prop:=
 (∃a cap,sv=.slice a 0 cap/\l=[])\/∃b off cap,sv=.slice (some ⟨b,off,none⟩) l.length cap/\b<n₀/\
  ∀j,j<l.length->W.cell? ⟨b,off+j*2,none⟩=some (.int .u16 (el l j).1)/\W.cell? ⟨b,off+j*2+1,none⟩=some (.int .u8 (el l j).2)
theorem Held.mono {n₀ n₁:Nat} {W:World} {sv:Value} {l:List Cell} (h:Held n₀ W sv l) (hn:n₀<=n₁):Held n₁ W sv l:=
 h.elim .inl λ⟨b,off,cap,e,hb,hc⟩=>.inr ⟨b,off,cap,e,by omega,hc⟩
end
end Go.Proofs.YtghoimllhpjkjaaGreat
namespace Go.Proofs.YtghoimllhpjkjaaGreat
open Go Go.S3 Go.Proofs Go.Proofs.Cells Go.RowKit Go.Shelf
attribute [local go_sem] Oper.semAt_some
noncomputable section
end
end Go.Proofs.YtghoimllhpjkjaaGreat
open Go.Proofs.Tryz (prog)
open Go.IntKind (u8 u16 i64)
open Go Go.S3 Go.Proofs
set_option maxRecDepth 100000
namespace Go.Proofs.YtghoimllhpjkjaaGreat
noncomputable section
abbrev Z0h:List Sh:=[Sh.agg (R.pair (R.int u16) (R.int u8)),Sh.one (R.int u16)]
abbrev Z0i:Rs:=Rs.one (Sh.one (R.int i64))
def uAtT (c:Int×Int) (t:Int):RT (Int):=
 .leaf (uCmp c.1 t)
def uAt (c:Int×Int) (t:Int):Int:=(uAtT c t).val
def uAtE:Entry:=Zg Z0h Z0i (λ_=>none) (λa=>uAt a.1 a.2)
theorem ZMO:Za prog 296 uAtE:=
 pureQ 31 [(186,ZXN)] [] Z0h Z0i ⟨ZML,Tv⟩ Tryz.func296 Tryz.call296 trivial (t:=λa=>uAtT a.1 a.2)
abbrev ZMK:List Sh:=[Sh.one rcCE,Sh.one (R.int u16)]
abbrev Zz7:Rs:=Rs.tup [Sh.one (R.int i64),Sh.one R.bool]
def ZSZ:LS:={n:=49,slots:=[(0,.code (Sh.one rcCE)),(1,.code (Sh.one (R.int u16))),(2,.fix (A.clo 296 [])),(8,.code (Sh.one (R.int i64))),(9,.code (Sh.one (R.int i64))),(10,.code (Sh.one (R.int i64)))],boxes:=[],stgs:=[]}
def ZgU (a:List (Int×Int)×Int×Int×Int×Int×PUnit):RT (Option (Go1 (List (Int×Int)×Int×Int×Int×Int×PUnit))):=
 let x1:=i64.wrap (shrI IntKind.u64 (IntKind.u64.wrap (i64.wrap (a.2.2.2.1+a.2.2.2.2.1))) 1)
 let x2:=decide (uAt (R.get (R.pair (R.int u16) (R.int u8)) a.1 x1) a.2.1<0)
 .br (decide (a.2.2.2.1<a.2.2.2.2.1)) (.br (Zf x1 (List.length a.1)) (.leaf (some (Go1.cont (a.1,a.2.1,a.2.2.1,bif x2 then i64.wrap (x1+1) else a.2.2.2.1,bif x2 then a.2.2.2.2.1 else x1,PUnit.unit)))) (.leaf none)) (.leaf (some (Go1.brk (a.1,a.2.1,a.2.2.1,a.2.2.2.1,a.2.2.2.2.1,PUnit.unit))))
def ZE3:Ora:=Za5 false ZSZ ZgU (λa=>(a.2.2.2.2.1-a.2.2.2.1).toNat+1)
theorem ZH3:ZaJ (envX prog [(296,uAtE)] [] 4095 8) (.block 0 (.loop (Z6 Tryz.f295.body 0))) ZE3:=
 loopP ⟨ZMO,Tv⟩
def ZqF (x:List (Int×Int)) (t:Int):RT (Option (Int×Bool)):=
 let x1:List (Int×Int)×Int×Int×Int×Int×PUnit:=(x,t,iN (List.length x),0,iN (List.length x),())
 let x2:=runF false ZgU (λa=>Int.toNat (a.2.2.2.2.1-a.2.2.2.1)+1) x1
 let x3:List (Int×Int)×Int×Int×Int×Int×PUnit:=(getO (false,x1) x2).2
 let x4:=x3.2
 let x5:=x4.2
 let x6:=x5.2.1
 let x7:=decide (x6<x5.1)
 let x8:=x3.1
 .br (okB x2) (.br (!x7||Zf x6 (List.length x8)) (.leaf (some ((bif x7 then x6 else x6,x7&&uAt (R.get (R.pair (R.int u16) (R.int u8)) x8 x6) x4.1==0)))) (.leaf none)) (.leaf none)
def Zd1 (x:List (Int×Int)) (t:Int):Int×Bool:=getO Zz7.dflt (ZqF x t).val
def ZE4 (x:List (Int×Int)) (t:Int):Bool:=okB (ZqF x t).val
def ZVI:Entry:=ZO7 296 ZMK Zz7 (λa=>some (ZE4 a.1 a.2)) (λa=>Zd1 a.1 a.2)
theorem ZSY:Za prog 295 ZVI:=
 ZJo (P:=prog) (n:=4095) (k:=8) (l:=[(296,uAtE)]) (ol:=[(0,ZE3)]) ⟨ZMO,Tv⟩ Tryz.func295 rfl (by kernel_rfl) Tryz.call295 ⟨ZH3,Tv⟩ (g0:=296) (ts:=ZMK) (rs:=Zz7) (t:=λa=>ZqF a.1 a.2) (λa=>by kernel_rfl)
abbrev ZWV:List Sh:=[Sh.one rcCE,Sh.one (R.int u16),Sh.one (R.int u8)]
abbrev ZRc:Rs:=Rs.one (Sh.one rcCE)
def ZKK (m:List (Int×Int)) (t:Int) (v:Int):RT (Option (List (Int×Int))):=
 let x1:= !(v==0&& !(Zd1 m t).2)||Nat.ble (List.length m) most
 let x2:= !x1
 let x3:=v==0&& !(Zd1 m t).2||(!v==0||(!Nat.ble (List.length m) most||decide (0<=(Zd1 m t).1)&&decide ((Zd1 m t).1<iN (List.length m))&&decide (i64.wrap ((Zd1 m t).1+1)=(Zd1 m t).1+1)))
 let x4:= !x3
 let x5:=v==0&& !(Zd1 m t).2||(!v==0||Nat.ble (List.length m) most)
 let x6:= !x5
 let x7:=v==0&& !(Zd1 m t).2||(v==0||(!(Zd1 m t).2||Nat.ble (List.length m) most))
 .br (ZvN m) (.br (!!Zpc m||(!Nat.ble (List.length m) most||(!Nat.ble (List.length (m++[(t,v)])) most||ZyP (m++[(t,v)])))) (.br (!!Zpc m||(!Nat.ble (List.length m) most||Nat.ble (List.length (m++[(t,v)])) most)) (.br (!!Zpc m||Nat.ble (List.length m) most) (.br (!Zpc m) (.leaf (some (ZRh (m++[(t,v)])))) (.br (ZE4 m t) (.br (x2||(x4||(x6||(!x7||(v==0&& !(Zd1 m t).2||(v==0||(!(Zd1 m t).2||Zf (Zd1 m t).1 (List.length m)))))))) (.br (x2||(x4||(x6||x7))) (.br (x2||(x4||x5)) (.br (x2||x3) (.br (x1) (.br (v==0&& !(Zd1 m t).2) (.leaf (some (m))) (.br (v==0) (.leaf (some (delX m (Int.toNat (Zd1 m t).1)))) (.br (Zd1 m t).2 (.leaf (some (setI m (Zd1 m t).1 ((R.get (R.pair (R.int u16) (R.int u8)) m (Zd1 m t).1).1,v)))) (.br (!Nat.ble (List.length m) most||decide (0<=(Zd1 m t).1)&&decide ((Zd1 m t).1<=iN (List.length m))&&Nat.ble (List.length m+1) most) (.br (Nat.ble (List.length m) most) (.leaf (some (insX m (Int.toNat (Zd1 m t).1) (t,v)))) (.leaf none)) (.leaf none))))) (.leaf none)) (.leaf none)) (.leaf none)) (.leaf none)) (.leaf none)) (.leaf none))) (.leaf none)) (.leaf none)) (.leaf none)) (.leaf none)
def mPut (m:List (Int×Int)) (t:Int) (v:Int):List (Int×Int):=getO ZRc.dflt (ZKK m t v).val
def ZUE (m:List (Int×Int)) (t:Int) (v:Int):Bool:=okB (ZKK m t v).val
def Z1a:Entry:=Zg ZWV ZRc (λa=>some (ZUE a.1 a.2.1 a.2.2)) (λa=>mPut a.1 a.2.1 a.2.2)
theorem ZZt:Za prog 246 Z1a:=
 ZnO (P:=prog) (n:=35253225784319) (k:=108) (l:=[(117,ZRg),(183,Zwh),(294,ZRa),(295,ZVI),(296,uAtE),(297,delE),(298,insE)]) (ol:=[]) ⟨ZvR,ZpU,ZQ8,ZSY,ZMO,Z1k,Z1h,Tv⟩ Tryz.func246 rfl (by kernel_rfl) Tryz.call246 trivial (ts:=ZWV) (rs:=ZRc) (t:=λa=>ZKK a.1 a.2.1 a.2.2) (λa=>by kernel_rfl)
end
end Go.Proofs.YtghoimllhpjkjaaGreat
open Go Go.S3 Go.Proofs Go.Proofs.Cells
namespace Go.Proofs.YtghoimllhpjkjaaGreat
noncomputable section
theorem ZMM (x y:Int):decide (uCmp x y<0)=decide (x<y):=by
 simp only[uCmp,ZMN,RT.val,bne_self_eq_false,cond_false]
 by_cases h:x<y
 ·simp[h]
 ·by_cases h2:x>y<;>simp[h,h2]
theorem ZXM (x y:Int):(uCmp x y==0)=(x==y):=by
 simp only[uCmp,ZMN,RT.val,bne_self_eq_false,cond_false]
 by_cases h:x<y
 ·have:x≠y:=by omega
  simp[h,this]
 ·by_cases h2:x>y
  ·have:x≠y:=by omega
   simp[h,h2,this]
  ·have:x=y:=by omega
   simp[h,h2,this]
theorem ZMP (c:Cell) (t:Int):uAt c t=uCmp c.1 t:=rfl
def At (m:List Cell) (t:Int) (i:Nat):Prop:=i<=m.length/\(∀k,k<i->(el m k).1<t)/\∀k,i<=k->k<m.length->t<=(el m k).1
theorem ZMk (m:List Cell) (t:Int) (hv:Vld m) (hm:m.length<=most):ZE4 m t=true/\∃i,At m t i/\Zd1 m t=((i:Int),decide (i<m.length)&&((el m i).1==t)):=by
 have hms:=mst
 obtain⟨r,hr,h1,i,hi,hR⟩:=ZM (fl:=false) (t:=ZgU) (fuel:=λa=>Int.toNat (a.2.2.2.2.1-a.2.2.2.1)+1)
  (λa=>∃lo hi:Nat,lo<=hi/\hi<=m.length/\(∀k,k<lo->(el m k).1<t)/\(∀k,hi<=k->k<m.length->t<=(el m k).1)/\a=(m,t,(m.length:Int),(lo:Int),(hi:Int),()))
  (λa=>Int.toNat (a.2.2.2.2.1-a.2.2.2.1)) (λr=>r.1=false/\∃i:Nat,At m t i/\r.2=(m,t,(m.length:Int),(i:Int),(i:Int),()))
  (by
   rintro a ⟨lo,hi,h1,h2,h3,h4,rfl⟩
   by_cases hlt:lo<hi
   ·left
    have d:decide ((lo:Int)<(hi:Int))=true:=by simpa using hlt
    have hmid:=ZpB lo hi (by omega)
    obtain⟨M,hM⟩:∃M,M=(lo+hi)/2:=⟨_,rfl⟩
    rw[<-hM] at hmid
    have r1:=ZaF m M (by omega)
    have g:=Zcf m M
    have w:=ZhD M (by omega)
    by_cases hc:(el m M).1<t
    ·have dc:decide (uAt (el m M) t<0)=true:=by rw[ZMP,ZMM];simpa using hc
     refine⟨(m,t,(m.length:Int),((M+1:Nat):Int),(hi:Int),()),?_,⟨M+1,hi,by omega,h2,λk hk=> ?_,h4,rfl⟩,by simp only;omega⟩
     ·simp only[ZgU,RT.val,d,hmid,r1,g,dc,w,cond_true]
     ·by_cases e:k=M
      ·subst e;exact hc
      ·by_cases e2:k<lo
       ·exact h3 k e2
       ·have:=List.pairwise_iff_getElem.1 hv.1 k M (by omega) (by omega) (by omega)
        have e1:=ZcJ m k (by omega)
        have e3:=ZcJ m M (by omega)
        rw[List.getElem?_eq_getElem (by omega),oinj] at e1 e3
        rw[e1,e3] at this;omega
    ·have dc:decide (uAt (el m M) t<0)=false:=by rw[ZMP,ZMM];simpa using hc
     refine⟨(m,t,(m.length:Int),(lo:Int),(M:Int),()),?_,⟨lo,M,by omega,by omega,h3,λk hk hk2=> ?_,rfl⟩,by simp only;omega⟩
     ·simp only[ZgU,RT.val,d,hmid,r1,g,dc,cond_true,cond_false]
     ·by_cases e:k=M
      ·subst e;omega
      ·have:=List.pairwise_iff_getElem.1 hv.1 M k (by omega) (by omega) (by omega)
       have e1:=ZcJ m k (by omega)
       have e3:=ZcJ m M (by omega)
       rw[List.getElem?_eq_getElem (by omega),oinj] at e1 e3
       rw[e1,e3] at this;omega
   ·right;left
    have d:decide ((lo:Int)<(hi:Int))=false:=by simpa using hlt
    have:hi=lo:=by omega
    subst this
    exact⟨_,by simp only[ZgU,RT.val,d,cond_false],rfl,hi,⟨h2,h3,h4⟩,rfl⟩)
  (m,t,iN m.length,0,iN m.length,()) ⟨0,m.length,Nat.zero_le _,Nat.le_refl _,λk h=>by omega,λk h1 h2=>by omega,rfl⟩ (by simp only[iN];omega)
 obtain⟨r1,r2⟩:=r
 simp only at h1 hR
 subst h1 hR
 have hd:decide ((i:Int)<(m.length:Int))=decide (i<m.length):=by simp
 have hv:(ZqF m t).val=some ((i:Int),decide (i<m.length)&&((el m i).1==t)):=by
  have g:=Zcf m i
  by_cases hlt:i<m.length
  ·have r1:=ZaF m i hlt
   have hd:decide ((i:Int)<(m.length:Int))=true:=by simpa using hlt
   simp only[ZqF,RT.val,hr,okB,getO,cond_true,hd,r1,Bool.not_true,Bool.false_or,g,ZMP,ZXM,hlt,decide_true,Bool.true_and]
  ·have hd:decide ((i:Int)<(m.length:Int))=false:=by simpa using hlt
   simp only[ZqF,RT.val,hr,okB,getO,cond_true,cond_false,hd,Bool.not_false,Bool.true_or,hlt,decide_false,Bool.false_and]
 exact⟨by simp only[ZE4,hv];rfl,i,hi,by simp only[Zd1,hv,getO]⟩
theorem ZO5:∀(i:Nat) (m:List Cell) (c:Cell),i<=m.length->(∀k,k<i->(el m k).1<c.1)->putX m c=m.take i++putX (m.drop i) c
 |0,m,c,_,_=>by simp
 |i+1,[],c,h,_=>by simp at h
 |i+1,x::m,c,h,hk=>by
  have h0:x.1<c.1:=hk 0 (by omega)
  rw[putX,if_pos h0,ZO5 i m c (by simpa using h) (λk h'=>hk (k+1) (by omega))]
  simp
theorem ZO4 (m:List Cell) (t v:Int) (i:Nat) (h:At m t i):
  (v=0->(decide (i<m.length)&&((el m i).1==t))=false->putX m (t,v)=m)/\
  (v=0->(decide (i<m.length)&&((el m i).1==t))=true->putX m (t,v)=delX m i)/\
  (v≠0->(decide (i<m.length)&&((el m i).1==t))=true->putX m (t,v)=setI m (i:Int) ((el m i).1,v))/\
  (v≠0->(decide (i<m.length)&&((el m i).1==t))=false->putX m (t,v)=insX m i (t,v)):=by
 obtain⟨h1,h2,h3⟩:=h
 have hp:=ZO5 i m (t,v) h1 h2
 by_cases hlt:i<m.length
 ·have hd:=Zwc m i hlt
  have hge:=h3 i (Nat.le_refl _) hlt
  have hn:¬(el m i).1<t:=by omega
  rw[hd] at hp
  simp only[putX,if_neg hn] at hp
  simp only[hlt,decide_true,Bool.true_and]
  refine⟨λhz he=> ?_,λhz he=> ?_,λhz he=> ?_,λhz he=> ?_⟩
  ·have he:(el m i).1≠t:=by simpa using he
   rw[hp,if_pos hz,if_neg he,<-hd,List.take_append_drop]
  ·have he:(el m i).1=t:=by simpa using he
   rw[hp,if_pos hz,if_pos he,delX]
  ·have he:(el m i).1=t:=by simpa using he
   rw[hp,if_neg hz,if_pos he,setI,Int.toNat_natCast,he,List.set_eq_take_append_cons_drop,if_pos hlt]
  ·have he:(el m i).1≠t:=by simpa using he
   rw[hp,if_neg hz,if_neg he,insX,<-hd];simp
 ·have he:i=m.length:=by omega
  subst he
  simp only[List.drop_length,putX] at hp
  simp only[Nat.lt_irrefl,decide_false,Bool.false_and]
  refine⟨λhz _=> ?_,λhz he=>by simp at he,λhz he=>by simp at he,λhz _=> ?_⟩
  ·rw[hp,if_pos hz];simp
  ·rw[hp,if_neg hz,insX];simp
theorem ZUC (m:List Cell) (t v:Int) (hm:m.length+1<=most):ZUE m t v=true/\mPut m t v=putX (normX m) (t,v):=by
 have hms:=mst
 have hv1:=ZQ2 m (by omega)
 have hb1:Nat.ble m.length most=true:=by rw[Nat.ble_eq];omega
 have hv:(ZKK m t v).val=some (putX (normX m) (t,v)):=by
  cases hval:vldB m with
  |false=>
   have hl:(m++[(t,v)]).length<=most:=by simp;omega
   have hb2:Nat.ble (m++[(t,v)]).length most=true:=by rw[Nat.ble_eq];exact hl
   obtain⟨n1,n2⟩:=Zo7 (m++[(t,v)]) hl
   simp only[ZKK,RT.val,hv1.1,hv1.2,hval,hb1,hb2,n1,n2,Zkb,Bool.not_false,Bool.not_true,Bool.or_true,Bool.or_self,cond_true]
  |true=>
   have hV:=Zse.1 hval
   obtain⟨f1,i,hi,f2⟩:=ZMk m t hV (by omega)
   obtain⟨q1,q2,q3,q4⟩:=ZO4 m t v i hi
   have hile:decide ((i:Int)<=iN m.length)=true:=by simpa [iN] using hi.1
   have hi0:decide ((0:Int)<=(i:Int))=true:=by simp
   have hb3:Nat.ble (m.length+1) most=true:=by rw[Nat.ble_eq];omega
   have w:=ZhD i (by have:=hi.1;omega)
   have g:=Zcf m i
   rw[Zkc hV]
   simp only[ZKK,RT.val,hv1.1,hv1.2,hval,hb1,f1,f2,hile,hi0,hb3,w,g,Bool.not_true,Bool.not_false,Bool.true_or,Bool.or_true,Bool.or_false,Bool.false_or,Bool.and_self,Bool.true_and,cond_true,cond_false,Int.toNat_natCast]
   cases hfd:(decide (i<m.length)&&((el m i).1==t)) with
   |true=>
    have hlt:i<m.length:=by
     rw[Bool.and_eq_true,decide_eq_true_eq] at hfd;exact hfd.1
    have r1:=ZaF m i hlt
    have hd:decide ((i:Int)<iN m.length)=true:=by simpa [iN] using hlt
    have hw:decide (((i+1:Nat):Int)=(i:Int)+1)=true:=by simp
    by_cases hz:v=0
    ·have hz1:(v==0)=true:=by simpa using hz
     simp only[hz1,r1,hd,hw,q2 hz hfd,Bool.not_true,Bool.not_false,Bool.and_false,Bool.and_true,Bool.true_or,Bool.or_true,Bool.or_false,Bool.false_or,Bool.and_self,cond_true,cond_false]
    ·have hz1:(v==0)=false:=by simpa using hz
     simp only[hz1,r1,hd,hw,q3 hz hfd,Bool.not_true,Bool.not_false,Bool.false_and,Bool.and_false,Bool.and_true,Bool.true_or,Bool.or_true,Bool.or_false,Bool.false_or,Bool.and_self,cond_true,cond_false]
   |false=>
    by_cases hz:v=0
    ·have hz1:(v==0)=true:=by simpa using hz
     simp only[hz1,q1 hz hfd,Bool.not_true,Bool.not_false,Bool.and_false,Bool.and_true,Bool.true_or,Bool.or_true,Bool.or_false,Bool.false_or,Bool.and_self,cond_true,cond_false]
    ·have hz1:(v==0)=false:=by simpa using hz
     simp only[hz1,q4 hz hfd,Bool.not_true,Bool.not_false,Bool.false_and,Bool.and_false,Bool.and_true,Bool.true_or,Bool.or_true,Bool.or_false,Bool.false_or,Bool.and_self,cond_true,cond_false]
 exact⟨by simp only[ZUE,hv];rfl,by simp only[mPut,hv,getO]⟩
abbrev ZnP:List Sh:=[Sh.one rcRG,Sh.one rcCE,Sh.one (R.int u16),Sh.one (R.int u8)]
abbrev ZiZ:Rs:=Rs.one (Sh.one rcCE)
def ZiY (l:List (QT4)) (m:List (Int×Int)) (t:Int) (v:Int):RT (Option (List (Int×Int))):=
 let x1:=decide (ZJO l t>=0)&&(R.get (R.pair (R.int u16) (R.pair (R.int u16) (R.pair R.bool (R.int i64)))) l (ZJO l t)).2.2.1
 .br (ZQc l t) (.br (!decide (ZJO l t>=0)||Zf (ZJO l t) (List.length l)) (.br (!x1||ZUE m t v) (.br (x1) (.leaf (some (mPut m t v))) (.br (ZyP m) (.leaf (some (ZRh m))) (.leaf none))) (.leaf none)) (.leaf none)) (.leaf none)
def ZB2 (l:List (QT4)) (m:List (Int×Int)) (t:Int) (v:Int):List (Int×Int):=getO ZiZ.dflt (ZiY l m t v).val
def Zuo (l:List (QT4)) (m:List (Int×Int)) (t:Int) (v:Int):Bool:=okB (ZiY l m t v).val
def ZTX:Entry:=Zg ZnP ZiZ (λa=>some (Zuo a.1 a.2.1 a.2.2.1 a.2.2.2)) (λa=>ZB2 a.1 a.2.1 a.2.2.1 a.2.2.2)
theorem ZJv:Za prog 187 ZTX:=
 pureP 1023 [(117,ZRg),(245,ZWO),(246,Z1a)] [] ZnP ZiZ ⟨ZvR,ZUi,ZZt,Tv⟩ Tryz.func187 Tryz.call187 trivial (t:=λa=>ZiY a.1 a.2.1 a.2.2.1 a.2.2.2)
abbrev ZFT:List Sh:=[Sh.one (R.int i64)]
abbrev ZFU:Rs:=Rs.one (Sh.one (R.int i64))
def ZOj (n:Int):RT (Int):=
 .leaf (if (if 100<n then 100 else n)>0 then if 100<n then 100 else n else 0)
def ZOk (n:Int):Int:=(ZOj n).val
def ZBz:Entry:=Zg ZFT ZFU (λ_=>none) (λa=>ZOk a)
theorem ZxR:Za prog 301 ZBz:=
 pureQ 7 [] [] ZFT ZFU trivial Tryz.func301 Tryz.call301 trivial (t:=λa=>ZOj a)
abbrev ZsT:List Sh:=[Sh.one rcRG,Sh.one (R.int u16)]
abbrev Zlq:Rs:=Rs.one (Sh.one (R.int i64))
def ZmF (l:List (QT4)) (t:Int):RT (Option (Int)):=
 .br (ZnF l t) (.br (!decide (Zj0 l t>=0)||Zf (Zj0 l t) (List.length l)) (.br (decide (Zj0 l t>=0)) (.leaf (some (ZOk (R.get (R.pair (R.int u16) (R.pair (R.int u16) (R.pair R.bool (R.int i64)))) l (Zj0 l t)).2.2.2))) (.leaf (some (0)))) (.leaf none)) (.leaf none)
def ZNx (l:List (QT4)) (t:Int):Int:=getO Zlq.dflt (ZmF l t).val
def ZAt (l:List (QT4)) (t:Int):Bool:=okB (ZmF l t).val
def ZX4:Entry:=Zg ZsT Zlq (λa=>some (ZAt a.1 a.2)) (λa=>ZNx a.1 a.2)
theorem ZNw:Za prog 300 ZX4:=
 pureP 63 [(43,ZF7),(301,ZBz)] [] ZsT Zlq ⟨Ztu,ZxR,Tv⟩ Tryz.func300 Tryz.call300 trivial (t:=λa=>ZmF a.1 a.2)
abbrev ZmH:List Sh:=[Sh.one rcRG]
abbrev ZiF:Rs:=Rs.one (Sh.one (R.int i64))
def ZIg:LS:={n:=30,slots:=[(2,.code (Sh.one (R.int i64))),(8,.code (Sh.one rcRG)),(9,.code (Sh.one (R.int i64))),(10,.code (Sh.one (R.int i64)))],boxes:=[],stgs:=[]}
def ZdR (a:QT26):RT (Option (Go1 (QT26))):=
 let x1:QT4:=R.get (R.pair (R.int u16) (R.pair (R.int u16) (R.pair R.bool (R.int i64)))) a.2.1 a.2.2.2.1
 let x2:=x1.2
 let x3:=x2.2.2
 let x4:List (QT4)×Int×Int×PUnit:=(a.2.1,a.2.2.1,a.2.2.2.1,PUnit.unit)
 .br (decide (a.2.2.2.1<a.2.2.1)) (.br (Zf a.2.2.2.1 (List.length a.2.1)) (.br (decide (x2.1<x1.1)||(decide (x3<0)||decide (x3>100))) (.leaf (some (Go1.ret (1,x4)))) (.leaf (some (Go1.cont (a.1,a.2.1,a.2.2.1,i64.wrap (a.2.2.2.1+1),PUnit.unit))))) (.leaf none)) (.leaf (some (Go1.brk (a.1,x4))))
def ZqY:Ora:=Za5 true ZIg ZdR (λa=>1000000000000)
theorem Zxq:ZaJ (envX prog [] [] 31 8) (.block 0 (.loop (Z6 Tryz.f247.body 0))) ZqY:=
 loopP trivial
def Zfq (l:List (QT4)):RT (Option (Int)):=
 let x1:=runF true ZdR (λa=>1000000000000) (0,l,iN (List.length l),0,())
 let x2:=getO (false,0,l,iN (List.length l),0,()) x1
 .br (decide (iN (List.length l)>16)) (.leaf (some (3))) (.br (okB x1) (.br x2.1 (.leaf (some x2.2.1)) (.leaf (some (0)))) (.leaf none))
def ZAv (l:List (QT4)):Int:=getO ZiF.dflt (Zfq l).val
def ZsW (l:List (QT4)):Bool:=okB (Zfq l).val
def ZTl:Entry:=Zg ZmH ZiF (λa=>some (ZsW a)) (λa=>ZAv a)
theorem ZIf:Za prog 247 ZTl:=
 pureP 31 [] [(0,ZqY)] ZmH ZiF trivial Tryz.func247 Tryz.call247 ⟨Zxq,Tv⟩ (t:=λa=>Zfq a)
def sm {α:Type} (l:List α):Bool:=Nat.ble (l.length+1) most
def smC (l:List (Int×Int)):Bool:=sm l
def smB (l:List Int):Bool:=sm l
def smG (l:List Zag):Bool:=sm l
theorem ZqM {α:Type} {l:List α}:sm l=true↔l.length+1<=most:=by simp[sm]
theorem Zsz {α:Type} {l:List α} (h:sm l=true):l.length<=most:=by have:=ZqM.1 h;omega
theorem ZUX (l:List Zag) (t:Int): -1<=Zbs l t/\(Zbs l t<0\/∃i:Nat,i<l.length/\Zbs l t=i):=by
 unfold Zbs
 split
 ·rename_i h;exact⟨by omega,.inr ⟨_,h,rfl⟩⟩
 ·exact⟨by omega,.inl (by omega)⟩
theorem ZpM (l:List Zag) (t:Int) (h:0<=Zbs l t):Zf (Zbs l t) l.length=true:=by
 rcases (ZUX l t).2 with h1|⟨i,hi,e⟩
 ·omega
 ·rw[e];exact ZaF l i hi
def ZbG (l:List Zag) (m:List Cell) (t v:Int):List Cell:=bif decide (Zbs l t>=0)&&(R.get GR l (Zbs l t)).2.2.1 then putX (normX m) (t,v) else normX m
def limX (n:Int):Int:=if (if 100<n then 100 else n)>0 then if 100<n then 100 else n else 0
def Zwv (l:List Zag) (t:Int):Int:=bif decide (Zbs l t>=0) then limX (R.get GR l (Zbs l t)).2.2.2 else 0
theorem ZJm (l:List Zag) (m:List Cell) (t v:Int) (hl:l.length<=most) (hm:m.length+1<=most):Zuo l m t v=true/\ZB2 l m t v=ZbG l m t v:=by
 have h1:=ZPh l t hl
 have h2:=ZUC m t v hm
 have h3:=Zo7 m (by omega)
 have hv:(ZiY l m t v).val=some (ZbG l m t v):=by
  have hr:(!decide (Zbs l t>=0)||Zf (Zbs l t) l.length)=true:=by
   by_cases h:0<=Zbs l t
   ·rw[ZpM l t h];simp
   ·have:decide (Zbs l t>=0)=false:=by simp;omega
    rw[this];rfl
  simp only[ZiY,RT.val,h1.1,h1.2,h2.1,h2.2,h3.1,h3.2,hr,Bool.or_true,cond_true,ZbG]
  cases decide (Zbs l t>=0)&&(R.get GR l (Zbs l t)).2.2.1<;>rfl
 exact⟨by simp only[Zuo,hv];rfl,by simp only[ZB2,hv,getO]⟩
theorem ZH5 (l:List Zag) (m:List Cell) (t v:Int) (hl:l.length<=most) (hm:m.length+1<=most):ZsS l m t v=true/\ZAs l m t v=ZbG l m t v:=by
 have h1:=ZiA l t hl
 have h2:=ZTc m t v hm
 have h3:=ZmA m hm
 have hv:(ZiD l m t v).val=some (ZbG l m t v):=by
  have hr:(!decide (Zbs l t>=0)||Zf (Zbs l t) l.length)=true:=by
   by_cases h:0<=Zbs l t
   ·rw[ZpM l t h];simp
   ·have:decide (Zbs l t>=0)=false:=by simp;omega
    rw[this];rfl
  simp only[ZiD,RT.val,h1.1,h1.2,h2.1,h2.2,h3.1,h3.2,hr,Bool.or_true,cond_true,ZbG]
  cases decide (Zbs l t>=0)&&(R.get GR l (Zbs l t)).2.2.1<;>rfl
 exact⟨by simp only[ZsS,hv];rfl,by simp only[ZAs,hv,getO]⟩
theorem ZH6 (l:List Zag) (t:Int) (hl:l.length<=most):ZAt l t=true/\ZNx l t=Zwv l t:=by
 have h1:=ZiA l t hl
 have hv:(ZmF l t).val=some (Zwv l t):=by
  have hr:(!decide (Zbs l t>=0)||Zf (Zbs l t) l.length)=true:=by
   by_cases h:0<=Zbs l t
   ·rw[ZpM l t h];simp
   ·have:decide (Zbs l t>=0)=false:=by simp;omega
    rw[this];rfl
  simp only[ZmF,RT.val,h1.1,h1.2,hr,cond_true,Zwv]
  cases decide (Zbs l t>=0)<;>rfl
 exact⟨by simp only[ZAt,hv];rfl,by simp only[ZNx,hv,getO]⟩
def badR (r:Zag):Bool:=decide (r.2.1<r.1)||(decide (r.2.2.2<0)||decide (r.2.2.2>100))
def Zfj (l:List Zag):Int:=bif decide (iN l.length>16) then 3 else bif l.any badR then 1 else 0
theorem ZAj (l:List Zag) (hl:l.length<=most):ZsW l=true/\ZAv l=Zfj l:=by
 have hms:=mst
 obtain⟨r,hr,hR⟩:=ZM (fl:=true) (t:=ZdR) (fuel:=λ_=>1000000000000)
  (λx=>∃i:Nat,i<=l.length/\(∀k,k<i->badR (rg l k)=false)/\x=(0,l,(l.length:Int),(i:Int),()))
  (λx=>Int.toNat (x.2.2.1-x.2.2.2.1)) (λr=>(r.1=false/\l.any badR=false)\/(r.1=true/\l.any badR=true/\r.2.1=1))
  (by
   rintro x ⟨i,hi,hk,rfl⟩
   by_cases hlt:i<l.length
   ·have d:decide ((i:Int)<(l.length:Int))=true:=by simpa using hlt
    have r1:=ZaF l i hlt
    have g1:=ZW0 l i
    cases hh:badR (rg l i) with
    |false=>
     left
     refine⟨(0,l,(l.length:Int),((i+1:Nat):Int),()),?_,⟨i+1,hlt,λk hk'=> ?_,rfl⟩,by simp only;omega⟩
     ·simp only[badR] at hh
      simp only[ZdR,RT.val,d,r1,g1,hh,cond_true,cond_false,ZhD i (by omega)]
     ·by_cases e:k=i
      ·subst e;exact hh
      ·exact hk k (by omega)
    |true=>
     right;right
     refine⟨(1,l,(l.length:Int),(i:Int),()),rfl,?_,.inr ⟨rfl,List.any_eq_true.2 ⟨rg l i,?_,hh⟩,rfl⟩⟩
     ·simp only[badR] at hh
      simp only[ZdR,RT.val,d,r1,g1,hh,cond_true]
     ·rw[<-Zxg l i hlt];exact List.getElem_mem hlt
   ·right;left
    have d:decide ((i:Int)<(l.length:Int))=false:=by simpa using hlt
    refine⟨_,by simp only[ZdR,RT.val,d,cond_false];rfl,.inl ⟨rfl,?_⟩⟩
    rw[List.any_eq_false]
    intro q hq
    obtain⟨k,hk',rfl⟩:=List.mem_iff_getElem.1 hq
    rw[Zxg l k hk',hk k (by omega)];simp)
  (0,l,iN l.length,0,()) ⟨0,Nat.zero_le _,λk h=>by omega,rfl⟩ (by simp only[iN];omega)
 have hv:(Zfq l).val=some (Zfj l):=by
  cases hd:decide (iN l.length>16) with
  |true=>simp only[Zfq,RT.val,hd,cond_true,Zfj]
  |false=>
   rcases hR with ⟨h1,h2⟩|⟨h1,h2,h3⟩
   ·simp only[Zfq,RT.val,hd,hr,okB,getO,cond_true,cond_false,h1,h2,Zfj]
   ·simp only[Zfq,RT.val,hd,hr,okB,getO,cond_true,cond_false,h1,h2,h3,Zfj]
 exact⟨by simp only[ZsW,hv];rfl,by simp only[ZAv,hv,getO]⟩
theorem Zit {P:Program} {f:FuncId} {ts:List Sh} {rs:Rs} {C:HL ts->Bool} {F G:HL ts->rs.den} (h:Za P f (Zg ts rs (λa=>some (C a)) F)) {pre:HL ts->Bool} (hp:∀a,pre a=true->C a=true/\F a=G a):
  Za P f (Zg ts rs (λa=>some (pre a)) G):=by
 have key:∀a,some (pre a)≠some false->pre a=true:=λa h=>by cases hq:pre a with
  |true=>rfl
  |false=>rw[hq] at h;exact absurd rfl h
 exact h.pure_congr (λa _ hq=>by rw[(hp a (key a hq)).1];simp) (λa _ hq=>(hp a (key a hq)).2)
def Zls:Entry:=Zg ZsV Zlr (λa=>some (smC a)) (λa=>vldB a)
theorem ZjW:Za prog 44 Zls:=Zit ZmG λa h=>ZNc a (Zsz h)
def ZDH:Entry:=Zg ZDG ZvS (λa=>some (smC a)) (λa=>normX a)
theorem ZyQ:Za prog 117 ZDH:=Zit ZvR λa h=>Zo7 a (Zsz h)
def Ztf:Entry:=Zg ZAS Ztd (λa=>some (smC a)) (λa=>normX a)
theorem ZmT:Za prog 92 Ztf:=Zit Ztc λa h=>ZmA a (ZqM.1 h)
def ZFt:Entry:=Zg Zs2 Zlv (λa=>some (smC a.1)) (λa=>decide ((a.1:List Cell)=a.2))
theorem ZIl:Za prog 39 ZFt:=Zit ZNC λa h=>ZNh a.1 a.2 (Zsz h)
def ZFB:Entry:=Zg Zs4 Zlw (λa=>some (smG a.1&&smC a.2.1)) (λa=>ZqU a.1 a.2.1 a.2.2)
theorem ZIm:Za prog 102 ZFB:=Zit ZNL λa h=>by rw[Bool.and_eq_true] at h;exact ZNi a.1 a.2.1 a.2.2 (Zsz h.1) (Zsz h.2)
def ZnR:Entry:=Zg ZnP ZiZ (λa=>some (smG a.1&&smC a.2.1)) (λa=>ZbG a.1 a.2.1 a.2.2.1 a.2.2.2)
theorem ZnQ:Za prog 187 ZnR:=Zit ZJv λa h=>by rw[Bool.and_eq_true] at h;exact ZJm a.1 a.2.1 a.2.2.1 a.2.2.2 (Zsz h.1) (ZqM.1 h.2)
def ZmE:Entry:=Zg ZmC ZiE (λa=>some (smG a.1&&smC a.2.1)) (λa=>ZbG a.1 a.2.1 a.2.2.1 a.2.2.2)
theorem ZmD:Za prog 101 ZmE:=Zit ZIc λa h=>by rw[Bool.and_eq_true] at h;exact ZH5 a.1 a.2.1 a.2.2.1 a.2.2.2 (Zsz h.1) (ZqM.1 h.2)
def ZFj:Entry:=Zg ZsT Zlq (λa=>some (smG a.1)) (λa=>Zwv a.1 a.2)
theorem ZId:Za prog 300 ZFj:=Zit ZNw λa h=>ZH6 a.1 a.2 (Zsz h)
def Zxr:Entry:=Zg ZmH ZiF (λa=>some (smG a)) (λa=>Zfj a)
theorem ZAu:Za prog 247 Zxr:=Zit ZIf λa h=>ZAj a (Zsz h)
abbrev ZEs:List Sh:=[Sh.one (R.int u8),Sh.one (R.int u8),Sh.one (R.int u8)]
abbrev ZEt:Rs:=Rs.one (Sh.one (R.int u8))
def ZLD (a:Int) (b:Int) (c:Int):RT (Int):=
 .leaf (xorI u8 (xorI u8 (xorI u8 a b) c) 165)
def ZwK (a:Int) (b:Int) (c:Int):Int:=(ZLD a b c).val
def Zl6:Entry:=Zg ZEs ZEt (λ_=>none) (λa=>ZwK a.1 a.2.1 a.2.2)
theorem Zin:Za prog 134 Zl6:=
 pureQ 127 [] [] ZEs ZEt trivial Tryz.func134 Tryz.call134 trivial (t:=λa=>ZLD a.1 a.2.1 a.2.2)
abbrev ZVs:List Sh:=[Sh.one R.bool,Sh.one (R.int i64)]
abbrev ZLJ:Rs:=Rs.one (Sh.one (R.int u8))
def ZSE (o:Bool) (n:Int):RT (Option (Int)):=
 .br (!o||decide (0<=n)) (.br (o) (.leaf (some (shlI u8 1 n))) (.leaf (some (0)))) (.leaf none)
def wBit (o:Bool) (n:Int):Int:=getO ZLJ.dflt (ZSE o n).val
def Zfi (o:Bool) (n:Int):Bool:=okB (ZSE o n).val
def ZXn:Entry:=Zg ZVs ZLJ (λa=>some (Zfi a.1 a.2)) (λa=>wBit a.1 a.2)
theorem ZLI:Za prog 133 ZXn:=
 pureP 31 [] [] ZVs ZLJ trivial Tryz.func133 Tryz.call133 trivial (t:=λa=>ZSE a.1 a.2)
abbrev ZLz:List Sh:=[]
abbrev ZLA:Rs:=Rs.one (Sh.agg Zdp)
def ZVq:RT INPT:=
 .leaf ((true,false,false,false,false,false,false,false,0,0))
def ZW:INPT:=(ZVq).val
def ZEo:Entry:=Zg ZLz ZLA (λ_=>none) (λa=>ZW)
theorem Zr7:Za prog 190 ZEo:=
 pureQ 1 [] [] ZLz ZLA trivial Tryz.func190 Tryz.call190 trivial (t:=λa=>ZVq)
abbrev ZwH:List Sh:=[Sh.one (R.sl (R.int u8))]
abbrev Zl4:Rs:=Rs.one (Sh.one (R.sl Zdp))
def ZHW:LS:={n:=83,slots:=[(0,.code (Sh.one (R.sl (R.int u8)))),(3,.tip 0),(4,.code (Sh.one (R.int i64)))],boxes:=[],stgs:=[⟨Zdp,195,true⟩]}
def ZcW (a:List Int×Int×List INPT×PUnit):RT (Option (Go1 (List Int×Int×List INPT×PUnit))):=
 let x1:= !Zf (i64.wrap (a.2.1+1)) (List.length a.1)||Zf (i64.wrap (a.2.1+2)) (List.length a.1)
 let x2:= !Zf (i64.wrap (a.2.1+3)) (List.length a.1)||x1
 let x3:= !x2
 let x4:= !Zf (i64.wrap (a.2.1+3)) (List.length a.1)||Zf (i64.wrap (a.2.1+1)) (List.length a.1)
 let x5:= !x4
 let p1:=(!Zf (i64.wrap (a.2.1+3)) (List.length a.1))::x5::x3::(!Zf a.2.1 (List.length a.1))::[]
 let x6:=R.get (R.int u8) a.1 (i64.wrap (a.2.1+3)) !=ZwK (R.get (R.int u8) a.1 a.2.1) (R.get (R.int u8) a.1 (i64.wrap (a.2.1+1))) (R.get (R.int u8) a.1 (i64.wrap (a.2.1+2)))
 let x7:= !x6||Nat.ble (List.length (a.2.2.1++[ZW])) most
 let x8:= !x7
 let p2:=x6::x8::p1
 let x9:List INPT:=a.2.2.1++[(andI u8 (R.get (R.int u8) a.1 a.2.1) 1==0,andI u8 (R.get (R.int u8) a.1 a.2.1) 2 !=0,andI u8 (R.get (R.int u8) a.1 a.2.1) 4 !=0,andI u8 (R.get (R.int u8) a.1 a.2.1) 8 !=0,andI u8 (R.get (R.int u8) a.1 a.2.1) 16 !=0,andI u8 (R.get (R.int u8) a.1 a.2.1) 32 !=0,andI u8 (R.get (R.int u8) a.1 a.2.1) 64 !=0,andI u8 (R.get (R.int u8) a.1 a.2.1) 128 !=0,R.get (R.int u8) a.1 (i64.wrap (a.2.1+1)),R.get (R.int u8) a.1 (i64.wrap (a.2.1+2)))]
 let x10:= !Zf (i64.wrap (a.2.1+1)) (List.length a.1)||(!Zf (i64.wrap (a.2.1+2)) (List.length a.1)||Nat.ble (List.length x9) most)
 let x11:= !x10
 let p3:=x11::p2
 let p4:=(!x1)::p3
 .br (decide (i64.wrap (a.2.1+4)<=iN (List.length a.1))&&decide (iN (List.length a.2.2.1)<65536)) (.br (orR p4 (Zf (i64.wrap (a.2.1+1)) (List.length a.1))) (.br (orR p3 x1) (.br (orR p2 x10) (.br (orR p1 x7) (.br (!Zf a.2.1 (List.length a.1)||(x3||(x5||Zf (i64.wrap (a.2.1+3)) (List.length a.1)))) (.br (!Zf a.2.1 (List.length a.1)||(x3||x4)) (.br (!Zf a.2.1 (List.length a.1)||x2) (.br (Zf a.2.1 (List.length a.1)) (.leaf (some (Go1.cont (a.1,i64.wrap (a.2.1+4),bif x6 then a.2.2.1++[ZW] else x9,PUnit.unit)))) (.leaf none)) (.leaf none)) (.leaf none)) (.leaf none)) (.leaf none)) (.leaf none)) (.leaf none)) (.leaf none)) (.leaf (some (Go1.brk (a.1,a.2.1,a.2.2.1,PUnit.unit))))
def Zqq:Ora:=Za5 false ZHW ZcW (λa=>1000000000000)
theorem ZwI:ZaJ (envX prog [(134,Zl6),(190,ZEo)] [] 63 8) (.block 0 (.loop (Z6 Tryz.f120.body 0))) Zqq:=
 loopP ⟨Zin,Zr7,Tv⟩
def Zik (l:List Int):RT (Option (List INPT)):=
 .br (okB (runF false ZcW (λa=>1000000000000) (l,0,[],()))) (.leaf (some (getO (false,l,0,[],()) (runF false ZcW (λa=>1000000000000) (l,0,[],()))).2.2.2.1)) (.leaf none)
def Zbg (l:List Int):List INPT:=getO Zl4.dflt (Zik l).val
def Zli (l:List Int):Bool:=okB (Zik l).val
def Zr9:Entry:=Zg ZwH Zl4 (λa=>some (Zli a)) (λa=>Zbg a)
theorem Zqo:Za prog 120 Zr9:=
 pureP 63 [(134,Zl6),(190,ZEo)] [(0,Zqq)] ZwH Zl4 ⟨Zin,Zr7,Tv⟩ Tryz.func120 Tryz.call120 ⟨ZwI,Tv⟩ (t:=λa=>Zik a)
abbrev ZLB:Rs:=Rs.one (Sh.one (R.sl (R.int u8)))
def ZdQ (a:List INPT×Int×Int×List Int×PUnit):RT (Option (Go1 (List INPT×Int×Int×List Int×PUnit))):=
 let x1:INPT:=R.get Zdp a.1 a.2.2.1
 let x2:= !x1.1
 let x3:=Zfi x2 0
 let x4:= !x3
 let x5:=x1.2
 let x6:=x5.1
 let x7:=Zfi x6 1
 let x8:= !x7
 let x9:=x5.2
 let x10:=x9.1
 let x11:=Zfi x10 2
 let x12:= !x11
 let x13:=x9.2
 let x14:=x13.1
 let x15:=Zfi x14 3
 let x16:= !x15
 let p2:=x16::x12::x8::x4::[]
 let x17:=x13.2
 let x18:=x17.1
 let x19:=Zfi x18 4
 let x20:= !x19
 let p4:=x20::p2
 let x21:=x17.2
 let x22:=x21.1
 let x23:=Zfi x22 5
 let x24:= !x23
 let p6:=x24::p4
 let x25:=x21.2
 let x26:=x25.1
 let x27:=Zfi x26 6
 let p8:=(!x27)::p6
 let x28:=x25.2
 let x29:=x28.1
 let x30:=orR p8 (Zfi x29 7)
 let x31:= !x30
 let x32:=orR p6 x27
 let x33:= !x32
 let p1:=x33::x31::(decide (a.2.2.1>=65536))::(!Zf a.2.2.1 (List.length a.1))::[]
 let x34:=orR p4 x23
 let x35:= !x34
 let p3:=x35::p1
 let x36:=orR p2 x19
 let x37:= !x36
 let p5:=x37::p3
 let x38:=x4||(x8||(x12||x15))
 let x39:= !x38
 let p7:=x39::p5
 let x40:=x4||(x8||x11)
 let x41:= !x40
 let p9:=x41::p7
 let x42:=x4||x7
 let x43:= !x42
 let p10:=x43::p9
 let p11:=x4::p10
 let x44:=orI u8 (orI u8 (orI u8 (orI u8 (orI u8 (orI u8 (orI u8 (wBit x2 0) (wBit x6 1)) (wBit x10 2)) (wBit x14 3)) (wBit x18 4)) (wBit x22 5)) (wBit x26 6)) (wBit x29 7)
 let x45:=x28.2
 let x46:=x45.1
 let x47:=x45.2
 let x48:List Int:=a.2.2.2.1++[x44,x46,x47,ZwK x44 x46 x47]
 .br (decide (a.2.2.1<a.2.1)) (.br (orR p11 (Nat.ble (List.length x48) most)) (.br (orR p10 x3) (.br (orR p9 x42) (.br (orR p7 x40) (.br (orR p5 x38) (.br (orR p3 x36) (.br (orR p1 x34) (.br (!Zf a.2.2.1 (List.length a.1)||(decide (a.2.2.1>=65536)||(x31||x32))) (.br (!Zf a.2.2.1 (List.length a.1)||(decide (a.2.2.1>=65536)||x30)) (.br (Zf a.2.2.1 (List.length a.1)) (.br (decide (a.2.2.1>=65536)) (.leaf (some (Go1.brk (a.1,a.2.1,a.2.2.1,a.2.2.2.1,PUnit.unit)))) (.leaf (some (Go1.cont (a.1,a.2.1,i64.wrap (a.2.2.1+1),x48,PUnit.unit))))) (.leaf none)) (.leaf none)) (.leaf none)) (.leaf none)) (.leaf none)) (.leaf none)) (.leaf none)) (.leaf none)) (.leaf none)) (.leaf none)) (.leaf (some (Go1.brk (a.1,a.2.1,a.2.2.1,a.2.2.2.1,PUnit.unit))))
def ZgP (l:List INPT):RT (Option (List Int)):=
 let x1:=runF false ZdQ (λa=>1000000000000) (l,iN (List.length l),0,[],())
 .br (okB x1) (.leaf (some (getO (false,l,iN (List.length l),0,[],()) x1).2.2.2.2.1)) (.leaf none)
def Zl3 (l:List INPT):List Int:=getO ZLB.dflt (ZgP l).val
def ZEp (l:List INPT):Bool:=okB (ZgP l).val
abbrev ZEe:List Sh:=[Sh.agg (R.pair (R.int i64) (R.pair rcRG (R.pair (R.int i64) (R.pair (R.int u8) (R.pair (R.int u8) (R.pair R.bool rcCE))))))]
abbrev Zr0:Rs:=Rs.one (Sh.one (R.int i64))
def ZrZ (l:BRDT):RT (Option (Int)):=
 .br (l.1 !=1&&l.1 !=2) (.leaf (some (1))) (.br (smG l.2.1) (.br (Zfj l.2.1 !=0) (.leaf (some (Zfj l.2.1))) (.br (decide (l.2.2.1<0)||(decide (l.2.2.1>100)||smC l.2.2.2.2.2.2)) (.br (decide (l.2.2.1<0)||(decide (l.2.2.1>100)|| !vldB l.2.2.2.2.2.2)) (.leaf (some (1))) (.leaf (some (0)))) (.leaf none))) (.leaf none))
def ZdY (l:BRDT):Int:=getO Zr0.dflt (ZrZ l).val
def Zr1 (l:BRDT):Bool:=okB (ZrZ l).val
def ZLi:Entry:=Zg ZEe Zr0 (λa=>some (Zr1 a)) (λa=>ZdY a)
theorem ZLh:Za prog 188 ZLi:=
 pureP 15 [(44,Zls),(247,Zxr)] [] ZEe Zr0 ⟨ZjW,ZAu,Tv⟩ Tryz.func188 Tryz.call188 trivial (t:=λa=>ZrZ a)
abbrev ZVo:List Sh:=[Sh.agg (R.pair (R.int i64) (R.pair rcRG (R.pair (R.int i64) (R.pair (R.int u8) (R.pair (R.int u8) (R.pair R.bool rcCE))))))]
abbrev ZLr:Rs:=Rs.tup [Sh.agg (R.pair (R.pair Zx (R.pair (R.int i64) (R.pair (R.sl (R.int u8)) (R.pair (RY) (R.pair (R.int i64) R.bool))))) (R.pair rcCE (R.pair Za4 (R.pair (R.pair (R.int u16) (R.pair (R.int u8) (R.int i64))) (R.pair (R.int i64) (R.sl (R.pair (R.int u8) (R.int u8)))))))),Sh.one (R.int i64)]
def ZzK (l:BRDT):RT (Option (SYST×Int)):=
 let x1:TR:=(0,0,0,0,0,0,0,(false,false,false,false,false,false,false),0,0)
 .br (Zr1 l) (.br (ZdY l !=0) (.leaf (some (((((0,x1,false,false,false,0,false,false,false,false,false,false,false),0,[],(0,0,0,0),0,false),[],(0,false,false,false,false,0,0,false,false,false,false,false,0,0,0,0,0,0,0,false),(0,0,0),0,[]),ZdY l)))) (.br (smC l.2.2.2.2.2.2) (.leaf (some ((((((newX l.1).1.1,x1,false,false,false,(newX l.1).1.2.2.2.2.2.1,false,false,false,false,false,false,false),0,[],(1,0,0,4),1,false),Cells.normX l.2.2.2.2.2.2,(0,false,false,false,false,0,0,false,false,false,false,false,0,0,0,0,7,0,0,false),(0,0,0),0,[]),0)))) (.leaf none))) (.leaf none)
def wNew (l:BRDT):SYST×Int:=getO ZLr.dflt (ZzK l).val
def ZSx (l:BRDT):Bool:=okB (ZzK l).val
def ZXj:Entry:=Zg ZVo ZLr (λa=>some (ZSx a)) (λa=>wNew a)
theorem ZLq:Za prog 119 ZXj:=
 pureP 31 [(80,ZV7),(92,Ztf),(188,ZLi),(189,ZXu)] [] ZVo ZLr ⟨ZTG,ZmT,ZLh,ZL6,Tv⟩ Tryz.func119 Tryz.call119 trivial (t:=λa=>ZzK a)
def Za3:Entry:=.tree (ZS (envX prog [] [] 7 8) Tryz.f99)
theorem ZbH:Za prog 99 Za3:=Zaq (P:=prog) (n:=7) (k:=8) (l:=[]) (ol:=[]) trivial Tryz.func99 rfl (by kernel_rfl) Tryz.call99 trivial
abbrev ZLs:List Sh:=[Sh.agg (R.pair (R.int i64) (R.pair rcRG (R.pair (R.int i64) (R.pair (R.int u8) (R.pair (R.int u8) (R.pair R.bool rcCE)))))),Sh.agg (RY)]
abbrev ZzL:Rs:=Rs.one (Sh.one (R.int i64))
def ZEh (l:BRDT) (x:QT11):RT (Option (Int)):=
 .br (!(decide (x.1>=1)&&decide (x.1<=5))||smG l.2.1) (.br (decide (x.1>=1)&&decide (x.1<=5)) (.leaf (some (Zwv l.2.1 x.2.1))) (.br (x.1==6||x.1==7) (.leaf (some (ZOk l.2.2.1))) (.leaf (some (0))))) (.leaf none)
def ZSA (l:BRDT) (x:QT11):Int:=getO ZzL.dflt (ZEh l x).val
def ZEi (l:BRDT) (x:QT11):Bool:=okB (ZEh l x).val
def ZVp:Entry:=Zg ZLs ZzL (λa=>some (ZEi a.1 a.2)) (λa=>ZSA a.1 a.2)
theorem ZSy:Za prog 249 ZVp:=
 pureP 16447 [(99,Za3),(300,ZFj),(301,ZBz)] [] ZLs ZzL ⟨ZbH,ZId,ZxR,Tv⟩ Tryz.func249 Tryz.call249 trivial (t:=λa=>ZEh a.1 a.2)
abbrev Zww:List Sh:=[Sh.agg (R.pair (R.pair Zx (R.pair (R.int i64) (R.pair (R.sl (R.int u8)) (R.pair (RY) (R.pair (R.int i64) R.bool))))) (R.pair rcCE (R.pair Za4 (R.pair (R.pair (R.int u16) (R.pair (R.int u8) (R.int i64))) (R.pair (R.int i64) (R.sl (R.pair (R.int u8) (R.int u8))))))))]
abbrev Zwx:Rs:=Rs.one (Sh.one (R.int i64))
def ZEd (s:SYST):RT (Int):=
 .br (Zae s.1 !=7) (.leaf (0)) (.leaf (i64.wrap (s.2.2.2.2.1+1)))
def ZhE (s:SYST):Int:=(ZEd s).val
def ZrY:Entry:=Zg Zww Zwx (λ_=>none) (λa=>ZhE a)
theorem Zql:Za prog 193 ZrY:=
 pureQ 7 [(79,Zfr)] [] Zww Zwx ⟨Zd7,Tv⟩ Tryz.func193 Tryz.call193 trivial (t:=λa=>ZEd a)
abbrev ZwB:List Sh:=[Sh.agg (R.pair (R.int i64) (R.pair rcRG (R.pair (R.int i64) (R.pair (R.int u8) (R.pair (R.int u8) (R.pair R.bool rcCE)))))),Sh.agg (R.pair (R.pair Zx (R.pair (R.int i64) (R.pair (R.sl (R.int u8)) (R.pair (RY) (R.pair (R.int i64) R.bool))))) (R.pair rcCE (R.pair Za4 (R.pair (R.pair (R.int u16) (R.pair (R.int u8) (R.int i64))) (R.pair (R.int i64) (R.sl (R.pair (R.int u8) (R.int u8)))))))),Sh.agg Zdp]
abbrev Zl0:Rs:=Rs.one (Sh.agg ZAr)
def Zii (l:BRDT) (s:SYST) (i:INPT):RT (Option LINT):=
 let x1:=bif i.2.1 then i.2.2.2.1 else i.2.2.2.1
 let x2:=bif i.2.1 then i.2.2.2.2.1 else i.2.2.2.2.1
 let x3:=bif i.2.1 then i.2.2.2.2.2.1 else i.2.2.2.2.2.1
 let x4:=bif i.2.1 then i.2.2.2.2.2.2.1 else i.2.2.2.2.2.2.1
 let x5:=bif i.2.1 then i.2.2.2.2.2.2.2.1 else i.2.2.2.2.2.2.2.1
 let x6:=bif l.2.2.2.2.2.1 then andI u8 i.2.2.2.2.2.2.2.2.1 1==1 else vInt s.2.2.1
 let x7:=bif i.2.1 then x6 else x6
 .br (ZSN s.2.2.1) (.br (!i.1||ZEi l s.1.2.2.2.1) (.leaf (some ((i.1&&bif i.2.1 then decide (ZhE s>=ZSA l s.1.2.2.2.1) else decide (ZhE s>=ZSA l s.1.2.2.2.1),bif i.1 then i.2.1||Zci s.2.2.2.1 else i.2.1||Zci s.2.2.2.1,bif i.1 then bif i.2.1 then i.2.2.1 else i.2.2.1 else bif i.2.1 then i.2.2.1 else i.2.2.1,bif i.1 then x1 else x1,bif i.1 then x2 else x2,bif i.1 then x3 else x3,bif i.1 then x4 else x4,bif i.1 then x5 else x5,bif i.1 then x7 else x7)))) (.leaf none)) (.leaf none)
def Zr6 (l:BRDT) (s:SYST) (i:INPT):LINT:=getO Zl0.dflt (Zii l s i).val
def Zlh (l:BRDT) (s:SYST) (i:INPT):Bool:=okB (Zii l s i).val
def ZEj:Entry:=Zg ZwB Zl0 (λa=>some (Zlh a.1 a.2.1 a.2.2)) (λa=>Zr6 a.1 a.2.1 a.2.2)
theorem ZHT:Za prog 192 ZEj:=
 pureP 255 [(193,ZrY),(248,ZZ8),(249,ZVp),(250,Zmd)] [] ZwB Zl0 ⟨Zql,ZXv,ZSy,Zmc,Tv⟩ Tryz.func192 Tryz.call192 trivial (t:=λa=>Zii a.1 a.2.1 a.2.2)
abbrev ZEk:List Sh:=[Sh.agg (R.pair (R.int i64) (R.pair rcRG (R.pair (R.int i64) (R.pair (R.int u8) (R.pair (R.int u8) (R.pair R.bool rcCE)))))),Sh.one (R.int u8)]
abbrev ZEl:Rs:=Rs.tup [Sh.one R.bool,Sh.one R.bool]
def ZLx (l:BRDT) (p:Int):RT (Bool×Bool):=
 .leaf ((bif !l.2.2.2.2.2.1 then bif p==l.2.2.2.1 then p==u8.wrap (l.2.2.2.1+1) else p==u8.wrap (l.2.2.2.1+1) else p==u8.wrap (l.2.2.2.1+1),!l.2.2.2.2.2.1&&(p==l.2.2.2.1||p==u8.wrap (l.2.2.2.1+1))))
def Zdw (l:BRDT) (p:Int):Bool×Bool:=(ZLx l p).val
def ZzM:Entry:=Zg ZEk ZEl (λ_=>none) (λa=>Zdw a.1 a.2)
theorem ZwC:Za prog 251 ZzM:=
 pureQ 63 [] [] ZEk ZEl trivial Tryz.func251 Tryz.call251 trivial (t:=λa=>ZLx a.1 a.2)
abbrev ZEm:List Sh:=[Sh.agg (R.pair (R.int i64) (R.pair rcRG (R.pair (R.int i64) (R.pair (R.int u8) (R.pair (R.int u8) (R.pair R.bool rcCE)))))),Sh.one (R.int u8)]
abbrev ZEn:Rs:=Rs.tup [Sh.one (R.int i64),Sh.one R.bool]
def ZLy (l:BRDT) (p:Int):RT (Int×Bool):=
 .leaf ((i64.wrap (u8.wrap (p-l.2.2.2.2.1)),decide (u8.wrap (p-l.2.2.2.2.1)<4)))
def Zf2 (l:BRDT) (p:Int):Int×Bool:=(ZLy l p).val
def ZzN:Entry:=Zg ZEm ZEn (λ_=>none) (λa=>Zf2 a.1 a.2)
theorem ZwD:Za prog 252 ZzN:=
 pureQ 127 [] [] ZEm ZEn trivial Tryz.func252 Tryz.call252 trivial (t:=λa=>ZLy a.1 a.2)
abbrev ZVr:List Sh:=[Sh.agg (R.pair (R.int i64) (R.pair rcRG (R.pair (R.int i64) (R.pair (R.int u8) (R.pair (R.int u8) (R.pair R.bool rcCE)))))),Sh.agg (R.pair (R.pair Zx (R.pair (R.int i64) (R.pair (R.sl (R.int u8)) (R.pair (RY) (R.pair (R.int i64) R.bool))))) (R.pair rcCE (R.pair Za4 (R.pair (R.pair (R.int u16) (R.pair (R.int u8) (R.int i64))) (R.pair (R.int i64) (R.sl (R.pair (R.int u8) (R.int u8)))))))),Sh.agg Zdp]
abbrev ZLH:Rs:=Rs.tup [Sh.agg (R.pair (R.pair Zx (R.pair (R.int i64) (R.pair (R.sl (R.int u8)) (R.pair (RY) (R.pair (R.int i64) R.bool))))) (R.pair rcCE (R.pair Za4 (R.pair (R.pair (R.int u16) (R.pair (R.int u8) (R.int i64))) (R.pair (R.int i64) (R.sl (R.pair (R.int u8) (R.int u8)))))))),Sh.one (R.int u8)]
def ZLG (l:BRDT) (s:SYST) (i:INPT):RT (Option (SYST×Int)):=
 let x1:=decide (s.1.2.2.2.1.1>=1)&&decide (s.1.2.2.2.1.1<=5)
 let x2:= !x1||smG l.2.1&&smC s.2.1
 let x3:= !x2
 let x4:=s.1.2.2.2.1.1 !=6&&l.2.2.2.2.2.1
 let p1:=(!(Zdw l (u8.wrap s.1.2.2.2.1.2.1)).2)::(s.1.2.2.2.1.1 !=6)::x4::x1::[]
 let x5:=x1||(x4||(!s.1.2.2.2.1.1 !=6||ZSQ s.2.2.1))
 let x6:= !x5
 let x7:=orR p1 (ZEE s.2.2.1 (Zdw l (u8.wrap s.1.2.2.2.1.2.1)).1)
 let p2:=(!(Zf2 l (u8.wrap s.1.2.2.2.1.2.1)).2)::((Zdw l (u8.wrap s.1.2.2.2.1.2.1)).2)::(s.1.2.2.2.1.1 !=6)::x4::x1::(!x7)::x6::x3::[]
 let x8:=ZSH s.2.2.1 (Zdw l (u8.wrap s.1.2.2.2.1.2.1)).1
 let x9:=x8.1
 .br (i.2.2.1||(Zae s.1 !=3|| !ZcQ s.1.2.2.2.1.1)) (.leaf (some ((s,0)))) (.br (orR p2 (Zsl s.2.2.2.1 (Zf2 l (u8.wrap s.1.2.2.2.1.2.1)).1)) (.br (x3||(x6||x7)) (.br (x3||x5) (.br (x2) (.leaf (some (((s.1,s.2.1,(R.sel Za4 x1 s.2.2.1 (R.sel Za4 x4 s.2.2.1 (R.sel Za4 (s.1.2.2.2.1.1 !=6) (vAck s.2.2.1).1 (R.sel Za4 ((Zdw l (u8.wrap s.1.2.2.2.1.2.1)).2) x9 s.2.2.1)))),s.2.2.2),bif x1 then ZqU l.2.1 s.2.1 s.1.2.2.2.1.2.1 else bif x4 then i.2.2.2.2.2.2.2.2.2 else bif s.1.2.2.2.1.1 !=6 then (vAck s.2.2.1).2 else bif (Zdw l (u8.wrap s.1.2.2.2.1.2.1)).2 then x8.2 else bif (Zf2 l (u8.wrap s.1.2.2.2.1.2.1)).2 then ZLV s.2.2.2.1 (Zf2 l (u8.wrap s.1.2.2.2.1.2.1)).1 else i.2.2.2.2.2.2.2.2.2)))) (.leaf none)) (.leaf none)) (.leaf none)) (.leaf none))
def wBus (l:BRDT) (s:SYST) (i:INPT):SYST×Int:=getO ZLH.dflt (ZLG l s i).val
def ZSD (l:BRDT) (s:SYST) (i:INPT):Bool:=okB (ZLG l s i).val
def ZZ3:Entry:=Zg ZVr ZLH (λa=>some (ZSD a.1 a.2.1 a.2.2)) (λa=>wBus a.1 a.2.1 a.2.2)
theorem ZXl:Za prog 194 ZZ3:=
 pureP 4956598223910189960238497791 [(79,Zfr),(99,Za3),(102,ZFB),(103,ZmO),(251,ZzM),(252,ZzN),(253,ZZ9),(254,ZVv),(255,ZLU)] [] ZVr ZLH ⟨Zd7,ZbH,ZIm,ZiI,ZwC,ZwD,ZXy,ZSF,ZLS,Tv⟩ Tryz.func194 Tryz.call194 trivial (t:=λa=>ZLG a.1 a.2.1 a.2.2)
abbrev ZEf:List Sh:=[Sh.agg (R.pair (R.int i64) (R.pair rcRG (R.pair (R.int i64) (R.pair (R.int u8) (R.pair (R.int u8) (R.pair R.bool rcCE)))))),Sh.agg (R.pair (R.pair Zx (R.pair (R.int i64) (R.pair (R.sl (R.int u8)) (R.pair (RY) (R.pair (R.int i64) R.bool))))) (R.pair rcCE (R.pair Za4 (R.pair (R.pair (R.int u16) (R.pair (R.int u8) (R.int i64))) (R.pair (R.int i64) (R.sl (R.pair (R.int u8) (R.int u8)))))))),Sh.agg (RY)]
abbrev Zr2:Rs:=Rs.one (Sh.agg (R.pair (R.pair Zx (R.pair (R.int i64) (R.pair (R.sl (R.int u8)) (R.pair (RY) (R.pair (R.int i64) R.bool))))) (R.pair rcCE (R.pair Za4 (R.pair (R.pair (R.int u16) (R.pair (R.int u8) (R.int i64))) (R.pair (R.int i64) (R.sl (R.pair (R.int u8) (R.int u8)))))))))
def ZlX (l:BRDT) (s:SYST) (x:QT11):RT (Option SYST):=
 let x1:List (Int×Int):=[]++s.2.2.2.2.2++[(u8.wrap x.2.1,x.2.2.1)]
 let x2:=ZLN s.2.2.1 (Zdw l (u8.wrap x.2.1)).1 x.2.2.1
 let x30:=ZzS s.2.2.2.1 (Zf2 l (u8.wrap x.2.1)).1 x.2.2.1
 .br (!x.1 !=7||smG l.2.1&&smC s.2.1) (.br (x.1 !=7) (.leaf (some ((s.1,ZbG l.2.1 s.2.1 x.2.1 x.2.2.1,s.2.2)))) (.br (!Nat.ble (List.length ([]++s.2.2.2.2.2)) most||Nat.ble (List.length x1) most) (.br (Nat.ble (List.length ([]++s.2.2.2.2.2)) most) (.br (!(Zdw l (u8.wrap x.2.1)).2||Zsi s.2.2.1 (Zdw l (u8.wrap x.2.1)).1 x.2.2.1) (.leaf (some ((s.1,s.2.1,(R.sel Za4 ((Zdw l (u8.wrap x.2.1)).2) x2 s.2.2.1),(R.sel ZX3 ((Zdw l (u8.wrap x.2.1)).2) s.2.2.2.1 (R.sel ZX3 ((Zf2 l (u8.wrap x.2.1)).2) x30 s.2.2.2.1)),s.2.2.2.2.1,x1)))) (.leaf none)) (.leaf none)) (.leaf none))) (.leaf none)
def ZEg (l:BRDT) (s:SYST) (x:QT11):SYST:=getO Zr2.dflt (ZlX l s x).val
def Zr3 (l:BRDT) (s:SYST) (x:QT11):Bool:=okB (ZlX l s x).val
def ZLl:Entry:=Zg ZEf Zr2 (λa=>some (Zr3 a.1 a.2.1 a.2.2)) (λa=>ZEg a.1 a.2.1 a.2.2)
theorem ZLj:Za prog 195 ZLl:=
 pureP 4095 [(101,ZmE),(251,ZzM),(252,ZzN),(256,ZLM),(257,ZEy)] [] ZEf Zr2 ⟨ZmD,ZwC,ZwD,ZLK,ZHX,Tv⟩ Tryz.func195 Tryz.call195 trivial (t:=λa=>ZlX a.1 a.2.1 a.2.2)
abbrev ZEq:List Sh:=[Sh.agg (R.pair (R.int i64) (R.pair rcRG (R.pair (R.int i64) (R.pair (R.int u8) (R.pair (R.int u8) (R.pair R.bool rcCE)))))),Sh.agg (R.pair (R.pair Zx (R.pair (R.int i64) (R.pair (R.sl (R.int u8)) (R.pair (RY) (R.pair (R.int i64) R.bool))))) (R.pair rcCE (R.pair Za4 (R.pair (R.pair (R.int u16) (R.pair (R.int u8) (R.int i64))) (R.pair (R.int i64) (R.sl (R.pair (R.int u8) (R.int u8)))))))),Sh.agg Zdp]
abbrev Zsa:Rs:=Rs.tup [Sh.agg (R.pair (R.pair Zx (R.pair (R.int i64) (R.pair (R.sl (R.int u8)) (R.pair (RY) (R.pair (R.int i64) R.bool))))) (R.pair rcCE (R.pair Za4 (R.pair (R.pair (R.int u16) (R.pair (R.int u8) (R.int i64))) (R.pair (R.int i64) (R.sl (R.pair (R.int u8) (R.int u8)))))))),Sh.agg ZIb,Sh.agg (R.pair ZAr (R.pair (R.int u8) (R.pair (R.pair (R.int u16) (R.int u8)) R.bool)))]
def Zl5 (l:BRDT) (s:SYST) (i:INPT):RT (Option (QT29)):=
 let x1:=ZEI s.2.2.1 i.2.2.2.2.2.2.2.2.1
 let x29:SYST:=(s.1,s.2.1,(R.sel Za4 (!l.2.2.2.2.2.1) x1 s.2.2.1),s.2.2.2)
 let x30:=wBus l x29 i
 let x31:=x30.1
 let x32:=x31.1
 let x33:= !i.2.2.1&&(Zae s.1==3&&ZjT s.1.2.2.2.1.1)
 let x34:=Zr6 l x29 i
 let x35:=x30.2
 let x36:=clkX x32 x34 x35
 let x37:=x36.1
 let x38:=x31.2
 let x39:=x38.1
 let x40:=x38.2
 let x41:=x40.1
 let x42:=x40.2
 let x43:=x42.1
 let x44:=ZhE x29
 let x45:=x42.2.2
 let x46:SYST:=(x37,x39,x41,x43,x44,x45)
 let x47:=x36.2
 let x48:=x47.2.2.2.2.2.2.2.2.2.2.2.2.2.2.2.1
 let x49:=ZEg l x46 s.1.2.2.2.1
 let x50:=x49.2
 let x51:=x50.2
 let x52:=x51.2
 let x53:=x52.1
 let x54:Int:=bif x33 then x53.1 else x43.1
 let x55:=x53.2
 let x56:=x43.2
 let x57:Int:=bif x33 then x55.1 else x56.1
 let x58:Int:=bif x33 then x55.2 else x56.2
 let x59:=Zio (x54,x57,x58)
 let x60:=x59.2
 let x61:=x60.2
 let x62:List (Int×Int):=bif x33 then x50.1 else x39
 let x63:=x49.1
 let x64:=x63.1
 let x65:=x37.1
 let x118:=x63.2
 let x119:=x37.2
 let x120:=x118.2
 let x121:=x119.2
 let x122:=x120.2
 let x123:=x122.1
 let x124:=x121.2
 let x125:=x124.1
 let x130:=x122.2
 let x131:=x124.2
 let x132:=x60.1
 let x133:=x132.1
 let x134:=x132.2
 let x135:=x51.1
 let x136:=x135.2
 let x137:=x41.2
 let x138:=x136.2
 let x139:=x137.2
 let x140:=x138.2
 let x141:=x139.2
 let x142:=x140.2
 let x143:=x141.2
 let x144:=x142.2
 let x145:=x143.2
 let x146:=x144.2
 let x147:=x145.2
 let x148:=x146.2
 let x149:=x147.2
 let x150:=x148.2
 let x151:=x149.2
 let x152:=x150.2
 let x153:=x151.2
 let x154:=x152.2
 let x155:=x153.2
 let x156:=x154.2
 let x157:=x155.2
 let x158:=x156.2
 let x159:=x157.2
 let x160:=x158.2
 let x161:=x159.2
 let x162:=x160.2
 let x163:=x161.2
 let x164:=x162.2
 let x165:=x163.2
 let x166:=x164.2
 let x167:=x165.2
 let x168:=x166.2
 let x169:=x167.2
 let x170:=x168.2
 let x171:=x169.2
 let x172:=x59.1
 let x173:=x172.2
 let x174:=x52.2
 .br (Zlh l x29 i) (.br (ZSD l x29 i) (.br (ZNp x32) (.br (!x33||Zr3 l x46 s.1.2.2.2.1) (.br (!x48||(!x61||smG l.2.1&&smC x62)) (.leaf (some (((((R.sel Zx x33 x64 x65),bif x33 then x118.1 else x119.1,bif x33 then x120.1 else x121.1,(R.sel RY x33 x123 x125),bif x33 then x130.1 else x131.1,bif x33 then x130.2 else x131.2),bif x48 then bif x61 then ZbG l.2.1 x62 x133 x134 else x62 else x62,(bif x33 then x135.1 else x41.1,bif x33 then x136.1 else x137.1,bif x33 then x138.1 else x139.1,bif x33 then x140.1 else x141.1,bif x33 then x142.1 else x143.1,bif x33 then x144.1 else x145.1,bif x33 then x146.1 else x147.1,bif x33 then x148.1 else x149.1,bif x33 then x150.1 else x151.1,bif x33 then x152.1 else x153.1,bif x33 then x154.1 else x155.1,bif x33 then x156.1 else x157.1,bif x33 then x158.1 else x159.1,bif x33 then x160.1 else x161.1,bif x33 then x162.1 else x163.1,bif x33 then x164.1 else x165.1,bif x33 then x166.1 else x167.1,bif i.2.2.1 then 0 else bif x33 then x168.1 else x169.1,bif x33 then x170.1 else x171.1,bif x33 then x170.2 else x171.2),(bif x48 then bif x61 then x172.1 else x54 else x54,bif x48 then bif x61 then x173.1 else x57 else x57,bif i.2.2.1 then 0 else bif x48 then bif x61 then x173.2 else x58 else x58),bif x33 then x174.1 else x44,bif x33 then x174.2 else x45),x47,x34,x35,(bif x48 then bif x61 then x133 else 0 else 0,bif x48 then bif x61 then x134 else 0 else 0),x48&&x61)))) (.leaf none)) (.leaf none)) (.leaf none)) (.leaf none)) (.leaf none)
def ZEr (l:BRDT) (s:SYST) (i:INPT):QT29:=getO Zsa.dflt (Zl5 l s i).val
def Zsb (l:BRDT) (s:SYST) (i:INPT):Bool:=okB (Zl5 l s i).val
def ZzQ:Entry:=Zg ZEq Zsa (λa=>some (Zsb a.1 a.2.1 a.2.2)) (λa=>ZEr a.1 a.2.1 a.2.2)
theorem ZwJ:Za prog 121 ZzQ:=
 pureP 131071 [(27,ZGc),(79,Zfr),(100,ZsR),(101,ZmE),(191,ZL0),(192,ZEj),(193,ZrY),(194,ZZ3),(195,ZLl),(196,Zqu)] [] ZEq Zsa ⟨ZJk,Zd7,ZqX,ZmD,ZLY,ZHT,Zql,ZXl,ZLj,ZwP,Tv⟩ Tryz.func121 Tryz.call121 trivial (t:=λa=>Zl5 a.1 a.2.1 a.2.2)
abbrev Zqr:List Sh:=[Sh.agg (R.pair Zx (R.pair (R.int i64) (R.pair (R.sl (R.int u8)) (R.pair (RY) (R.pair (R.int i64) R.bool))))),Sh.one (R.int i64),Sh.one (R.int u8)]
abbrev Zqs:Rs:=Rs.one (Sh.agg (RY))
def Zil (c:CORT) (s:Int) (d:Int):RT TY:=
 let x1:Int:=bif ZcQ c.2.2.2.1.1 then d else c.2.2.2.1.2.2.1
 .leaf ((c.2.2.2.1.1,c.2.2.2.1.2.1,bif s==3 then x1 else c.2.2.2.1.2.2.1,bif s==3 then bif c.2.2.2.1.1==1||c.2.2.2.1.1==8 then ZfO c.1.1 x1 else c.2.2.2.1.2.2.2 else c.2.2.2.1.2.2.2))
def ZaB (c:CORT) (s:Int) (d:Int):QT11:=(Zil c s d).val
def Zim:Entry:=Zg Zqr Zqs (λ_=>none) (λa=>ZaB a.1 a.2.1 a.2.2)
theorem ZhJ:Za prog 123 Zim:=
 pureQ 255 [(103,ZmO),(116,ZBG)] [] Zqr Zqs ⟨ZiI,ZxU,Tv⟩ Tryz.func123 Tryz.call123 trivial (t:=λa=>Zil a.1 a.2.1 a.2.2)
abbrev ZLt:List Sh:=[Sh.one (R.int i64)]
abbrev ZLv:Rs:=Rs.one (Sh.one (R.int i64))
def ZLu (s:Int):RT (Int):=
 .br (Zc s) (.leaf (3)) (.br (s==5) (.leaf (2)) (.leaf (1)))
def Zk8 (s:Int):Int:=(ZLu s).val
def ZLw:Entry:=Zg ZLt ZLv (λ_=>none) (λa=>Zk8 a)
theorem ZSB:Za prog 200 ZLw:=
 pureQ 79 [(104,Zg3)] [] ZLt ZLv ⟨Zgm,Tv⟩ Tryz.func200 Tryz.call200 trivial (t:=λa=>ZLu a)
abbrev ZLe:List Sh:=[Sh.agg Zbh,Sh.agg Zx,Sh.agg ZAr]
abbrev ZLf:Rs:=Rs.one (Sh.agg Zbh)
def ZVm (e:EVTT) (c:TC) (l:LINT):RT EVTT:=
 .leaf ((e.1,e.2.1,e.2.2.1,l,c.2.2.2.2.2.2.2.1,c.2.2.2.2.2.2.1,c.2.2.2.2.2.2.2.2.2.1,c.2.2.2.2.2.2.2.2.1,e.2.2.2.2.2.2.2.2))
def Zfg (e:EVTT) (c:TC) (l:LINT):EVTT:=(ZVm e c l).val
def ZLg:Entry:=Zg ZLe ZLf (λ_=>none) (λa=>Zfg a.1 a.2.1 a.2.2)
theorem ZSt:Za prog 198 ZLg:=
 pureQ 127 [] [] ZLe ZLf trivial Tryz.func198 Tryz.call198 trivial (t:=λa=>ZVm a.1 a.2.1 a.2.2)
abbrev ZEu:List Sh:=[Sh.agg (R.pair Zx (R.pair (R.int i64) (R.pair (R.sl (R.int u8)) (R.pair (RY) (R.pair (R.int i64) R.bool))))),Sh.one (R.int i64),Sh.one (R.int u8)]
abbrev Zsc:Rs:=Rs.one (Sh.one (R.sl (R.int u8)))
def Zl7 (c:CORT) (s:Int) (d:Int):RT (Option (List Int)):=
 let x1:List Int:=[]++c.2.2.1++[(ZaB c s d).2.2.1]
 .br (Nat.ble (List.length ([]++c.2.2.1)) most) (.br (!s==3||Nat.ble (List.length x1) most) (.leaf (some (bif s==3 then x1 else []++c.2.2.1))) (.leaf none)) (.leaf none)
def ZEv (c:CORT) (s:Int) (d:Int):List Int:=getO Zsc.dflt (Zl7 c s d).val
def Zsd (c:CORT) (s:Int) (d:Int):Bool:=okB (Zl7 c s d).val
def ZzR:Entry:=Zg ZEu Zsc (λa=>some (Zsd a.1 a.2.1 a.2.2)) (λa=>ZEv a.1 a.2.1 a.2.2)
theorem ZLE:Za prog 201 ZzR:=
 pureP 255 [(123,Zim)] [] ZEu Zsc ⟨ZhJ,Tv⟩ Tryz.func201 Tryz.call201 trivial (t:=λa=>Zl7 a.1 a.2.1 a.2.2)
abbrev Zl1:List Sh:=[Sh.agg (R.pair Zx (R.pair (R.int i64) (R.pair (R.sl (R.int u8)) (R.pair (RY) (R.pair (R.int i64) R.bool))))),Sh.agg ZAr,Sh.one (R.int u8)]
abbrev ZhH:Rs:=Rs.tup [Sh.agg Zx,Sh.one R.bool]
def ZeN (c:CORT) (l:LINT) (d:Int):RT (Option (TC×Bool)):=
 let x1:TC×Bool:=((0,(0,0,0,0,0,0,0,(false,false,false,false,false,false,false),0,0),false,false,false,0,false,false,false,false,false,false,false),false)
 .br l.2.2.1 (.leaf (some (x1))) (.br (ZeW c c.2.2.2.2.1 d) (.br (!Zj1 c.2.2.2.2.1 (ZhT c c.2.2.2.2.1 d).1) (.leaf (some (x1))) (.br (Zl (Zm c.1 l) c.2.1 (ZhT c c.2.2.2.2.1 d).2).2 (.leaf (some (x1))) (.leaf (some ((finX (Zm c.1 l) c.2.1 (ZhT c c.2.2.2.2.1 d).2 l,true)))))) (.leaf none))
def Zij (c:CORT) (l:LINT) (d:Int):TC×Bool:=getO ZhH.dflt (ZeN c l d).val
def ZgO (c:CORT) (l:LINT) (d:Int):Bool:=okB (ZeN c l d).val
def ZjD:Entry:=Zg Zl1 ZhH (λa=>some (ZgO a.1 a.2.1 a.2.2)) (λa=>Zij a.1 a.2.1 a.2.2)
theorem ZwE:Za prog 199 ZjD:=
 pureP 16383 [(42,ZFS),(84,Znz),(89,ZNN),(90,ZOF),(98,ZYm)] [] Zl1 ZhH ⟨Ztg,Zny,ZFA,ZF8,ZOt,Tv⟩ Tryz.func199 Tryz.call199 trivial (t:=λa=>ZeN a.1 a.2.1 a.2.2)
def Zcm:Entry:=.tree (ZS (envX prog [] [] 541622271 8) Tryz.f122)
theorem Zdh:Za prog 122 Zcm:=Zaq (P:=prog) (n:=541622271) (k:=8) (l:=[]) (ol:=[]) trivial Tryz.func122 rfl (by kernel_rfl) Tryz.call122 trivial
def ZcA:Entry:=.tree (ZS (envX prog [] [] 63 8) Tryz.f197)
theorem Zho:Za prog 197 ZcA:=Zaq (P:=prog) (n:=63) (k:=8) (l:=[]) (ol:=[]) trivial Tryz.func197 rfl (by kernel_rfl) Tryz.call197 trivial
def ZbP:Entry:=.tree (ZS (envX prog [(30,ZxX),(79,Zfr),(84,Znz),(197,ZcA),(198,ZLg),(199,ZjD),(200,ZLw),(201,ZzR)] [] 32767 8) Tryz.f124)
theorem Zcz:Za prog 124 ZbP:=Zaq (P:=prog) (n:=32767) (k:=8) (l:=[(30,ZxX),(79,Zfr),(84,Znz),(197,ZcA),(198,ZLg),(199,ZjD),(200,ZLw),(201,ZzR)]) (ol:=[]) ⟨Zt9,Zd7,Zny,Zho,ZSt,ZwE,ZSB,ZLE,Tv⟩ Tryz.func124 rfl (by kernel_rfl) Tryz.call124 trivial
abbrev ZVn:List Sh:=[Sh.agg (R.pair (R.int i64) (R.pair rcRG (R.pair (R.int i64) (R.pair (R.int u8) (R.pair (R.int u8) (R.pair R.bool rcCE)))))),Sh.one (R.sl (R.int u8))]
abbrev ZLn:Rs:=Rs.tup [Sh.agg (R.pair (R.sl ZIb) (R.pair (R.sl Zhp) (R.pair (R.sl Zbh) (R.pair (R.sl Zx) (R.pair (R.pair Zx (R.pair (R.int i64) (R.pair (R.sl (R.int u8)) (R.pair (RY) (R.pair (R.int i64) R.bool))))) (R.pair rcCE (R.pair Za4 (R.pair (R.pair (R.int u16) (R.pair (R.int u8) (R.int i64))) (R.pair (R.int i64) (R.sl (R.pair (R.int u8) (R.int u8)))))))))))),Sh.one (R.int i64)]
def ZXi:LS:={n:=119,slots:=[(2,.fix (A.loc 0 0)),(4,.fix (A.loc 1 0)),(6,.fix (A.loc 2 0)),(8,.fix (A.loc 3 0)),(9,.fix (A.loc 4 0)),(32,.code (Sh.one (R.sl Zdp))),(33,.code (Sh.one (R.int i64))),(34,.code (Sh.one (R.int i64)))],boxes:=[[.many (R.pair (R.int i64) (R.pair rcRG (R.pair (R.int i64) (R.pair (R.int u8) (R.pair (R.int u8) (R.pair R.bool rcCE))))))],[.many (R.pair (R.sl ZIb) (R.pair (R.sl Zhp) (R.pair (R.sl Zbh) (R.pair (R.sl Zx) (R.pair (R.pair Zx (R.pair (R.int i64) (R.pair (R.sl (R.int u8)) (R.pair (RY) (R.pair (R.int i64) R.bool))))) (R.pair rcCE (R.pair Za4 (R.pair (R.pair (R.int u16) (R.pair (R.int u8) (R.int i64))) (R.pair (R.int i64) (R.sl (R.pair (R.int u8) (R.int u8))))))))))))],[.many (R.pair (R.pair Zx (R.pair (R.int i64) (R.pair (R.sl (R.int u8)) (R.pair (RY) (R.pair (R.int i64) R.bool))))) (R.pair rcCE (R.pair Za4 (R.pair (R.pair (R.int u16) (R.pair (R.int u8) (R.int i64))) (R.pair (R.int i64) (R.sl (R.pair (R.int u8) (R.int u8))))))))],[.tip 0,.tip 1,.tip 2,.tip 3,.many (R.pair (R.pair Zx (R.pair (R.int i64) (R.pair (R.sl (R.int u8)) (R.pair (RY) (R.pair (R.int i64) R.bool))))) (R.pair rcCE (R.pair Za4 (R.pair (R.pair (R.int u16) (R.pair (R.int u8) (R.int i64))) (R.pair (R.int i64) (R.sl (R.pair (R.int u8) (R.int u8))))))))],[.many Zx]],stgs:=[⟨R.pair (R.int i64) (R.pair (R.int u16) (R.pair (R.int u8) (R.pair R.bool (R.pair R.bool (R.pair R.bool (R.pair R.bool (R.pair R.bool ZAr))))))),72,false⟩,⟨R.pair (R.int i64) (R.pair (RY) (R.pair (R.int i64) (R.pair (R.int i64) (R.pair R.bool R.bool)))),125,false⟩,⟨R.pair (R.int i64) (R.pair (R.int i64) (R.pair (R.sl (R.int u8)) (R.pair ZAr (R.pair R.bool (R.pair R.bool (R.pair R.bool (R.pair R.bool (R.pair (R.int u16) (R.int u8))))))))),108,false⟩,⟨R.pair (R.int i64) (R.pair ZeU (R.pair R.bool (R.pair R.bool (R.pair R.bool (R.pair (R.int u8) rcF7))))),38,false⟩]}
def Zfh (a:List INPT×Int×Int×BRDT×RUNT×SYST×SYST×TC×List PINT×List ITMT×List EVTT×List TC×PUnit):RT (Option (Go1 (List INPT×Int×Int×BRDT×RUNT×SYST×SYST×TC×List PINT×List ITMT×List EVTT×List TC×PUnit))):=
 let x1:INPT:=R.get Zdp a.1 a.2.2.1
 let x2:=Zsb a.2.2.2.1 a.2.2.2.2.2.1 x1
 let x3:= !x2
 let x4:=ZEr a.2.2.2.1 a.2.2.2.2.2.1 x1
 let x5:=x4.2
 let x6:List PINT:=a.2.2.2.2.2.2.2.2.1++[x5.1]
 let x7:=Nat.ble (List.length x6) most
 let x8:= !x7
 let x9:Int:=bif x1.2.2.1 then 10 else Zae a.2.2.2.2.2.1.1
 let x10:=x9==8
 let x11:=x9==9
 let x12:=x9==10
 let x13:Int:=bif x10 then 2 else bif x11 then 3 else bif x12 then 4 else 1
 let x14:=x13 !=1
 let x15:= !x14
 let x16:=i64.wrap (iN (List.length a.2.2.2.2.2.2.2.2.2.1)-1)
 let x17:=decide (x16>=0)
 let x18:= !x17
 let x19:=Zf x16 (List.length a.2.2.2.2.2.2.2.2.2.1)
 let x20:=x18||x19
 let x21:= !x20
 let x22:ITMT:=R.get Zhp a.2.2.2.2.2.2.2.2.2.1 x16
 let x23:=x22.1
 let x24:=x23==x13
 let x25:= !x24
 let x26:=x18||(x25||x19)
 let x27:=x22.2
 let x28:=x27.2
 let x29:=x28.2
 let x30:=x29.2
 let x31:=x30.1==a.2.2.2.2.2.1.1.1.2.2.1
 let p7:=(!x31)::x25::x18::(!x26)::x21::x15::[]
 let x32:=orR p7 x19
 let x33:= !x32
 let x34:=x15||(x21||x26)
 let x35:= !x34
 let x36:=x15||x20
 let x37:= !x36
 let x38:=a.2.2.2.2.2.1.1.1.2.2.2.2.2.2.2.2.2.2.2.2
 let x39:=x17&&(x24&&(x31&&x30.2==x38))
 let x40:= !x39
 let x41:= !x19
 let x42:=x15||(x40||(x41||x19))
 let x43:= !x42
 let p4:=x43::x37::x35::x33::[]
 let x44:=x15||(x40||x19)
 let x45:= !x44
 let p9:=x14::x45::p4
 let p11:=x39::x15::x45::p4
 let x46:=x5.2
 let x47:=x46.2
 let x48:=x47.1
 let x49:=ZaB a.2.2.2.2.2.1.1 x9 x48
 let x50:=x49.2
 let x51:=x50.2
 let x52:QT11:=(bif x10 then 0 else bif x11 then 0 else bif x12 then 0 else x49.1,bif x10 then 0 else bif x11 then a.2.2.2.2.2.1.1.1.2.1.2.2.2.2.2.2.2.2.2 else bif x12 then 0 else x50.1,bif x10 then 0 else bif x11 then 0 else bif x12 then 0 else x51.1,bif x10 then 0 else bif x11 then 0 else bif x12 then 0 else x51.2)
 let x53:List ITMT:=a.2.2.2.2.2.2.2.2.2.1++[(x13,x52,0,1,a.2.2.2.2.2.1.1.1.2.2.1,x38)]
 let x54:=Nat.ble (List.length x53) most
 let x55:=orR p11 x54
 let x56:= !x55
 let p2:=x56::x8::x3::(!Zf a.2.2.1 (List.length a.1))::[]
 let x57:=x9==1
 let x58:= !x57||x54
 let x59:= !x58
 let p14:=x57::x59::p9
 let p17:=x41::p14
 let x60:=x9==7
 let x61:= !x60
 let x62:=setI a.2.2.2.2.2.2.2.2.2.1 x16 (x23,x52,x28)
 let x63:=Zf x16 (List.length x62)
 let x64:= !x63||x63
 let x65:=x61||x64
 let x66:= !x65
 let p21:=x66::p17
 let x67:=x61||x63
 let x68:= !x67
 let p23:=x68::p21
 let x69:=x60||x64
 let p27:=x60::(!x69)::p23
 let x70:=orR p27 x63
 let x71:= !x70
 let p6:=x71::p2
 let x72:=orR p23 x69
 let x73:= !x72
 let p8:=x73::p6
 let x74:=orR p21 x67
 let x75:= !x74
 let p12:=x75::p8
 let x76:=orR p17 x65
 let x77:= !x76
 let p13:=x77::p12
 let x78:=orR p14 x19
 let x79:= !x78
 let p16:=x79::p13
 let x80:=orR p9 x58
 let x81:= !x80
 let p19:=x81::p16
 let x82:=orR p4 x44
 let x83:= !x82
 let p22:=x83::p19
 let x84:=x33||(x35||(x37||x42))
 let x85:= !x84
 let p25:=x85::p22
 let x86:=x33||(x35||x36)
 let x87:= !x86
 let p28:=x87::p25
 let x88:=x33||x34
 let x89:= !x88
 let p29:=x89::p28
 let p30:=x33::p29
 let x90:Nat:=List.length a.2.2.2.2.2.2.2.2.2.2.2.1
 let x91:=iN x90
 let x92:=decide (x91>0)
 let x93:=i64.wrap (x91-1)
 let x94:= !x92||Zf x93 x90
 let x95:= !x94
 let x96:=x46.1
 let x97:=x96.2.2.1
 let x98:= !x97
 let x99:=Nat.ble (List.length ([]++a.2.2.2.2.2.1.1.2.2.1)) most
 let x100:= !x99
 let x101:LINT:=(false,false,false,false,false,false,false,false,false)
 let x102:LINT×Bool×Bool×Bool×Bool×Int×Int:=(x101,false,false,false,false,0,0)
 let x103:List EVTT:=a.2.2.2.2.2.2.2.2.2.2.1++[Zfg (6,a.2.2.2.2.2.1.1.2.1,[]++a.2.2.2.2.2.1.1.2.2.1,x102) a.2.2.2.2.2.1.1.1 x96]
 let x104:=Nat.ble (List.length x103) most
 let x105:TC:=R.get Zx a.2.2.2.2.2.2.2.2.2.2.2.1 x93
 let x151:List TC:=[(R.sel Zx x92 x105 a.2.2.2.2.2.2.2.1)]
 let x152:List TC:=a.2.2.2.2.2.2.2.2.2.2.2.1++x151
 let x153:= !x104||Nat.ble (List.length x152) most
 let p1:=(!x153)::x100::(!Zdq a.2.2.2.2.2.1.1)::x98::[]
 let x154:=orR p1 x104
 let x155:= !x154
 let x156:=x98||(!Zdq a.2.2.2.2.2.1.1||(x100||x153))
 let x157:= !x156
 let x158:=x98||(!Zdq a.2.2.2.2.2.1.1||x99)
 let x159:= !x158
 let p3:=x159::x157::x155::x95::[]
 let x160:List EVTT:=(bif Zdq a.2.2.2.2.2.1.1 then x103 else a.2.2.2.2.2.2.2.2.2.2.1)++[Zfg (4,0,[],x102) a.2.2.2.2.2.1.1.1 x96]
 let x161:=Nat.ble (List.length x160) most
 let x162:=x4.1
 let x163:List TC:=(bif Zdq a.2.2.2.2.2.1.1 then x152 else a.2.2.2.2.2.2.2.2.2.2.2.1)++[x162.1.1]
 let x164:= !x161||Nat.ble (List.length x163) most
 let x165:=x98||(!x164||x161)
 let x166:= !x165
 let p5:=x166::p3
 let x167:=x98||x164
 let x168:= !x167
 let p10:=x97::x168::p5
 let x169:=ZgO a.2.2.2.2.2.1.1 x96 x48
 let x170:= !x169
 let p15:=x170::p10
 let x171:=Zij a.2.2.2.2.2.1.1 x96 x48
 let x172:=x171.2
 let x173:= !x172
 let x174:=Zsd a.2.2.2.2.2.1.1 (Zae a.2.2.2.2.2.1.1) x48
 let x175:= !x174
 let x176:List EVTT:=a.2.2.2.2.2.2.2.2.2.2.1++[Zfg (Zk8 a.2.2.2.2.2.1.1.2.1,a.2.2.2.2.2.1.1.2.1,ZEv a.2.2.2.2.2.1.1 (Zae a.2.2.2.2.2.1.1) x48,x102) (Zm a.2.2.2.2.2.1.1.1 x96) x96]
 let x177:=Nat.ble (List.length x176) most
 let x178:List TC:=a.2.2.2.2.2.2.2.2.2.2.2.1++[x171.1]
 let x179:= !x177||Nat.ble (List.length x178) most
 let x180:=x173||(x175||(!x179||x177))
 let x181:= !x180
 let p18:=x181::p15
 let x182:=x173||(x175||x179)
 let x183:= !x182
 let p20:=x183::p18
 let x184:=x173||x174
 let x185:= !x184
 let p24:=x185::p20
 let x186:=x47.2
 let x187:=x186.2
 let x188:= !x187
 let x189:List EVTT:=bif x172 then x176 else a.2.2.2.2.2.2.2.2.2.2.1
 let x190:List EVTT:=x189++[(5,0,[],x101,false,false,false,false,x186.1)]
 let x191:=Nat.ble (List.length x190) most
 let x192:List TC:=bif x172 then x178 else a.2.2.2.2.2.2.2.2.2.2.2.1
 let x193:List TC:=x192++x151
 let x194:= !x191||Nat.ble (List.length x193) most
 let x195:=x188||(!x194||x191)
 let p26:=x188::(!x195)::p24
 let x196:=orR p26 x194
 let x197:= !x196
 let p31:=x197::p30
 let x198:=orR p24 x195
 let x199:= !x198
 let p32:=x199::p31
 let x200:=orR p20 x184
 let x201:= !x200
 let p33:=x201::p32
 let x202:=orR p18 x182
 let x203:= !x202
 let p34:=x203::p33
 let x204:=orR p15 x180
 let x205:= !x204
 let p35:=x205::p34
 let x206:=orR p10 x169
 let x207:= !x206
 let p36:=x207::p35
 let x208:=orR p5 x167
 let x209:= !x208
 let p37:=x209::p36
 let x210:=orR p3 x165
 let x211:= !x210
 let p38:=x211::p37
 let x212:=x95||(x155||(x157||x158))
 let x213:= !x212
 let p39:=x213::p38
 let x214:=x95||(x155||x156)
 let x215:= !x214
 let p40:=x215::p39
 let x216:=x95||x154
 let p41:=(!x216)::p40
 let x217:ITMT:=R.get Zhp x62 x16
 let x218:=x217.1
 let x219:=x217.2
 let x220:=x219.1
 let x221:=x219.2
 let x222:=x221.1
 let x223:=x221.2
 .br (decide (a.2.2.1<a.2.1)) (.br (orR p41 x94) (.br (orR p40 x216) (.br (orR p39 x214) (.br (orR p38 x212) (.br (orR p37 x210) (.br (orR p36 x208) (.br (orR p35 x206) (.br (orR p34 x204) (.br (orR p33 x202) (.br (orR p32 x200) (.br (orR p31 x198) (.br (orR p30 x196) (.br (orR p29 x32) (.br (orR p28 x88) (.br (orR p25 x86) (.br (orR p22 x84) (.br (orR p19 x82) (.br (orR p16 x80) (.br (orR p13 x78) (.br (orR p12 x76) (.br (orR p8 x74) (.br (orR p6 x72) (.br (orR p2 x70) (.br (!Zf a.2.2.1 (List.length a.1)||(x3||(x8||x55))) (.br (!Zf a.2.2.1 (List.length a.1)||(x3||x7)) (.br (!Zf a.2.2.1 (List.length a.1)||x2) (.br (Zf a.2.2.1 (List.length a.1)) (.leaf (some (Go1.cont (a.1,a.2.1,i64.wrap (a.2.2.1+1),a.2.2.2.1,a.2.2.2.2.1,x162,a.2.2.2.2.2.2.1,a.2.2.2.2.2.2.2.1,x6,bif x14 then bif x39 then setI a.2.2.2.2.2.2.2.2.2.1 x16 (x23,x27.1,x28.1,i64.wrap (x29.1+1),x30) else x53 else bif x57 then x53 else bif x60 then setI x62 x16 (x218,x220,i64.wrap (x222+1),x223) else setI x62 x16 (x218,x220,x222,i64.wrap (x223.1+1),x223.2),bif x97 then x160 else bif x187 then x190 else x189,bif x97 then x163 else bif x187 then x193 else x192,PUnit.unit)))) (.leaf none)) (.leaf none)) (.leaf none)) (.leaf none)) (.leaf none)) (.leaf none)) (.leaf none)) (.leaf none)) (.leaf none)) (.leaf none)) (.leaf none)) (.leaf none)) (.leaf none)) (.leaf none)) (.leaf none)) (.leaf none)) (.leaf none)) (.leaf none)) (.leaf none)) (.leaf none)) (.leaf none)) (.leaf none)) (.leaf none)) (.leaf none)) (.leaf none)) (.leaf none)) (.leaf none)) (.leaf (some (Go1.brk (a.1,a.2.1,a.2.2.1,a.2.2.2.1,a.2.2.2.2.1,a.2.2.2.2.2.1,a.2.2.2.2.2.2.1,a.2.2.2.2.2.2.2.1,a.2.2.2.2.2.2.2.2.1,a.2.2.2.2.2.2.2.2.2.1,a.2.2.2.2.2.2.2.2.2.2.1,a.2.2.2.2.2.2.2.2.2.2.2.1,PUnit.unit))))
def ZLp:Ora:=Za5 false ZXi Zfh (λa=>1000000000000)
theorem ZLo:ZaJ (envX prog [(30,ZxX),(79,Zfr),(119,ZXj),(120,Zr9),(121,ZzQ),(122,Zcm),(123,Zim),(124,ZbP)] [] 524287 8) (.block 0 (.loop (Z6 Tryz.f63.body 0))) ZLp:=
 loopP ⟨Zt9,Zd7,ZLq,Zqo,ZwJ,Zdh,ZhJ,Zcz,Tv⟩
def ZLm (b:BRDT) (l:List Int):RT (Option (RUNT×Int)):=
 let x1:SYST:=(((0,(0,0,0,0,0,0,0,(false,false,false,false,false,false,false),0,0),false,false,false,0,false,false,false,false,false,false,false),0,[],(0,0,0,0),0,false),[],(0,false,false,false,false,0,0,false,false,false,false,false,0,0,0,0,0,0,0,false),(0,0,0),0,[])
 let x2:RUNT:=([],[],[],[],x1)
 let x3:List INPT×Int×Int×BRDT×RUNT×SYST×SYST×TC×List PINT×List ITMT×List EVTT×List TC×PUnit:=(Zbg l,iN (List.length (Zbg l)),0,b,x2,(wNew b).1,x1,(wNew b).1.1.1,[],[],[],[],())
 let x4:=runF false Zfh (λa=>1000000000000) x3
 let x5:SYST×SYST×TC×List PINT×List ITMT×List EVTT×List TC×PUnit:=(getO (false,x3) x4).2.2.2.2.2.2
 let x6:=x5.1
 let x7:=x6.1
 let x8:=Zdq x7
 let x9:= !x8
 let x10:=x5.2.2
 let x11:=x10.2
 let x12:=x11.2
 let x13:=x12.2
 let x14:=x13.2.1
 let x15:Nat:=List.length x14
 let x16:=iN x15
 let x17:=decide (x16>0)
 let x18:=i64.wrap (x16-1)
 let x19:=x7.2
 let x20:List Int:=[]++x19.2.1
 let x21:=Nat.ble (List.length x20) most
 let x22:=x13.1
 let x23:List EVTT:=x22++[(7,x19.1,x20,(false,false,false,false,false,false,false,false,false),false,false,false,false,0,0)]
 let x24:TC:=R.get Zx x14 x18
 let x78:List TC:=x14++[(R.sel Zx x17 x24 (getO (false,x3) x4).2.2.2.2.2.2.2.2.1)]
 let x79:=x11.1
 let x80:=x12.1
 .br (ZSx b) (.br ((wNew b).2 !=0) (.leaf (some ((x2,(wNew b).2)))) (.br (Zli l) (.br (okB x4) (.br (x9||(!x17||Zf x18 x15)) (.br (x9||(!x21||Nat.ble (List.length x23) most)) (.br (x9||x21) (.br (x9||Nat.ble (List.length x78) most) (.br (x8) (.leaf (some (((x79,x80,x23,x78,x6),0)))) (.leaf (some (((x79,x80,x22,x14,x6),0))))) (.leaf none)) (.leaf none)) (.leaf none)) (.leaf none)) (.leaf none)) (.leaf none))) (.leaf none)
def wRun (b:BRDT) (l:List Int):RUNT×Int:=getO ZLn.dflt (ZLm b l).val
def ZSw (b:BRDT) (l:List Int):Bool:=okB (ZLm b l).val
def ZZ2:Entry:=Zg ZVn ZLn (λa=>some (ZSw a.1 a.2)) (λa=>wRun a.1 a.2)
theorem ZXg:Za prog 63 ZZ2:=
 pureP 524287 [(30,ZxX),(79,Zfr),(119,ZXj),(120,Zr9),(121,ZzQ),(122,Zcm),(123,Zim),(124,ZbP)] [(0,ZLp)] ZVn ZLn ⟨Zt9,Zd7,ZLq,Zqo,ZwJ,Zdh,ZhJ,Zcz,Tv⟩ Tryz.func63 Tryz.call63 ⟨ZLo,Tv⟩ (t:=λa=>ZLm a.1 a.2)
end
end Go.Proofs.YtghoimllhpjkjaaGreat
