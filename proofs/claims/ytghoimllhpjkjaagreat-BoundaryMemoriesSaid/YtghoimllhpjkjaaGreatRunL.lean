import Derived.Test.YtghoimllhpjkjaaGreatMemD
import Derived.RangeFuncNested
import Derived.RangeFuncLeaves
import Derived.Shelf.Abstract
import Derived.WalkKit
import Derived.OwnWalkIn
import Derived.TacticsInMore
import Derived.LoopNIn
import Derived.LoopIn
import Derived.Test.YtghoimllhpjkjaaGreatS3D
import Derived.Test.YtghoimllhpjkjaaGreatProg
import Derived.Test.YtghoimllhpjkjaaGreatSortA
import Derived.Test.YtghoimllhpjkjaaGreatS3Clo
import Derived.Test.YtghoimllhpjkjaaGreatMakeOk5
import Derived.Test.YtghoimllhpjkjaaGreatS3Box1
import Derived.Test.YtghoimllhpjkjaaGreatPicL
set_option linter.unusedVariables false
set_option linter.unusedSimpArgs false
namespace Go.Proofs.YtghoimllhpjkjaaGreat
open Go Go.S3 Go.Proofs Go.Proofs.Cells Go.RowKit Go.Shelf
attribute [local go_sem] Oper.semAt_some
noncomputable section
def Held (n₀:Nat) (W:World) (sv:Value) (l:List Cell):Prop:=
 (∃a cap,sv=.slice a 0 cap/\l=[])\/∃b off cap,sv=.slice (some ⟨b,off,none⟩) l.length cap/\b<n₀/\
  ∀j,j<l.length->W.cell? ⟨b,off+j*2,none⟩=some (.int .u16 (el l j).1)/\W.cell? ⟨b,off+j*2+1,none⟩=some (.int .u8 (el l j).2)
theorem Held.mono {n₀ n₁:Nat} {W:World} {sv:Value} {l:List Cell} (h:Held n₀ W sv l) (hn:n₀<=n₁):Held n₁ W sv l:=
 h.elim .inl λ⟨b,off,cap,e,hb,hc⟩=>.inr ⟨b,off,cap,e,by omega,hc⟩
end
end Go.Proofs.YtghoimllhpjkjaaGreat
namespace Go.Proofs.YtghoimllhpjkjaaGreat
open Go Go.S3 Go.Proofs Go.Proofs.Cells Go.RowKit Go.Shelf
attribute [local go_sem] Oper.semAt_some
noncomputable section
end
end Go.Proofs.YtghoimllhpjkjaaGreat
open Go.Proofs.Tryz (prog)
open Go.IntKind (u8 u16 i64)
open Go Go.S3 Go.Proofs
set_option maxRecDepth 100000
namespace Go.Proofs.YtghoimllhpjkjaaGreat
noncomputable section
abbrev ZZL:List Sh:=[Sh.agg (R.pair (R.int u16) (R.int u8)),Sh.one (R.int u16)]
abbrev ZZM:Rs:=Rs.one (Sh.one (R.int i64))
def uAtT (c:Int×Int) (t:Int):RT (Int):=
 .leaf (uCmp c.1 t)
def uAt (c:Int×Int) (t:Int):Int:=(uAtT c t).val
def uAtE:Entry:=Zg ZZL ZZM (λ_=>none) (λa=>uAt a.1 a.2)
theorem ZMs:Za prog 296 uAtE:=
 pureQ 31 [(186,ZXh)] [] ZZL ZZM ⟨ZMp,Tv⟩ Tryz.func296 Tryz.call296 trivial (t:=λa=>uAtT a.1 a.2)
abbrev ZMo:List Sh:=[Sh.one rcCE,Sh.one (R.int u16)]
abbrev ZzJ:Rs:=Rs.tup [Sh.one (R.int i64),Sh.one R.bool]
def ZSr:LS:={n:=49,slots:=[(0,.code (Sh.one rcCE)),(1,.code (Sh.one (R.int u16))),(2,.fix (A.clo 296 [])),(8,.code (Sh.one (R.int i64))),(9,.code (Sh.one (R.int i64))),(10,.code (Sh.one (R.int i64)))],boxes:=[],stgs:=[]}
def ZgP (a:List (Int×Int)×Int×Int×Int×Int×PUnit):RT (Option (Go1 (List (Int×Int)×Int×Int×Int×Int×PUnit))):=
 let x1:=i64.wrap (shrI IntKind.u64 (IntKind.u64.wrap (i64.wrap (a.2.2.2.1+a.2.2.2.2.1))) 1)
 let x2:=decide (uAt (R.get (R.pair (R.int u16) (R.int u8)) a.1 x1) a.2.1<0)
 .br (decide (a.2.2.2.1<a.2.2.2.2.1)) (.br (Zf x1 (List.length a.1)) (.leaf (some (Go1.cont (a.1,a.2.1,a.2.2.1,bif x2 then i64.wrap (x1+1) else a.2.2.2.1,bif x2 then a.2.2.2.2.1 else x1,PUnit.unit)))) (.leaf none)) (.leaf (some (Go1.brk (a.1,a.2.1,a.2.2.1,a.2.2.2.1,a.2.2.2.2.1,PUnit.unit))))
def ZEJ:Ora:=Zbm false ZSr ZgP (λa=>(a.2.2.2.2.1-a.2.2.2.1).toNat+1)
theorem ZHH:Za1 (envX prog [(296,uAtE)] [] 4095 8) (.block 0 (.loop (Zae Tryz.f295.body 0))) ZEJ:=
 loopP ⟨ZMs,Tv⟩
def Zqj (x:List (Int×Int)) (t:Int):RT (Option (Int×Bool)):=
 let x1:List (Int×Int)×Int×Int×Int×Int×PUnit:=(x,t,iN (List.length x),0,iN (List.length x),())
 let x2:=runF false ZgP (λa=>Int.toNat (a.2.2.2.2.1-a.2.2.2.1)+1) x1
 let x3:List (Int×Int)×Int×Int×Int×Int×PUnit:=(getO (false,x1) x2).2
 let x4:=x3.2
 let x5:=x4.2
 let x6:=x5.2.1
 let x7:=decide (x6<x5.1)
 let x8:=x3.1
 .br (okB x2) (.br (!x7||Zf x6 (List.length x8)) (.leaf (some ((bif x7 then x6 else x6,x7&&uAt (R.get (R.pair (R.int u16) (R.int u8)) x8 x6) x4.1==0)))) (.leaf none)) (.leaf none)
def Zd6 (x:List (Int×Int)) (t:Int):Int×Bool:=getO ZzJ.dflt (Zqj x t).val
def ZEK (x:List (Int×Int)) (t:Int):Bool:=okB (Zqj x t).val
def ZVa:Entry:=ZOH 296 ZMo ZzJ (λa=>some (ZEK a.1 a.2)) (λa=>Zd6 a.1 a.2)
theorem ZSq:Za prog 295 ZVa:=
 ZI1 (P:=prog) (n:=4095) (k:=8) (l:=[(296,uAtE)]) (ol:=[(0,ZEJ)]) ⟨ZMs,Tv⟩ Tryz.func295 rfl (by kernel_rfl) Tryz.call295 ⟨ZHH,Tv⟩ (g0:=296) (ts:=ZMo) (rs:=ZzJ) (t:=λa=>Zqj a.1 a.2) (λa=>by kernel_rfl)
abbrev ZWo:List Sh:=[Sh.one rcCE,Sh.one (R.int u16),Sh.one (R.int u8)]
abbrev ZQI:Rs:=Rs.one (Sh.one rcCE)
def ZKn (m:List (Int×Int)) (t:Int) (v:Int):RT (Option (List (Int×Int))):=
 let x1:= !(v==0&& !(Zd6 m t).2)||Nat.ble (List.length m) most
 let x2:= !x1
 let x3:=v==0&& !(Zd6 m t).2||(!v==0||(!Nat.ble (List.length m) most||decide (0<=(Zd6 m t).1)&&decide ((Zd6 m t).1<iN (List.length m))&&decide (i64.wrap ((Zd6 m t).1+1)=(Zd6 m t).1+1)))
 let x4:= !x3
 let x5:=v==0&& !(Zd6 m t).2||(!v==0||Nat.ble (List.length m) most)
 let x6:= !x5
 let x7:=v==0&& !(Zd6 m t).2||(v==0||(!(Zd6 m t).2||Nat.ble (List.length m) most))
 .br (Zvn m) (.br (!!ZoU m||(!Nat.ble (List.length m) most||(!Nat.ble (List.length (m++[(t,v)])) most||Zyu (m++[(t,v)])))) (.br (!!ZoU m||(!Nat.ble (List.length m) most||Nat.ble (List.length (m++[(t,v)])) most)) (.br (!!ZoU m||Nat.ble (List.length m) most) (.br (!ZoU m) (.leaf (some (ZQN (m++[(t,v)])))) (.br (ZEK m t) (.br (x2||(x4||(x6||(!x7||(v==0&& !(Zd6 m t).2||(v==0||(!(Zd6 m t).2||Zf (Zd6 m t).1 (List.length m)))))))) (.br (x2||(x4||(x6||x7))) (.br (x2||(x4||x5)) (.br (x2||x3) (.br (x1) (.br (v==0&& !(Zd6 m t).2) (.leaf (some (m))) (.br (v==0) (.leaf (some (delX m (Int.toNat (Zd6 m t).1)))) (.br (Zd6 m t).2 (.leaf (some (setI m (Zd6 m t).1 ((R.get (R.pair (R.int u16) (R.int u8)) m (Zd6 m t).1).1,v)))) (.br (!Nat.ble (List.length m) most||decide (0<=(Zd6 m t).1)&&decide ((Zd6 m t).1<=iN (List.length m))&&Nat.ble (List.length m+1) most) (.br (Nat.ble (List.length m) most) (.leaf (some (insX m (Int.toNat (Zd6 m t).1) (t,v)))) (.leaf none)) (.leaf none))))) (.leaf none)) (.leaf none)) (.leaf none)) (.leaf none)) (.leaf none)) (.leaf none))) (.leaf none)) (.leaf none)) (.leaf none)) (.leaf none)
def mPut (m:List (Int×Int)) (t:Int) (v:Int):List (Int×Int):=getO ZQI.dflt (ZKn m t v).val
def ZT7 (m:List (Int×Int)) (t:Int) (v:Int):Bool:=okB (ZKn m t v).val
def Z0F:Entry:=Zg ZWo ZQI (λa=>some (ZT7 a.1 a.2.1 a.2.2)) (λa=>mPut a.1 a.2.1 a.2.2)
theorem ZYW:Za prog 246 Z0F:=
 Znw (P:=prog) (n:=35253225784319) (k:=108) (l:=[(117,ZQM),(183,ZvQ),(294,ZQG),(295,ZVa),(296,uAtE),(297,delE),(298,insE)]) (ol:=[]) ⟨Zvr,Zpz,ZQE,ZSq,ZMs,Z0P,Z0M,Tv⟩ Tryz.func246 rfl (by kernel_rfl) Tryz.call246 trivial (ts:=ZWo) (rs:=ZQI) (t:=λa=>ZKn a.1 a.2.1 a.2.2) (λa=>by kernel_rfl)
end
end Go.Proofs.YtghoimllhpjkjaaGreat
open Go Go.S3 Go.Proofs Go.Proofs.Cells
namespace Go.Proofs.YtghoimllhpjkjaaGreat
noncomputable section
theorem ZMq (x y:Int):decide (uCmp x y<0)=decide (x<y):=by
 simp only[uCmp,ZMr,RT.val,bne_self_eq_false,cond_false]
 by_cases h:x<y
 ·simp[h]
 ·by_cases h2:x>y<;>simp[h,h2]
theorem ZXg (x y:Int):(uCmp x y==0)=(x==y):=by
 simp only[uCmp,ZMr,RT.val,bne_self_eq_false,cond_false]
 by_cases h:x<y
 ·have:x≠y:=by omega
  simp[h,this]
 ·by_cases h2:x>y
  ·have:x≠y:=by omega
   simp[h,h2,this]
  ·have:x=y:=by omega
   simp[h,h2,this]
theorem ZMt (c:Cell) (t:Int):uAt c t=uCmp c.1 t:=rfl
def At (m:List Cell) (t:Int) (i:Nat):Prop:=i<=m.length/\(∀k,k<i->(el m k).1<t)/\∀k,i<=k->k<m.length->t<=(el m k).1
theorem ZLY (m:List Cell) (t:Int) (hv:Vld m) (hm:m.length<=most):ZEK m t=true/\∃i,At m t i/\Zd6 m t=((i:Int),decide (i<m.length)&&((el m i).1==t)):=by
 have hms:=mst
 obtain⟨r,hr,h1,i,hi,hR⟩:=ZN (fl:=false) (t:=ZgP) (fuel:=λa=>Int.toNat (a.2.2.2.2.1-a.2.2.2.1)+1)
  (λa=>∃lo hi:Nat,lo<=hi/\hi<=m.length/\(∀k,k<lo->(el m k).1<t)/\(∀k,hi<=k->k<m.length->t<=(el m k).1)/\a=(m,t,(m.length:Int),(lo:Int),(hi:Int),()))
  (λa=>Int.toNat (a.2.2.2.2.1-a.2.2.2.1)) (λr=>r.1=false/\∃i:Nat,At m t i/\r.2=(m,t,(m.length:Int),(i:Int),(i:Int),()))
  (by
   rintro a ⟨lo,hi,h1,h2,h3,h4,rfl⟩
   by_cases hlt:lo<hi
   ·left
    have d:decide ((lo:Int)<(hi:Int))=true:=by simpa using hlt
    have hmid:=Zpi lo hi (by omega)
    obtain⟨M,hM⟩:∃M,M=(lo+hi)/2:=⟨_,rfl⟩
    rw[<-hM] at hmid
    have r1:=ZaG m M (by omega)
    have g:=Zcn m M
    have w:=Zhv M (by omega)
    by_cases hc:(el m M).1<t
    ·have dc:decide (uAt (el m M) t<0)=true:=by rw[ZMt,ZMq];simpa using hc
     refine⟨(m,t,(m.length:Int),((M+1:Nat):Int),(hi:Int),()),?_,⟨M+1,hi,by omega,h2,λk hk=> ?_,h4,rfl⟩,by simp only;omega⟩
     ·simp only[ZgP,RT.val,d,hmid,r1,g,dc,w,cond_true]
     ·by_cases e:k=M
      ·subst e;exact hc
      ·by_cases e2:k<lo
       ·exact h3 k e2
       ·have:=List.pairwise_iff_getElem.1 hv.1 k M (by omega) (by omega) (by omega)
        have e1:=ZcP m k (by omega)
        have e3:=ZcP m M (by omega)
        rw[List.getElem?_eq_getElem (by omega),oinj] at e1 e3
        rw[e1,e3] at this;omega
    ·have dc:decide (uAt (el m M) t<0)=false:=by rw[ZMt,ZMq];simpa using hc
     refine⟨(m,t,(m.length:Int),(lo:Int),(M:Int),()),?_,⟨lo,M,by omega,by omega,h3,λk hk hk2=> ?_,rfl⟩,by simp only;omega⟩
     ·simp only[ZgP,RT.val,d,hmid,r1,g,dc,cond_true,cond_false]
     ·by_cases e:k=M
      ·subst e;omega
      ·have:=List.pairwise_iff_getElem.1 hv.1 M k (by omega) (by omega) (by omega)
       have e1:=ZcP m k (by omega)
       have e3:=ZcP m M (by omega)
       rw[List.getElem?_eq_getElem (by omega),oinj] at e1 e3
       rw[e1,e3] at this;omega
   ·right;left
    have d:decide ((lo:Int)<(hi:Int))=false:=by simpa using hlt
    have:hi=lo:=by omega
    subst this
    exact⟨_,by simp only[ZgP,RT.val,d,cond_false],rfl,hi,⟨h2,h3,h4⟩,rfl⟩)
  (m,t,iN m.length,0,iN m.length,()) ⟨0,m.length,Nat.zero_le _,Nat.le_refl _,λk h=>by omega,λk h1 h2=>by omega,rfl⟩ (by simp only[iN];omega)
 obtain⟨r1,r2⟩:=r
 simp only at h1 hR
 subst h1 hR
 have hd:decide ((i:Int)<(m.length:Int))=decide (i<m.length):=by simp
 have hv:(Zqj m t).val=some ((i:Int),decide (i<m.length)&&((el m i).1==t)):=by
  have g:=Zcn m i
  by_cases hlt:i<m.length
  ·have r1:=ZaG m i hlt
   have hd:decide ((i:Int)<(m.length:Int))=true:=by simpa using hlt
   simp only[Zqj,RT.val,hr,okB,getO,cond_true,hd,r1,Bool.not_true,Bool.false_or,g,ZMt,ZXg,hlt,decide_true,Bool.true_and]
  ·have hd:decide ((i:Int)<(m.length:Int))=false:=by simpa using hlt
   simp only[Zqj,RT.val,hr,okB,getO,cond_true,cond_false,hd,Bool.not_false,Bool.true_or,hlt,decide_false,Bool.false_and]
 exact⟨by simp only[ZEK,hv];rfl,i,hi,by simp only[Zd6,hv,getO]⟩
theorem ZOF:∀(i:Nat) (m:List Cell) (c:Cell),i<=m.length->(∀k,k<i->(el m k).1<c.1)->putX m c=m.take i++putX (m.drop i) c
 |0,m,c,_,_=>by simp
 |i+1,[],c,h,_=>by simp at h
 |i+1,x::m,c,h,hk=>by
  have h0:x.1<c.1:=hk 0 (by omega)
  rw[putX,if_pos h0,ZOF i m c (by simpa using h) (λk h'=>hk (k+1) (by omega))]
  simp
theorem ZOE (m:List Cell) (t v:Int) (i:Nat) (h:At m t i):
  (v=0->(decide (i<m.length)&&((el m i).1==t))=false->putX m (t,v)=m)/\
  (v=0->(decide (i<m.length)&&((el m i).1==t))=true->putX m (t,v)=delX m i)/\
  (v≠0->(decide (i<m.length)&&((el m i).1==t))=true->putX m (t,v)=setI m (i:Int) ((el m i).1,v))/\
  (v≠0->(decide (i<m.length)&&((el m i).1==t))=false->putX m (t,v)=insX m i (t,v)):=by
 obtain⟨h1,h2,h3⟩:=h
 have hp:=ZOF i m (t,v) h1 h2
 by_cases hlt:i<m.length
 ·have hd:=ZvL m i hlt
  have hge:=h3 i (Nat.le_refl _) hlt
  have hn:¬(el m i).1<t:=by omega
  rw[hd] at hp
  simp only[putX,if_neg hn] at hp
  simp only[hlt,decide_true,Bool.true_and]
  refine⟨λhz he=> ?_,λhz he=> ?_,λhz he=> ?_,λhz he=> ?_⟩
  ·have he:(el m i).1≠t:=by simpa using he
   rw[hp,if_pos hz,if_neg he,<-hd,List.take_append_drop]
  ·have he:(el m i).1=t:=by simpa using he
   rw[hp,if_pos hz,if_pos he,delX]
  ·have he:(el m i).1=t:=by simpa using he
   rw[hp,if_neg hz,if_pos he,setI,Int.toNat_natCast,he,List.set_eq_take_append_cons_drop,if_pos hlt]
  ·have he:(el m i).1≠t:=by simpa using he
   rw[hp,if_neg hz,if_neg he,insX,<-hd];simp
 ·have he:i=m.length:=by omega
  subst he
  simp only[List.drop_length,putX] at hp
  simp only[Nat.lt_irrefl,decide_false,Bool.false_and]
  refine⟨λhz _=> ?_,λhz he=>by simp at he,λhz he=>by simp at he,λhz _=> ?_⟩
  ·rw[hp,if_pos hz];simp
  ·rw[hp,if_neg hz,insX];simp
theorem ZT5 (m:List Cell) (t v:Int) (hm:m.length+1<=most):ZT7 m t v=true/\mPut m t v=putX (normX m) (t,v):=by
 have hms:=mst
 have hv1:=ZQy m (by omega)
 have hb1:Nat.ble m.length most=true:=by rw[Nat.ble_eq];omega
 have hv:(ZKn m t v).val=some (putX (normX m) (t,v)):=by
  cases hval:vldB m with
  |false=>
   have hl:(m++[(t,v)]).length<=most:=by simp;omega
   have hb2:Nat.ble (m++[(t,v)]).length most=true:=by rw[Nat.ble_eq];exact hl
   obtain⟨n1,n2⟩:=ZoP (m++[(t,v)]) hl
   simp only[ZKn,RT.val,hv1.1,hv1.2,hval,hb1,hb2,n1,n2,ZjR,Bool.not_false,Bool.not_true,Bool.or_true,Bool.or_self,cond_true]
  |true=>
   have hV:=Zk1.1 hval
   obtain⟨f1,i,hi,f2⟩:=ZLY m t hV (by omega)
   obtain⟨q1,q2,q3,q4⟩:=ZOE m t v i hi
   have hile:decide ((i:Int)<=iN m.length)=true:=by simpa [iN] using hi.1
   have hi0:decide ((0:Int)<=(i:Int))=true:=by simp
   have hb3:Nat.ble (m.length+1) most=true:=by rw[Nat.ble_eq];omega
   have w:=Zhv i (by have:=hi.1;omega)
   have g:=Zcn m i
   rw[ZjS hV]
   simp only[ZKn,RT.val,hv1.1,hv1.2,hval,hb1,f1,f2,hile,hi0,hb3,w,g,Bool.not_true,Bool.not_false,Bool.true_or,Bool.or_true,Bool.or_false,Bool.false_or,Bool.and_self,Bool.true_and,cond_true,cond_false,Int.toNat_natCast]
   cases hfd:(decide (i<m.length)&&((el m i).1==t)) with
   |true=>
    have hlt:i<m.length:=by
     rw[Bool.and_eq_true,decide_eq_true_eq] at hfd;exact hfd.1
    have r1:=ZaG m i hlt
    have hd:decide ((i:Int)<iN m.length)=true:=by simpa [iN] using hlt
    have hw:decide (((i+1:Nat):Int)=(i:Int)+1)=true:=by simp
    by_cases hz:v=0
    ·have hz1:(v==0)=true:=by simpa using hz
     simp only[hz1,r1,hd,hw,q2 hz hfd,Bool.not_true,Bool.not_false,Bool.and_false,Bool.and_true,Bool.true_or,Bool.or_true,Bool.or_false,Bool.false_or,Bool.and_self,cond_true,cond_false]
    ·have hz1:(v==0)=false:=by simpa using hz
     simp only[hz1,r1,hd,hw,q3 hz hfd,Bool.not_true,Bool.not_false,Bool.false_and,Bool.and_false,Bool.and_true,Bool.true_or,Bool.or_true,Bool.or_false,Bool.false_or,Bool.and_self,cond_true,cond_false]
   |false=>
    by_cases hz:v=0
    ·have hz1:(v==0)=true:=by simpa using hz
     simp only[hz1,q1 hz hfd,Bool.not_true,Bool.not_false,Bool.and_false,Bool.and_true,Bool.true_or,Bool.or_true,Bool.or_false,Bool.false_or,Bool.and_self,cond_true,cond_false]
    ·have hz1:(v==0)=false:=by simpa using hz
     simp only[hz1,q4 hz hfd,Bool.not_true,Bool.not_false,Bool.false_and,Bool.and_false,Bool.and_true,Bool.true_or,Bool.or_true,Bool.or_false,Bool.false_or,Bool.and_self,cond_true,cond_false]
 exact⟨by simp only[ZT7,hv];rfl,by simp only[mPut,hv,getO]⟩
abbrev Znx:List Sh:=[Sh.one rcRG,Sh.one rcCE,Sh.one (R.int u16),Sh.one (R.int u8)]
abbrev ZiH:Rs:=Rs.one (Sh.one rcCE)
def ZiG (l:List (QT4)) (m:List (Int×Int)) (t:Int) (v:Int):RT (Option (List (Int×Int))):=
 let x1:=decide (ZJr l t>=0)&&(R.get (R.pair (R.int u16) (R.pair (R.int u16) (R.pair R.bool (R.int i64)))) l (ZJr l t)).2.2.1
 .br (ZPL l t) (.br (!decide (ZJr l t>=0)||Zf (ZJr l t) (List.length l)) (.br (!x1||ZT7 m t v) (.br (x1) (.leaf (some (mPut m t v))) (.br (Zyu m) (.leaf (some (ZQN m))) (.leaf none))) (.leaf none)) (.leaf none)) (.leaf none)
def ZBF (l:List (QT4)) (m:List (Int×Int)) (t:Int) (v:Int):List (Int×Int):=getO ZiH.dflt (ZiG l m t v).val
def ZtY (l:List (QT4)) (m:List (Int×Int)) (t:Int) (v:Int):Bool:=okB (ZiG l m t v).val
def ZTq:Entry:=Zg Znx ZiH (λa=>some (ZtY a.1 a.2.1 a.2.2.1 a.2.2.2)) (λa=>ZBF a.1 a.2.1 a.2.2.1 a.2.2.2)
theorem ZI8:Za prog 187 ZTq:=
 pureP 1023 [(117,ZQM),(245,ZWg),(246,Z0F)] [] Znx ZiH ⟨Zvr,ZTL,ZYW,Tv⟩ Tryz.func187 Tryz.call187 trivial (t:=λa=>ZiG a.1 a.2.1 a.2.2.1 a.2.2.2)
abbrev ZFx:List Sh:=[Sh.one (R.int i64)]
abbrev ZFy:Rs:=Rs.one (Sh.one (R.int i64))
def ZNT (n:Int):RT (Int):=
 .leaf (if (if 100<n then 100 else n)>0 then if 100<n then 100 else n else 0)
def ZNU (n:Int):Int:=(ZNT n).val
def ZBc:Entry:=Zg ZFx ZFy (λ_=>none) (λa=>ZNU a)
theorem Zxs:Za prog 301 ZBc:=
 pureQ 7 [] [] ZFx ZFy trivial Tryz.func301 Tryz.call301 trivial (t:=λa=>ZNT a)
abbrev Zss:List Sh:=[Sh.one rcRG,Sh.one (R.int u16)]
abbrev Zk8:Rs:=Rs.one (Sh.one (R.int i64))
def Zmn (l:List (QT4)) (t:Int):RT (Option (Int)):=
 .br (Znn l t) (.br (!decide (ZjG l t>=0)||Zf (ZjG l t) (List.length l)) (.br (decide (ZjG l t>=0)) (.leaf (some (ZNU (R.get (R.pair (R.int u16) (R.pair (R.int u16) (R.pair R.bool (R.int i64)))) l (ZjG l t)).2.2.2))) (.leaf (some (0)))) (.leaf none)) (.leaf none)
def ZM7 (l:List (QT4)) (t:Int):Int:=getO Zk8.dflt (Zmn l t).val
def Zz7 (l:List (QT4)) (t:Int):Bool:=okB (Zmn l t).val
def ZXx:Entry:=Zg Zss Zk8 (λa=>some (Zz7 a.1 a.2)) (λa=>ZM7 a.1 a.2)
theorem ZM6:Za prog 300 ZXx:=
 pureP 63 [(43,ZFL),(301,ZBc)] [] Zss Zk8 ⟨Zs4,Zxs,Tv⟩ Tryz.func300 Tryz.call300 trivial (t:=λa=>Zmn a.1 a.2)
abbrev Zmp:List Sh:=[Sh.one rcRG]
abbrev Zin:Rs:=Rs.one (Sh.one (R.int i64))
def ZHU:LS:={n:=30,slots:=[(2,.code (Sh.one (R.int i64))),(8,.code (Sh.one rcRG)),(9,.code (Sh.one (R.int i64))),(10,.code (Sh.one (R.int i64)))],boxes:=[],stgs:=[]}
def ZdT (a:QT27):RT (Option (Go1 (QT27))):=
 let x1:QT4:=R.get (R.pair (R.int u16) (R.pair (R.int u16) (R.pair R.bool (R.int i64)))) a.2.1 a.2.2.2.1
 let x2:=x1.2
 let x3:=x2.2.2
 let x4:List (QT4)×Int×Int×PUnit:=(a.2.1,a.2.2.1,a.2.2.2.1,PUnit.unit)
 .br (decide (a.2.2.2.1<a.2.2.1)) (.br (Zf a.2.2.2.1 (List.length a.2.1)) (.br (decide (x2.1<x1.1)||(decide (x3<0)||decide (x3>100))) (.leaf (some (Go1.ret (1,x4)))) (.leaf (some (Go1.cont (a.1,a.2.1,a.2.2.1,i64.wrap (a.2.2.2.1+1),PUnit.unit))))) (.leaf none)) (.leaf (some (Go1.brk (a.1,x4))))
def ZqB:Ora:=Zbm true ZHU ZdT (λa=>1000000000000)
theorem Zw1:Za1 (envX prog [] [] 31 8) (.block 0 (.loop (Zae Tryz.f247.body 0))) ZqB:=
 loopP trivial
def Zfq (l:List (QT4)):RT (Option (Int)):=
 let x1:=runF true ZdT (λa=>1000000000000) (0,l,iN (List.length l),0,())
 let x2:=getO (false,0,l,iN (List.length l),0,()) x1
 .br (decide (iN (List.length l)>16)) (.leaf (some (3))) (.br (okB x1) (.br x2.1 (.leaf (some x2.2.1)) (.leaf (some (0)))) (.leaf none))
def Zz9 (l:List (QT4)):Int:=getO Zin.dflt (Zfq l).val
def Zsv (l:List (QT4)):Bool:=okB (Zfq l).val
def ZSO:Entry:=Zg Zmp Zin (λa=>some (Zsv a)) (λa=>Zz9 a)
theorem ZHT:Za prog 247 ZSO:=
 pureP 31 [] [(0,ZqB)] Zmp Zin trivial Tryz.func247 Tryz.call247 ⟨Zw1,Tv⟩ (t:=λa=>Zfq a)
def sm {α:Type} (l:List α):Bool:=Nat.ble (l.length+1) most
def smC (l:List (Int×Int)):Bool:=sm l
def smB (l:List Int):Bool:=sm l
def smG (l:List Z1):Bool:=sm l
theorem Zqq {α:Type} {l:List α}:sm l=true↔l.length+1<=most:=by simp[sm]
theorem Zsb {α:Type} {l:List α} (h:sm l=true):l.length<=most:=by have:=Zqq.1 h;omega
theorem ZUp (l:List Z1) (t:Int): -1<=Zbu l t/\(Zbu l t<0\/∃i:Nat,i<l.length/\Zbu l t=i):=by
 unfold Zbu
 split
 ·rename_i h;exact⟨by omega,.inr ⟨_,h,rfl⟩⟩
 ·exact⟨by omega,.inl (by omega)⟩
theorem Zps (l:List Z1) (t:Int) (h:0<=Zbu l t):Zf (Zbu l t) l.length=true:=by
 rcases (ZUp l t).2 with h1|⟨i,hi,e⟩
 ·omega
 ·rw[e];exact ZaG l i hi
def Zbw (l:List Z1) (m:List Cell) (t v:Int):List Cell:=bif decide (Zbu l t>=0)&&(R.get GR l (Zbu l t)).2.2.1 then putX (normX m) (t,v) else normX m
def limX (n:Int):Int:=if (if 100<n then 100 else n)>0 then if 100<n then 100 else n else 0
def Zv5 (l:List Z1) (t:Int):Int:=bif decide (Zbu l t>=0) then limX (R.get GR l (Zbu l t)).2.2.2 else 0
theorem ZIZ (l:List Z1) (m:List Cell) (t v:Int) (hl:l.length<=most) (hm:m.length+1<=most):ZtY l m t v=true/\ZBF l m t v=Zbw l m t v:=by
 have h1:=ZOQ l t hl
 have h2:=ZT5 m t v hm
 have h3:=ZoP m (by omega)
 have hv:(ZiG l m t v).val=some (Zbw l m t v):=by
  have hr:(!decide (Zbu l t>=0)||Zf (Zbu l t) l.length)=true:=by
   by_cases h:0<=Zbu l t
   ·rw[Zps l t h];simp
   ·have:decide (Zbu l t>=0)=false:=by simp;omega
    rw[this];rfl
  simp only[ZiG,RT.val,h1.1,h1.2,h2.1,h2.2,h3.1,h3.2,hr,Bool.or_true,cond_true,Zbw]
  cases decide (Zbu l t>=0)&&(R.get GR l (Zbu l t)).2.2.1<;>rfl
 exact⟨by simp only[ZtY,hv];rfl,by simp only[ZBF,hv,getO]⟩
theorem ZHJ (l:List Z1) (m:List Cell) (t v:Int) (hl:l.length<=most) (hm:m.length+1<=most):Zsr l m t v=true/\Zz6 l m t v=Zbw l m t v:=by
 have h1:=Zii l t hl
 have h2:=ZSE m t v hm
 have h3:=Zmi m hm
 have hv:(Zil l m t v).val=some (Zbw l m t v):=by
  have hr:(!decide (Zbu l t>=0)||Zf (Zbu l t) l.length)=true:=by
   by_cases h:0<=Zbu l t
   ·rw[Zps l t h];simp
   ·have:decide (Zbu l t>=0)=false:=by simp;omega
    rw[this];rfl
  simp only[Zil,RT.val,h1.1,h1.2,h2.1,h2.2,h3.1,h3.2,hr,Bool.or_true,cond_true,Zbw]
  cases decide (Zbu l t>=0)&&(R.get GR l (Zbu l t)).2.2.1<;>rfl
 exact⟨by simp only[Zsr,hv];rfl,by simp only[Zz6,hv,getO]⟩
theorem ZHK (l:List Z1) (t:Int) (hl:l.length<=most):Zz7 l t=true/\ZM7 l t=Zv5 l t:=by
 have h1:=Zii l t hl
 have hv:(Zmn l t).val=some (Zv5 l t):=by
  have hr:(!decide (Zbu l t>=0)||Zf (Zbu l t) l.length)=true:=by
   by_cases h:0<=Zbu l t
   ·rw[Zps l t h];simp
   ·have:decide (Zbu l t>=0)=false:=by simp;omega
    rw[this];rfl
  simp only[Zmn,RT.val,h1.1,h1.2,hr,cond_true,Zv5]
  cases decide (Zbu l t>=0)<;>rfl
 exact⟨by simp only[Zz7,hv];rfl,by simp only[ZM7,hv,getO]⟩
def badR (r:Z1):Bool:=decide (r.2.1<r.1)||(decide (r.2.2.2<0)||decide (r.2.2.2>100))
def Zd4 (l:List Z1):Int:=bif decide (iN l.length>16) then 3 else bif l.any badR then 1 else 0
theorem ZzV (l:List Z1) (hl:l.length<=most):Zsv l=true/\Zz9 l=Zd4 l:=by
 have hms:=mst
 obtain⟨r,hr,hR⟩:=ZN (fl:=true) (t:=ZdT) (fuel:=λ_=>1000000000000)
  (λx=>∃i:Nat,i<=l.length/\(∀k,k<i->badR (rg l k)=false)/\x=(0,l,(l.length:Int),(i:Int),()))
  (λx=>Int.toNat (x.2.2.1-x.2.2.2.1)) (λr=>(r.1=false/\l.any badR=false)\/(r.1=true/\l.any badR=true/\r.2.1=1))
  (by
   rintro x ⟨i,hi,hk,rfl⟩
   by_cases hlt:i<l.length
   ·have d:decide ((i:Int)<(l.length:Int))=true:=by simpa using hlt
    have r1:=ZaG l i hlt
    have g1:=ZWt l i
    cases hh:badR (rg l i) with
    |false=>
     left
     refine⟨(0,l,(l.length:Int),((i+1:Nat):Int),()),?_,⟨i+1,hlt,λk hk'=> ?_,rfl⟩,by simp only;omega⟩
     ·simp only[badR] at hh
      simp only[ZdT,RT.val,d,r1,g1,hh,cond_true,cond_false,Zhv i (by omega)]
     ·by_cases e:k=i
      ·subst e;exact hh
      ·exact hk k (by omega)
    |true=>
     right;right
     refine⟨(1,l,(l.length:Int),(i:Int),()),rfl,?_,.inr ⟨rfl,List.any_eq_true.2 ⟨rg l i,?_,hh⟩,rfl⟩⟩
     ·simp only[badR] at hh
      simp only[ZdT,RT.val,d,r1,g1,hh,cond_true]
     ·rw[<-ZwQ l i hlt];exact List.getElem_mem hlt
   ·right;left
    have d:decide ((i:Int)<(l.length:Int))=false:=by simpa using hlt
    refine⟨_,by simp only[ZdT,RT.val,d,cond_false];rfl,.inl ⟨rfl,?_⟩⟩
    rw[List.any_eq_false]
    intro q hq
    obtain⟨k,hk',rfl⟩:=List.mem_iff_getElem.1 hq
    rw[ZwQ l k hk',hk k (by omega)];simp)
  (0,l,iN l.length,0,()) ⟨0,Nat.zero_le _,λk h=>by omega,rfl⟩ (by simp only[iN];omega)
 have hv:(Zfq l).val=some (Zd4 l):=by
  cases hd:decide (iN l.length>16) with
  |true=>simp only[Zfq,RT.val,hd,cond_true,Zd4]
  |false=>
   rcases hR with ⟨h1,h2⟩|⟨h1,h2,h3⟩
   ·simp only[Zfq,RT.val,hd,hr,okB,getO,cond_true,cond_false,h1,h2,Zd4]
   ·simp only[Zfq,RT.val,hd,hr,okB,getO,cond_true,cond_false,h1,h2,h3,Zd4]
 exact⟨by simp only[Zsv,hv];rfl,by simp only[Zz9,hv,getO]⟩
theorem ZkQ {P:Program} {f:FuncId} {ts:List Sh} {rs:Rs} {C:HL ts->Bool} {F G:HL ts->rs.den} (h:Za P f (Zg ts rs (λa=>some (C a)) F)) {pre:HL ts->Bool} (hp:∀a,pre a=true->C a=true/\F a=G a):
  Za P f (Zg ts rs (λa=>some (pre a)) G):=by
 have key:∀a,some (pre a)≠some false->pre a=true:=λa h=>by cases hq:pre a with
  |true=>rfl
  |false=>rw[hq] at h;exact absurd rfl h
 exact h.pure_congr (λa _ hq=>by rw[(hp a (key a hq)).1];simp) (λa _ hq=>(hp a (key a hq)).2)
def Zla:Entry:=Zg Zsu Zk9 (λa=>some (smC a)) (λa=>vldB a)
theorem ZjB:Za prog 44 Zla:=ZkQ Zmo λa h=>ZMO a (Zsb h)
def ZDm:Entry:=Zg ZDl Zvs (λa=>some (smC a)) (λa=>normX a)
theorem Zyv:Za prog 117 ZDm:=ZkQ Zvr λa h=>ZoP a (Zsb h)
def ZsP:Entry:=Zg ZAv ZsN (λa=>some (smC a)) (λa=>normX a)
theorem ZmB:Za prog 92 ZsP:=ZkQ ZsM λa h=>Zmi a (Zqq.1 h)
def Zle:Entry:=Zg ZsC Zld (λa=>some (smC a.1)) (λa=>decide ((a.1:List Cell)=a.2))
theorem ZjC:Za prog 39 Zle:=ZkQ ZNc λa h=>ZMT a.1 a.2 (Zsb h)
def ZFf:Entry:=Zg ZsE Zlf (λa=>some (smG a.1&&smC a.2.1)) (λa=>Zqx a.1 a.2.1 a.2.2)
theorem ZHZ:Za prog 102 ZFf:=ZkQ ZNl λa h=>by rw[Bool.and_eq_true] at h;exact ZMU a.1 a.2.1 a.2.2 (Zsb h.1) (Zsb h.2)
def Znz:Entry:=Zg Znx ZiH (λa=>some (smG a.1&&smC a.2.1)) (λa=>Zbw a.1 a.2.1 a.2.2.1 a.2.2.2)
theorem Zny:Za prog 187 Znz:=ZkQ ZI8 λa h=>by rw[Bool.and_eq_true] at h;exact ZIZ a.1 a.2.1 a.2.2.1 a.2.2.2 (Zsb h.1) (Zqq.1 h.2)
def Zmm:Entry:=Zg Zmk Zim (λa=>some (smG a.1&&smC a.2.1)) (λa=>Zbw a.1 a.2.1 a.2.2.1 a.2.2.2)
theorem Zml:Za prog 101 Zmm:=ZkQ ZHQ λa h=>by rw[Bool.and_eq_true] at h;exact ZHJ a.1 a.2.1 a.2.2.1 a.2.2.2 (Zsb h.1) (Zqq.1 h.2)
def ZEY:Entry:=Zg Zss Zk8 (λa=>some (smG a.1)) (λa=>Zv5 a.1 a.2)
theorem ZHR:Za prog 300 ZEY:=ZkQ ZM6 λa h=>ZHK a.1 a.2 (Zsb h)
def Zw2:Entry:=Zg Zmp Zin (λa=>some (smG a)) (λa=>Zd4 a)
theorem Zz8:Za prog 247 Zw2:=ZkQ ZHT λa h=>ZzV a (Zsb h)
abbrev ZD8:List Sh:=[Sh.one (R.int u8),Sh.one (R.int u8),Sh.one (R.int u8)]
abbrev ZD9:Rs:=Rs.one (Sh.one (R.int u8))
def ZLh (a:Int) (b:Int) (c:Int):RT (Int):=
 .leaf (xorI u8 (xorI u8 (xorI u8 a b) c) 165)
def Zwi (a:Int) (b:Int) (c:Int):Int:=(ZLh a b c).val
def ZlO:Entry:=Zg ZD8 ZD9 (λ_=>none) (λa=>Zwi a.1 a.2.1 a.2.2)
theorem Zh8:Za prog 134 ZlO:=
 pureQ 127 [] [] ZD8 ZD9 trivial Tryz.func134 Tryz.call134 trivial (t:=λa=>ZLh a.1 a.2.1 a.2.2)
abbrev ZUU:List Sh:=[Sh.one R.bool,Sh.one (R.int i64)]
abbrev ZLn:Rs:=Rs.one (Sh.one (R.int u8))
def ZR6 (o:Bool) (n:Int):RT (Option (Int)):=
 .br (!o||decide (0<=n)) (.br (o) (.leaf (some (shlI u8 1 n))) (.leaf (some (0)))) (.leaf none)
def wBit (o:Bool) (n:Int):Int:=getO ZLn.dflt (ZR6 o n).val
def Zfh (o:Bool) (n:Int):Bool:=okB (ZR6 o n).val
def ZWR:Entry:=Zg ZUU ZLn (λa=>some (Zfh a.1 a.2)) (λa=>wBit a.1 a.2)
theorem ZLm:Za prog 133 ZWR:=
 pureP 31 [] [] ZUU ZLn trivial Tryz.func133 Tryz.call133 trivial (t:=λa=>ZR6 a.1 a.2)
abbrev ZLd:List Sh:=[]
abbrev ZLe:Rs:=Rs.one (Sh.agg Zdt)
def ZUS:RT INPT:=
 .leaf ((true,false,false,false,false,false,false,false,0,0))
def ZW:INPT:=(ZUS).val
def ZD4:Entry:=Zg ZLd ZLe (λ_=>none) (λa=>ZW)
theorem ZrK:Za prog 190 ZD4:=
 pureQ 1 [] [] ZLd ZLe trivial Tryz.func190 Tryz.call190 trivial (t:=λa=>ZUS)
abbrev Zwf:List Sh:=[Sh.one (R.sl (R.int u8))]
abbrev ZlM:Rs:=Rs.one (Sh.one (R.sl Zdt))
def ZHA:LS:={n:=83,slots:=[(0,.code (Sh.one (R.sl (R.int u8)))),(3,.tip 0),(4,.code (Sh.one (R.int i64)))],boxes:=[],stgs:=[⟨Zdt,195,true⟩]}
def Zc1 (a:List Int×Int×List INPT×PUnit):RT (Option (Go1 (List Int×Int×List INPT×PUnit))):=
 let x1:= !Zf (i64.wrap (a.2.1+1)) (List.length a.1)||Zf (i64.wrap (a.2.1+2)) (List.length a.1)
 let x2:= !Zf (i64.wrap (a.2.1+3)) (List.length a.1)||x1
 let x3:= !x2
 let x4:= !Zf (i64.wrap (a.2.1+3)) (List.length a.1)||Zf (i64.wrap (a.2.1+1)) (List.length a.1)
 let x5:= !x4
 let p1:=(!Zf (i64.wrap (a.2.1+3)) (List.length a.1))::x5::x3::(!Zf a.2.1 (List.length a.1))::[]
 let x6:=R.get (R.int u8) a.1 (i64.wrap (a.2.1+3)) !=Zwi (R.get (R.int u8) a.1 a.2.1) (R.get (R.int u8) a.1 (i64.wrap (a.2.1+1))) (R.get (R.int u8) a.1 (i64.wrap (a.2.1+2)))
 let x7:= !x6||Nat.ble (List.length (a.2.2.1++[ZW])) most
 let x8:= !x7
 let p2:=x6::x8::p1
 let x9:List INPT:=a.2.2.1++[(andI u8 (R.get (R.int u8) a.1 a.2.1) 1==0,andI u8 (R.get (R.int u8) a.1 a.2.1) 2 !=0,andI u8 (R.get (R.int u8) a.1 a.2.1) 4 !=0,andI u8 (R.get (R.int u8) a.1 a.2.1) 8 !=0,andI u8 (R.get (R.int u8) a.1 a.2.1) 16 !=0,andI u8 (R.get (R.int u8) a.1 a.2.1) 32 !=0,andI u8 (R.get (R.int u8) a.1 a.2.1) 64 !=0,andI u8 (R.get (R.int u8) a.1 a.2.1) 128 !=0,R.get (R.int u8) a.1 (i64.wrap (a.2.1+1)),R.get (R.int u8) a.1 (i64.wrap (a.2.1+2)))]
 let x10:= !Zf (i64.wrap (a.2.1+1)) (List.length a.1)||(!Zf (i64.wrap (a.2.1+2)) (List.length a.1)||Nat.ble (List.length x9) most)
 let x11:= !x10
 let p3:=x11::p2
 let p4:=(!x1)::p3
 .br (decide (i64.wrap (a.2.1+4)<=iN (List.length a.1))&&decide (iN (List.length a.2.2.1)<65536)) (.br (orR p4 (Zf (i64.wrap (a.2.1+1)) (List.length a.1))) (.br (orR p3 x1) (.br (orR p2 x10) (.br (orR p1 x7) (.br (!Zf a.2.1 (List.length a.1)||(x3||(x5||Zf (i64.wrap (a.2.1+3)) (List.length a.1)))) (.br (!Zf a.2.1 (List.length a.1)||(x3||x4)) (.br (!Zf a.2.1 (List.length a.1)||x2) (.br (Zf a.2.1 (List.length a.1)) (.leaf (some (Go1.cont (a.1,i64.wrap (a.2.1+4),bif x6 then a.2.2.1++[ZW] else x9,PUnit.unit)))) (.leaf none)) (.leaf none)) (.leaf none)) (.leaf none)) (.leaf none)) (.leaf none)) (.leaf none)) (.leaf none)) (.leaf (some (Go1.brk (a.1,a.2.1,a.2.2.1,PUnit.unit))))
def Zp4:Ora:=Zbm false ZHA Zc1 (λa=>1000000000000)
theorem Zwg:Za1 (envX prog [(134,ZlO),(190,ZD4)] [] 63 8) (.block 0 (.loop (Zae Tryz.f120.body 0))) Zp4:=
 loopP ⟨Zh8,ZrK,Tv⟩
def Zh5 (l:List Int):RT (Option (List INPT)):=
 .br (okB (runF false Zc1 (λa=>1000000000000) (l,0,[],()))) (.leaf (some (getO (false,l,0,[],()) (runF false Zc1 (λa=>1000000000000) (l,0,[],()))).2.2.2.1)) (.leaf none)
def Zbj (l:List Int):List INPT:=getO ZlM.dflt (Zh5 l).val
def Zk0 (l:List Int):Bool:=okB (Zh5 l).val
def ZrM:Entry:=Zg Zwf ZlM (λa=>some (Zk0 a)) (λa=>Zbj a)
theorem Zp2:Za prog 120 ZrM:=
 pureP 63 [(134,ZlO),(190,ZD4)] [(0,Zp4)] Zwf ZlM ⟨Zh8,ZrK,Tv⟩ Tryz.func120 Tryz.call120 ⟨Zwg,Tv⟩ (t:=λa=>Zh5 a)
abbrev ZLf:Rs:=Rs.one (Sh.one (R.sl (R.int u8)))
def ZdS (a:List INPT×Int×Int×List Int×PUnit):RT (Option (Go1 (List INPT×Int×Int×List Int×PUnit))):=
 let x1:INPT:=R.get Zdt a.1 a.2.2.1
 let x2:= !x1.1
 let x3:=Zfh x2 0
 let x4:= !x3
 let x5:=x1.2
 let x6:=x5.1
 let x7:=Zfh x6 1
 let x8:= !x7
 let x9:=x5.2
 let x10:=x9.1
 let x11:=Zfh x10 2
 let x12:= !x11
 let x13:=x9.2
 let x14:=x13.1
 let x15:=Zfh x14 3
 let x16:= !x15
 let p2:=x16::x12::x8::x4::[]
 let x17:=x13.2
 let x18:=x17.1
 let x19:=Zfh x18 4
 let x20:= !x19
 let p3:=x20::p2
 let x21:=x17.2
 let x22:=x21.1
 let x23:=Zfh x22 5
 let x24:= !x23
 let p5:=x24::p3
 let x25:=x21.2
 let x26:=x25.1
 let x27:=Zfh x26 6
 let p8:=(!x27)::p5
 let x28:=x25.2
 let x29:=x28.1
 let x30:=orR p8 (Zfh x29 7)
 let x31:= !x30
 let x32:=orR p5 x27
 let x33:= !x32
 let p1:=x33::x31::(decide (a.2.2.1>=65536))::(!Zf a.2.2.1 (List.length a.1))::[]
 let x34:=orR p3 x23
 let x35:= !x34
 let p4:=x35::p1
 let x36:=orR p2 x19
 let x37:= !x36
 let p6:=x37::p4
 let x38:=x4||(x8||(x12||x15))
 let x39:= !x38
 let p7:=x39::p6
 let x40:=x4||(x8||x11)
 let x41:= !x40
 let p9:=x41::p7
 let x42:=x4||x7
 let x43:= !x42
 let p10:=x43::p9
 let p11:=x4::p10
 let x44:=orI u8 (orI u8 (orI u8 (orI u8 (orI u8 (orI u8 (orI u8 (wBit x2 0) (wBit x6 1)) (wBit x10 2)) (wBit x14 3)) (wBit x18 4)) (wBit x22 5)) (wBit x26 6)) (wBit x29 7)
 let x45:=x28.2
 let x46:=x45.1
 let x47:=x45.2
 let x48:List Int:=a.2.2.2.1++[x44,x46,x47,Zwi x44 x46 x47]
 .br (decide (a.2.2.1<a.2.1)) (.br (orR p11 (Nat.ble (List.length x48) most)) (.br (orR p10 x3) (.br (orR p9 x42) (.br (orR p7 x40) (.br (orR p6 x38) (.br (orR p4 x36) (.br (orR p1 x34) (.br (!Zf a.2.2.1 (List.length a.1)||(decide (a.2.2.1>=65536)||(x31||x32))) (.br (!Zf a.2.2.1 (List.length a.1)||(decide (a.2.2.1>=65536)||x30)) (.br (Zf a.2.2.1 (List.length a.1)) (.br (decide (a.2.2.1>=65536)) (.leaf (some (Go1.brk (a.1,a.2.1,a.2.2.1,a.2.2.2.1,PUnit.unit)))) (.leaf (some (Go1.cont (a.1,a.2.1,i64.wrap (a.2.2.1+1),x48,PUnit.unit))))) (.leaf none)) (.leaf none)) (.leaf none)) (.leaf none)) (.leaf none)) (.leaf none)) (.leaf none)) (.leaf none)) (.leaf none)) (.leaf none)) (.leaf (some (Go1.brk (a.1,a.2.1,a.2.2.1,a.2.2.2.1,PUnit.unit))))
def ZgK (l:List INPT):RT (Option (List Int)):=
 let x1:=runF false ZdS (λa=>1000000000000) (l,iN (List.length l),0,[],())
 .br (okB x1) (.leaf (some (getO (false,l,iN (List.length l),0,[],()) x1).2.2.2.2.1)) (.leaf none)
def ZlL (l:List INPT):List Int:=getO ZLf.dflt (ZgK l).val
def ZD5 (l:List INPT):Bool:=okB (ZgK l).val
abbrev ZDU:List Sh:=[Sh.agg (R.pair (R.int i64) (R.pair rcRG (R.pair (R.int i64) (R.pair (R.int u8) (R.pair (R.int u8) (R.pair R.bool rcCE))))))]
abbrev ZrE:Rs:=Rs.one (Sh.one (R.int i64))
def Zjj (l:BRDT):RT (Option (Int)):=
 .br (l.1 !=1&&l.1 !=2) (.leaf (some (1))) (.br (smG l.2.1) (.br (Zd4 l.2.1 !=0) (.leaf (some (Zd4 l.2.1))) (.br (decide (l.2.2.1<0)||(decide (l.2.2.1>100)||smC l.2.2.2.2.2.2)) (.br (decide (l.2.2.1<0)||(decide (l.2.2.1>100)|| !vldB l.2.2.2.2.2.2)) (.leaf (some (1))) (.leaf (some (0)))) (.leaf none))) (.leaf none))
def ZcU (l:BRDT):Int:=getO ZrE.dflt (Zjj l).val
def ZrF (l:BRDT):Bool:=okB (Zjj l).val
def ZKW:Entry:=Zg ZDU ZrE (λa=>some (ZrF a)) (λa=>ZcU a)
theorem ZKV:Za prog 188 ZKW:=
 pureP 15 [(44,Zla),(247,Zw2)] [] ZDU ZrE ⟨ZjB,Zz8,Tv⟩ Tryz.func188 Tryz.call188 trivial (t:=λa=>Zjj a)
abbrev ZUQ:List Sh:=[Sh.agg (R.pair (R.int i64) (R.pair rcRG (R.pair (R.int i64) (R.pair (R.int u8) (R.pair (R.int u8) (R.pair R.bool rcCE))))))]
abbrev ZK5:Rs:=Rs.tup [Sh.agg (R.pair (R.pair ZF (R.pair (R.int i64) (R.pair (R.sl (R.int u8)) (R.pair (RY) (R.pair (R.int i64) R.bool))))) (R.pair rcCE (R.pair Zbe (R.pair (R.pair (R.int u16) (R.pair (R.int u8) (R.int i64))) (R.pair (R.int i64) (R.sl (R.pair (R.int u8) (R.int u8)))))))),Sh.one (R.int i64)]
def Zzm (l:BRDT):RT (Option (SYST×Int)):=
 let x1:TR:=(0,0,0,0,0,0,0,(false,false,false,false,false,false,false),0,0)
 .br (ZrF l) (.br (ZcU l !=0) (.leaf (some (((((0,x1,false,false,false,0,false,false,false,false,false,false,false),0,[],(0,0,0,0),0,false),[],(0,false,false,false,false,0,0,false,false,false,false,false,0,0,0,0,0,0,0,false),(0,0,0),0,[]),ZcU l)))) (.br (smC l.2.2.2.2.2.2) (.leaf (some ((((((newX l.1).1.1,x1,false,false,false,(newX l.1).1.2.2.2.2.2.1,false,false,false,false,false,false,false),0,[],(1,0,0,4),1,false),Cells.normX l.2.2.2.2.2.2,(0,false,false,false,false,0,0,false,false,false,false,false,0,0,0,0,7,0,0,false),(0,0,0),0,[]),0)))) (.leaf none))) (.leaf none)
def wNew (l:BRDT):SYST×Int:=getO ZK5.dflt (Zzm l).val
def ZRZ (l:BRDT):Bool:=okB (Zzm l).val
def ZWN:Entry:=Zg ZUQ ZK5 (λa=>some (ZRZ a)) (λa=>wNew a)
theorem ZK4:Za prog 119 ZWN:=
 pureP 31 [(80,ZVz),(92,ZsP),(188,ZKW),(189,ZWY)] [] ZUQ ZK5 ⟨ZS9,ZmB,ZKV,ZLK,Tv⟩ Tryz.func119 Tryz.call119 trivial (t:=λa=>Zzm a)
def Za7:Entry:=.tree (ZS (envX prog [] [] 7 8) Tryz.f99)
theorem ZbL:Za prog 99 Za7:=Zas (P:=prog) (n:=7) (k:=8) (l:=[]) (ol:=[]) trivial Tryz.func99 rfl (by kernel_rfl) Tryz.call99 trivial
abbrev ZK6:List Sh:=[Sh.agg (R.pair (R.int i64) (R.pair rcRG (R.pair (R.int i64) (R.pair (R.int u8) (R.pair (R.int u8) (R.pair R.bool rcCE)))))),Sh.agg (RY)]
abbrev Zzn:Rs:=Rs.one (Sh.one (R.int i64))
def ZDX (l:BRDT) (x:QT12):RT (Option (Int)):=
 .br (!(decide (x.1>=1)&&decide (x.1<=5))||smG l.2.1) (.br (decide (x.1>=1)&&decide (x.1<=5)) (.leaf (some (Zv5 l.2.1 x.2.1))) (.br (x.1==6||x.1==7) (.leaf (some (ZNU l.2.2.1))) (.leaf (some (0))))) (.leaf none)
def ZR2 (l:BRDT) (x:QT12):Int:=getO Zzn.dflt (ZDX l x).val
def ZDY (l:BRDT) (x:QT12):Bool:=okB (ZDX l x).val
def ZUR:Entry:=Zg ZK6 Zzn (λa=>some (ZDY a.1 a.2)) (λa=>ZR2 a.1 a.2)
theorem ZR0:Za prog 249 ZUR:=
 pureP 16447 [(99,Za7),(300,ZEY),(301,ZBc)] [] ZK6 Zzn ⟨ZbL,ZHR,Zxs,Tv⟩ Tryz.func249 Tryz.call249 trivial (t:=λa=>ZDX a.1 a.2)
abbrev Zv6:List Sh:=[Sh.agg (R.pair (R.pair ZF (R.pair (R.int i64) (R.pair (R.sl (R.int u8)) (R.pair (RY) (R.pair (R.int i64) R.bool))))) (R.pair rcCE (R.pair Zbe (R.pair (R.pair (R.int u16) (R.pair (R.int u8) (R.int i64))) (R.pair (R.int i64) (R.sl (R.pair (R.int u8) (R.int u8))))))))]
abbrev Zv7:Rs:=Rs.one (Sh.one (R.int i64))
def ZDT (s:SYST):RT (Int):=
 .br (Z3 s.1 !=7) (.leaf (0)) (.leaf (i64.wrap (s.2.2.2.2.1+1)))
def Zhw (s:SYST):Int:=(ZDT s).val
def ZrD:Entry:=Zg Zv6 Zv7 (λ_=>none) (λa=>Zhw a)
theorem Zp1:Za prog 193 ZrD:=
 pureQ 7 [(79,Zfr)] [] Zv6 Zv7 ⟨Zec,Tv⟩ Tryz.func193 Tryz.call193 trivial (t:=λa=>ZDT a)
abbrev Zv9:List Sh:=[Sh.agg (R.pair (R.int i64) (R.pair rcRG (R.pair (R.int i64) (R.pair (R.int u8) (R.pair (R.int u8) (R.pair R.bool rcCE)))))),Sh.agg (R.pair (R.pair ZF (R.pair (R.int i64) (R.pair (R.sl (R.int u8)) (R.pair (RY) (R.pair (R.int i64) R.bool))))) (R.pair rcCE (R.pair Zbe (R.pair (R.pair (R.int u16) (R.pair (R.int u8) (R.int i64))) (R.pair (R.int i64) (R.sl (R.pair (R.int u8) (R.int u8)))))))),Sh.agg Zdt]
abbrev ZlI:Rs:=Rs.one (Sh.agg Zz4)
def Zh3 (l:BRDT) (s:SYST) (i:INPT):RT (Option LINT):=
 let x1:=bif i.2.1 then i.2.2.2.1 else i.2.2.2.1
 let x2:=bif i.2.1 then i.2.2.2.2.1 else i.2.2.2.2.1
 let x3:=bif i.2.1 then i.2.2.2.2.2.1 else i.2.2.2.2.2.1
 let x4:=bif i.2.1 then i.2.2.2.2.2.2.1 else i.2.2.2.2.2.2.1
 let x5:=bif i.2.1 then i.2.2.2.2.2.2.2.1 else i.2.2.2.2.2.2.2.1
 let x6:=bif l.2.2.2.2.2.1 then andI u8 i.2.2.2.2.2.2.2.2.1 1==1 else vInt s.2.2.1
 let x7:=bif i.2.1 then x6 else x6
 .br (ZSf s.2.2.1) (.br (!i.1||ZDY l s.1.2.2.2.1) (.leaf (some ((i.1&&bif i.2.1 then decide (Zhw s>=ZR2 l s.1.2.2.2.1) else decide (Zhw s>=ZR2 l s.1.2.2.2.1),bif i.1 then i.2.1||Zcq s.2.2.2.1 else i.2.1||Zcq s.2.2.2.1,bif i.1 then bif i.2.1 then i.2.2.1 else i.2.2.1 else bif i.2.1 then i.2.2.1 else i.2.2.1,bif i.1 then x1 else x1,bif i.1 then x2 else x2,bif i.1 then x3 else x3,bif i.1 then x4 else x4,bif i.1 then x5 else x5,bif i.1 then x7 else x7)))) (.leaf none)) (.leaf none)
def ZrJ (l:BRDT) (s:SYST) (i:INPT):LINT:=getO ZlI.dflt (Zh3 l s i).val
def ZkZ (l:BRDT) (s:SYST) (i:INPT):Bool:=okB (Zh3 l s i).val
def ZDZ:Entry:=Zg Zv9 ZlI (λa=>some (ZkZ a.1 a.2.1 a.2.2)) (λa=>ZrJ a.1 a.2.1 a.2.2)
theorem ZHx:Za prog 192 ZDZ:=
 pureP 255 [(193,ZrD),(248,ZZC),(249,ZUR),(250,ZlV)] [] Zv9 ZlI ⟨Zp1,ZWZ,ZR0,ZlU,Tv⟩ Tryz.func192 Tryz.call192 trivial (t:=λa=>Zh3 a.1 a.2.1 a.2.2)
abbrev ZD0:List Sh:=[Sh.agg (R.pair (R.int i64) (R.pair rcRG (R.pair (R.int i64) (R.pair (R.int u8) (R.pair (R.int u8) (R.pair R.bool rcCE)))))),Sh.one (R.int u8)]
abbrev ZD1:Rs:=Rs.tup [Sh.one R.bool,Sh.one R.bool]
def ZLb (l:BRDT) (p:Int):RT (Bool×Bool):=
 .leaf ((bif !l.2.2.2.2.2.1 then bif p==l.2.2.2.1 then p==u8.wrap (l.2.2.2.1+1) else p==u8.wrap (l.2.2.2.1+1) else p==u8.wrap (l.2.2.2.1+1),!l.2.2.2.2.2.1&&(p==l.2.2.2.1||p==u8.wrap (l.2.2.2.1+1))))
def Zdz (l:BRDT) (p:Int):Bool×Bool:=(ZLb l p).val
def Zzo:Entry:=Zg ZD0 ZD1 (λ_=>none) (λa=>Zdz a.1 a.2)
theorem Zwa:Za prog 251 Zzo:=
 pureQ 63 [] [] ZD0 ZD1 trivial Tryz.func251 Tryz.call251 trivial (t:=λa=>ZLb a.1 a.2)
abbrev ZD2:List Sh:=[Sh.agg (R.pair (R.int i64) (R.pair rcRG (R.pair (R.int i64) (R.pair (R.int u8) (R.pair (R.int u8) (R.pair R.bool rcCE)))))),Sh.one (R.int u8)]
abbrev ZD3:Rs:=Rs.tup [Sh.one (R.int i64),Sh.one R.bool]
def ZLc (l:BRDT) (p:Int):RT (Int×Bool):=
 .leaf ((i64.wrap (u8.wrap (p-l.2.2.2.2.1)),decide (u8.wrap (p-l.2.2.2.2.1)<4)))
def ZfX (l:BRDT) (p:Int):Int×Bool:=(ZLc l p).val
def Zzp:Entry:=Zg ZD2 ZD3 (λ_=>none) (λa=>ZfX a.1 a.2)
theorem Zwb:Za prog 252 Zzp:=
 pureQ 127 [] [] ZD2 ZD3 trivial Tryz.func252 Tryz.call252 trivial (t:=λa=>ZLc a.1 a.2)
abbrev ZUT:List Sh:=[Sh.agg (R.pair (R.int i64) (R.pair rcRG (R.pair (R.int i64) (R.pair (R.int u8) (R.pair (R.int u8) (R.pair R.bool rcCE)))))),Sh.agg (R.pair (R.pair ZF (R.pair (R.int i64) (R.pair (R.sl (R.int u8)) (R.pair (RY) (R.pair (R.int i64) R.bool))))) (R.pair rcCE (R.pair Zbe (R.pair (R.pair (R.int u16) (R.pair (R.int u8) (R.int i64))) (R.pair (R.int i64) (R.sl (R.pair (R.int u8) (R.int u8)))))))),Sh.agg Zdt]
abbrev ZLl:Rs:=Rs.tup [Sh.agg (R.pair (R.pair ZF (R.pair (R.int i64) (R.pair (R.sl (R.int u8)) (R.pair (RY) (R.pair (R.int i64) R.bool))))) (R.pair rcCE (R.pair Zbe (R.pair (R.pair (R.int u16) (R.pair (R.int u8) (R.int i64))) (R.pair (R.int i64) (R.sl (R.pair (R.int u8) (R.int u8)))))))),Sh.one (R.int u8)]
def ZLk (l:BRDT) (s:SYST) (i:INPT):RT (Option (SYST×Int)):=
 let x1:=decide (s.1.2.2.2.1.1>=1)&&decide (s.1.2.2.2.1.1<=5)
 let x2:= !x1||smG l.2.1&&smC s.2.1
 let x3:= !x2
 let x4:=s.1.2.2.2.1.1 !=6&&l.2.2.2.2.2.1
 let p1:=(!(Zdz l (u8.wrap s.1.2.2.2.1.2.1)).2)::(s.1.2.2.2.1.1 !=6)::x4::x1::[]
 let x5:=x1||(x4||(!s.1.2.2.2.1.1 !=6||ZSi s.2.2.1))
 let x6:= !x5
 let x7:=orR p1 (ZEk s.2.2.1 (Zdz l (u8.wrap s.1.2.2.2.1.2.1)).1)
 let p2:=(!(ZfX l (u8.wrap s.1.2.2.2.1.2.1)).2)::((Zdz l (u8.wrap s.1.2.2.2.1.2.1)).2)::(s.1.2.2.2.1.1 !=6)::x4::x1::(!x7)::x6::x3::[]
 let x8:=ZR9 s.2.2.1 (Zdz l (u8.wrap s.1.2.2.2.1.2.1)).1
 let x9:=x8.1
 .br (i.2.2.1||(Z3 s.1 !=3|| !ZcG s.1.2.2.2.1.1)) (.leaf (some ((s,0)))) (.br (orR p2 (ZrX s.2.2.2.1 (ZfX l (u8.wrap s.1.2.2.2.1.2.1)).1)) (.br (x3||(x6||x7)) (.br (x3||x5) (.br (x2) (.leaf (some (((s.1,s.2.1,(R.sel Zbe x1 s.2.2.1 (R.sel Zbe x4 s.2.2.1 (R.sel Zbe (s.1.2.2.2.1.1 !=6) (vAck s.2.2.1).1 (R.sel Zbe ((Zdz l (u8.wrap s.1.2.2.2.1.2.1)).2) x9 s.2.2.1)))),s.2.2.2),bif x1 then Zqx l.2.1 s.2.1 s.1.2.2.2.1.2.1 else bif x4 then i.2.2.2.2.2.2.2.2.2 else bif s.1.2.2.2.1.1 !=6 then (vAck s.2.2.1).2 else bif (Zdz l (u8.wrap s.1.2.2.2.1.2.1)).2 then x8.2 else bif (ZfX l (u8.wrap s.1.2.2.2.1.2.1)).2 then ZLz s.2.2.2.1 (ZfX l (u8.wrap s.1.2.2.2.1.2.1)).1 else i.2.2.2.2.2.2.2.2.2)))) (.leaf none)) (.leaf none)) (.leaf none)) (.leaf none))
def wBus (l:BRDT) (s:SYST) (i:INPT):SYST×Int:=getO ZLl.dflt (ZLk l s i).val
def ZR5 (l:BRDT) (s:SYST) (i:INPT):Bool:=okB (ZLk l s i).val
def ZZx:Entry:=Zg ZUT ZLl (λa=>some (ZR5 a.1 a.2.1 a.2.2)) (λa=>wBus a.1 a.2.1 a.2.2)
theorem ZWP:Za prog 194 ZZx:=
 pureP 4956598223910189960238497791 [(79,Zfr),(99,Za7),(102,ZFf),(103,Zmw),(251,Zzo),(252,Zzp),(253,ZZD),(254,ZUX),(255,ZLy)] [] ZUT ZLl ⟨Zec,ZbL,ZHZ,Ziq,Zwa,Zwb,ZW2,ZR7,ZLw,Tv⟩ Tryz.func194 Tryz.call194 trivial (t:=λa=>ZLk a.1 a.2.1 a.2.2)
abbrev ZDV:List Sh:=[Sh.agg (R.pair (R.int i64) (R.pair rcRG (R.pair (R.int i64) (R.pair (R.int u8) (R.pair (R.int u8) (R.pair R.bool rcCE)))))),Sh.agg (R.pair (R.pair ZF (R.pair (R.int i64) (R.pair (R.sl (R.int u8)) (R.pair (RY) (R.pair (R.int i64) R.bool))))) (R.pair rcCE (R.pair Zbe (R.pair (R.pair (R.int u16) (R.pair (R.int u8) (R.int i64))) (R.pair (R.int i64) (R.sl (R.pair (R.int u8) (R.int u8)))))))),Sh.agg (RY)]
abbrev ZrG:Rs:=Rs.one (Sh.agg (R.pair (R.pair ZF (R.pair (R.int i64) (R.pair (R.sl (R.int u8)) (R.pair (RY) (R.pair (R.int i64) R.bool))))) (R.pair rcCE (R.pair Zbe (R.pair (R.pair (R.int u16) (R.pair (R.int u8) (R.int i64))) (R.pair (R.int i64) (R.sl (R.pair (R.int u8) (R.int u8)))))))))
def ZlH (l:BRDT) (s:SYST) (x:QT12):RT (Option SYST):=
 let x1:List (Int×Int):=[]++s.2.2.2.2.2++[(u8.wrap x.2.1,x.2.2.1)]
 let x2:=ZLr s.2.2.1 (Zdz l (u8.wrap x.2.1)).1 x.2.2.1
 let x30:=Zzu s.2.2.2.1 (ZfX l (u8.wrap x.2.1)).1 x.2.2.1
 .br (!x.1 !=7||smG l.2.1&&smC s.2.1) (.br (x.1 !=7) (.leaf (some ((s.1,Zbw l.2.1 s.2.1 x.2.1 x.2.2.1,s.2.2)))) (.br (!Nat.ble (List.length ([]++s.2.2.2.2.2)) most||Nat.ble (List.length x1) most) (.br (Nat.ble (List.length ([]++s.2.2.2.2.2)) most) (.br (!(Zdz l (u8.wrap x.2.1)).2||ZrU s.2.2.1 (Zdz l (u8.wrap x.2.1)).1 x.2.2.1) (.leaf (some ((s.1,s.2.1,(R.sel Zbe ((Zdz l (u8.wrap x.2.1)).2) x2 s.2.2.1),(R.sel ZZZ ((Zdz l (u8.wrap x.2.1)).2) s.2.2.2.1 (R.sel ZZZ ((ZfX l (u8.wrap x.2.1)).2) x30 s.2.2.2.1)),s.2.2.2.2.1,x1)))) (.leaf none)) (.leaf none)) (.leaf none))) (.leaf none)
def ZDW (l:BRDT) (s:SYST) (x:QT12):SYST:=getO ZrG.dflt (ZlH l s x).val
def ZrH (l:BRDT) (s:SYST) (x:QT12):Bool:=okB (ZlH l s x).val
def ZKZ:Entry:=Zg ZDV ZrG (λa=>some (ZrH a.1 a.2.1 a.2.2)) (λa=>ZDW a.1 a.2.1 a.2.2)
theorem ZKX:Za prog 195 ZKZ:=
 pureP 4095 [(101,Zmm),(251,Zzo),(252,Zzp),(256,ZLq),(257,ZEe)] [] ZDV ZrG ⟨Zml,Zwa,Zwb,ZLo,ZHB,Tv⟩ Tryz.func195 Tryz.call195 trivial (t:=λa=>ZlH a.1 a.2.1 a.2.2)
abbrev ZD6:List Sh:=[Sh.agg (R.pair (R.int i64) (R.pair rcRG (R.pair (R.int i64) (R.pair (R.int u8) (R.pair (R.int u8) (R.pair R.bool rcCE)))))),Sh.agg (R.pair (R.pair ZF (R.pair (R.int i64) (R.pair (R.sl (R.int u8)) (R.pair (RY) (R.pair (R.int i64) R.bool))))) (R.pair rcCE (R.pair Zbe (R.pair (R.pair (R.int u16) (R.pair (R.int u8) (R.int i64))) (R.pair (R.int i64) (R.sl (R.pair (R.int u8) (R.int u8)))))))),Sh.agg Zdt]
abbrev ZrN:Rs:=Rs.tup [Sh.agg (R.pair (R.pair ZF (R.pair (R.int i64) (R.pair (R.sl (R.int u8)) (R.pair (RY) (R.pair (R.int i64) R.bool))))) (R.pair rcCE (R.pair Zbe (R.pair (R.pair (R.int u16) (R.pair (R.int u8) (R.int i64))) (R.pair (R.int i64) (R.sl (R.pair (R.int u8) (R.int u8)))))))),Sh.agg ZM5,Sh.agg (R.pair Zz4 (R.pair (R.int u8) (R.pair (R.pair (R.int u16) (R.int u8)) R.bool)))]
def ZlN (l:BRDT) (s:SYST) (i:INPT):RT (Option (QT30)):=
 let x1:=ZEo s.2.2.1 i.2.2.2.2.2.2.2.2.1
 let x29:SYST:=(s.1,s.2.1,(R.sel Zbe (!l.2.2.2.2.2.1) x1 s.2.2.1),s.2.2.2)
 let x30:=wBus l x29 i
 let x31:=x30.1
 let x32:=x31.1
 let x33:= !i.2.2.1&&(Z3 s.1==3&&Zfp s.1.2.2.2.1.1)
 let x34:=ZrJ l x29 i
 let x35:=x30.2
 let x36:=clkX x32 x34 x35
 let x37:=x36.1
 let x38:=x31.2
 let x39:=x38.1
 let x40:=x38.2
 let x41:=x40.1
 let x42:=x40.2
 let x43:=x42.1
 let x44:=Zhw x29
 let x45:=x42.2.2
 let x46:SYST:=(x37,x39,x41,x43,x44,x45)
 let x47:=x36.2
 let x48:=x47.2.2.2.2.2.2.2.2.2.2.2.2.2.2.2.1
 let x49:=ZDW l x46 s.1.2.2.2.1
 let x50:=x49.2
 let x51:=x50.2
 let x52:=x51.2
 let x53:=x52.1
 let x54:Int:=bif x33 then x53.1 else x43.1
 let x55:=x53.2
 let x56:=x43.2
 let x57:Int:=bif x33 then x55.1 else x56.1
 let x58:Int:=bif x33 then x55.2 else x56.2
 let x59:=Zh9 (x54,x57,x58)
 let x60:=x59.2
 let x61:=x60.2
 let x62:List (Int×Int):=bif x33 then x50.1 else x39
 let x63:=x49.1
 let x64:=x63.1
 let x65:=x37.1
 let x118:=x63.2
 let x119:=x37.2
 let x120:=x118.2
 let x121:=x119.2
 let x122:=x120.2
 let x123:=x122.1
 let x124:=x121.2
 let x125:=x124.1
 let x130:=x122.2
 let x131:=x124.2
 let x132:=x60.1
 let x133:=x132.1
 let x134:=x132.2
 let x135:=x51.1
 let x136:=x135.2
 let x137:=x41.2
 let x138:=x136.2
 let x139:=x137.2
 let x140:=x138.2
 let x141:=x139.2
 let x142:=x140.2
 let x143:=x141.2
 let x144:=x142.2
 let x145:=x143.2
 let x146:=x144.2
 let x147:=x145.2
 let x148:=x146.2
 let x149:=x147.2
 let x150:=x148.2
 let x151:=x149.2
 let x152:=x150.2
 let x153:=x151.2
 let x154:=x152.2
 let x155:=x153.2
 let x156:=x154.2
 let x157:=x155.2
 let x158:=x156.2
 let x159:=x157.2
 let x160:=x158.2
 let x161:=x159.2
 let x162:=x160.2
 let x163:=x161.2
 let x164:=x162.2
 let x165:=x163.2
 let x166:=x164.2
 let x167:=x165.2
 let x168:=x166.2
 let x169:=x167.2
 let x170:=x168.2
 let x171:=x169.2
 let x172:=x59.1
 let x173:=x172.2
 let x174:=x52.2
 .br (ZkZ l x29 i) (.br (ZR5 l x29 i) (.br (ZM0 x32) (.br (!x33||ZrH l x46 s.1.2.2.2.1) (.br (!x48||(!x61||smG l.2.1&&smC x62)) (.leaf (some (((((R.sel ZF x33 x64 x65),bif x33 then x118.1 else x119.1,bif x33 then x120.1 else x121.1,(R.sel RY x33 x123 x125),bif x33 then x130.1 else x131.1,bif x33 then x130.2 else x131.2),bif x48 then bif x61 then Zbw l.2.1 x62 x133 x134 else x62 else x62,(bif x33 then x135.1 else x41.1,bif x33 then x136.1 else x137.1,bif x33 then x138.1 else x139.1,bif x33 then x140.1 else x141.1,bif x33 then x142.1 else x143.1,bif x33 then x144.1 else x145.1,bif x33 then x146.1 else x147.1,bif x33 then x148.1 else x149.1,bif x33 then x150.1 else x151.1,bif x33 then x152.1 else x153.1,bif x33 then x154.1 else x155.1,bif x33 then x156.1 else x157.1,bif x33 then x158.1 else x159.1,bif x33 then x160.1 else x161.1,bif x33 then x162.1 else x163.1,bif x33 then x164.1 else x165.1,bif x33 then x166.1 else x167.1,bif i.2.2.1 then 0 else bif x33 then x168.1 else x169.1,bif x33 then x170.1 else x171.1,bif x33 then x170.2 else x171.2),(bif x48 then bif x61 then x172.1 else x54 else x54,bif x48 then bif x61 then x173.1 else x57 else x57,bif i.2.2.1 then 0 else bif x48 then bif x61 then x173.2 else x58 else x58),bif x33 then x174.1 else x44,bif x33 then x174.2 else x45),x47,x34,x35,(bif x48 then bif x61 then x133 else 0 else 0,bif x48 then bif x61 then x134 else 0 else 0),x48&&x61)))) (.leaf none)) (.leaf none)) (.leaf none)) (.leaf none)) (.leaf none)
def ZD7 (l:BRDT) (s:SYST) (i:INPT):QT30:=getO ZrN.dflt (ZlN l s i).val
def ZrO (l:BRDT) (s:SYST) (i:INPT):Bool:=okB (ZlN l s i).val
def Zzs:Entry:=Zg ZD6 ZrN (λa=>some (ZrO a.1 a.2.1 a.2.2)) (λa=>ZD7 a.1 a.2.1 a.2.2)
theorem Zwh:Za prog 121 Zzs:=
 pureP 131071 [(27,ZFQ),(79,Zfr),(100,Zsq),(101,Zmm),(191,ZLE),(192,ZDZ),(193,ZrD),(194,ZZx),(195,ZKZ),(196,Zp8)] [] ZD6 ZrN ⟨ZIX,Zec,ZqA,Zml,ZLC,ZHx,Zp1,ZWP,ZKX,Zwn,Tv⟩ Tryz.func121 Tryz.call121 trivial (t:=λa=>ZlN a.1 a.2.1 a.2.2)
abbrev Zp5:List Sh:=[Sh.agg (R.pair ZF (R.pair (R.int i64) (R.pair (R.sl (R.int u8)) (R.pair (RY) (R.pair (R.int i64) R.bool))))),Sh.one (R.int i64),Sh.one (R.int u8)]
abbrev Zp6:Rs:=Rs.one (Sh.agg (RY))
def Zh6 (c:CORT) (s:Int) (d:Int):RT TY:=
 let x1:Int:=bif ZcG c.2.2.2.1.1 then d else c.2.2.2.1.2.2.1
 .leaf ((c.2.2.2.1.1,c.2.2.2.1.2.1,bif s==3 then x1 else c.2.2.2.1.2.2.1,bif s==3 then bif c.2.2.2.1.1==1||c.2.2.2.1.1==8 then ZfL c.1.1 x1 else c.2.2.2.1.2.2.2 else c.2.2.2.1.2.2.2))
def Zal (c:CORT) (s:Int) (d:Int):QT12:=(Zh6 c s d).val
def Zh7:Entry:=Zg Zp5 Zp6 (λ_=>none) (λa=>Zal a.1 a.2.1 a.2.2)
theorem Zhz:Za prog 123 Zh7:=
 pureQ 255 [(103,Zmw),(116,ZBj)] [] Zp5 Zp6 ⟨Ziq,Zxv,Tv⟩ Tryz.func123 Tryz.call123 trivial (t:=λa=>Zh6 a.1 a.2.1 a.2.2)
abbrev ZK7:List Sh:=[Sh.one (R.int i64)]
abbrev ZK9:Rs:=Rs.one (Sh.one (R.int i64))
def ZK8 (s:Int):RT (Int):=
 .br (Zc s) (.leaf (3)) (.br (s==5) (.leaf (2)) (.leaf (1)))
def ZkP (s:Int):Int:=(ZK8 s).val
def ZLa:Entry:=Zg ZK7 ZK9 (λ_=>none) (λa=>ZkP a)
theorem ZR3:Za prog 200 ZLa:=
 pureQ 79 [(104,ZgY)] [] ZK7 ZK9 ⟨Zgi,Tv⟩ Tryz.func200 Tryz.call200 trivial (t:=λa=>ZK8 a)
abbrev ZKS:List Sh:=[Sh.agg ZbN,Sh.agg ZF,Sh.agg Zz4]
abbrev ZKT:Rs:=Rs.one (Sh.agg ZbN)
def ZUO (e:EVTT) (c:TC) (l:LINT):RT EVTT:=
 .leaf ((e.1,e.2.1,e.2.2.1,l,c.2.2.2.2.2.2.2.1,c.2.2.2.2.2.2.1,c.2.2.2.2.2.2.2.2.2.1,c.2.2.2.2.2.2.2.2.1,e.2.2.2.2.2.2.2.2))
def Zff (e:EVTT) (c:TC) (l:LINT):EVTT:=(ZUO e c l).val
def ZKU:Entry:=Zg ZKS ZKT (λ_=>none) (λa=>Zff a.1 a.2.1 a.2.2)
theorem ZRX:Za prog 198 ZKU:=
 pureQ 127 [] [] ZKS ZKT trivial Tryz.func198 Tryz.call198 trivial (t:=λa=>ZUO a.1 a.2.1 a.2.2)
abbrev ZEa:List Sh:=[Sh.agg (R.pair ZF (R.pair (R.int i64) (R.pair (R.sl (R.int u8)) (R.pair (RY) (R.pair (R.int i64) R.bool))))),Sh.one (R.int i64),Sh.one (R.int u8)]
abbrev ZrP:Rs:=Rs.one (Sh.one (R.sl (R.int u8)))
def ZlP (c:CORT) (s:Int) (d:Int):RT (Option (List Int)):=
 let x1:List Int:=[]++c.2.2.1++[(Zal c s d).2.2.1]
 .br (Nat.ble (List.length ([]++c.2.2.1)) most) (.br (!s==3||Nat.ble (List.length x1) most) (.leaf (some (bif s==3 then x1 else []++c.2.2.1))) (.leaf none)) (.leaf none)
def ZEb (c:CORT) (s:Int) (d:Int):List Int:=getO ZrP.dflt (ZlP c s d).val
def ZrQ (c:CORT) (s:Int) (d:Int):Bool:=okB (ZlP c s d).val
def Zzt:Entry:=Zg ZEa ZrP (λa=>some (ZrQ a.1 a.2.1 a.2.2)) (λa=>ZEb a.1 a.2.1 a.2.2)
theorem ZLi:Za prog 201 Zzt:=
 pureP 255 [(123,Zh7)] [] ZEa ZrP ⟨Zhz,Tv⟩ Tryz.func201 Tryz.call201 trivial (t:=λa=>ZlP a.1 a.2.1 a.2.2)
abbrev ZlJ:List Sh:=[Sh.agg (R.pair ZF (R.pair (R.int i64) (R.pair (R.sl (R.int u8)) (R.pair (RY) (R.pair (R.int i64) R.bool))))),Sh.agg Zz4,Sh.one (R.int u8)]
abbrev Zhx:Rs:=Rs.tup [Sh.agg ZF,Sh.one R.bool]
def ZeQ (c:CORT) (l:LINT) (d:Int):RT (Option (TC×Bool)):=
 let x1:TC×Bool:=((0,(0,0,0,0,0,0,0,(false,false,false,false,false,false,false),0,0),false,false,false,0,false,false,false,false,false,false,false),false)
 .br l.2.2.1 (.leaf (some (x1))) (.br (ZeZ c c.2.2.2.2.1 d) (.br (!ZjH c.2.2.2.2.1 (ZhJ c c.2.2.2.2.1 d).1) (.leaf (some (x1))) (.br (Zj (Zm c.1 l) c.2.1 (ZhJ c c.2.2.2.2.1 d).2).2 (.leaf (some (x1))) (.leaf (some ((finX (Zm c.1 l) c.2.1 (ZhJ c c.2.2.2.2.1 d).2 l,true)))))) (.leaf none))
def Zh4 (c:CORT) (l:LINT) (d:Int):TC×Bool:=getO Zhx.dflt (ZeQ c l d).val
def ZgJ (c:CORT) (l:LINT) (d:Int):Bool:=okB (ZeQ c l d).val
def Zjk:Entry:=Zg ZlJ Zhx (λa=>some (ZgJ a.1 a.2.1 a.2.2)) (λa=>Zh4 a.1 a.2.1 a.2.2)
theorem Zwc:Za prog 199 Zjk:=
 pureP 16383 [(42,ZFw),(84,Znh),(89,ZNn),(90,ZOf),(98,ZXP)] [] ZlJ Zhx ⟨ZsQ,Zng,ZFe,ZFM,ZN3,Tv⟩ Tryz.func199 Tryz.call199 trivial (t:=λa=>ZeQ a.1 a.2.1 a.2.2)
def Zcu:Entry:=.tree (ZS (envX prog [] [] 541622271 8) Tryz.f122)
theorem Zdn:Za prog 122 Zcu:=Zas (P:=prog) (n:=541622271) (k:=8) (l:=[]) (ol:=[]) trivial Tryz.func122 rfl (by kernel_rfl) Tryz.call122 trivial
def ZcF:Entry:=.tree (ZS (envX prog [] [] 63 8) Tryz.f197)
theorem Zhi:Za prog 197 ZcF:=Zas (P:=prog) (n:=63) (k:=8) (l:=[]) (ol:=[]) trivial Tryz.func197 rfl (by kernel_rfl) Tryz.call197 trivial
def ZbS:Entry:=.tree (ZS (envX prog [(30,Zxy),(79,Zfr),(84,Znh),(197,ZcF),(198,ZKU),(199,Zjk),(200,ZLa),(201,Zzt)] [] 32767 8) Tryz.f124)
theorem ZcE:Za prog 124 ZbS:=Zas (P:=prog) (n:=32767) (k:=8) (l:=[(30,Zxy),(79,Zfr),(84,Znh),(197,ZcF),(198,ZKU),(199,Zjk),(200,ZLa),(201,Zzt)]) (ol:=[]) ⟨ZtJ,Zec,Zng,Zhi,ZRX,Zwc,ZR3,ZLi,Tv⟩ Tryz.func124 rfl (by kernel_rfl) Tryz.call124 trivial
abbrev ZUP:List Sh:=[Sh.agg (R.pair (R.int i64) (R.pair rcRG (R.pair (R.int i64) (R.pair (R.int u8) (R.pair (R.int u8) (R.pair R.bool rcCE)))))),Sh.one (R.sl (R.int u8))]
abbrev ZK1:Rs:=Rs.tup [Sh.agg (R.pair (R.sl ZM5) (R.pair (R.sl Zz5) (R.pair (R.sl ZbN) (R.pair (R.sl ZF) (R.pair (R.pair ZF (R.pair (R.int i64) (R.pair (R.sl (R.int u8)) (R.pair (RY) (R.pair (R.int i64) R.bool))))) (R.pair rcCE (R.pair Zbe (R.pair (R.pair (R.int u16) (R.pair (R.int u8) (R.int i64))) (R.pair (R.int i64) (R.sl (R.pair (R.int u8) (R.int u8)))))))))))),Sh.one (R.int i64)]
def ZWM:LS:={n:=119,slots:=[(2,.fix (A.loc 0 0)),(4,.fix (A.loc 1 0)),(6,.fix (A.loc 2 0)),(8,.fix (A.loc 3 0)),(9,.fix (A.loc 4 0)),(32,.code (Sh.one (R.sl Zdt))),(33,.code (Sh.one (R.int i64))),(34,.code (Sh.one (R.int i64)))],boxes:=[[.many (R.pair (R.int i64) (R.pair rcRG (R.pair (R.int i64) (R.pair (R.int u8) (R.pair (R.int u8) (R.pair R.bool rcCE))))))],[.many (R.pair (R.sl ZM5) (R.pair (R.sl Zz5) (R.pair (R.sl ZbN) (R.pair (R.sl ZF) (R.pair (R.pair ZF (R.pair (R.int i64) (R.pair (R.sl (R.int u8)) (R.pair (RY) (R.pair (R.int i64) R.bool))))) (R.pair rcCE (R.pair Zbe (R.pair (R.pair (R.int u16) (R.pair (R.int u8) (R.int i64))) (R.pair (R.int i64) (R.sl (R.pair (R.int u8) (R.int u8))))))))))))],[.many (R.pair (R.pair ZF (R.pair (R.int i64) (R.pair (R.sl (R.int u8)) (R.pair (RY) (R.pair (R.int i64) R.bool))))) (R.pair rcCE (R.pair Zbe (R.pair (R.pair (R.int u16) (R.pair (R.int u8) (R.int i64))) (R.pair (R.int i64) (R.sl (R.pair (R.int u8) (R.int u8))))))))],[.tip 0,.tip 1,.tip 2,.tip 3,.many (R.pair (R.pair ZF (R.pair (R.int i64) (R.pair (R.sl (R.int u8)) (R.pair (RY) (R.pair (R.int i64) R.bool))))) (R.pair rcCE (R.pair Zbe (R.pair (R.pair (R.int u16) (R.pair (R.int u8) (R.int i64))) (R.pair (R.int i64) (R.sl (R.pair (R.int u8) (R.int u8))))))))],[.many ZF]],stgs:=[⟨R.pair (R.int i64) (R.pair (R.int u16) (R.pair (R.int u8) (R.pair R.bool (R.pair R.bool (R.pair R.bool (R.pair R.bool (R.pair R.bool Zz4))))))),72,false⟩,⟨R.pair (R.int i64) (R.pair (RY) (R.pair (R.int i64) (R.pair (R.int i64) (R.pair R.bool R.bool)))),125,false⟩,⟨R.pair (R.int i64) (R.pair (R.int i64) (R.pair (R.sl (R.int u8)) (R.pair Zz4 (R.pair R.bool (R.pair R.bool (R.pair R.bool (R.pair R.bool (R.pair (R.int u16) (R.int u8))))))))),108,false⟩,⟨R.pair (R.int i64) (R.pair ZeX (R.pair R.bool (R.pair R.bool (R.pair R.bool (R.pair (R.int u8) rcF7))))),38,false⟩]}
def Zfg (a:List INPT×Int×Int×BRDT×RUNT×SYST×SYST×TC×List PINT×List ITMT×List EVTT×List TC×PUnit):RT (Option (Go1 (List INPT×Int×Int×BRDT×RUNT×SYST×SYST×TC×List PINT×List ITMT×List EVTT×List TC×PUnit))):=
 let x1:INPT:=R.get Zdt a.1 a.2.2.1
 let x2:=ZrO a.2.2.2.1 a.2.2.2.2.2.1 x1
 let x3:= !x2
 let x4:=ZD7 a.2.2.2.1 a.2.2.2.2.2.1 x1
 let x5:=x4.2
 let x6:List PINT:=a.2.2.2.2.2.2.2.2.1++[x5.1]
 let x7:=Nat.ble (List.length x6) most
 let x8:= !x7
 let x9:Int:=bif x1.2.2.1 then 10 else Z3 a.2.2.2.2.2.1.1
 let x10:=x9==8
 let x11:=x9==9
 let x12:=x9==10
 let x13:Int:=bif x10 then 2 else bif x11 then 3 else bif x12 then 4 else 1
 let x14:=x13 !=1
 let x15:= !x14
 let x16:=i64.wrap (iN (List.length a.2.2.2.2.2.2.2.2.2.1)-1)
 let x17:=decide (x16>=0)
 let x18:= !x17
 let x19:=Zf x16 (List.length a.2.2.2.2.2.2.2.2.2.1)
 let x20:=x18||x19
 let x21:= !x20
 let x22:ITMT:=R.get Zz5 a.2.2.2.2.2.2.2.2.2.1 x16
 let x23:=x22.1
 let x24:=x23==x13
 let x25:= !x24
 let x26:=x18||(x25||x19)
 let x27:=x22.2
 let x28:=x27.2
 let x29:=x28.2
 let x30:=x29.2
 let x31:=x30.1==a.2.2.2.2.2.1.1.1.2.2.1
 let p9:=(!x31)::x25::x18::(!x26)::x21::x15::[]
 let x32:=orR p9 x19
 let x33:= !x32
 let x34:=x15||(x21||x26)
 let x35:= !x34
 let x36:=x15||x20
 let x37:= !x36
 let x38:=a.2.2.2.2.2.1.1.1.2.2.2.2.2.2.2.2.2.2.2.2
 let x39:=x17&&(x24&&(x31&&x30.2==x38))
 let x40:= !x39
 let x41:= !x19
 let x42:=x15||(x40||(x41||x19))
 let x43:= !x42
 let p2:=x43::x37::x35::x33::[]
 let x44:=x15||(x40||x19)
 let x45:= !x44
 let p8:=x14::x45::p2
 let p10:=x39::x15::x45::p2
 let x46:=x5.2
 let x47:=x46.2
 let x48:=x47.1
 let x49:=Zal a.2.2.2.2.2.1.1 x9 x48
 let x50:=x49.2
 let x51:=x50.2
 let x52:QT12:=(bif x10 then 0 else bif x11 then 0 else bif x12 then 0 else x49.1,bif x10 then 0 else bif x11 then a.2.2.2.2.2.1.1.1.2.1.2.2.2.2.2.2.2.2.2 else bif x12 then 0 else x50.1,bif x10 then 0 else bif x11 then 0 else bif x12 then 0 else x51.1,bif x10 then 0 else bif x11 then 0 else bif x12 then 0 else x51.2)
 let x53:List ITMT:=a.2.2.2.2.2.2.2.2.2.1++[(x13,x52,0,1,a.2.2.2.2.2.1.1.1.2.2.1,x38)]
 let x54:=Nat.ble (List.length x53) most
 let x55:=orR p10 x54
 let x56:= !x55
 let p3:=x56::x8::x3::(!Zf a.2.2.1 (List.length a.1))::[]
 let x57:=x9==1
 let x58:= !x57||x54
 let x59:= !x58
 let p14:=x57::x59::p8
 let p18:=x41::p14
 let x60:=x9==7
 let x61:= !x60
 let x62:=setI a.2.2.2.2.2.2.2.2.2.1 x16 (x23,x52,x28)
 let x63:=Zf x16 (List.length x62)
 let x64:= !x63||x63
 let x65:=x61||x64
 let x66:= !x65
 let p21:=x66::p18
 let x67:=x61||x63
 let x68:= !x67
 let p23:=x68::p21
 let x69:=x60||x64
 let p26:=x60::(!x69)::p23
 let x70:=orR p26 x63
 let x71:= !x70
 let p6:=x71::p3
 let x72:=orR p23 x69
 let x73:= !x72
 let p7:=x73::p6
 let x74:=orR p21 x67
 let x75:= !x74
 let p12:=x75::p7
 let x76:=orR p18 x65
 let x77:= !x76
 let p13:=x77::p12
 let x78:=orR p14 x19
 let x79:= !x78
 let p17:=x79::p13
 let x80:=orR p8 x58
 let x81:= !x80
 let p19:=x81::p17
 let x82:=orR p2 x44
 let x83:= !x82
 let p22:=x83::p19
 let x84:=x33||(x35||(x37||x42))
 let x85:= !x84
 let p25:=x85::p22
 let x86:=x33||(x35||x36)
 let x87:= !x86
 let p27:=x87::p25
 let x88:=x33||x34
 let x89:= !x88
 let p29:=x89::p27
 let p30:=x33::p29
 let x90:Nat:=List.length a.2.2.2.2.2.2.2.2.2.2.2.1
 let x91:=iN x90
 let x92:=decide (x91>0)
 let x93:=i64.wrap (x91-1)
 let x94:= !x92||Zf x93 x90
 let x95:= !x94
 let x96:=x46.1
 let x97:=x96.2.2.1
 let x98:= !x97
 let x99:=Nat.ble (List.length ([]++a.2.2.2.2.2.1.1.2.2.1)) most
 let x100:= !x99
 let x101:LINT:=(false,false,false,false,false,false,false,false,false)
 let x102:LINT×Bool×Bool×Bool×Bool×Int×Int:=(x101,false,false,false,false,0,0)
 let x103:List EVTT:=a.2.2.2.2.2.2.2.2.2.2.1++[Zff (6,a.2.2.2.2.2.1.1.2.1,[]++a.2.2.2.2.2.1.1.2.2.1,x102) a.2.2.2.2.2.1.1.1 x96]
 let x104:=Nat.ble (List.length x103) most
 let x105:TC:=R.get ZF a.2.2.2.2.2.2.2.2.2.2.2.1 x93
 let x151:List TC:=[(R.sel ZF x92 x105 a.2.2.2.2.2.2.2.1)]
 let x152:List TC:=a.2.2.2.2.2.2.2.2.2.2.2.1++x151
 let x153:= !x104||Nat.ble (List.length x152) most
 let p1:=(!x153)::x100::(!Zc3 a.2.2.2.2.2.1.1)::x98::[]
 let x154:=orR p1 x104
 let x155:= !x154
 let x156:=x98||(!Zc3 a.2.2.2.2.2.1.1||(x100||x153))
 let x157:= !x156
 let x158:=x98||(!Zc3 a.2.2.2.2.2.1.1||x99)
 let x159:= !x158
 let p4:=x159::x157::x155::x95::[]
 let x160:List EVTT:=(bif Zc3 a.2.2.2.2.2.1.1 then x103 else a.2.2.2.2.2.2.2.2.2.2.1)++[Zff (4,0,[],x102) a.2.2.2.2.2.1.1.1 x96]
 let x161:=Nat.ble (List.length x160) most
 let x162:=x4.1
 let x163:List TC:=(bif Zc3 a.2.2.2.2.2.1.1 then x152 else a.2.2.2.2.2.2.2.2.2.2.2.1)++[x162.1.1]
 let x164:= !x161||Nat.ble (List.length x163) most
 let x165:=x98||(!x164||x161)
 let x166:= !x165
 let p5:=x166::p4
 let x167:=x98||x164
 let x168:= !x167
 let p11:=x97::x168::p5
 let x169:=ZgJ a.2.2.2.2.2.1.1 x96 x48
 let x170:= !x169
 let p15:=x170::p11
 let x171:=Zh4 a.2.2.2.2.2.1.1 x96 x48
 let x172:=x171.2
 let x173:= !x172
 let x174:=ZrQ a.2.2.2.2.2.1.1 (Z3 a.2.2.2.2.2.1.1) x48
 let x175:= !x174
 let x176:List EVTT:=a.2.2.2.2.2.2.2.2.2.2.1++[Zff (ZkP a.2.2.2.2.2.1.1.2.1,a.2.2.2.2.2.1.1.2.1,ZEb a.2.2.2.2.2.1.1 (Z3 a.2.2.2.2.2.1.1) x48,x102) (Zm a.2.2.2.2.2.1.1.1 x96) x96]
 let x177:=Nat.ble (List.length x176) most
 let x178:List TC:=a.2.2.2.2.2.2.2.2.2.2.2.1++[x171.1]
 let x179:= !x177||Nat.ble (List.length x178) most
 let x180:=x173||(x175||(!x179||x177))
 let x181:= !x180
 let p16:=x181::p15
 let x182:=x173||(x175||x179)
 let x183:= !x182
 let p20:=x183::p16
 let x184:=x173||x174
 let x185:= !x184
 let p24:=x185::p20
 let x186:=x47.2
 let x187:=x186.2
 let x188:= !x187
 let x189:List EVTT:=bif x172 then x176 else a.2.2.2.2.2.2.2.2.2.2.1
 let x190:List EVTT:=x189++[(5,0,[],x101,false,false,false,false,x186.1)]
 let x191:=Nat.ble (List.length x190) most
 let x192:List TC:=bif x172 then x178 else a.2.2.2.2.2.2.2.2.2.2.2.1
 let x193:List TC:=x192++x151
 let x194:= !x191||Nat.ble (List.length x193) most
 let x195:=x188||(!x194||x191)
 let p28:=x188::(!x195)::p24
 let x196:=orR p28 x194
 let x197:= !x196
 let p31:=x197::p30
 let x198:=orR p24 x195
 let x199:= !x198
 let p32:=x199::p31
 let x200:=orR p20 x184
 let x201:= !x200
 let p33:=x201::p32
 let x202:=orR p16 x182
 let x203:= !x202
 let p34:=x203::p33
 let x204:=orR p15 x180
 let x205:= !x204
 let p35:=x205::p34
 let x206:=orR p11 x169
 let x207:= !x206
 let p36:=x207::p35
 let x208:=orR p5 x167
 let x209:= !x208
 let p37:=x209::p36
 let x210:=orR p4 x165
 let x211:= !x210
 let p38:=x211::p37
 let x212:=x95||(x155||(x157||x158))
 let x213:= !x212
 let p39:=x213::p38
 let x214:=x95||(x155||x156)
 let x215:= !x214
 let p40:=x215::p39
 let x216:=x95||x154
 let p41:=(!x216)::p40
 let x217:ITMT:=R.get Zz5 x62 x16
 let x218:=x217.1
 let x219:=x217.2
 let x220:=x219.1
 let x221:=x219.2
 let x222:=x221.1
 let x223:=x221.2
 .br (decide (a.2.2.1<a.2.1)) (.br (orR p41 x94) (.br (orR p40 x216) (.br (orR p39 x214) (.br (orR p38 x212) (.br (orR p37 x210) (.br (orR p36 x208) (.br (orR p35 x206) (.br (orR p34 x204) (.br (orR p33 x202) (.br (orR p32 x200) (.br (orR p31 x198) (.br (orR p30 x196) (.br (orR p29 x32) (.br (orR p27 x88) (.br (orR p25 x86) (.br (orR p22 x84) (.br (orR p19 x82) (.br (orR p17 x80) (.br (orR p13 x78) (.br (orR p12 x76) (.br (orR p7 x74) (.br (orR p6 x72) (.br (orR p3 x70) (.br (!Zf a.2.2.1 (List.length a.1)||(x3||(x8||x55))) (.br (!Zf a.2.2.1 (List.length a.1)||(x3||x7)) (.br (!Zf a.2.2.1 (List.length a.1)||x2) (.br (Zf a.2.2.1 (List.length a.1)) (.leaf (some (Go1.cont (a.1,a.2.1,i64.wrap (a.2.2.1+1),a.2.2.2.1,a.2.2.2.2.1,x162,a.2.2.2.2.2.2.1,a.2.2.2.2.2.2.2.1,x6,bif x14 then bif x39 then setI a.2.2.2.2.2.2.2.2.2.1 x16 (x23,x27.1,x28.1,i64.wrap (x29.1+1),x30) else x53 else bif x57 then x53 else bif x60 then setI x62 x16 (x218,x220,i64.wrap (x222+1),x223) else setI x62 x16 (x218,x220,x222,i64.wrap (x223.1+1),x223.2),bif x97 then x160 else bif x187 then x190 else x189,bif x97 then x163 else bif x187 then x193 else x192,PUnit.unit)))) (.leaf none)) (.leaf none)) (.leaf none)) (.leaf none)) (.leaf none)) (.leaf none)) (.leaf none)) (.leaf none)) (.leaf none)) (.leaf none)) (.leaf none)) (.leaf none)) (.leaf none)) (.leaf none)) (.leaf none)) (.leaf none)) (.leaf none)) (.leaf none)) (.leaf none)) (.leaf none)) (.leaf none)) (.leaf none)) (.leaf none)) (.leaf none)) (.leaf none)) (.leaf none)) (.leaf none)) (.leaf (some (Go1.brk (a.1,a.2.1,a.2.2.1,a.2.2.2.1,a.2.2.2.2.1,a.2.2.2.2.2.1,a.2.2.2.2.2.2.1,a.2.2.2.2.2.2.2.1,a.2.2.2.2.2.2.2.2.1,a.2.2.2.2.2.2.2.2.2.1,a.2.2.2.2.2.2.2.2.2.2.1,a.2.2.2.2.2.2.2.2.2.2.2.1,PUnit.unit))))
def ZK3:Ora:=Zbm false ZWM Zfg (λa=>1000000000000)
theorem ZK2:Za1 (envX prog [(30,Zxy),(79,Zfr),(119,ZWN),(120,ZrM),(121,Zzs),(122,Zcu),(123,Zh7),(124,ZbS)] [] 524287 8) (.block 0 (.loop (Zae Tryz.f63.body 0))) ZK3:=
 loopP ⟨ZtJ,Zec,ZK4,Zp2,Zwh,Zdn,Zhz,ZcE,Tv⟩
def ZK0 (b:BRDT) (l:List Int):RT (Option (RUNT×Int)):=
 let x1:SYST:=(((0,(0,0,0,0,0,0,0,(false,false,false,false,false,false,false),0,0),false,false,false,0,false,false,false,false,false,false,false),0,[],(0,0,0,0),0,false),[],(0,false,false,false,false,0,0,false,false,false,false,false,0,0,0,0,0,0,0,false),(0,0,0),0,[])
 let x2:RUNT:=([],[],[],[],x1)
 let x3:List INPT×Int×Int×BRDT×RUNT×SYST×SYST×TC×List PINT×List ITMT×List EVTT×List TC×PUnit:=(Zbj l,iN (List.length (Zbj l)),0,b,x2,(wNew b).1,x1,(wNew b).1.1.1,[],[],[],[],())
 let x4:=runF false Zfg (λa=>1000000000000) x3
 let x5:SYST×SYST×TC×List PINT×List ITMT×List EVTT×List TC×PUnit:=(getO (false,x3) x4).2.2.2.2.2.2
 let x6:=x5.1
 let x7:=x6.1
 let x8:=Zc3 x7
 let x9:= !x8
 let x10:=x5.2.2
 let x11:=x10.2
 let x12:=x11.2
 let x13:=x12.2
 let x14:=x13.2.1
 let x15:Nat:=List.length x14
 let x16:=iN x15
 let x17:=decide (x16>0)
 let x18:=i64.wrap (x16-1)
 let x19:=x7.2
 let x20:List Int:=[]++x19.2.1
 let x21:=Nat.ble (List.length x20) most
 let x22:=x13.1
 let x23:List EVTT:=x22++[(7,x19.1,x20,(false,false,false,false,false,false,false,false,false),false,false,false,false,0,0)]
 let x24:TC:=R.get ZF x14 x18
 let x78:List TC:=x14++[(R.sel ZF x17 x24 (getO (false,x3) x4).2.2.2.2.2.2.2.2.1)]
 let x79:=x11.1
 let x80:=x12.1
 .br (ZRZ b) (.br ((wNew b).2 !=0) (.leaf (some ((x2,(wNew b).2)))) (.br (Zk0 l) (.br (okB x4) (.br (x9||(!x17||Zf x18 x15)) (.br (x9||(!x21||Nat.ble (List.length x23) most)) (.br (x9||x21) (.br (x9||Nat.ble (List.length x78) most) (.br (x8) (.leaf (some (((x79,x80,x23,x78,x6),0)))) (.leaf (some (((x79,x80,x22,x14,x6),0))))) (.leaf none)) (.leaf none)) (.leaf none)) (.leaf none)) (.leaf none)) (.leaf none))) (.leaf none)
def wRun (b:BRDT) (l:List Int):RUNT×Int:=getO ZK1.dflt (ZK0 b l).val
def ZRY (b:BRDT) (l:List Int):Bool:=okB (ZK0 b l).val
def ZZw:Entry:=Zg ZUP ZK1 (λa=>some (ZRY a.1 a.2)) (λa=>wRun a.1 a.2)
theorem ZWK:Za prog 63 ZZw:=
 pureP 524287 [(30,Zxy),(79,Zfr),(119,ZWN),(120,ZrM),(121,Zzs),(122,Zcu),(123,Zh7),(124,ZbS)] [(0,ZK3)] ZUP ZK1 ⟨ZtJ,Zec,ZK4,Zp2,Zwh,Zdn,Zhz,ZcE,Tv⟩ Tryz.func63 Tryz.call63 ⟨ZK2,Tv⟩ (t:=λa=>ZK0 a.1 a.2)
end
end Go.Proofs.YtghoimllhpjkjaaGreat
