import Derived.Test.YtpnjbfjomebppaaGreatMemD
import Derived.RangeFuncNested
import Derived.RangeFuncLeaves
import Derived.Shelf.Abstract
import Derived.OwnWalkIn
import Derived.TacticsInMore
import Derived.LoopNIn
import Derived.LoopIn
import Derived.Test.YtpnjbfjomebppaaGreatS3Clo
import Derived.Test.YtpnjbfjomebppaaGreatMakeOk5
import Derived.Test.YtpnjbfjomebppaaGreatPicL
set_option linter.unusedVariables false
set_option linter.unusedSimpArgs false
namespace Go.Proofs.YtpnjbfjomebppaaGreat
open Go Go.S3 Go.Proofs Go.Proofs.Cells Go.RowKit Go.Shelf
attribute [local go_sem] Oper.semAt_some
noncomputable section
def Held (n₀:Nat) (W:World) (sv:Value) (l:List Cell):Prop:=
 (∃a cap,sv=.slice a 0 cap/\l=[])\/∃b off cap,sv=.slice (some ⟨b,off,none⟩) l.length cap/\b<n₀/\
  ∀j,j<l.length->W.cell? ⟨b,off+j*2,none⟩=some (.int .u16 (el l j).1)/\W.cell? ⟨b,off+j*2+1,none⟩=some (.int .u8 (el l j).2)
theorem Held.mono {n₀ n₁:Nat} {W:World} {sv:Value} {l:List Cell} (h:Held n₀ W sv l) (hn:n₀<=n₁):Held n₁ W sv l:=
 h.elim .inl λ⟨b,off,cap,e,hb,hc⟩=>.inr ⟨b,off,cap,e,by omega,hc⟩
end
end Go.Proofs.YtpnjbfjomebppaaGreat
namespace Go.Proofs.YtpnjbfjomebppaaGreat
open Go Go.S3 Go.Proofs Go.Proofs.Cells Go.RowKit Go.Shelf
attribute [local go_sem] Oper.semAt_some
noncomputable section
end
end Go.Proofs.YtpnjbfjomebppaaGreat
open Go.Proofs.Tryz (prog)
open Go.IntKind (u8 u16 i64)
open Go Go.S3 Go.Proofs
set_option maxRecDepth 100000
namespace Go.Proofs.YtpnjbfjomebppaaGreat
noncomputable section
abbrev Z1f:List Sh:=[Sh.agg (R.Pq Kb Ka),So Kb]
def uAtT (c:Int×Int) (t:Int):RT (Int):=
 .Lf (uCmp c.1 t)
def uAt (c:Int×Int) (t:Int):Int:=(uAtT c t).val
def uAtE:En:=Zg Z1f ZXy (λ_=>none) (λa=>uAt a.1 a.2)
theorem ZNN:Za prog 277 uAtE:=
 pureQ 31 [(161,ZYE)] [] Z1f ZXy ⟨ZNK,Tv⟩ Tryz.func277 Tryz.call277 trivial (t:=λa=>uAtT a.1 a.2)
abbrev ZAX:Rs:=Rs.tup [So Kc,So R.bool]
def ZTQ:LS:={n:=49,Sl:=[(0,.code (So rcCE)),(1,.code (So Kb)),(2,.fix (A.clo 277 [])),(8,.code (So Kc)),(9,.code (So Kc)),(10,.code (So Kc))],Bx:=[],Sg:=[]}
def ZgW (a:List (Int×Int)×Int×Int×Int×Int×PUnit):RT (Option (Go1 (List (Int×Int)×Int×Int×Int×Int×PUnit))):=
 let x1:=i64.wrap (shrI IntKind.u64 (IntKind.u64.wrap (i64.wrap (a.2.2.2.1+a.2.2.2.2.1))) 1)
 let x2:=decide (uAt (R.get (R.Pq Kb Ka) a.1 x1) a.2.1<0)
 .br (decide (a.2.2.2.1<a.2.2.2.2.1)) (.br (Ze x1 (Le a.1)) (Ls (Go1.cont (a.1,a.2.1,a.2.2.1,bif x2 then i64.wrap (x1+1) else a.2.2.2.1,bif x2 then a.2.2.2.2.1 else x1,PUnit.unit))) Ln) (Ls (Go1.brk (a.1,a.2.1,a.2.2.1,a.2.2.2.1,a.2.2.2.2.1,PUnit.unit)))
def ZFY:Ora:=ZaB false ZTQ ZgW (λa=>(a.2.2.2.2.1-a.2.2.2.1).toNat+1)
theorem ZIW:Zal (envX prog [(277,uAtE)] [] 4095 8) (.block 0 (.loop (ZQ Tryz.f276.body 0))) ZFY:=
 loopP ⟨ZNN,Tv⟩
def Zq0 (x:List (Int×Int)) (t:Int):RT (Option (Int×Bool)):=
 let x1:List (Int×Int)×Int×Int×Int×Int×PUnit:=(x,t,iN (Le x),0,iN (Le x),())
 let x2:=runF false ZgW (λa=>Int.toNat (a.2.2.2.2.1-a.2.2.2.1)+1) x1
 let x3:List (Int×Int)×Int×Int×Int×Int×PUnit:=(getO (false,x1) x2).2
 let x4:=x3.2
 let x5:=x4.2
 let x6:=x5.2.1
 let x7:=decide (x6<x5.1)
 let x8:=x3.1
 .br (okB x2) (.br (!x7||Ze x6 (Le x8)) (Ls ((bif x7 then x6 else x6,x7&&uAt (R.get (R.Pq Kb Ka) x8 x6) x4.1==0))) Ln) Ln
def ZdQ (x:List (Int×Int)) (t:Int):Int×Bool:=getO ZAX.Df (Zq0 x t).val
def ZFZ (x:List (Int×Int)) (t:Int):Bool:=okB (Zq0 x t).val
def ZWz:En:=ZPY 277 ZPi ZAX (λa=>some (ZFZ a.1 a.2)) (λa=>ZdQ a.1 a.2)
theorem ZTP:Za prog 276 ZWz:=
 ZKg (P:=prog) (n:=4095) (k:=8) (l:=[(277,uAtE)]) (ol:=[(0,ZFY)]) ⟨ZNN,Tv⟩ Tryz.func276 rfl (by kernel_rfl) Tryz.call276 ⟨ZIW,Tv⟩ (g0:=277) (ts:=ZPi) (rs:=ZAX) (t:=λa=>Zq0 a.1 a.2) (λa=>by kernel_rfl)
def ZLB (m:List (Int×Int)) (t:Int) (v:Int):RT (Option (List (Int×Int))):=
 let x1:= !(v==0&& !(ZdQ m t).2)||Nat.ble (Le m) most
 let x2:= !x1
 let x3:=v==0&& !(ZdQ m t).2||(!v==0||(!Nat.ble (Le m) most||decide (0<=(ZdQ m t).1)&&decide ((ZdQ m t).1<iN (Le m))&&decide (i64.wrap ((ZdQ m t).1+1)=(ZdQ m t).1+1)))
 let x4:= !x3
 let x5:=v==0&& !(ZdQ m t).2||(!v==0||Nat.ble (Le m) most)
 let x6:= !x5
 let x7:=v==0&& !(ZdQ m t).2||(v==0||(!(ZdQ m t).2||Nat.ble (Le m) most))
 .br (Zwh m) (.br (!!Zps m||(!Nat.ble (Le m) most||(!Nat.ble (Le (m++[(t,v)])) most||Zzy (m++[(t,v)])))) (.br (!!Zps m||(!Nat.ble (Le m) most||Nat.ble (Le (m++[(t,v)])) most)) (.br (!!Zps m||Nat.ble (Le m) most) (.br (!Zps m) (Ls (ZSb (m++[(t,v)]))) (.br (ZFZ m t) (.br (x2||(x4||(x6||(!x7||(v==0&& !(ZdQ m t).2||(v==0||(!(ZdQ m t).2||Ze (ZdQ m t).1 (Le m)))))))) (.br (x2||(x4||(x6||x7))) (.br (x2||(x4||x5)) (.br (x2||x3) (.br (x1) (.br (v==0&& !(ZdQ m t).2) (Ls (m)) (.br (v==0) (Ls (delX m (Int.toNat (ZdQ m t).1))) (.br (ZdQ m t).2 (Ls (setI m (ZdQ m t).1 ((R.get (R.Pq Kb Ka) m (ZdQ m t).1).1,v))) (.br (!Nat.ble (Le m) most||decide (0<=(ZdQ m t).1)&&decide ((ZdQ m t).1<=iN (Le m))&&Nat.ble (Le m+1) most) (.br (Nat.ble (Le m) most) (Ls (insX m (Int.toNat (ZdQ m t).1) (t,v))) Ln) Ln)))) Ln) Ln) Ln) Ln) Ln) Ln)) Ln) Ln) Ln) Ln
def mPut (m:List (Int×Int)) (t:Int) (v:Int):List (Int×Int):=getO Zwm.Df (ZLB m t v).val
def ZVy (m:List (Int×Int)) (t:Int) (v:Int):Bool:=okB (ZLB m t v).val
def Z2c:En:=Zg ZOG Zwm (λa=>some (ZVy a.1 a.2.1 a.2.2)) (λa=>mPut a.1 a.2.1 a.2.2)
theorem Z0n:Za prog 210 Z2c:=
 Zn4 (P:=prog) (n:=35253225784319) (k:=108) (l:=[(90,ZSa),(98,ZwN),(103,ZR4),(276,ZWz),(277,uAtE),(278,delE),(279,insE)]) (ol:=[]) ⟨Zwl,Zp4,ZR2,ZTP,ZNN,Z2p,Z2m,Tv⟩ Tryz.func210 rfl (by kernel_rfl) Tryz.call210 trivial (ts:=ZOG) (rs:=Zwm) (t:=λa=>ZLB a.1 a.2.1 a.2.2) (λa=>by kernel_rfl)
end
end Go.Proofs.YtpnjbfjomebppaaGreat
open Go Go.S3 Go.Proofs Go.Proofs.Cells
namespace Go.Proofs.YtpnjbfjomebppaaGreat
noncomputable section
theorem ZNL (x y:Int):decide (uCmp x y<0)=decide (x<y):=by
 simp only[uCmp,ZNM,RT.val,YaM,Yc];by_cases h:x<y
 ·simp[h]
 ·by_cases h2:x>y<;>simp[h,h2]
theorem ZYD (x y:Int):(uCmp x y==0)=(x==y):=by
 simp only[uCmp,ZNM,RT.val,YaM,Yc];by_cases h:x<y
 ·have:x≠y:=by omega
  simp[h,this]
 ·by_cases h2:x>y
  ·have:x≠y:=by omega
   simp[h,h2,this]
  ·have:x=y:=by omega
   simp[h,h2,this]
theorem ZNO (c:Cell) (t:Int):uAt c t=uCmp c.1 t:=rfl
def At (m:List Cell) (t:Int) (i:Nat):Prop:=i<=m.length/\(∀k,k<i->(el m k).1<t)/\∀k,i<=k->k<m.length->t<=(el m k).1
theorem ZNj (m:List Cell) (t:Int) (hv:Vld m) (hm:m.length<=most):ZFZ m t=true/\∃i,At m t i/\ZdQ m t=((i:Int),decide (i<m.length)&&((el m i).1==t)):=by
 have hms:=mst;obtain⟨r,hr,h1,i,hi,hR⟩:=ZC (fl:=false) (t:=ZgW) (fuel:=λa=>Int.toNat (a.2.2.2.2.1-a.2.2.2.1)+1)
  (λa=>∃lo hi:Nat,lo<=hi/\hi<=m.length/\(∀k,k<lo->(el m k).1<t)/\(∀k,hi<=k->k<m.length->t<=(el m k).1)/\a=(m,t,(m.length:Int),(lo:Int),(hi:Int),()))
  (λa=>Int.toNat (a.2.2.2.2.1-a.2.2.2.1)) (λr=>r.1=false/\∃i:Nat,At m t i/\r.2=(m,t,(m.length:Int),(i:Int),(i:Int),()))
  (by
   rintro a ⟨lo,hi,h1,h2,h3,h4,rfl⟩;by_cases hlt:lo<hi
   ·left;have d:decide ((lo:Int)<(hi:Int))=true:=by simpa using hlt
    have hmid:=ZpN lo hi (by omega);obtain⟨M,hM⟩:∃M,M=(lo+hi)/2:=⟨_,rfl⟩;rw[<-hM] at hmid;have r1:=Zaz m M (by omega);have g:=Zb4 m M;have w:=ZhH M (by omega);by_cases hc:(el m M).1<t
    ·have dc:decide (uAt (el m M) t<0)=true:=by rw[ZNO,ZNL];simpa using hc
     refine⟨(m,t,(m.length:Int),((M+1:Nat):Int),(hi:Int),()),?_,⟨M+1,hi,by omega,h2,λk hk=> ?_,h4,rfl⟩,by simp only;omega⟩
     ·simp only[ZgW,RT.val,d,hmid,r1,g,dc,w,Ya]
     ·by_cases e:k=M
      ·subst e;exact hc
      ·by_cases e2:k<lo
       ·exact h3 k e2
       ·have:=Yay.1 hv.1 k M (by omega) (by omega) (by omega);have e1:=Zcu m k (by omega);have e3:=Zcu m M (by omega);rw[Yi (by omega),oinj] at e1 e3;rw[e1,e3] at this;omega
    ·have dc:decide (uAt (el m M) t<0)=false:=by rw[ZNO,ZNL];simpa using hc
     refine⟨(m,t,(m.length:Int),(lo:Int),(M:Int),()),?_,⟨lo,M,by omega,by omega,h3,λk hk hk2=> ?_,rfl⟩,by simp only;omega⟩
     ·simp only[ZgW,RT.val,d,hmid,r1,g,dc,Ya,Yc]
     ·by_cases e:k=M
      ·subst e;omega
      ·have:=Yay.1 hv.1 M k (by omega) (by omega) (by omega);have e1:=Zcu m k (by omega);have e3:=Zcu m M (by omega);rw[Yi (by omega),oinj] at e1 e3;rw[e1,e3] at this;omega
   ·right;left;have d:decide ((lo:Int)<(hi:Int))=false:=by simpa using hlt
    have:hi=lo:=by omega
    subst this
    exact⟨_,by simp only[ZgW,RT.val,d,Yc],rfl,hi,⟨h2,h3,h4⟩,rfl⟩)
  (m,t,iN m.length,0,iN m.length,()) ⟨0,m.length,Ys _,Ye _,λk h=>by omega,λk h1 h2=>by omega,rfl⟩ (by simp only[iN,Le];omega)
 obtain⟨r1,r2⟩:=r;simp only at h1 hR;subst h1 hR;have hd:decide ((i:Int)<(m.length:Int))=decide (i<m.length):=by simp
 have hv:(Zq0 m t).val=some ((i:Int),decide (i<m.length)&&((el m i).1==t)):=by
  have g:=Zb4 m i;by_cases hlt:i<m.length
  ·have r1:=Zaz m i hlt;have hd:decide ((i:Int)<(m.length:Int))=true:=by simpa using hlt
   simp only[Zq0,RT.val,hr,okB,getO,Ya,hd,r1,Yg,Yj,g,ZNO,ZYD,hlt,decide_true,YU]
  ·have hd:decide ((i:Int)<(m.length:Int))=false:=by simpa using hlt
   simp only[Zq0,RT.val,hr,okB,getO,Ya,Yc,hd,Ym,Yt,hlt,decide_false,Y1]
 exact⟨by simp only[ZFZ,hv];rfl,i,hi,by simp only[ZdQ,hv,getO]⟩
theorem ZPW:∀(i:Nat) (m:List Cell) (c:Cell),i<=m.length->(∀k,k<i->(el m k).1<c.1)->putX m c=m.take i++putX (m.drop i) c
 |0,m,c,_,_=>by simp
 |i+1,[],c,h,_=>by simp at h
 |i+1,x::m,c,h,hk=>by have h0:x.1<c.1:=hk 0 (by omega);rw[putX,YT h0,ZPW i m c (by simpa using h) (λk h'=>hk (k+1) (by omega))];simp
theorem ZPV (m:List Cell) (t v:Int) (i:Nat) (h:At m t i):
  (v=0->(decide (i<m.length)&&((el m i).1==t))=false->putX m (t,v)=m)/\
  (v=0->(decide (i<m.length)&&((el m i).1==t))=true->putX m (t,v)=delX m i)/\
  (v≠0->(decide (i<m.length)&&((el m i).1==t))=true->putX m (t,v)=setI m (i:Int) ((el m i).1,v))/\
  (v≠0->(decide (i<m.length)&&((el m i).1==t))=false->putX m (t,v)=insX m i (t,v)):=by
 obtain⟨h1,h2,h3⟩:=h;have hp:=ZPW i m (t,v) h1 h2;by_cases hlt:i<m.length
 ·have hd:=ZwJ m i hlt;have hge:=h3 i (Ye _) hlt;have hn:¬(el m i).1<t:=by omega
  rw[hd] at hp;simp only[putX,YZ hn] at hp;simp only[hlt,decide_true,YU];refine⟨λhz he=> ?_,λhz he=> ?_,λhz he=> ?_,λhz he=> ?_⟩
  ·have he:(el m i).1≠t:=by simpa using he
   rw[hp,YT hz,YZ he,<-hd,Yai]
  ·have he:(el m i).1=t:=by simpa using he
   rw[hp,YT hz,YT he,delX]
  ·have he:(el m i).1=t:=by simpa using he
   rw[hp,YZ hz,YT he,setI,Int.toNat_natCast,he,List.set_eq_take_append_cons_drop,YT hlt]
  ·have he:(el m i).1≠t:=by simpa using he
   rw[hp,YZ hz,YZ he,insX,<-hd];simp
 ·have he:i=m.length:=by omega
  subst he;simp only[YaP,putX] at hp;simp only[Nat.lt_irrefl,decide_false,Y1];refine⟨λhz _=> ?_,λhz he=>by simp at he,λhz he=>by simp at he,λhz _=> ?_⟩
  ·rw[hp,YT hz];simp
  ·rw[hp,YZ hz,insX];simp
theorem ZVw (m:List Cell) (t v:Int) (hm:m.length+1<=most):ZVy m t v=true/\mPut m t v=putX (normX m) (t,v):=by
 have hms:=mst;have hv1:=ZRV m (by omega);have hb1:Nat.ble m.length most=true:=by rw[YP];omega
 have hv:(ZLB m t v).val=some (putX (normX m) (t,v)):=by
  cases hval:vldB m with
  |false=>
   have hl:(m++[(t,v)]).length<=most:=by simp;omega
   have hb2:Nat.ble (m++[(t,v)]).length most=true:=by rw[YP];exact hl
   obtain⟨n1,n2⟩:=Zpl (m++[(t,v)]) hl;simp only[ZLB,RT.val,hv1.1,hv1.2,hval,hb1,hb2,n1,n2,Zkk,Ym,Yg,Yf,Yam,Ya]
  |true=>
   have hV:=ZsI.1 hval;obtain⟨f1,i,hi,f2⟩:=ZNj m t hV (by omega);obtain⟨q1,q2,q3,q4⟩:=ZPV m t v i hi;have hile:decide ((i:Int)<=iN m.length)=true:=by simpa [iN,Le] using hi.1
   have hi0:decide ((0:Int)<=(i:Int))=true:=by simp
   have hb3:Nat.ble (m.length+1) most=true:=by rw[YP];omega
   have w:=ZhH i (by have:=hi.1;omega);have g:=Zb4 m i;rw[Zkl hV];simp only[ZLB,RT.val,hv1.1,hv1.2,hval,hb1,f1,f2,hile,hi0,hb3,w,g,Yg,Ym,Yt,Yf,YF,Yj,YV,YU,Ya,Yc,Int.toNat_natCast];cases hfd:(decide (i<m.length)&&((el m i).1==t)) with
   |true=>
    have hlt:i<m.length:=by rw[Yb,Yk] at hfd;exact hfd.1
    have r1:=Zaz m i hlt;have hd:decide ((i:Int)<iN m.length)=true:=by simpa [iN,Le] using hlt
    have hw:decide (((i+1:Nat):Int)=(i:Int)+1)=true:=by simp
    by_cases hz:v=0
    ·have hz1:(v==0)=true:=by simpa using hz
     simp only[hz1,r1,hd,hw,q2 hz hfd,Yg,Ym,Y5,YW,Yt,Yf,YF,Yj,YV,Ya,Yc]
    ·have hz1:(v==0)=false:=by simpa using hz
     simp only[hz1,r1,hd,hw,q3 hz hfd,Yg,Ym,Y1,Y5,YW,Yt,Yf,YF,Yj,YV,Ya,Yc]
   |false=>
    by_cases hz:v=0
    ·have hz1:(v==0)=true:=by simpa using hz
     simp only[hz1,q1 hz hfd,Yg,Ym,Y5,YW,Yt,Yf,YF,Yj,YV,Ya,Yc]
    ·have hz1:(v==0)=false:=by simpa using hz
     simp only[hz1,q4 hz hfd,Yg,Ym,Y1,Y5,YW,Yt,Yf,YF,Yj,YV,Ya,Yc]
 exact⟨by simp only[ZVy,hv];rfl,by simp only[mPut,hv,getO]⟩
def Zi4 (l:List (QT3)) (m:List (Int×Int)) (t:Int) (v:Int):RT (Option (List (Int×Int))):=
 let x1:=decide (ZKF l t>=0)&&(R.get (R.Pq Kb (R.Pq Kb (R.Pq R.bool Kc))) l (ZKF l t)).2.2.1
 .br (ZQ3 l t) (.br (!decide (ZKF l t>=0)||Ze (ZKF l t) (Le l)) (.br (!x1||ZVy m t v) (.br (x1) (Ls (mPut m t v)) (.br (Zzy m) (Ls (ZSb m)) Ln)) Ln) Ln) Ln
def ZCT (l:List (QT3)) (m:List (Int×Int)) (t:Int) (v:Int):List (Int×Int):=getO Zwm.Df (Zi4 l m t v).val
def ZuP (l:List (QT3)) (m:List (Int×Int)) (t:Int) (v:Int):Bool:=okB (Zi4 l m t v).val
def ZUS:En:=Zg ZmV Zwm (λa=>some (ZuP a.1 a.2.1 a.2.2.1 a.2.2.2)) (λa=>ZCT a.1 a.2.1 a.2.2.1 a.2.2.2)
theorem ZKm:Za prog 143 ZUS:=
 pureP 1023 [(90,ZSa),(209,ZXG),(210,Z2c)] [] ZmV Zwm ⟨Zwl,ZVd,Z0n,Tv⟩ Tryz.func143 Tryz.call143 trivial (t:=λa=>Zi4 a.1 a.2.1 a.2.2.1 a.2.2.2)
def ZO9 (n:Int):RT (Int):=
 .Lf (if (if 100<n then 100 else n)>0 then if 100<n then 100 else n else 0)
def ZPa (n:Int):Int:=(ZO9 n).val
def ZCq:En:=Zg ZyV ZXy (λ_=>none) (λa=>ZPa a)
theorem Zyz:Za prog 335 ZCq:=
 pureQ 7 [] [] ZyV ZXy trivial Tryz.func335 Tryz.call335 trivial (t:=λa=>ZO9 a)
def ZmW (l:List (QT3)) (t:Int):RT (Option (Int)):=
 .br (ZnW l t) (.br (!decide (Zj7 l t>=0)||Ze (Zj7 l t) (Le l)) (.br (decide (Zj7 l t>=0)) (Ls (ZPa (R.get (R.Pq Kb (R.Pq Kb (R.Pq R.bool Kc))) l (Zj7 l t)).2.2.2)) (Ls (0))) Ln) Ln
def ZOk (l:List (QT3)) (t:Int):Int:=getO ZXy.Df (ZmW l t).val
def ZBk (l:List (QT3)) (t:Int):Bool:=okB (ZmW l t).val
def ZYV:En:=Zg ZPj ZXy (λa=>some (ZBk a.1 a.2)) (λa=>ZOk a.1 a.2)
theorem ZOj:Za prog 334 ZYV:=
 pureP 63 [(169,ZGW),(335,ZCq)] [] ZPj ZXy ⟨ZtV,Zyz,Tv⟩ Tryz.func334 Tryz.call334 trivial (t:=λa=>ZmW a.1 a.2)
abbrev ZmY:List Sh:=[So rcRG]
def ZJa:LS:={n:=30,Sl:=[(2,.code (So Kc)),(8,.code (So rcRG)),(9,.code (So Kc)),(10,.code (So Kc))],Bx:=[],Sg:=[]}
def ZdG (a:QT26):RT (Option (Go1 (QT26))):=
 let x1:QT3:=R.get (R.Pq Kb (R.Pq Kb (R.Pq R.bool Kc))) a.2.1 a.2.2.2.1
 let x2:=x1.2
 let x3:=x2.2.2
 let x4:List (QT3)×Int×Int×PUnit:=(a.2.1,a.2.2.1,a.2.2.2.1,PUnit.unit)
 .br (decide (a.2.2.2.1<a.2.2.1)) (.br (Ze a.2.2.2.1 (Le a.2.1)) (.br (decide (x2.1<x1.1)||(decide (x3<0)||decide (x3>100))) (Ls (Go1.ret (1,x4))) (Ls (Go1.cont (a.1,a.2.1,a.2.2.1,i64.wrap (a.2.2.2.1+1),PUnit.unit)))) Ln) (Ls (Go1.brk (a.1,x4)))
def Zrj:Ora:=ZaB true ZJa ZdG (λa=>10000000000000)
theorem Zx8:Zal (envX prog [] [] 31 8) (.block 0 (.loop (ZQ Tryz.f104.body 0))) Zrj:=
 loopP trivial
def Zfh (l:List (QT3)):RT (Option (Int)):=
 let x1:=runF true ZdG (λa=>10000000000000) (0,l,iN (Le l),0,())
 let x2:=getO (false,0,l,iN (Le l),0,()) x1
 .br (decide (iN (Le l)>16)) (Ls (3)) (.br (okB x1) (.br x2.1 (Ls x2.2.1) (Ls (0))) Ln)
def ZBm (l:List (QT3)):Int:=getO ZXy.Df (Zfh l).val
def Zto (l:List (QT3)):Bool:=okB (Zfh l).val
def ZUe:En:=Zg ZmY ZXy (λa=>some (Zto a)) (λa=>ZBm a)
theorem ZI9:Za prog 104 ZUe:=
 pureP 31 [] [(0,Zrj)] ZmY ZXy trivial Tryz.func104 Tryz.call104 ⟨Zx8,Tv⟩ (t:=λa=>Zfh a)
def sm {α:Type} (l:List α):Bool:=Nat.ble (l.length+1) most
def smC (l:List (Int×Int)):Bool:=sm l
def smB (l:List Int):Bool:=sm l
def smG (l:List Z6):Bool:=sm l
variable {α:Type}
theorem Zq8 {l:List α}:sm l=true↔l.length+1<=most:=by simp[sm]
theorem Zs4 {l:List α} (h:sm l=true):l.length<=most:=by have:=Zq8.1 h;omega
theorem ZVS (l:List Z6) (t:Int): -1<=Za6 l t/\(Za6 l t<0\/∃i:Nat,i<l.length/\Za6 l t=i):=by
 unfold Za6;split
 ·rename_i h;exact⟨by omega,.inr ⟨_,h,rfl⟩⟩
 ·exact⟨by omega,.inl (by omega)⟩
theorem ZpX (l:List Z6) (t:Int) (h:0<=Za6 l t):Ze (Za6 l t) l.length=true:=by
 rcases (ZVS l t).2 with h1|⟨i,hi,e⟩
 ·omega
 ·rw[e];exact Zaz l i hi
def Zay (l:List Z6) (m:List Cell) (t v:Int):List Cell:=bif decide (Za6 l t>=0)&&(R.get GR l (Za6 l t)).2.2.1 then putX (normX m) (t,v) else normX m
def limX (n:Int):Int:=if (if 100<n then 100 else n)>0 then if 100<n then 100 else n else 0
def Zxb (l:List Z6) (t:Int):Int:=bif decide (Za6 l t>=0) then limX (R.get GR l (Za6 l t)).2.2.2 else 0
theorem ZKe (l:List Z6) (m:List Cell) (t v:Int) (hl:l.length<=most) (hm:m.length+1<=most):ZuP l m t v=true/\ZCT l m t v=Zay l m t v:=by
 have h1:=ZP7 l t hl;have h2:=ZVw m t v hm;have h3:=Zpl m (by omega);have hv:(Zi4 l m t v).val=some (Zay l m t v):=by
  have hr:(!decide (Za6 l t>=0)||Ze (Za6 l t) l.length)=true:=by
   by_cases h:0<=Za6 l t
   ·rw[ZpX l t h];simp
   ·have:decide (Za6 l t>=0)=false:=by simp;omega
    rw[this];rfl
  simp only[Zi4,RT.val,h1.1,h1.2,h2.1,h2.2,h3.1,h3.2,hr,Yf,Ya,Zay];cases decide (Za6 l t>=0)&&(R.get GR l (Za6 l t)).2.2.1<;>rfl
 exact⟨by simp only[ZuP,hv];rfl,by simp only[ZCT,hv,getO]⟩
theorem ZIZ (l:List Z6) (m:List Cell) (t v:Int) (hl:l.length<=most) (hm:m.length+1<=most):Ztk l m t v=true/\ZBj l m t v=Zay l m t v:=by
 have h1:=ZiC l t hl;have h2:=ZT1 m t v hm;have h3:=ZmT m hm;have hv:(ZiG l m t v).val=some (Zay l m t v):=by
  have hr:(!decide (Za6 l t>=0)||Ze (Za6 l t) l.length)=true:=by
   by_cases h:0<=Za6 l t
   ·rw[ZpX l t h];simp
   ·have:decide (Za6 l t>=0)=false:=by simp;omega
    rw[this];rfl
  simp only[ZiG,RT.val,h1.1,h1.2,h2.1,h2.2,h3.1,h3.2,hr,Yf,Ya,Zay];cases decide (Za6 l t>=0)&&(R.get GR l (Za6 l t)).2.2.1<;>rfl
 exact⟨by simp only[Ztk,hv];rfl,by simp only[ZBj,hv,getO]⟩
theorem ZI0 (l:List Z6) (t:Int) (hl:l.length<=most):ZBk l t=true/\ZOk l t=Zxb l t:=by
 have h1:=ZiC l t hl;have hv:(ZmW l t).val=some (Zxb l t):=by
  have hr:(!decide (Za6 l t>=0)||Ze (Za6 l t) l.length)=true:=by
   by_cases h:0<=Za6 l t
   ·rw[ZpX l t h];simp
   ·have:decide (Za6 l t>=0)=false:=by simp;omega
    rw[this];rfl
  simp only[ZmW,RT.val,h1.1,h1.2,hr,Ya,Zxb];cases decide (Za6 l t>=0)<;>rfl
 exact⟨by simp only[ZBk,hv];rfl,by simp only[ZOk,hv,getO]⟩
def badR (r:Z6):Bool:=decide (r.2.1<r.1)||(decide (r.2.2.2<0)||decide (r.2.2.2>100))
def Zfa (l:List Z6):Int:=bif decide (iN l.length>16) then 3 else bif l.any badR then 1 else 0
theorem ZA9 (l:List Z6) (hl:l.length<=most):Zto l=true/\ZBm l=Zfa l:=by
 have hms:=mst;obtain⟨r,hr,hR⟩:=ZC (fl:=true) (t:=ZdG) (fuel:=λ_=>10000000000000)
  (λx=>∃i:Nat,i<=l.length/\(∀k,k<i->badR (rg l k)=false)/\x=(0,l,(l.length:Int),(i:Int),()))
  (λx=>Int.toNat (x.2.2.1-x.2.2.2.1)) (λr=>(r.1=false/\l.any badR=false)\/(r.1=true/\l.any badR=true/\r.2.1=1))
  (by
   rintro x ⟨i,hi,hk,rfl⟩;by_cases hlt:i<l.length
   ·have d:decide ((i:Int)<(l.length:Int))=true:=by simpa using hlt
    have r1:=Zaz l i hlt;have g1:=ZXR l i;cases hh:badR (rg l i) with
    |false=>
     left;refine⟨(0,l,(l.length:Int),((i+1:Nat):Int),()),?_,⟨i+1,hlt,λk hk'=> ?_,rfl⟩,by simp only;omega⟩
     ·simp only[badR] at hh;simp only[ZdG,RT.val,d,r1,g1,hh,Ya,Yc,ZhH i (by omega)]
     ·by_cases e:k=i
      ·subst e;exact hh
      ·exact hk k (by omega)
    |true=>
     right;right;refine⟨(1,l,(l.length:Int),(i:Int),()),rfl,?_,.inr ⟨rfl,List.any_eq_true.2 ⟨rg l i,?_,hh⟩,rfl⟩⟩
     ·simp only[badR] at hh;simp only[ZdG,RT.val,d,r1,g1,hh,Ya]
     ·rw[<-ZxW l i hlt];exact List.getElem_mem hlt
   ·right;left;have d:decide ((i:Int)<(l.length:Int))=false:=by simpa using hlt
    refine⟨_,by simp only[ZdG,RT.val,d,Yc];rfl,.inl ⟨rfl,?_⟩⟩;rw[List.any_eq_false];intro q hq;obtain⟨k,hk',rfl⟩:=List.mem_iff_getElem.1 hq
    rw[ZxW l k hk',hk k (by omega)];simp)
  (0,l,iN l.length,0,()) ⟨0,Ys _,λk h=>by omega,rfl⟩ (by simp only[iN,Le];omega)
 have hv:(Zfh l).val=some (Zfa l):=by
  cases hd:decide (iN l.length>16) with
  |true=>simp only[Zfh,RT.val,hd,Ya,Zfa]
  |false=>
   rcases hR with ⟨h1,h2⟩|⟨h1,h2,h3⟩
   ·simp only[Zfh,RT.val,hd,hr,okB,getO,Ya,Yc,h1,h2,Zfa]
   ·simp only[Zfh,RT.val,hd,hr,okB,getO,Ya,Yc,h1,h2,h3,Zfa]
 exact⟨by simp only[Zto,hv];rfl,by simp only[ZBm,hv,getO]⟩
theorem ZmG {P:Program} {f:FuncId} {ts:List Sh} {rs:Rs} {C:HL ts->Bool} {F G:HL ts->rs.den} (h:Za P f (Zg ts rs (λa=>some (C a)) F)) {pre:HL ts->Bool} (hp:∀a,pre a=true->C a=true/\F a=G a):
  Za P f (Zg ts rs (λa=>some (pre a)) G):=by
 have key:∀a,some (pre a)≠some false->pre a=true:=λa h=>by cases hq:pre a with
  |true=>rfl
  |false=>rw[hq] at h;exact absurd rfl h
 exact h.pure_congr (λa _ hq=>by rw[(hp a (key a hq)).1];simp) (λa _ hq=>(hp a (key a hq)).2)
def ZlA:En:=Zg ZEy Zwg (λa=>some (smC a)) (λa=>vldB a)
theorem Zj4:Za prog 105 ZlA:=ZmG ZmX λa h=>ZN4 a (Zs4 h)
def Zpw:En:=Zg ZEy Zwm (λa=>some (smC a)) (λa=>normX a)
theorem Zjj:Za prog 90 Zpw:=ZmG Zwl λa h=>Zpl a (Zs4 h)
def Zgk:En:=Zg ZEy Zwm (λa=>some (smC a)) (λa=>normX a)
theorem ZeP:Za prog 93 Zgk:=ZmG ZtF λa h=>ZmT a (Zq8.1 h)
def Ztv:En:=Zg Ztu Zwg (λa=>some (smC a.1)) (λa=>decide ((a.1:List Cell)=a.2))
theorem Zrr:Za prog 34 Ztv:=ZmG ZOq λa h=>ZN7 a.1 a.2 (Zs4 h)
def ZGs:En:=Zg Ztw ZCt (λa=>some (smG a.1&&smC a.2.1)) (λa=>Zrf a.1 a.2.1 a.2.2)
theorem ZJf:Za prog 255 ZGs:=ZmG ZOz λa h=>by rw[Yb] at h;exact ZN8 a.1 a.2.1 a.2.2 (Zs4 h.1) (Zs4 h.2)
def Zgt:En:=Zg ZmV Zwm (λa=>some (smG a.1&&smC a.2.1)) (λa=>Zay a.1 a.2.1 a.2.2.1 a.2.2.2)
theorem Zfm:Za prog 143 Zgt:=ZmG ZKm λa h=>by rw[Yb] at h;exact ZKe a.1 a.2.1 a.2.2.1 a.2.2.2 (Zs4 h.1) (Zq8.1 h.2)
def ZdV:En:=Zg ZmV Zwm (λa=>some (smG a.1&&smC a.2.1)) (λa=>Zay a.1 a.2.1 a.2.2.1 a.2.2.2)
theorem ZdU:Za prog 95 ZdV:=ZmG ZI6 λa h=>by rw[Yb] at h;exact ZIZ a.1 a.2.1 a.2.2.1 a.2.2.2 (Zs4 h.1) (Zq8.1 h.2)
def ZGb:En:=Zg ZPj ZXy (λa=>some (smG a.1)) (λa=>Zxb a.1 a.2)
theorem ZI7:Za prog 334 ZGb:=ZmG ZOj λa h=>ZI0 a.1 a.2 (Zs4 h)
def Zx9:En:=Zg ZmY ZXy (λa=>some (smG a)) (λa=>Zfa a)
theorem ZBl:Za prog 104 Zx9:=ZmG ZI9 λa h=>ZA9 a (Zs4 h)
abbrev ZFn:List Sh:=[So Ka,So Ka,So Ka]
def ZMB (a:Int) (b:Int) (c:Int):RT (Int):=
 .Lf (xorI u8 (xorI u8 (xorI u8 a b) c) 165)
def Zxp (a:Int) (b:Int) (c:Int):Int:=(ZMB a b c).val
def Zmp:En:=Zg ZFn ZRs (λ_=>none) (λa=>Zxp a.1 a.2.1 a.2.2)
theorem Ziq:Za prog 117 Zmp:=
 pureQ 127 [] [] ZFn ZRs trivial Tryz.func117 Tryz.call117 trivial (t:=λa=>ZMB a.1 a.2.1 a.2.2)
def ZTv (o:Bool) (n:Int):RT (Option (Int)):=
 .br (!o||decide (0<=n)) (.br (o) (Ls (shlI u8 1 n)) (Ls (0))) Ln
def wBit (o:Bool) (n:Int):Int:=getO ZRs.Df (ZTv o n).val
def Ze8 (o:Bool) (n:Int):Bool:=okB (ZTv o n).val
def ZYf:En:=Zg ZXH ZRs (λa=>some (Ze8 a.1 a.2)) (λa=>wBit a.1 a.2)
theorem ZMG:Za prog 116 ZYf:=
 pureP 31 [] [] ZXH ZRs trivial Tryz.func116 Tryz.call116 trivial (t:=λa=>ZTv a.1 a.2)
abbrev ZMy:Rs:=Rs.one (Sh.agg Zdd)
def ZWh:RT INPT:=
 .Lf ((true,false,false,false,false,false,false,false,0,0))
def ZS:INPT:=(ZWh).val
def ZFj:En:=Zg ZyL ZMy (λ_=>none) (λa=>ZS)
theorem Zsy:Za prog 118 ZFj:=
 pureQ 1 [] [] ZyL ZMy trivial Tryz.func118 Tryz.call118 trivial (t:=λa=>ZWh)
abbrev Zxk:List Sh:=[So (R.sl Ka)]
abbrev Zmm:Rs:=Rs.one (So (R.sl Zdd))
def ZIN:LS:={n:=83,Sl:=[(0,.code (So (R.sl Ka))),(3,.tip 0),(4,.code (So Kc))],Bx:=[],Sg:=[⟨Zdd,122,true⟩]}
def ZcJ (a:List Int×Int×List INPT×PUnit):RT (Option (Go1 (List Int×Int×List INPT×PUnit))):=
 let x1:= !Ze (i64.wrap (a.2.1+1)) (Le a.1)||Ze (i64.wrap (a.2.1+2)) (Le a.1)
 let x2:= !Ze (i64.wrap (a.2.1+3)) (Le a.1)||x1
 let x3:= !x2
 let x4:= !Ze (i64.wrap (a.2.1+3)) (Le a.1)||Ze (i64.wrap (a.2.1+1)) (Le a.1)
 let x5:= !x4
 let p1:=(!Ze (i64.wrap (a.2.1+3)) (Le a.1))::x5::x3::(!Ze a.2.1 (Le a.1))::[]
 let x6:=R.get Ka a.1 (i64.wrap (a.2.1+3)) !=Zxp (R.get Ka a.1 a.2.1) (R.get Ka a.1 (i64.wrap (a.2.1+1))) (R.get Ka a.1 (i64.wrap (a.2.1+2)))
 let x7:= !x6||Nat.ble (Le (a.2.2.1++[ZS])) most
 let x8:= !x7
 let p2:=x6::x8::p1
 let x9:List INPT:=a.2.2.1++[(andI u8 (R.get Ka a.1 a.2.1) 1==0,andI u8 (R.get Ka a.1 a.2.1) 2 !=0,andI u8 (R.get Ka a.1 a.2.1) 4 !=0,andI u8 (R.get Ka a.1 a.2.1) 8 !=0,andI u8 (R.get Ka a.1 a.2.1) 16 !=0,andI u8 (R.get Ka a.1 a.2.1) 32 !=0,andI u8 (R.get Ka a.1 a.2.1) 64 !=0,andI u8 (R.get Ka a.1 a.2.1) 128 !=0,R.get Ka a.1 (i64.wrap (a.2.1+1)),R.get Ka a.1 (i64.wrap (a.2.1+2)))]
 let x10:= !Ze (i64.wrap (a.2.1+1)) (Le a.1)||(!Ze (i64.wrap (a.2.1+2)) (Le a.1)||Nat.ble (Le x9) most)
 let x11:= !x10
 let p3:=x11::p2
 let p4:=(!x1)::p3
 .br (decide (i64.wrap (a.2.1+4)<=iN (Le a.1))&&decide (iN (Le a.2.2.1)<65536)) (.br (orR p4 (Ze (i64.wrap (a.2.1+1)) (Le a.1))) (.br (orR p3 x1) (.br (orR p2 x10) (.br (orR p1 x7) (.br (!Ze a.2.1 (Le a.1)||(x3||(x5||Ze (i64.wrap (a.2.1+3)) (Le a.1)))) (.br (!Ze a.2.1 (Le a.1)||(x3||x4)) (.br (!Ze a.2.1 (Le a.1)||x2) (.br (Ze a.2.1 (Le a.1)) (Ls (Go1.cont (a.1,i64.wrap (a.2.1+4),bif x6 then a.2.2.1++[ZS] else x9,PUnit.unit))) Ln) Ln) Ln) Ln) Ln) Ln) Ln) Ln) (Ls (Go1.brk (a.1,a.2.1,a.2.2.1,PUnit.unit)))
def ZqK:Ora:=ZaB false ZIN ZcJ (λa=>10000000000000)
theorem Zxl:Zal (envX prog [(117,Zmp),(118,ZFj)] [] 63 8) (.block 0 (.loop (ZQ Tryz.f65.body 0))) ZqK:=
 loopP ⟨Ziq,Zsy,Tv⟩
def Zim (l:List Int):RT (Option (List INPT)):=
 .br (okB (runF false ZcJ (λa=>10000000000000) (l,0,[],()))) (Ls (getO (false,l,0,[],()) (runF false ZcJ (λa=>10000000000000) (l,0,[],()))).2.2.2.1) Ln
def Za7 (l:List Int):List INPT:=getO Zmm.Df (Zim l).val
def Zlr (l:List Int):Bool:=okB (Zim l).val
def ZsA:En:=Zg Zxk Zmm (λa=>some (Zlr a)) (λa=>Za7 a)
theorem ZqI:Za prog 65 ZsA:=
 pureP 63 [(117,Zmp),(118,ZFj)] [(0,ZqK)] Zxk Zmm ⟨Ziq,Zsy,Tv⟩ Tryz.func65 Tryz.call65 ⟨Zxl,Tv⟩ (t:=λa=>Zim a)
abbrev ZMz:Rs:=Rs.one (So (R.sl Ka))
def ZdF (a:List INPT×Int×Int×List Int×PUnit):RT (Option (Go1 (List INPT×Int×Int×List Int×PUnit))):=
 let x1:INPT:=R.get Zdd a.1 a.2.2.1
 let x2:= !x1.1
 let x3:=Ze8 x2 0
 let x4:= !x3
 let x5:=x1.2
 let x6:=x5.1
 let x7:=Ze8 x6 1
 let x8:= !x7
 let x9:=x5.2
 let x10:=x9.1
 let x11:=Ze8 x10 2
 let x12:= !x11
 let x13:=x9.2
 let x14:=x13.1
 let x15:=Ze8 x14 3
 let x16:= !x15
 let p2:=x16::x12::x8::x4::[]
 let x17:=x13.2
 let x18:=x17.1
 let x19:=Ze8 x18 4
 let x20:= !x19
 let p4:=x20::p2
 let x21:=x17.2
 let x22:=x21.1
 let x23:=Ze8 x22 5
 let x24:= !x23
 let p5:=x24::p4
 let x25:=x21.2
 let x26:=x25.1
 let x27:=Ze8 x26 6
 let p8:=(!x27)::p5
 let x28:=x25.2
 let x29:=x28.1
 let x30:=orR p8 (Ze8 x29 7)
 let x31:= !x30
 let x32:=orR p5 x27
 let x33:= !x32
 let p1:=x33::x31::(decide (a.2.2.1>=65536))::(!Ze a.2.2.1 (Le a.1))::[]
 let x34:=orR p4 x23
 let x35:= !x34
 let p3:=x35::p1
 let x36:=orR p2 x19
 let x37:= !x36
 let p6:=x37::p3
 let x38:=x4||(x8||(x12||x15))
 let x39:= !x38
 let p7:=x39::p6
 let x40:=x4||(x8||x11)
 let x41:= !x40
 let p9:=x41::p7
 let x42:=x4||x7
 let x43:= !x42
 let p10:=x43::p9
 let p11:=x4::p10
 let x44:=orI u8 (orI u8 (orI u8 (orI u8 (orI u8 (orI u8 (orI u8 (wBit x2 0) (wBit x6 1)) (wBit x10 2)) (wBit x14 3)) (wBit x18 4)) (wBit x22 5)) (wBit x26 6)) (wBit x29 7)
 let x45:=x28.2
 let x46:=x45.1
 let x47:=x45.2
 let x48:List Int:=a.2.2.2.1++[x44,x46,x47,Zxp x44 x46 x47]
 .br (decide (a.2.2.1<a.2.1)) (.br (orR p11 (Nat.ble (Le x48) most)) (.br (orR p10 x3) (.br (orR p9 x42) (.br (orR p7 x40) (.br (orR p6 x38) (.br (orR p3 x36) (.br (orR p1 x34) (.br (!Ze a.2.2.1 (Le a.1)||(decide (a.2.2.1>=65536)||(x31||x32))) (.br (!Ze a.2.2.1 (Le a.1)||(decide (a.2.2.1>=65536)||x30)) (.br (Ze a.2.2.1 (Le a.1)) (.br (decide (a.2.2.1>=65536)) (Ls (Go1.brk (a.1,a.2.1,a.2.2.1,a.2.2.2.1,PUnit.unit))) (Ls (Go1.cont (a.1,a.2.1,i64.wrap (a.2.2.1+1),x48,PUnit.unit)))) Ln) Ln) Ln) Ln) Ln) Ln) Ln) Ln) Ln) Ln) (Ls (Go1.brk (a.1,a.2.1,a.2.2.1,a.2.2.2.1,PUnit.unit)))
def ZgQ (l:List INPT):RT (Option (List Int)):=
 let x1:=runF false ZdF (λa=>10000000000000) (l,iN (Le l),0,[],())
 .br (okB x1) (Ls (getO (false,l,iN (Le l),0,[],()) x1).2.2.2.2.1) Ln
def Zml (l:List INPT):List Int:=getO ZMz.Df (ZgQ l).val
def ZFk (l:List INPT):Bool:=okB (ZgQ l).val
abbrev ZE9:List Sh:=[Sh.agg (R.Pq Kc (R.Pq rcRG (R.Pq Kc (R.Pq Ka (R.Pq Ka (R.Pq R.bool rcCE))))))]
def Zss (l:BRDT):RT (Option (Int)):=
 .br (l.1 !=1&&l.1 !=2) (Ls (1)) (.br (smG l.2.1) (.br (Zfa l.2.1 !=0) (Ls (Zfa l.2.1)) (.br (decide (l.2.2.1<0)||(decide (l.2.2.1>100)||smC l.2.2.2.2.2.2)) (.br (decide (l.2.2.1<0)||(decide (l.2.2.1>100)|| !vldB l.2.2.2.2.2.2)) (Ls (1)) (Ls (0))) Ln)) Ln)
def Zhv (l:BRDT):Int:=getO ZXy.Df (Zss l).val
def Zsu (l:BRDT):Bool:=okB (Zss l).val
def ZMf:En:=Zg ZE9 ZXy (λa=>some (Zsu a)) (λa=>Zhv a)
theorem ZMd:Za prog 51 ZMf:=
 pureP 15 [(104,Zx9),(105,ZlA)] [] ZE9 ZXy ⟨ZBl,Zj4,Tv⟩ Tryz.func51 Tryz.call51 trivial (t:=λa=>Zss a)
abbrev ZMq:Rs:=Rs.tup [Sh.agg (R.Pq (R.Pq Zr (R.Pq Kc (R.Pq (R.sl Ka) (R.Pq (RY) (R.Pq Kc R.bool))))) (R.Pq rcCE (R.Pq Za8 (R.Pq (R.Pq Kb (R.Pq Ka Kc)) (R.Pq Kc (R.sl (R.Pq Ka Ka))))))),So Kc]
def ZMp (l:BRDT):RT (Option (SYST×Int)):=
 let x1:TR:=(0,0,0,0,0,0,0,(false,false,false,false,false,false,false),0,0)
 .br (Zsu l) (.br (Zhv l !=0) (Ls (((((0,x1,false,false,false,0,false,false,false,false,false,false,false),0,[],(0,0,0,0),0,false),[],(0,false,false,false,false,0,0,false,false,false,false,false,0,0,0,0,0,0,0,false),(0,0,0),0,[]),Zhv l))) (.br (smC l.2.2.2.2.2.2) (Ls ((((((newX l.1).1.1,x1,false,false,false,(newX l.1).1.2.2.2.2.2.1,false,false,false,false,false,false,false),0,[],(1,0,0,4),1,false),Cells.normX l.2.2.2.2.2.2,(0,false,false,false,false,0,0,false,false,false,false,false,0,0,0,0,7,0,0,false),(0,0,0),0,[]),0))) Ln)) Ln
def wNew (l:BRDT):SYST×Int:=getO ZMq.Df (ZMp l).val
def ZTn (l:BRDT):Bool:=okB (ZMp l).val
def ZYa:En:=Zg ZE9 ZMq (λa=>some (ZTn a)) (λa=>wNew a)
theorem ZMn:Za prog 49 ZYa:=
 pureP 31 [(51,ZMf),(93,Zgk),(100,ZWY),(101,ZYn)] [] ZE9 ZMq ⟨ZMd,ZeP,ZUz,ZM6,Tv⟩ Tryz.func49 Tryz.call49 trivial (t:=λa=>ZMp a)
def ZaV:En:=.tree (ZM (envX prog [] [] 7 8) Tryz.f254)
theorem Zbx:Za prog 254 ZaV:=Zad trivial Tryz.func254 rfl (by kernel_rfl) Tryz.call254 trivial
abbrev ZMr:List Sh:=[Sh.agg (R.Pq Kc (R.Pq rcRG (R.Pq Kc (R.Pq Ka (R.Pq Ka (R.Pq R.bool rcCE)))))),Sh.agg (RY)]
def ZFc (l:BRDT) (x:QT11):RT (Option (Int)):=
 .br (!(decide (x.1>=1)&&decide (x.1<=5))||smG l.2.1) (.br (decide (x.1>=1)&&decide (x.1<=5)) (Ls (Zxb l.2.1 x.2.1)) (.br (x.1==6||x.1==7) (Ls (ZPa l.2.2.1)) (Ls (0)))) Ln
def ZTq (l:BRDT) (x:QT11):Int:=getO ZXy.Df (ZFc l x).val
def ZFd (l:BRDT) (x:QT11):Bool:=okB (ZFc l x).val
def ZWf:En:=Zg ZMr ZXy (λa=>some (ZFd a.1 a.2)) (λa=>ZTq a.1 a.2)
theorem ZTo:Za prog 250 ZWf:=
 pureP 16447 [(254,ZaV),(334,ZGb),(335,ZCq)] [] ZMr ZXy ⟨Zbx,ZI7,Zyz,Tv⟩ Tryz.func250 Tryz.call250 trivial (t:=λa=>ZFc a.1 a.2)
abbrev Zxc:List Sh:=[Sh.agg (R.Pq (R.Pq Zr (R.Pq Kc (R.Pq (R.sl Ka) (R.Pq (RY) (R.Pq Kc R.bool))))) (R.Pq rcCE (R.Pq Za8 (R.Pq (R.Pq Kb (R.Pq Ka Kc)) (R.Pq Kc (R.sl (R.Pq Ka Ka)))))))]
def ZE8 (s:SYST):RT (Int):=
 .br (Zaw s.1 !=7) (.Lf (0)) (.Lf (i64.wrap (s.2.2.2.2.1+1)))
def ZhI (s:SYST):Int:=(ZE8 s).val
def Zsr:En:=Zg Zxc ZXy (λ_=>none) (λa=>ZhI a)
theorem ZqH:Za prog 176 Zsr:=
 pureQ 7 [(109,Zfi)] [] Zxc ZXy ⟨ZdX,Tv⟩ Tryz.func176 Tryz.call176 trivial (t:=λa=>ZE8 a)
abbrev Zxe:List Sh:=[Sh.agg (R.Pq Kc (R.Pq rcRG (R.Pq Kc (R.Pq Ka (R.Pq Ka (R.Pq R.bool rcCE)))))),Sh.agg (R.Pq (R.Pq Zr (R.Pq Kc (R.Pq (R.sl Ka) (R.Pq (RY) (R.Pq Kc R.bool))))) (R.Pq rcCE (R.Pq Za8 (R.Pq (R.Pq Kb (R.Pq Ka Kc)) (R.Pq Kc (R.sl (R.Pq Ka Ka))))))),Sh.agg Zdd]
abbrev Zmi:Rs:=Rs.one (Sh.agg ZBi)
def Zik (l:BRDT) (s:SYST) (i:INPT):RT (Option LINT):=
 let x1:=bif i.2.1 then i.2.2.2.1 else i.2.2.2.1
 let x2:=bif i.2.1 then i.2.2.2.2.1 else i.2.2.2.2.1
 let x3:=bif i.2.1 then i.2.2.2.2.2.1 else i.2.2.2.2.2.1
 let x4:=bif i.2.1 then i.2.2.2.2.2.2.1 else i.2.2.2.2.2.2.1
 let x5:=bif i.2.1 then i.2.2.2.2.2.2.2.1 else i.2.2.2.2.2.2.2.1
 let x6:=bif l.2.2.2.2.2.1 then andI u8 i.2.2.2.2.2.2.2.2.1 1==1 else vInt s.2.2.1
 let x7:=bif i.2.1 then x6 else x6
 .br (ZTE s.2.2.1) (.br (!i.1||ZFd l s.1.2.2.2.1) (Ls ((i.1&&bif i.2.1 then decide (ZhI s>=ZTq l s.1.2.2.2.1) else decide (ZhI s>=ZTq l s.1.2.2.2.1),bif i.1 then i.2.1||Zb7 s.2.2.2.1 else i.2.1||Zb7 s.2.2.2.1,bif i.1 then bif i.2.1 then i.2.2.1 else i.2.2.1 else bif i.2.1 then i.2.2.1 else i.2.2.1,bif i.1 then x1 else x1,bif i.1 then x2 else x2,bif i.1 then x3 else x3,bif i.1 then x4 else x4,bif i.1 then x5 else x5,bif i.1 then x7 else x7))) Ln) Ln
def Zsx (l:BRDT) (s:SYST) (i:INPT):LINT:=getO Zmi.Df (Zik l s i).val
def Zlq (l:BRDT) (s:SYST) (i:INPT):Bool:=okB (Zik l s i).val
def ZFe:En:=Zg Zxe Zmi (λa=>some (Zlq a.1 a.2.1 a.2.2)) (λa=>Zsx a.1 a.2.1 a.2.2)
theorem ZIK:Za prog 175 ZFe:=
 pureP 255 [(176,Zsr),(249,Z06),(250,ZWf),(251,Zmw)] [] Zxe Zmi ⟨ZqH,ZYo,ZTo,Zmv,Tv⟩ Tryz.func175 Tryz.call175 trivial (t:=λa=>Zik a.1 a.2.1 a.2.2)
abbrev ZFf:List Sh:=[Sh.agg (R.Pq Kc (R.Pq rcRG (R.Pq Kc (R.Pq Ka (R.Pq Ka (R.Pq R.bool rcCE)))))),So Ka]
abbrev ZFg:Rs:=Rs.tup [So R.bool,So R.bool]
def ZMv (l:BRDT) (p:Int):RT (Bool×Bool):=
 .Lf ((bif !l.2.2.2.2.2.1 then bif p==l.2.2.2.1 then p==u8.wrap (l.2.2.2.1+1) else p==u8.wrap (l.2.2.2.1+1) else p==u8.wrap (l.2.2.2.1+1),!l.2.2.2.2.2.1&&(p==l.2.2.2.1||p==u8.wrap (l.2.2.2.1+1))))
def Zdj (l:BRDT) (p:Int):Bool×Bool:=(ZMv l p).val
def ZAA:En:=Zg ZFf ZFg (λ_=>none) (λa=>Zdj a.1 a.2)
theorem Zxf:Za prog 252 ZAA:=
 pureQ 63 [] [] ZFf ZFg trivial Tryz.func252 Tryz.call252 trivial (t:=λa=>ZMv a.1 a.2)
def ZMw (l:BRDT) (p:Int):RT (Int×Bool):=
 .Lf ((i64.wrap (u8.wrap (p-l.2.2.2.2.1)),decide (u8.wrap (p-l.2.2.2.2.1)<4)))
def ZfZ (l:BRDT) (p:Int):Int×Bool:=(ZMw l p).val
def ZAB:En:=Zg ZFf ZAX (λ_=>none) (λa=>ZfZ a.1 a.2)
theorem Zxg:Za prog 253 ZAB:=
 pureQ 127 [] [] ZFf ZAX trivial Tryz.func253 Tryz.call253 trivial (t:=λa=>ZMw a.1 a.2)
abbrev ZMF:Rs:=Rs.tup [Sh.agg (R.Pq (R.Pq Zr (R.Pq Kc (R.Pq (R.sl Ka) (R.Pq (RY) (R.Pq Kc R.bool))))) (R.Pq rcCE (R.Pq Za8 (R.Pq (R.Pq Kb (R.Pq Ka Kc)) (R.Pq Kc (R.sl (R.Pq Ka Ka))))))),So Ka]
def ZME (l:BRDT) (s:SYST) (i:INPT):RT (Option (SYST×Int)):=
 let x1:=decide (s.1.2.2.2.1.1>=1)&&decide (s.1.2.2.2.1.1<=5)
 let x2:= !x1||smG l.2.1&&smC s.2.1
 let x3:= !x2
 let x4:=s.1.2.2.2.1.1 !=6&&l.2.2.2.2.2.1
 let p1:=(!(Zdj l (u8.wrap s.1.2.2.2.1.2.1)).2)::(s.1.2.2.2.1.1 !=6)::x4::x1::[]
 let x5:=x1||(x4||(!s.1.2.2.2.1.1 !=6||ZTH s.2.2.1))
 let x6:= !x5
 let x7:=orR p1 (ZFz s.2.2.1 (Zdj l (u8.wrap s.1.2.2.2.1.2.1)).1)
 let p2:=(!(ZfZ l (u8.wrap s.1.2.2.2.1.2.1)).2)::((Zdj l (u8.wrap s.1.2.2.2.1.2.1)).2)::(s.1.2.2.2.1.1 !=6)::x4::x1::(!x7)::x6::x3::[]
 let x8:=ZTy s.2.2.1 (Zdj l (u8.wrap s.1.2.2.2.1.2.1)).1
 let x9:=x8.1
 .br (i.2.2.1||(Zaw s.1 !=3|| !Zcz s.1.2.2.2.1.1)) (Ls ((s,0))) (.br (orR p2 (ZsP s.2.2.2.1 (ZfZ l (u8.wrap s.1.2.2.2.1.2.1)).1)) (.br (x3||(x6||x7)) (.br (x3||x5) (.br (x2) (Ls (((s.1,s.2.1,(R.sel Za8 x1 s.2.2.1 (R.sel Za8 x4 s.2.2.1 (R.sel Za8 (s.1.2.2.2.1.1 !=6) (vAck s.2.2.1).1 (R.sel Za8 ((Zdj l (u8.wrap s.1.2.2.2.1.2.1)).2) x9 s.2.2.1)))),s.2.2.2),bif x1 then Zrf l.2.1 s.2.1 s.1.2.2.2.1.2.1 else bif x4 then i.2.2.2.2.2.2.2.2.2 else bif s.1.2.2.2.1.1 !=6 then (vAck s.2.2.1).2 else bif (Zdj l (u8.wrap s.1.2.2.2.1.2.1)).2 then x8.2 else bif (ZfZ l (u8.wrap s.1.2.2.2.1.2.1)).2 then ZMV s.2.2.2.1 (ZfZ l (u8.wrap s.1.2.2.2.1.2.1)).1 else i.2.2.2.2.2.2.2.2.2))) Ln) Ln) Ln) Ln)
def wBus (l:BRDT) (s:SYST) (i:INPT):SYST×Int:=getO ZMF.Df (ZME l s i).val
def ZTu (l:BRDT) (s:SYST) (i:INPT):Bool:=okB (ZME l s i).val
def Z01:En:=Zg Zxe ZMF (λa=>some (ZTu a.1 a.2.1 a.2.2)) (λa=>wBus a.1 a.2.1 a.2.2)
theorem ZYd:Za prog 177 Z01:=
 pureP 4956598223910189960238497791 [(109,Zfi),(167,ZhV),(252,ZAA),(253,ZAB),(254,ZaV),(255,ZGs),(256,Z07),(257,ZWm),(258,ZMU)] [] Zxe ZMF ⟨ZdX,ZeN,Zxf,Zxg,Zbx,ZJf,ZYr,ZTw,ZMS,Tv⟩ Tryz.func177 Tryz.call177 trivial (t:=λa=>ZME a.1 a.2.1 a.2.2)
abbrev ZFa:List Sh:=[Sh.agg (R.Pq Kc (R.Pq rcRG (R.Pq Kc (R.Pq Ka (R.Pq Ka (R.Pq R.bool rcCE)))))),Sh.agg (R.Pq (R.Pq Zr (R.Pq Kc (R.Pq (R.sl Ka) (R.Pq (RY) (R.Pq Kc R.bool))))) (R.Pq rcCE (R.Pq Za8 (R.Pq (R.Pq Kb (R.Pq Ka Kc)) (R.Pq Kc (R.sl (R.Pq Ka Ka))))))),Sh.agg (RY)]
abbrev Zsv:Rs:=Rs.one (Sh.agg (R.Pq (R.Pq Zr (R.Pq Kc (R.Pq (R.sl Ka) (R.Pq (RY) (R.Pq Kc R.bool))))) (R.Pq rcCE (R.Pq Za8 (R.Pq (R.Pq Kb (R.Pq Ka Kc)) (R.Pq Kc (R.sl (R.Pq Ka Ka))))))))
def Zmh (l:BRDT) (s:SYST) (x:QT11):RT (Option SYST):=
 let x1:List (Int×Int):=[]++s.2.2.2.2.2++[(u8.wrap x.2.1,x.2.2.1)]
 let x2:=ZMN s.2.2.1 (Zdj l (u8.wrap x.2.1)).1 x.2.2.1
 let x30:=ZAI s.2.2.2.1 (ZfZ l (u8.wrap x.2.1)).1 x.2.2.1
 .br (!x.1 !=7||smG l.2.1&&smC s.2.1) (.br (x.1 !=7) (Ls ((s.1,Zay l.2.1 s.2.1 x.2.1 x.2.2.1,s.2.2))) (.br (!Nat.ble (Le ([]++s.2.2.2.2.2)) most||Nat.ble (Le x1) most) (.br (Nat.ble (Le ([]++s.2.2.2.2.2)) most) (.br (!(Zdj l (u8.wrap x.2.1)).2||ZsM s.2.2.1 (Zdj l (u8.wrap x.2.1)).1 x.2.2.1) (Ls ((s.1,s.2.1,(R.sel Za8 ((Zdj l (u8.wrap x.2.1)).2) x2 s.2.2.1),(R.sel Z1s ((Zdj l (u8.wrap x.2.1)).2) s.2.2.2.1 (R.sel Z1s ((ZfZ l (u8.wrap x.2.1)).2) x30 s.2.2.2.1)),s.2.2.2.2.1,x1))) Ln) Ln) Ln)) Ln
def ZFb (l:BRDT) (s:SYST) (x:QT11):SYST:=getO Zsv.Df (Zmh l s x).val
def Zsw (l:BRDT) (s:SYST) (x:QT11):Bool:=okB (Zmh l s x).val
def ZMi:En:=Zg ZFa Zsv (λa=>some (Zsw a.1 a.2.1 a.2.2)) (λa=>ZFb a.1 a.2.1 a.2.2)
theorem ZMg:Za prog 180 ZMi:=
 pureP 4095 [(95,ZdV),(252,ZAA),(253,ZAB),(266,ZMM),(267,ZFt)] [] ZFa Zsv ⟨ZdU,Zxf,Zxg,ZMK,ZIQ,Tv⟩ Tryz.func180 Tryz.call180 trivial (t:=λa=>Zmh a.1 a.2.1 a.2.2)
abbrev ZsC:Rs:=Rs.tup [Sh.agg (R.Pq (R.Pq Zr (R.Pq Kc (R.Pq (R.sl Ka) (R.Pq (RY) (R.Pq Kc R.bool))))) (R.Pq rcCE (R.Pq Za8 (R.Pq (R.Pq Kb (R.Pq Ka Kc)) (R.Pq Kc (R.sl (R.Pq Ka Ka))))))),Sh.agg ZUc,Sh.agg (R.Pq ZBi (R.Pq Ka (R.Pq (R.Pq Kb Ka) R.bool)))]
def Zmo (l:BRDT) (s:SYST) (i:INPT):RT (Option (QT29)):=
 let x1:=ZFD s.2.2.1 i.2.2.2.2.2.2.2.2.1
 let x29:SYST:=(s.1,s.2.1,(R.sel Za8 (!l.2.2.2.2.2.1) x1 s.2.2.1),s.2.2.2)
 let x30:=wBus l x29 i
 let x31:=x30.1
 let x32:=x31.1
 let x33:= !i.2.2.1&&(Zaw s.1==3&&Zj1 s.1.2.2.2.1.1)
 let x34:=Zsx l x29 i
 let x35:=x30.2
 let x36:=clkX x32 x34 x35
 let x37:=x36.1
 let x38:=x31.2
 let x39:=x38.1
 let x40:=x38.2
 let x41:=x40.1
 let x42:=x40.2
 let x43:=x42.1
 let x44:=ZhI x29
 let x45:=x42.2.2
 let x46:SYST:=(x37,x39,x41,x43,x44,x45)
 let x47:=x36.2
 let x48:=x47.2.2.2.2.2.2.2.2.2.2.2.2.2.2.2.1
 let x49:=ZFb l x46 s.1.2.2.2.1
 let x50:=x49.2
 let x51:=x50.2
 let x52:=x51.2
 let x53:=x52.1
 let x54:Int:=bif x33 then x53.1 else x43.1
 let x55:=x53.2
 let x56:=x43.2
 let x57:Int:=bif x33 then x55.1 else x56.1
 let x58:Int:=bif x33 then x55.2 else x56.2
 let x59:=Zir (x54,x57,x58)
 let x60:=x59.2
 let x61:=x60.2
 let x62:List (Int×Int):=bif x33 then x50.1 else x39
 let x63:=x49.1
 let x64:=x63.1
 let x65:=x37.1
 let x118:=x63.2
 let x119:=x37.2
 let x120:=x118.2
 let x121:=x119.2
 let x122:=x120.2
 let x123:=x122.1
 let x124:=x121.2
 let x125:=x124.1
 let x130:=x122.2
 let x131:=x124.2
 let x132:=x60.1
 let x133:=x132.1
 let x134:=x132.2
 let x135:=x51.1
 let x136:=x135.2
 let x137:=x41.2
 let x138:=x136.2
 let x139:=x137.2
 let x140:=x138.2
 let x141:=x139.2
 let x142:=x140.2
 let x143:=x141.2
 let x144:=x142.2
 let x145:=x143.2
 let x146:=x144.2
 let x147:=x145.2
 let x148:=x146.2
 let x149:=x147.2
 let x150:=x148.2
 let x151:=x149.2
 let x152:=x150.2
 let x153:=x151.2
 let x154:=x152.2
 let x155:=x153.2
 let x156:=x154.2
 let x157:=x155.2
 let x158:=x156.2
 let x159:=x157.2
 let x160:=x158.2
 let x161:=x159.2
 let x162:=x160.2
 let x163:=x161.2
 let x164:=x162.2
 let x165:=x163.2
 let x166:=x164.2
 let x167:=x165.2
 let x168:=x166.2
 let x169:=x167.2
 let x170:=x168.2
 let x171:=x169.2
 let x172:=x59.1
 let x173:=x172.2
 let x174:=x52.2
 .br (Zlq l x29 i) (.br (ZTu l x29 i) (.br (ZOe x32) (.br (!x33||Zsw l x46 s.1.2.2.2.1) (.br (!x48||(!x61||smG l.2.1&&smC x62)) (Ls (((((R.sel Zr x33 x64 x65),bif x33 then x118.1 else x119.1,bif x33 then x120.1 else x121.1,(R.sel RY x33 x123 x125),bif x33 then x130.1 else x131.1,bif x33 then x130.2 else x131.2),bif x48 then bif x61 then Zay l.2.1 x62 x133 x134 else x62 else x62,(bif x33 then x135.1 else x41.1,bif x33 then x136.1 else x137.1,bif x33 then x138.1 else x139.1,bif x33 then x140.1 else x141.1,bif x33 then x142.1 else x143.1,bif x33 then x144.1 else x145.1,bif x33 then x146.1 else x147.1,bif x33 then x148.1 else x149.1,bif x33 then x150.1 else x151.1,bif x33 then x152.1 else x153.1,bif x33 then x154.1 else x155.1,bif x33 then x156.1 else x157.1,bif x33 then x158.1 else x159.1,bif x33 then x160.1 else x161.1,bif x33 then x162.1 else x163.1,bif x33 then x164.1 else x165.1,bif x33 then x166.1 else x167.1,bif i.2.2.1 then 0 else bif x33 then x168.1 else x169.1,bif x33 then x170.1 else x171.1,bif x33 then x170.2 else x171.2),(bif x48 then bif x61 then x172.1 else x54 else x54,bif x48 then bif x61 then x173.1 else x57 else x57,bif i.2.2.1 then 0 else bif x48 then bif x61 then x173.2 else x58 else x58),bif x33 then x174.1 else x44,bif x33 then x174.2 else x45),x47,x34,x35,(bif x48 then bif x61 then x133 else 0 else 0,bif x48 then bif x61 then x134 else 0 else 0),x48&&x61))) Ln) Ln) Ln) Ln) Ln
def ZFm (l:BRDT) (s:SYST) (i:INPT):QT29:=getO ZsC.Df (Zmo l s i).val
def ZsD (l:BRDT) (s:SYST) (i:INPT):Bool:=okB (Zmo l s i).val
def ZAF:En:=Zg Zxe ZsC (λa=>some (ZsD a.1 a.2.1 a.2.2)) (λa=>ZFm a.1 a.2.1 a.2.2)
theorem Zxo:Za prog 108 ZAF:=
 pureP 131071 [(95,ZdV),(109,Zfi),(174,ZM0),(175,ZFe),(176,Zsr),(177,Z01),(178,ZG1),(179,Ztj),(180,ZMi),(181,ZqP)] [] Zxe ZsC ⟨ZdU,ZdX,ZMY,ZIK,ZqH,ZYd,ZKd,Zri,ZMg,Zxu,Tv⟩ Tryz.func108 Tryz.call108 trivial (t:=λa=>Zmo a.1 a.2.1 a.2.2)
def Zxn (c:CORT) (s:Int) (d:Int):RT TY:=
 let x1:Int:=bif Zcz c.2.2.2.1.1 then d else c.2.2.2.1.2.2.1
 .Lf ((c.2.2.2.1.1,c.2.2.2.1.2.1,bif s==3 then x1 else c.2.2.2.1.2.2.1,bif s==3 then bif c.2.2.2.1.1==1||c.2.2.2.1.1==8 then ZeQ c.1.1 x1 else c.2.2.2.1.2.2.2 else c.2.2.2.1.2.2.2))
def ZgR (c:CORT) (s:Int) (d:Int):QT11:=(Zxn c s d).val
def Zip:En:=Zg ZOy ZG4 (λ_=>none) (λa=>ZgR a.1 a.2.1 a.2.2)
theorem ZhM:Za prog 111 Zip:=
 pureQ 255 [(167,ZhV),(168,ZnU)] [] ZOy ZG4 ⟨ZeN,ZiS,Tv⟩ Tryz.func111 Tryz.call111 trivial (t:=λa=>Zxn a.1 a.2.1 a.2.2)
def ZWg (s:Int):RT (Int):=
 .br (Zc s) (.Lf (3)) (.br (s==5) (.Lf (2)) (.Lf (1)))
def ZYb (s:Int):Int:=(ZWg s).val
def ZMu:En:=Zg ZyV ZXy (λ_=>none) (λa=>ZYb a)
theorem ZTr:Za prog 185 ZMu:=
 pureQ 79 [(236,Zg5)] [] ZyV ZXy ⟨Zgm,Tv⟩ Tryz.func185 Tryz.call185 trivial (t:=λa=>ZWg a)
abbrev ZMa:List Sh:=[Sh.agg Zau,Sh.agg Zr,Sh.agg ZBi]
abbrev ZMb:Rs:=Rs.one (Sh.agg Zau)
def ZWc (e:EVTT) (c:TC) (l:LINT):RT EVTT:=
 .Lf ((e.1,e.2.1,e.2.2.1,l,c.2.2.2.2.2.2.2.1,c.2.2.2.2.2.2.1,c.2.2.2.2.2.2.2.2.2.1,c.2.2.2.2.2.2.2.2.1,e.2.2.2.2.2.2.2.2))
def ZAy (e:EVTT) (c:TC) (l:LINT):EVTT:=(ZWc e c l).val
def ZMc:En:=Zg ZMa ZMb (λ_=>none) (λa=>ZAy a.1 a.2.1 a.2.2)
theorem ZTl:Za prog 183 ZMc:=
 pureQ 127 [] [] ZMa ZMb trivial Tryz.func183 Tryz.call183 trivial (t:=λa=>ZWc a.1 a.2.1 a.2.2)
def Zmq (c:CORT) (s:Int) (d:Int):RT (Option (List Int)):=
 let x1:List Int:=[]++c.2.2.1++[(ZgR c s d).2.2.1]
 .br (Nat.ble (Le ([]++c.2.2.1)) most) (.br (!s==3||Nat.ble (Le x1) most) (Ls (bif s==3 then x1 else []++c.2.2.1)) Ln) Ln
def ZFq (c:CORT) (s:Int) (d:Int):List Int:=getO ZMz.Df (Zmq c s d).val
def ZsF (c:CORT) (s:Int) (d:Int):Bool:=okB (Zmq c s d).val
def ZAG:En:=Zg ZOy ZMz (λa=>some (ZsF a.1 a.2.1 a.2.2)) (λa=>ZFq a.1 a.2.1 a.2.2)
theorem ZMC:Za prog 186 ZAG:=
 pureP 255 [(111,Zip)] [] ZOy ZMz ⟨ZhM,Tv⟩ Tryz.func186 Tryz.call186 trivial (t:=λa=>Zmq a.1 a.2.1 a.2.2)
abbrev Zmj:List Sh:=[Sh.agg (R.Pq Zr (R.Pq Kc (R.Pq (R.sl Ka) (R.Pq (RY) (R.Pq Kc R.bool))))),Sh.agg ZBi,So Ka]
abbrev ZhJ:Rs:=Rs.tup [Sh.agg Zr,So R.bool]
def ZeD (c:CORT) (l:LINT) (d:Int):RT (Option (TC×Bool)):=
 let x1:TC×Bool:=((0,(0,0,0,0,0,0,0,(false,false,false,false,false,false,false),0,0),false,false,false,0,false,false,false,false,false,false,false),false)
 .br l.2.2.1 (Ls (x1)) (.br (ZeO c c.2.2.2.2.1 d) (.br (!Zuy c.2.2.2.2.1 (ZhW c c.2.2.2.2.1 d).1) (Ls (x1)) (.br (Zi (ZJ c.1 l) c.2.1 (ZhW c c.2.2.2.2.1 d).2).2 (Ls (x1)) (Ls ((finX (ZJ c.1 l) c.2.1 (ZhW c c.2.2.2.2.1 d).2 l,true))))) Ln)
def Zil (c:CORT) (l:LINT) (d:Int):TC×Bool:=getO ZhJ.Df (ZeD c l d).val
def ZgP (c:CORT) (l:LINT) (d:Int):Bool:=okB (ZeD c l d).val
def ZjK:En:=Zg Zmj ZhJ (λa=>some (ZgP a.1 a.2.1 a.2.2)) (λa=>Zil a.1 a.2.1 a.2.2)
theorem Zxh:Za prog 184 ZjK:=
 pureP 16383 [(164,ZUF),(166,ZrB),(187,ZnP),(263,ZOB),(264,ZPw)] [] Zmj ZhJ ⟨ZCx,ZiQ,ZnO,ZGr,ZGX,Tv⟩ Tryz.func184 Tryz.call184 trivial (t:=λa=>ZeD a.1 a.2.1 a.2.2)
def Zca:En:=.tree (ZM (envX prog [] [] 541622271 8) Tryz.f110)
theorem Zc6:Za prog 110 Zca:=Zad trivial Tryz.func110 rfl (by kernel_rfl) Tryz.call110 trivial
def Zcm:En:=.tree (ZM (envX prog [] [] 63 8) Tryz.f182)
theorem Zhr:Za prog 182 Zcm:=Zad trivial Tryz.func182 rfl (by kernel_rfl) Tryz.call182 trivial
def ZbD:En:=.tree (ZM (envX prog [(109,Zfi),(113,ZyE),(182,Zcm),(183,ZMc),(184,ZjK),(185,ZMu),(186,ZAG),(187,ZnP)] [] 32767 8) Tryz.f112)
theorem Zcl:Za prog 112 ZbD:=Zad ⟨ZdX,ZuB,Zhr,ZTl,Zxh,ZTr,ZMC,ZnO,Tv⟩ Tryz.func112 rfl (by kernel_rfl) Tryz.call112 trivial
abbrev ZWd:List Sh:=[Sh.agg (R.Pq Kc (R.Pq rcRG (R.Pq Kc (R.Pq Ka (R.Pq Ka (R.Pq R.bool rcCE)))))),So (R.sl Ka)]
abbrev ZMk:Rs:=Rs.tup [Sh.agg (R.Pq (R.sl ZUc) (R.Pq (R.sl ZI5) (R.Pq (R.sl Zau) (R.Pq (R.sl Zr) (R.Pq (R.Pq Zr (R.Pq Kc (R.Pq (R.sl Ka) (R.Pq (RY) (R.Pq Kc R.bool))))) (R.Pq rcCE (R.Pq Za8 (R.Pq (R.Pq Kb (R.Pq Ka Kc)) (R.Pq Kc (R.sl (R.Pq Ka Ka))))))))))),So Kc]
def ZX9:LS:={n:=119,Sl:=[(2,.fix (A.loc 0 0)),(4,.fix (A.loc 1 0)),(6,.fix (A.loc 2 0)),(8,.fix (A.loc 3 0)),(9,.fix (A.loc 4 0)),(32,.code (So (R.sl Zdd))),(33,.code (So Kc)),(34,.code (So Kc))],Bx:=[[.many (R.Pq Kc (R.Pq rcRG (R.Pq Kc (R.Pq Ka (R.Pq Ka (R.Pq R.bool rcCE))))))],[.many (R.Pq (R.sl ZUc) (R.Pq (R.sl ZI5) (R.Pq (R.sl Zau) (R.Pq (R.sl Zr) (R.Pq (R.Pq Zr (R.Pq Kc (R.Pq (R.sl Ka) (R.Pq (RY) (R.Pq Kc R.bool))))) (R.Pq rcCE (R.Pq Za8 (R.Pq (R.Pq Kb (R.Pq Ka Kc)) (R.Pq Kc (R.sl (R.Pq Ka Ka)))))))))))],[.many (R.Pq (R.Pq Zr (R.Pq Kc (R.Pq (R.sl Ka) (R.Pq (RY) (R.Pq Kc R.bool))))) (R.Pq rcCE (R.Pq Za8 (R.Pq (R.Pq Kb (R.Pq Ka Kc)) (R.Pq Kc (R.sl (R.Pq Ka Ka)))))))],[.tip 0,.tip 1,.tip 2,.tip 3,.many (R.Pq (R.Pq Zr (R.Pq Kc (R.Pq (R.sl Ka) (R.Pq (RY) (R.Pq Kc R.bool))))) (R.Pq rcCE (R.Pq Za8 (R.Pq (R.Pq Kb (R.Pq Ka Kc)) (R.Pq Kc (R.sl (R.Pq Ka Ka)))))))],[.many Zr]],Sg:=[⟨R.Pq Kc (R.Pq Kb (R.Pq Ka (R.Pq R.bool (R.Pq R.bool (R.Pq R.bool (R.Pq R.bool (R.Pq R.bool ZBi))))))),119,false⟩,⟨R.Pq Kc (R.Pq (RY) (R.Pq Kc (R.Pq Kc (R.Pq R.bool R.bool)))),70,false⟩,⟨R.Pq Kc (R.Pq Kc (R.Pq (R.sl Ka) (R.Pq ZBi (R.Pq R.bool (R.Pq R.bool (R.Pq R.bool (R.Pq R.bool (R.Pq Kb Ka)))))))),77,false⟩,⟨R.Pq Kc (R.Pq ZeL (R.Pq R.bool (R.Pq R.bool (R.Pq R.bool (R.Pq Ka rcF7))))),38,false⟩]}
def Ze7 (a:List INPT×Int×Int×BRDT×RUNT×SYST×SYST×TC×List PINT×List ITMT×List EVTT×List TC×PUnit):RT (Option (Go1 (List INPT×Int×Int×BRDT×RUNT×SYST×SYST×TC×List PINT×List ITMT×List EVTT×List TC×PUnit))):=
 let x1:INPT:=R.get Zdd a.1 a.2.2.1
 let x2:=ZsD a.2.2.2.1 a.2.2.2.2.2.1 x1
 let x3:= !x2
 let x4:=ZFm a.2.2.2.1 a.2.2.2.2.2.1 x1
 let x5:=x4.2
 let x6:List PINT:=a.2.2.2.2.2.2.2.2.1++[x5.1]
 let x7:=Nat.ble (Le x6) most
 let x8:= !x7
 let x9:Int:=bif x1.2.2.1 then 10 else Zaw a.2.2.2.2.2.1.1
 let x10:=x9==8
 let x11:=x9==9
 let x12:=x9==10
 let x13:Int:=bif x10 then 2 else bif x11 then 3 else bif x12 then 4 else 1
 let x14:=x13 !=1
 let x15:= !x14
 let x16:=i64.wrap (iN (Le a.2.2.2.2.2.2.2.2.2.1)-1)
 let x17:=decide (x16>=0)
 let x18:= !x17
 let x19:=Ze x16 (Le a.2.2.2.2.2.2.2.2.2.1)
 let x20:=x18||x19
 let x21:= !x20
 let x22:ITMT:=R.get ZI5 a.2.2.2.2.2.2.2.2.2.1 x16
 let x23:=x22.1
 let x24:=x23==x13
 let x25:= !x24
 let x26:=x18||(x25||x19)
 let x27:=x22.2
 let x28:=x27.2
 let x29:=x28.2
 let x30:=x29.2
 let x31:=x30.1==a.2.2.2.2.2.1.1.1.2.2.1
 let p9:=(!x31)::x25::x18::(!x26)::x21::x15::[]
 let x32:=orR p9 x19
 let x33:= !x32
 let x34:=x15||(x21||x26)
 let x35:= !x34
 let x36:=x15||x20
 let x37:= !x36
 let x38:=a.2.2.2.2.2.1.1.1.2.2.2.2.2.2.2.2.2.2.2.2
 let x39:=x17&&(x24&&(x31&&x30.2==x38))
 let x40:= !x39
 let x41:= !x19
 let x42:=x15||(x40||(x41||x19))
 let x43:= !x42
 let p4:=x43::x37::x35::x33::[]
 let x44:=x15||(x40||x19)
 let x45:= !x44
 let p7:=x14::x45::p4
 let p10:=x39::x15::x45::p4
 let x46:=x5.2
 let x47:=x46.2
 let x48:=x47.1
 let x49:=ZgR a.2.2.2.2.2.1.1 x9 x48
 let x50:=x49.2
 let x51:=x50.2
 let x52:QT11:=(bif x10 then 0 else bif x11 then 0 else bif x12 then 0 else x49.1,bif x10 then 0 else bif x11 then a.2.2.2.2.2.1.1.1.2.1.2.2.2.2.2.2.2.2.2 else bif x12 then 0 else x50.1,bif x10 then 0 else bif x11 then 0 else bif x12 then 0 else x51.1,bif x10 then 0 else bif x11 then 0 else bif x12 then 0 else x51.2)
 let x53:List ITMT:=a.2.2.2.2.2.2.2.2.2.1++[(x13,x52,0,1,a.2.2.2.2.2.1.1.1.2.2.1,x38)]
 let x54:=Nat.ble (Le x53) most
 let x55:=orR p10 x54
 let x56:= !x55
 let p1:=x56::x8::x3::(!Ze a.2.2.1 (Le a.1))::[]
 let x57:=x9==1
 let x58:= !x57||x54
 let x59:= !x58
 let p14:=x57::x59::p7
 let p18:=x41::p14
 let x60:=x9==7
 let x61:= !x60
 let x62:=setI a.2.2.2.2.2.2.2.2.2.1 x16 (x23,x52,x28)
 let x63:=Ze x16 (Le x62)
 let x64:= !x63||x63
 let x65:=x61||x64
 let x66:= !x65
 let p20:=x66::p18
 let x67:=x61||x63
 let x68:= !x67
 let p22:=x68::p20
 let x69:=x60||x64
 let p26:=x60::(!x69)::p22
 let x70:=orR p26 x63
 let x71:= !x70
 let p6:=x71::p1
 let x72:=orR p22 x69
 let x73:= !x72
 let p8:=x73::p6
 let x74:=orR p20 x67
 let x75:= !x74
 let p11:=x75::p8
 let x76:=orR p18 x65
 let x77:= !x76
 let p13:=x77::p11
 let x78:=orR p14 x19
 let x79:= !x78
 let p17:=x79::p13
 let x80:=orR p7 x58
 let x81:= !x80
 let p21:=x81::p17
 let x82:=orR p4 x44
 let x83:= !x82
 let p24:=x83::p21
 let x84:=x33||(x35||(x37||x42))
 let x85:= !x84
 let p25:=x85::p24
 let x86:=x33||(x35||x36)
 let x87:= !x86
 let p27:=x87::p25
 let x88:=x33||x34
 let x89:= !x88
 let p29:=x89::p27
 let p30:=x33::p29
 let x90:Nat:=Le a.2.2.2.2.2.2.2.2.2.2.2.1
 let x91:=iN x90
 let x92:=decide (x91>0)
 let x93:=i64.wrap (x91-1)
 let x94:= !x92||Ze x93 x90
 let x95:= !x94
 let x96:=x46.1
 let x97:=x96.2.2.1
 let x98:= !x97
 let x99:=Nat.ble (Le ([]++a.2.2.2.2.2.1.1.2.2.1)) most
 let x100:= !x99
 let x101:LINT:=(false,false,false,false,false,false,false,false,false)
 let x102:LINT×Bool×Bool×Bool×Bool×Int×Int:=(x101,false,false,false,false,0,0)
 let x103:List EVTT:=a.2.2.2.2.2.2.2.2.2.2.1++[ZAy (6,a.2.2.2.2.2.1.1.2.1,[]++a.2.2.2.2.2.1.1.2.2.1,x102) a.2.2.2.2.2.1.1.1 x96]
 let x104:=Nat.ble (Le x103) most
 let x105:TC:=R.get Zr a.2.2.2.2.2.2.2.2.2.2.2.1 x93
 let x151:List TC:=[(R.sel Zr x92 x105 a.2.2.2.2.2.2.2.1)]
 let x152:List TC:=a.2.2.2.2.2.2.2.2.2.2.2.1++x151
 let x153:= !x104||Nat.ble (Le x152) most
 let p2:=(!x153)::x100::(!ZhX a.2.2.2.2.2.1.1)::x98::[]
 let x154:=orR p2 x104
 let x155:= !x154
 let x156:=x98||(!ZhX a.2.2.2.2.2.1.1||(x100||x153))
 let x157:= !x156
 let x158:=x98||(!ZhX a.2.2.2.2.2.1.1||x99)
 let x159:= !x158
 let p3:=x159::x157::x155::x95::[]
 let x160:List EVTT:=(bif ZhX a.2.2.2.2.2.1.1 then x103 else a.2.2.2.2.2.2.2.2.2.2.1)++[ZAy (4,0,[],x102) a.2.2.2.2.2.1.1.1 x96]
 let x161:=Nat.ble (Le x160) most
 let x162:=x4.1
 let x163:List TC:=(bif ZhX a.2.2.2.2.2.1.1 then x152 else a.2.2.2.2.2.2.2.2.2.2.2.1)++[x162.1.1]
 let x164:= !x161||Nat.ble (Le x163) most
 let x165:=x98||(!x164||x161)
 let x166:= !x165
 let p5:=x166::p3
 let x167:=x98||x164
 let x168:= !x167
 let p12:=x97::x168::p5
 let x169:=ZgP a.2.2.2.2.2.1.1 x96 x48
 let x170:= !x169
 let p15:=x170::p12
 let x171:=Zil a.2.2.2.2.2.1.1 x96 x48
 let x172:=x171.2
 let x173:= !x172
 let x174:=ZsF a.2.2.2.2.2.1.1 (Zaw a.2.2.2.2.2.1.1) x48
 let x175:= !x174
 let x176:List EVTT:=a.2.2.2.2.2.2.2.2.2.2.1++[ZAy (ZYb a.2.2.2.2.2.1.1.2.1,a.2.2.2.2.2.1.1.2.1,ZFq a.2.2.2.2.2.1.1 (Zaw a.2.2.2.2.2.1.1) x48,x102) (ZJ a.2.2.2.2.2.1.1.1 x96) x96]
 let x177:=Nat.ble (Le x176) most
 let x178:List TC:=a.2.2.2.2.2.2.2.2.2.2.2.1++[x171.1]
 let x179:= !x177||Nat.ble (Le x178) most
 let x180:=x173||(x175||(!x179||x177))
 let x181:= !x180
 let p16:=x181::p15
 let x182:=x173||(x175||x179)
 let x183:= !x182
 let p19:=x183::p16
 let x184:=x173||x174
 let x185:= !x184
 let p23:=x185::p19
 let x186:=x47.2
 let x187:=x186.2
 let x188:= !x187
 let x189:List EVTT:=bif x172 then x176 else a.2.2.2.2.2.2.2.2.2.2.1
 let x190:List EVTT:=x189++[(5,0,[],x101,false,false,false,false,x186.1)]
 let x191:=Nat.ble (Le x190) most
 let x192:List TC:=bif x172 then x178 else a.2.2.2.2.2.2.2.2.2.2.2.1
 let x193:List TC:=x192++x151
 let x194:= !x191||Nat.ble (Le x193) most
 let x195:=x188||(!x194||x191)
 let p28:=x188::(!x195)::p23
 let x196:=orR p28 x194
 let x197:= !x196
 let p31:=x197::p30
 let x198:=orR p23 x195
 let x199:= !x198
 let p32:=x199::p31
 let x200:=orR p19 x184
 let x201:= !x200
 let p33:=x201::p32
 let x202:=orR p16 x182
 let x203:= !x202
 let p34:=x203::p33
 let x204:=orR p15 x180
 let x205:= !x204
 let p35:=x205::p34
 let x206:=orR p12 x169
 let x207:= !x206
 let p36:=x207::p35
 let x208:=orR p5 x167
 let x209:= !x208
 let p37:=x209::p36
 let x210:=orR p3 x165
 let x211:= !x210
 let p38:=x211::p37
 let x212:=x95||(x155||(x157||x158))
 let x213:= !x212
 let p39:=x213::p38
 let x214:=x95||(x155||x156)
 let x215:= !x214
 let p40:=x215::p39
 let x216:=x95||x154
 let p41:=(!x216)::p40
 let x217:ITMT:=R.get ZI5 x62 x16
 let x218:=x217.1
 let x219:=x217.2
 let x220:=x219.1
 let x221:=x219.2
 let x222:=x221.1
 let x223:=x221.2
 .br (decide (a.2.2.1<a.2.1)) (.br (orR p41 x94) (.br (orR p40 x216) (.br (orR p39 x214) (.br (orR p38 x212) (.br (orR p37 x210) (.br (orR p36 x208) (.br (orR p35 x206) (.br (orR p34 x204) (.br (orR p33 x202) (.br (orR p32 x200) (.br (orR p31 x198) (.br (orR p30 x196) (.br (orR p29 x32) (.br (orR p27 x88) (.br (orR p25 x86) (.br (orR p24 x84) (.br (orR p21 x82) (.br (orR p17 x80) (.br (orR p13 x78) (.br (orR p11 x76) (.br (orR p8 x74) (.br (orR p6 x72) (.br (orR p1 x70) (.br (!Ze a.2.2.1 (Le a.1)||(x3||(x8||x55))) (.br (!Ze a.2.2.1 (Le a.1)||(x3||x7)) (.br (!Ze a.2.2.1 (Le a.1)||x2) (.br (Ze a.2.2.1 (Le a.1)) (Ls (Go1.cont (a.1,a.2.1,i64.wrap (a.2.2.1+1),a.2.2.2.1,a.2.2.2.2.1,x162,a.2.2.2.2.2.2.1,a.2.2.2.2.2.2.2.1,x6,bif x14 then bif x39 then setI a.2.2.2.2.2.2.2.2.2.1 x16 (x23,x27.1,x28.1,i64.wrap (x29.1+1),x30) else x53 else bif x57 then x53 else bif x60 then setI x62 x16 (x218,x220,i64.wrap (x222+1),x223) else setI x62 x16 (x218,x220,x222,i64.wrap (x223.1+1),x223.2),bif x97 then x160 else bif x187 then x190 else x189,bif x97 then x163 else bif x187 then x193 else x192,PUnit.unit))) Ln) Ln) Ln) Ln) Ln) Ln) Ln) Ln) Ln) Ln) Ln) Ln) Ln) Ln) Ln) Ln) Ln) Ln) Ln) Ln) Ln) Ln) Ln) Ln) Ln) Ln) Ln) (Ls (Go1.brk (a.1,a.2.1,a.2.2.1,a.2.2.2.1,a.2.2.2.2.1,a.2.2.2.2.2.1,a.2.2.2.2.2.2.1,a.2.2.2.2.2.2.2.1,a.2.2.2.2.2.2.2.2.1,a.2.2.2.2.2.2.2.2.2.1,a.2.2.2.2.2.2.2.2.2.2.1,a.2.2.2.2.2.2.2.2.2.2.2.1,PUnit.unit)))
def ZMm:Ora:=ZaB false ZX9 Ze7 (λa=>10000000000000)
theorem ZMl:Zal (envX prog [(49,ZYa),(65,ZsA),(108,ZAF),(109,Zfi),(110,Zca),(111,Zip),(112,ZbD),(113,ZyE)] [] 524287 8) (.block 0 (.loop (ZQ Tryz.f53.body 0))) ZMm:=
 loopP ⟨ZMn,ZqI,Zxo,ZdX,Zc6,ZhM,Zcl,ZuB,Tv⟩
def ZMj (b:BRDT) (l:List Int):RT (Option (RUNT×Int)):=
 let x1:SYST:=(((0,(0,0,0,0,0,0,0,(false,false,false,false,false,false,false),0,0),false,false,false,0,false,false,false,false,false,false,false),0,[],(0,0,0,0),0,false),[],(0,false,false,false,false,0,0,false,false,false,false,false,0,0,0,0,0,0,0,false),(0,0,0),0,[])
 let x2:RUNT:=([],[],[],[],x1)
 let x3:List INPT×Int×Int×BRDT×RUNT×SYST×SYST×TC×List PINT×List ITMT×List EVTT×List TC×PUnit:=(Za7 l,iN (Le (Za7 l)),0,b,x2,(wNew b).1,x1,(wNew b).1.1.1,[],[],[],[],())
 let x4:=runF false Ze7 (λa=>10000000000000) x3
 let x5:SYST×SYST×TC×List PINT×List ITMT×List EVTT×List TC×PUnit:=(getO (false,x3) x4).2.2.2.2.2.2
 let x6:=x5.1
 let x7:=x6.1
 let x8:=ZhX x7
 let x9:= !x8
 let x10:=x5.2.2
 let x11:=x10.2
 let x12:=x11.2
 let x13:=x12.2
 let x14:=x13.2.1
 let x15:Nat:=Le x14
 let x16:=iN x15
 let x17:=decide (x16>0)
 let x18:=i64.wrap (x16-1)
 let x19:=x7.2
 let x20:List Int:=[]++x19.2.1
 let x21:=Nat.ble (Le x20) most
 let x22:=x13.1
 let x23:List EVTT:=x22++[(7,x19.1,x20,(false,false,false,false,false,false,false,false,false),false,false,false,false,0,0)]
 let x24:TC:=R.get Zr x14 x18
 let x78:List TC:=x14++[(R.sel Zr x17 x24 (getO (false,x3) x4).2.2.2.2.2.2.2.2.1)]
 let x79:=x11.1
 let x80:=x12.1
 .br (ZTn b) (.br ((wNew b).2 !=0) (Ls ((x2,(wNew b).2))) (.br (Zlr l) (.br (okB x4) (.br (x9||(!x17||Ze x18 x15)) (.br (x9||(!x21||Nat.ble (Le x23) most)) (.br (x9||x21) (.br (x9||Nat.ble (Le x78) most) (.br (x8) (Ls (((x79,x80,x23,x78,x6),0))) (Ls (((x79,x80,x22,x14,x6),0)))) Ln) Ln) Ln) Ln) Ln) Ln)) Ln
def wRun (b:BRDT) (l:List Int):RUNT×Int:=getO ZMk.Df (ZMj b l).val
def ZTm (b:BRDT) (l:List Int):Bool:=okB (ZMj b l).val
def Z00:En:=Zg ZWd ZMk (λa=>some (ZTm a.1 a.2)) (λa=>wRun a.1 a.2)
theorem ZX7:Za prog 53 Z00:=
 pureP 524287 [(49,ZYa),(65,ZsA),(108,ZAF),(109,Zfi),(110,Zca),(111,Zip),(112,ZbD),(113,ZyE)] [(0,ZMm)] ZWd ZMk ⟨ZMn,ZqI,Zxo,ZdX,Zc6,ZhM,Zcl,ZuB,Tv⟩ Tryz.func53 Tryz.call53 ⟨ZMl,Tv⟩ (t:=λa=>ZMj a.1 a.2)
