import Derived.Test.YteaflmalcclnoaaGreatDoorSortC
import Derived.RangeFuncLeaves
import Derived.Shelf.Abstract
import Derived.OwnWalkIn
import Derived.TacticsInMore
import Derived.LoopNIn
import Derived.LoopIn
open Go.IntKind (u8 u16 i64 wrap)
open Go Go.S3 Go.Proofs Go.Proofs.Cells
open Go.S3.R (Pq)
set_option linter.unusedVariables false
set_option linter.unusedSimpArgs false
set_option maxRecDepth 100000
namespace Go.Proofs.YteaflmalcclnoaaGreatDoor
noncomputable section
variable {P Q:List Cell}
theorem ZyD {x:Cell} (hs:Srt (P++Q)) (hP:∀y∈P,y.1<x.1) (hQ:∀y∈Q,x.1<=y.1):isort (x::(P++Q))=P++x::Q:=by
 have h:=Yai.1 hs;refine Zhx (Yai.2 ⟨h.1,YC.2 ⟨hQ,h.2.1⟩,λa ha b hb=> ?_⟩) ?_
 ·have:=hP a ha;rcases Ys.1 hb with rfl|hb
  ·omega
  ·have:=hQ b hb;omega
 ·have:=Sm.swap (u:=P) (v:=[x]) (λa ha b hb=>by simp at hb;subst hb;have:=hP a ha;omega) [] Q;simpa using this
theorem Zvv {y:Cell} (hs:Srt (P++Q)) (hP:∀a∈P,a.1<=y.1) (hQ:∀a∈Q,y.1<a.1):isort (P++Q++[y])=P++y::Q:=by
 have h:=Yai.1 hs;refine Zhx (Yai.2 ⟨h.1,YC.2 ⟨λb hb=>by have:=hQ b hb;omega,h.2.1⟩,λa ha b hb=> ?_⟩) ?_
 ·have:=hP a ha;rcases Ys.1 hb with rfl|hb
  ·omega
  ·have:=hQ b hb;omega
 ·have:=(Sm.swap (u:=Q) (v:=[y]) (λa ha b hb=>by simp at hb;subst hb;have:=hQ a ha;omega) P []).symm;simpa using this
theorem ZaP {α:Type} (l:List α) (i:Nat) (h:i<l.length):Zh (i:Int) l.length=true:=ZP.2 (by omega)
theorem Ziw (i:Nat) (h:i<=4611686018427387904):wrap .i64 ((i:Int)+1)=((i+1:Nat):Int):=by rw[wrap_i64 _ (by omega) (by omega)];simp
theorem wsub (i j:Nat) (h:i<=4611686018427387904) (hj:j<=i):wrap .i64 ((i:Int)-(j:Int))=((i-j:Nat):Int):=by rw[wrap_i64 _ (by omega) (by omega)];omega
theorem wadd (i j:Nat) (h:i+j<=4611686018427387904):wrap .i64 ((i:Int)+(j:Int))=((i+j:Nat):Int):=by rw[wrap_i64 _ (by omega) (by omega)];simp
theorem ZUE (k:Int) (X V Y:List Cell) (x:Cell) (hV:0<V.length) (sV:Srt V) (hm:(X++[x]++V++Y).length<=most):
  (ZrA k (X++[x]++V++Y) X.length (X.length+1:Nat) (X.length+1+V.length:Nat)).val=some (X++isort ([x]++V)++Y):=by
 have hms:=mst;have hlen:(X++[x]++V++Y).length=X.length+1+V.length+Y.length:=by simp;omega
 have hm':=hm;rw[hlen] at hm';have ga:el (X++[x]++V++Y) X.length=x:=by simp[el]
 have gv:∀i,i<V.length->el (X++[x]++V++Y) (X.length+1+i)=el V i:=λi hi=>by have:=ZE8 (X++[x]) V Y i hi;simpa using this
 obtain⟨i,i1,i2,hrun,q1,q2⟩:=ZO2 (T:=Zj1) (fuel:=λa_1=>Int.toNat (a_1.2.2.1-a_1.2.1)+1) (λi j=>((X.length:Int),(i:Int),(j:Int),X++[x]++V++Y,()))
  (λh=>decide ((el (X++[x]++V++Y) h).1<x.1)) (X.length+1) (X.length+1+V.length) (by omega) (by simp only;omega)
  (λi j h1 h2 h3=>by
   have d:decide ((i:Int)<(j:Int))=true:=by simpa using h2
   have r1:=ZaP (X++[x]++V++Y) ((i+j)/2) (by rw[hlen];omega);have r2:=ZaP (X++[x]++V++Y) X.length (by rw[hlen];omega);simp only[Zj1,RT.val,d,Zo8 i j (by omega),r1,r2,Yh,Yj,Ya,ZcX,Zlw,ga,Ziw ((i+j)/2) (by omega)]
   cases decide ((el (X++[x]++V++Y) ((i+j)/2)).1<x.1)<;>rfl)
  (λi h1 h2=>by
   have d:decide ((i:Int)<(i:Int))=false:=by simp
   simp only[Zj1,RT.val,d,Yc])
 obtain⟨p,rfl⟩:∃p,i=X.length+1+p:=⟨i-(X.length+1),by omega⟩;have hp:p<=V.length:=by omega
 have hP:∀y∈V.take p,y.1<x.1:=λy hy=>by
  obtain⟨j,h1,h2,rfl⟩:=ZlY hy;rcases q1 with q1|q1
  ·omega
  ·rw[show X.length+1+p-1=X.length+1+(p-1) by omega,gv (p-1) (by omega)] at q1;have:=ZkX sV (i:=j) (j:=p-1) (by omega) (by omega);simp only[Yf] at q1;omega
 have hQ:∀y∈V.drop p,x.1<=y.1:=λy hy=>by
  obtain⟨j,h1,h2,rfl⟩:=Zjm hy;rcases q2 with q2|q2
  ·omega
  ·rw[gv p (by omega)] at q2;have:=ZkX sV (i:=p) (j:=j) h1 h2;simp only[Y5] at q2;omega
 have hV2:V.take p++V.drop p=V:=Yam p V;have hpl:(V.take p).length=p:=by simp;omega
 obtain⟨r,hr,hr2⟩:=ZXM X (V.take p) (V.drop p++Y) x (by
  have:X++x::(V.take p++(V.drop p++Y))=X++[x]++V++Y:=by rw[<-List.append_assoc (V.take p),hV2];simp
  rw[this];exact hm)
 rw[hpl,show X.length+p+1=X.length+1+p by omega,show X++x::(V.take p++(V.drop p++Y))=X++[x]++V++Y by rw[<-List.append_assoc (V.take p),hV2];simp] at hr;have w1:(wrap .i64 (((X.length+1:Nat):Int)-(X.length:Int))==1)=true:=by rw[wsub _ _ (by omega) (by omega)];simp
 have hfin:X++V.take p++x::(V.drop p++Y)=X++isort ([x]++V)++Y:=by have:=ZyD (x:=x) (P:=V.take p) (Q:=V.drop p) (by rw[hV2];exact sV) hP hQ;rw[hV2] at this;rw[show [x]++V=x::V from rfl,this];simp
 have hrun':runF false Zj1 (λa_1=>Int.toNat (a_1.2.2.1-a_1.2.1)+1) ((X.length:Int),((X.length+1:Nat):Int),((X.length+1+V.length:Nat):Int),X++[x]++V++Y,())=some (false,((X.length:Int),((X.length+1+p:Nat):Int),((X.length+1+p:Nat):Int),X++[x]++V++Y,())):=hrun;simp only[ZrA,ZdI,RT.val,w1,Yh,Yj,hrun',okB,getO,Ya,hr,hr2,hfin]
theorem ZPK (k:Int) (X U Y:List Cell) (y:Cell) (hU:1<U.length) (sU:Srt U) (hm:(X++U++[y]++Y).length<=most):
  (ZrA k (X++U++[y]++Y) X.length (X.length+U.length:Nat) (X.length+U.length+1:Nat)).val=some (X++isort (U++[y])++Y):=by
 have hms:=mst;have hlen:(X++U++[y]++Y).length=X.length+U.length+1+Y.length:=by simp;omega
 have hm':=hm;rw[hlen] at hm';have ga:el (X++U++[y]++Y) (X.length+U.length)=y:=by simp[el]
 have gv:∀i,i<U.length->el (X++U++[y]++Y) (X.length+i)=el U i:=λi hi=>by have:=ZE8 X U ([y]++Y) i hi;simpa using this
 obtain⟨i,i1,i2,hrun,q1,q2⟩:=ZO2 (T:=ZjZ) (fuel:=λa_1=>Int.toNat (a_1.2.2.1-a_1.2.1)+1) (λi j=>(((X.length+U.length:Nat):Int),(i:Int),(j:Int),X++U++[y]++Y,()))
  (λh=>decide ((el (X++U++[y]++Y) h).1<=y.1)) X.length (X.length+U.length) (by omega) (by simp only;omega)
  (λi j h1 h2 h3=>by
   have d:decide ((i:Int)<(j:Int))=true:=by simpa using h2
   have r1:=ZaP (X++U++[y]++Y) ((i+j)/2) (by rw[hlen];omega);have r2:=ZaP (X++U++[y]++Y) (X.length+U.length) (by rw[hlen];omega);simp only[ZjZ,RT.val,d,Zo8 i j (by omega),r1,r2,Yh,Yj,Yk,Ya,ZcX,Zvm,ga,Ziw ((i+j)/2) (by omega)]
   cases decide ((el (X++U++[y]++Y) ((i+j)/2)).1<=y.1)<;>rfl)
  (λi h1 h2=>by
   have d:decide ((i:Int)<(i:Int))=false:=by simp
   simp only[ZjZ,RT.val,d,Yc])
 obtain⟨p,rfl⟩:∃p,i=X.length+p:=⟨i-X.length,by omega⟩;have hp:p<=U.length:=by omega
 have hP:∀a∈U.take p,a.1<=y.1:=λa ha=>by
  obtain⟨j,h1,h2,rfl⟩:=ZlY ha;rcases q1 with q1|q1
  ·omega
  ·rw[show X.length+p-1=X.length+(p-1) by omega,gv (p-1) (by omega)] at q1;have:=ZkX sU (i:=j) (j:=p-1) (by omega) (by omega);simp only[Yf] at q1;omega
 have hQ:∀a∈U.drop p,y.1<a.1:=λa ha=>by
  obtain⟨j,h1,h2,rfl⟩:=Zjm ha;rcases q2 with q2|q2
  ·omega
  ·rw[gv p (by omega)] at q2;have:=ZkX sU (i:=p) (j:=j) h1 h2;simp only[Y5] at q2;omega
 have hU2:U.take p++U.drop p=U:=Yam p U;have hql:(U.drop p).length=U.length-p:=by simp
 have hpl:(X++U.take p).length=X.length+p:=by simp;omega
 have e0:(X++U.take p)++(U.drop p++y::Y)=X++U++[y]++Y:=by
  have:(X++U.take p)++(U.drop p++y::Y)=X++((U.take p++U.drop p)++y::Y):=by simp only[Yo]
  rw[this,hU2];simp
 obtain⟨r,hr,hr2⟩:=ZXN (X++U.take p) (U.drop p) Y y (by rw[e0];exact hm);rw[e0,hpl,hql,show X.length+p+(U.length-p)=X.length+U.length by omega] at hr;have w0:(wrap .i64 (((X.length+U.length:Nat):Int)-(X.length:Int))==1)=false:=by rw[wsub _ _ (by omega) (by omega)];simp;omega
 have w1:(wrap .i64 (((X.length+U.length+1:Nat):Int)-((X.length+U.length:Nat):Int))==1)=true:=by rw[wsub _ _ (by omega) (by omega)];simp
 have hfin:X++U.take p++y::(U.drop p++Y)=X++isort (U++[y])++Y:=by have:=Zvv (y:=y) (P:=U.take p) (Q:=U.drop p) (by rw[hU2];exact sU) hP hQ;rw[hU2] at this;rw[this];simp
 have hrun':runF false ZjZ (λa_1=>Int.toNat (a_1.2.2.1-a_1.2.1)+1) (((X.length+U.length:Nat):Int),(X.length:Int),((X.length+U.length:Nat):Int),X++U++[y]++Y,())=some (false,(((X.length+U.length:Nat):Int),((X.length+p:Nat):Int),((X.length+p:Nat):Int),X++U++[y]++Y,())):=hrun;simp only[ZrA,ZdI,RT.val,w0,w1,Yh,Ym,Yw,Yj,hrun',okB,getO,Ya,Yc,hr,hr2,hfin]
theorem Zew (l:List Cell):(isort l).length=l.length:=by
 have hi:∀(x:Cell) (l:List Cell),(ins x l).length=l.length+1:=λx l=>by
  induction l with
  |nil=>rfl
  |cons y l ih=>simp only[ins];split<;>simp[ih]
 have:∀(l acc:List Cell),(l.foldl (λa x=>ins x a) acc).length=acc.length+l.length:=by
  intro l
  induction l with
  |nil=>intro acc;simp
  |cons a l ih=>intro acc;rw[List.foldl_cons,ih,hi];simp;omega
 simp[isort,this]
theorem sub3 (X U V Y:List Cell):((X++U++V++Y).drop X.length).take ((X.length+U.length)-X.length)=U/\((X++U++V++Y).drop (X.length+U.length)).take ((X.length+U.length+V.length)-(X.length+U.length))=V:=by
 constructor
 ·have:X++U++V++Y=X++(U++(V++Y)):=by simp
  rw[this,Yah rfl,Yav (by omega)]
 ·have:X++U++V++Y=(X++U)++(V++Y):=by simp
  rw[this,Yah (by simp),Yav (by omega)]
theorem ZCU (X U V Y:List Cell) (hU:0<U.length) (hV:0<V.length) (hm:(X++U++V++Y).length<=most):ZiJ (X++U++V++Y) X.length (X.length+U.length:Nat) (X.length+U.length+V.length:Nat)=true:=by simp only[ZiJ,Yb,Yf,Yy];simp only[Yd] at hm|-;omega
theorem ZCI (k:Int) (X U V Y:List Cell) (hU:0<U.length) (hV:0<V.length) (sU:Srt U) (sV:Srt V) (hk:((U.length+V.length:Nat):Int)<=k) (hm:(X++U++V++Y).length<=most):ZiE k (X++U++V++Y) X.length (X.length+U.length:Nat) (X.length+U.length+V.length:Nat)=true:=by obtain⟨s1,s2⟩:=sub3 X U V Y;simp only[ZiE,ZCU X U V Y hU hV hm,Int.toNat_natCast,s1,s2,ZfJ.2 sU,ZfJ.2 sV,YY,YQ,Yf];omega
theorem ZmG (X L Y:List Cell) (b:Nat) (hb:b=X.length+L.length):ZdV (X++L++Y) X.length b=X++isort L++Y:=by subst hb;exact ZrM X L Y
theorem ZUG (k:Int) (X U V Y:List Cell) (hU:1<U.length) (hV:1<V.length) (sU:Srt U) (sV:Srt V) (hk:((U.length+V.length:Nat):Int)<=k+1) (hm:(X++U++V++Y).length<=most):
  (ZrA k (X++U++V++Y) X.length (X.length+U.length:Nat) (X.length+U.length+V.length:Nat)).val=some (X++isort (U++V)++Y):=by
 have hms:=mst;have hlen:(X++U++V++Y).length=X.length+U.length+V.length+Y.length:=by simp;omega
 have hm':=hm;rw[hlen] at hm';have gu:∀i,i<U.length->el (X++U++V++Y) (X.length+i)=el U i:=λi hi=>by have:=ZE8 X U (V++Y) i hi;simpa using this
 have gv:∀i,i<V.length->el (X++U++V++Y) (X.length+U.length+i)=el V i:=λi hi=>by have:=ZE8 (X++U) V Y i hi;simpa using this
 obtain⟨M,hM⟩:∃M,M=(X.length+(X.length+U.length+V.length))/2:=⟨_,rfl⟩;obtain⟨lo,hi,hlo,hlh,hb1,hb2,hb3,hb4,hb5⟩:∃lo hi:Nat,lo<=hi/\
   ((bif decide (((X.length+U.length:Nat):Int)>(M:Int)) then wrap .i64 (((M+(X.length+U.length):Nat):Int)-((X.length+U.length+V.length:Nat):Int)) else (X.length:Int))=(lo:Int)/\(bif decide (((X.length+U.length:Nat):Int)>(M:Int)) then (M:Int) else ((X.length+U.length:Nat):Int))=(hi:Int))/\
   X.length<=lo/\hi<=X.length+U.length/\(∀c,lo<=c->c<hi->X.length+U.length<=M+(X.length+U.length)-1-c/\M+(X.length+U.length)-1-c<X.length+U.length+V.length)/\
   ((lo=X.length\/M+(X.length+U.length)-lo=X.length+U.length+V.length)/\(hi=X.length+U.length\/hi=M))/\M+(X.length+U.length)<=lo+(X.length+U.length+V.length):=by
  by_cases hc:M<X.length+U.length
  ·refine⟨M+(X.length+U.length)-(X.length+U.length+V.length),M,by omega,⟨?_,?_⟩,by omega,by omega,λc h1 h2=>by omega,⟨by omega,.inr rfl⟩,by omega⟩
   ·have:decide (((X.length+U.length:Nat):Int)>(M:Int))=true:=by simp;omega
    rw[this,Ya,wsub _ _ (by omega) (by omega)]
   ·have:decide (((X.length+U.length:Nat):Int)>(M:Int))=true:=by simp;omega
    rw[this,Ya]
  ·refine⟨X.length,X.length+U.length,by omega,⟨?_,?_⟩,by omega,by omega,λc h1 h2=>by omega,⟨.inl rfl,.inl rfl⟩,by omega⟩
   ·have:decide (((X.length+U.length:Nat):Int)>(M:Int))=false:=by simp;omega
    rw[this,Yc]
   ·have:decide (((X.length+U.length:Nat):Int)>(M:Int))=false:=by simp;omega
    rw[this,Yc]
 obtain⟨σ,i1,i2,hrun,q1,q2⟩:=ZO2 (T:=ZjX) (fuel:=λa_1=>Int.toNat (a_1.2.2.2.2.2.2.1-a_1.2.2.2.2.2.1)+1)
  (λi j=>((X.length:Int),((X.length+U.length:Nat):Int),((X.length+U.length+V.length:Nat):Int),(M:Int),((M+(X.length+U.length):Nat):Int),(i:Int),(j:Int),((M+(X.length+U.length)-1:Nat):Int),X++U++V++Y,()))
  (λh=>decide ((el (X++U++V++Y) h).1<=(el (X++U++V++Y) (M+(X.length+U.length)-1-h)).1)) lo hi hlo (by simp only;omega)
  (λi j h1 h2 h3=>by
   have d:decide ((i:Int)<(j:Int))=true:=by simpa using h2
   obtain⟨b1,b2⟩:=hb3 ((i+j)/2) (by omega) (by omega);have r1:=ZaP (X++U++V++Y) ((i+j)/2) (by rw[hlen];omega);have r2:=ZaP (X++U++V++Y) (M+(X.length+U.length)-1-(i+j)/2) (by rw[hlen];omega);simp only[ZjX,RT.val,d,Zo8 i j (by omega),wsub (M+(X.length+U.length)-1) ((i+j)/2) (by omega) (by omega),r1,r2,Yh,Yj,Ya,ZcX,Zvm,Ziw ((i+j)/2) (by omega)]
   cases decide ((el (X++U++V++Y) ((i+j)/2)).1<=(el (X++U++V++Y) (M+(X.length+U.length)-1-(i+j)/2)).1)<;>rfl)
  (λi h1 h2=>by
   have d:decide ((i:Int)<(i:Int))=false:=by simp
   simp only[ZjX,RT.val,d,Yc])
 obtain⟨n1,hn1⟩:∃n1,σ=X.length+n1:=⟨σ-X.length,by omega⟩;subst hn1;have hn1:n1<=U.length:=by omega
 have hbound:∀c,lo<=c->c<hi->True:=λ_ _ _=>trivial
 have hσM:X.length+n1<=M:=by
  rcases hb4.2 with e|e
  ·by_cases hc:M<X.length+U.length
   ·have:=hb3 lo;rcases Yae lo hi with h|h
    ·have:=hb3 (hi-1) (by omega) (by omega);omega
    ·omega
   ·omega
  ·omega
 obtain⟨u1,u2,hu,hu1⟩:=Zb6 U n1 hn1;have hv1le:M-(X.length+n1)<=V.length:=by omega
 obtain⟨v1,v2,hv,hv1⟩:=Zb6 V (M-(X.length+n1)) hv1le;subst hu hv;simp only[Yd] at*;have su:=Yai.1 sU;have sv:=Yai.1 sV;have eu:∀i,i<u1.length+u2.length->el (X++(u1++u2)++(v1++v2)++Y) (X.length+i)=el (u1++u2) i:=λi hi=>gu i (by omega)
 have ev:∀i,i<v1.length+v2.length->el (X++(u1++u2)++(v1++v2)++Y) (X.length+(u1.length+u2.length)+i)=el (v1++v2) i:=λi hi=>gv i (by omega)
 have mu1:∀x∈u1,∃i,i<u1.length/\x=el (u1++u2) i:=λx hx=>by obtain⟨i,h1,h2,e⟩:=ZlY (V:=u1++u2) (p:=u1.length) (y:=x) (by simpa using hx);exact⟨i,h1,e⟩
 have mu2:∀x∈u2,∃i,u1.length<=i/\i<u1.length+u2.length/\x=el (u1++u2) i:=λx hx=>by obtain⟨i,h1,h2,e⟩:=Zjm (V:=u1++u2) (p:=u1.length) (y:=x) (by simpa using hx);exact⟨i,h1,by simpa using h2,e⟩
 have mv1:∀x∈v1,∃i,i<v1.length/\x=el (v1++v2) i:=λx hx=>by obtain⟨i,h1,h2,e⟩:=ZlY (V:=v1++v2) (p:=v1.length) (y:=x) (by simpa using hx);exact⟨i,h1,e⟩
 have mv2:∀x∈v2,∃i,v1.length<=i/\i<v1.length+v2.length/\x=el (v1++v2) i:=λx hx=>by obtain⟨i,h1,h2,e⟩:=Zjm (V:=v1++v2) (p:=v1.length) (y:=x) (by simpa using hx);exact⟨i,h1,by simpa using h2,e⟩
 have h12:∀x∈u2,∀y∈v1,y.1<x.1:=λx hx y hy=>by
  obtain⟨i,a1,a2,rfl⟩:=mu2 x hx;obtain⟨j,b1,rfl⟩:=mv1 y hy;rcases q2 with e|e
  ·exfalso;rcases hb4.2 with f|f<;>omega
  ·have hidx:M+(X.length+(u1.length+u2.length))-1-(X.length+n1)=X.length+(u1.length+u2.length)+(v1.length-1):=by omega
   rw[eu n1 (by omega),hidx,ev (v1.length-1) (by omega)] at e;have c1:=ZkX sU (i:=n1) (j:=i) (by omega) (by simp;omega);have c2:=ZkX sV (i:=j) (j:=v1.length-1) (by omega) (by simp;omega);simp only[Y5] at e;omega
 have h1:∀x∈u1,∀y∈v2,x.1<=y.1:=λx hx y hy=>by
  obtain⟨i,a1,rfl⟩:=mu1 x hx;obtain⟨j,b1,b2,rfl⟩:=mv2 y hy;rcases q1 with e|e
  ·exfalso;rcases hb4.1 with f|f<;>omega
  ·have hidx:M+(X.length+(u1.length+u2.length))-1-(X.length+n1-1)=X.length+(u1.length+u2.length)+v1.length:=by omega
   rw[hidx,show X.length+n1-1=X.length+(n1-1) by omega,eu (n1-1) (by omega),ev v1.length (by omega)] at e;have c1:=ZkX sU (i:=i) (j:=n1-1) (by omega) (by simp;omega);have c2:=ZkX sV (i:=v1.length) (j:=j) (by omega) (by simp;omega);simp only[Yf] at e;omega
 have hlaw:=ZUF h12 h1 su.2.2 sv.2.2;have hMv:M=X.length+u1.length+v1.length:=by omega
 have w0:(wrap .i64 (((X.length+(u1.length+u2.length):Nat):Int)-(X.length:Int))==1)=false:=by rw[wsub _ _ (by omega) (by omega)];simp;omega
 have w1:(wrap .i64 (((X.length+(u1.length+u2.length)+(v1.length+v2.length):Nat):Int)-((X.length+(u1.length+u2.length):Nat):Int))==1)=false:=by rw[wsub _ _ (by omega) (by omega)];simp;omega
 have w2:wrap .i64 (shrI .u64 (wrap .u64 (wrap .i64 ((X.length:Int)+((X.length+(u1.length+u2.length)+(v1.length+v2.length):Nat):Int)))) 1)=(M:Int):=by rw[Zo8 _ _ (by omega),hM]
 have w3:wrap .i64 ((M:Int)+((X.length+(u1.length+u2.length):Nat):Int))=((M+(X.length+(u1.length+u2.length)):Nat):Int):=wadd _ _ (by omega);have w4:wrap .i64 (((M+(X.length+(u1.length+u2.length)):Nat):Int)-1)=((M+(X.length+(u1.length+u2.length))-1:Nat):Int):=by have:=wsub (M+(X.length+(u1.length+u2.length))) 1 (by omega) (by omega);simpa using this
 have w5:wrap .i64 (((M+(X.length+(u1.length+u2.length)):Nat):Int)-((X.length+n1:Nat):Int))=((X.length+(u1.length+u2.length)+v1.length:Nat):Int):=by rw[wsub _ _ (by omega) (by omega)];omega
 have e0:X++(u1++u2)++(v1++v2)++Y=(X++u1)++u2++v1++(v2++Y):=by simp
 have hrot:(decide (((X.length+n1:Nat):Int)<((X.length+(u1.length+u2.length):Nat):Int))&&decide (((X.length+(u1.length+u2.length):Nat):Int)<((X.length+(u1.length+u2.length)+v1.length:Nat):Int)))=true->
   ZiJ (X++(u1++u2)++(v1++v2)++Y) ((X.length+n1:Nat):Int) ((X.length+(u1.length+u2.length):Nat):Int) ((X.length+(u1.length+u2.length)+v1.length:Nat):Int)=true:=λh=>by simp only[Yb,Yf] at h;have:=ZCU (X++u1) u2 v1 (v2++Y) (by omega) (by omega) (by rw[<-e0];simp only[Yd];omega);rw[e0];simp only[Yd] at this;rwa [show X.length+u1.length+u2.length=X.length+(u1.length+u2.length) by omega,show X.length+u1.length=X.length+n1 by omega] at this
 have hrotX:(bif (decide (((X.length+n1:Nat):Int)<((X.length+(u1.length+u2.length):Nat):Int))&&decide (((X.length+(u1.length+u2.length):Nat):Int)<((X.length+(u1.length+u2.length)+v1.length:Nat):Int))) then rotX (X++(u1++u2)++(v1++v2)++Y) (X.length+n1) (X.length+(u1.length+u2.length)) (X.length+(u1.length+u2.length)+v1.length) else X++(u1++u2)++(v1++v2)++Y)=X++u1++v1++(u2++v2++Y):=by
  by_cases h:0<u2.length/\0<v1.length
  ·have:(decide (((X.length+n1:Nat):Int)<((X.length+(u1.length+u2.length):Nat):Int))&&decide (((X.length+(u1.length+u2.length):Nat):Int)<((X.length+(u1.length+u2.length)+v1.length:Nat):Int)))=true:=by simp only[Yb,Yf];omega
   rw[this,Ya,e0];have:=ZJG (X++u1) u2 v1 (v2++Y);simp only[Yd] at this;rw[show X.length+u1.length+u2.length=X.length+(u1.length+u2.length) by omega,show X.length+u1.length=X.length+n1 by omega] at this;rw[this];simp
  ·have:(decide (((X.length+n1:Nat):Int)<((X.length+(u1.length+u2.length):Nat):Int))&&decide (((X.length+(u1.length+u2.length):Nat):Int)<((X.length+(u1.length+u2.length)+v1.length:Nat):Int)))=false:=by rw[YK];simp only[ne_eq,Yb,Yf];omega
   rw[this,Yc];rcases YaU u2.length with h2|h2
   ·rw[Y2.1 h2];simp
   ·rw[Y2.1 (show v1.length=0 by omega)];simp
 have hl2:(X++u1++v1++(u2++v2++Y)).length<=most:=by simp only[Yd];omega
 have hs1:(decide ((X.length:Int)<((X.length+n1:Nat):Int))&&decide (((X.length+n1:Nat):Int)<(M:Int)))=true->ZiE k (X++u1++v1++(u2++v2++Y)) (X.length:Int) ((X.length+n1:Nat):Int) (M:Int)=true:=λh=>by simp only[Yb,Yf] at h;have:=ZCI k X u1 v1 (u2++v2++Y) (by omega) (by omega) su.1 sv.1 (by omega) hl2;rwa [<-hMv,show X.length+u1.length=X.length+n1 by omega] at this
 have hsX1:(bif (decide ((X.length:Int)<((X.length+n1:Nat):Int))&&decide (((X.length+n1:Nat):Int)<(M:Int))) then ZdV (X++u1++v1++(u2++v2++Y)) X.length M else X++u1++v1++(u2++v2++Y))=X++isort (u1++v1)++(u2++v2++Y):=by
  by_cases h:0<u1.length/\0<v1.length
  ·have:(decide ((X.length:Int)<((X.length+n1:Nat):Int))&&decide (((X.length+n1:Nat):Int)<(M:Int)))=true:=by simp only[Yb,Yf];omega
   rw[this,Ya,Yo X u1 v1];exact ZmG X (u1++v1) (u2++v2++Y) M (by simp;omega)
  ·have:(decide ((X.length:Int)<((X.length+n1:Nat):Int))&&decide (((X.length+n1:Nat):Int)<(M:Int)))=false:=by rw[YK];simp only[ne_eq,Yb,Yf];omega
   rw[this,Yc]
   have:isort (u1++v1)=u1++v1:=Zq7 (by
    rcases YaU u1.length with h2|h2
    ·rw[Y2.1 h2,List.nil_append];exact sv.1
    ·rw[Y2.1 (show v1.length=0 by omega),YG];exact su.1)
   rw[this];simp
 have e3:X++isort (u1++v1)++(u2++v2++Y)=(X++isort (u1++v1))++u2++v2++Y:=by simp
 have hl3:(X++isort (u1++v1)).length=M:=by rw[Yd,Zew];simp;omega
 have hs2:(decide ((M:Int)<((X.length+(u1.length+u2.length)+v1.length:Nat):Int))&&decide (((X.length+(u1.length+u2.length)+v1.length:Nat):Int)<((X.length+(u1.length+u2.length)+(v1.length+v2.length):Nat):Int)))=true->ZiE k (X++isort (u1++v1)++(u2++v2++Y)) (M:Int) ((X.length+(u1.length+u2.length)+v1.length:Nat):Int) ((X.length+(u1.length+u2.length)+(v1.length+v2.length):Nat):Int)=true:=λh=>by simp only[Yb,Yf] at h;have:=ZCI k (X++isort (u1++v1)) u2 v2 Y (by omega) (by omega) su.2.1 sv.2.1 (by omega) (by rw[<-e3];simp only[Yd,Zew];omega);rw[e3];rw[hl3] at this;rwa [show M+u2.length=X.length+(u1.length+u2.length)+v1.length by omega,show X.length+(u1.length+u2.length)+v1.length+v2.length=X.length+(u1.length+u2.length)+(v1.length+v2.length) by omega] at this
 have hsX2:(bif (decide ((M:Int)<((X.length+(u1.length+u2.length)+v1.length:Nat):Int))&&decide (((X.length+(u1.length+u2.length)+v1.length:Nat):Int)<((X.length+(u1.length+u2.length)+(v1.length+v2.length):Nat):Int))) then ZdV (X++isort (u1++v1)++(u2++v2++Y)) M (X.length+(u1.length+u2.length)+(v1.length+v2.length)) else X++isort (u1++v1)++(u2++v2++Y))=X++isort (u1++u2++(v1++v2))++Y:=by
  have hfin:isort (u1++u2++(v1++v2))=isort (u1++v1)++isort (u2++v2):=by rw[<-hlaw];simp
  rw[hfin];by_cases h:0<u2.length/\0<v2.length
  ·have:(decide ((M:Int)<((X.length+(u1.length+u2.length)+v1.length:Nat):Int))&&decide (((X.length+(u1.length+u2.length)+v1.length:Nat):Int)<((X.length+(u1.length+u2.length)+(v1.length+v2.length):Nat):Int)))=true:=by simp only[Yb,Yf];omega
   rw[this,Ya,e3,Yo (X++isort (u1++v1)) u2 v2];have:=ZmG (X++isort (u1++v1)) (u2++v2) Y (X.length+(u1.length+u2.length)+(v1.length+v2.length)) (by rw[hl3];simp;omega);rw[hl3] at this;rw[this];simp
  ·have:(decide ((M:Int)<((X.length+(u1.length+u2.length)+v1.length:Nat):Int))&&decide (((X.length+(u1.length+u2.length)+v1.length:Nat):Int)<((X.length+(u1.length+u2.length)+(v1.length+v2.length):Nat):Int)))=false:=by rw[YK];simp only[ne_eq,Yb,Yf];omega
   rw[this,Yc]
   have:isort (u2++v2)=u2++v2:=Zq7 (by
    rcases YaU u2.length with h2|h2
    ·rw[Y2.1 h2,List.nil_append];exact sv.2.1
    ·rw[Y2.1 (show v2.length=0 by omega),YG];exact su.2.1)
   rw[this];simp
 have imp:∀{p q:Bool},(p=true->q=true)->(!p||q)=true:=fun {p q} h=>by
  cases p with
  |false=>rfl
  |true=>rw[h rfl];rfl
 have hst:runF false ZjX (λa_1=>Int.toNat (a_1.2.2.2.2.2.2.1-a_1.2.2.2.2.2.1)+1) ((X.length:Int),((X.length+(u1.length+u2.length):Nat):Int),((X.length+(u1.length+u2.length)+(v1.length+v2.length):Nat):Int),(M:Int),((M+(X.length+(u1.length+u2.length)):Nat):Int),(lo:Int),(hi:Int),((M+(X.length+(u1.length+u2.length))-1:Nat):Int),X++(u1++u2)++(v1++v2)++Y,())=some (false,((X.length:Int),((X.length+(u1.length+u2.length):Nat):Int),((X.length+(u1.length+u2.length)+(v1.length+v2.length):Nat):Int),(M:Int),((M+(X.length+(u1.length+u2.length)):Nat):Int),((X.length+n1:Nat):Int),((X.length+n1:Nat):Int),((M+(X.length+(u1.length+u2.length))-1:Nat):Int),X++(u1++u2)++(v1++v2)++Y,())):=hrun;simp only[ZrA,ZdI,RT.val,w0,w1,w2,w3,w4,Ym,Yw,Ya,Yc,hlh.1,hlh.2,hst,okB,getO,w5,imp hrot,Int.toNat_natCast,hrotX,imp hs1,hsX1,imp hs2,hsX2]
theorem ZUD (k:Int) (X U V Y:List Cell) (hU:0<U.length) (hV:0<V.length) (sU:Srt U) (sV:Srt V) (hk:((U.length+V.length:Nat):Int)<=k+1) (hm:(X++U++V++Y).length<=most):
  (ZrA k (X++U++V++Y) X.length (X.length+U.length:Nat) (X.length+U.length+V.length:Nat)).val=some (X++isort (U++V)++Y):=by
 by_cases h1:U.length=1
 ·obtain⟨x,rfl⟩:=List.length_eq_one_iff.1 h1;exact ZUE k X V Y x hV sV hm
 ·by_cases h2:V.length=1
  ·obtain⟨y,rfl⟩:=List.length_eq_one_iff.1 h2;exact ZPK k X U Y y (by omega) sU hm
  ·exact ZUG k X U V Y (by omega) (by omega) sU sV hk hm
theorem ZCH:∀n:Nat,Za Tryz.prog 265 (ZUH (n:Int))
 |0=>Za.st_never Tryz.call265 λa=>by
  obtain⟨l,a,m,b⟩:=a;have:ZiE ((0:Nat):Int) l a m b=false:=by
   cases h:ZiE ((0:Nat):Int) l a m b with
   |false=>rfl
   |true=>
    exfalso;simp only[ZiE,ZiJ,Yb,Yf,Yy] at h;obtain⟨⟨⟨⟨⟨⟨⟨p1,p2⟩,p3⟩,p4⟩,p5⟩,p6⟩,p7⟩,p8⟩:=h;omega
  simp only[this]
 |n+1=>ZPx (n:Int) (ZCH n) λa h1 h2 hp=>by
  obtain⟨l,a,m,b⟩:=a;have hp:ZiE ((n+1:Nat):Int) l a m b=true:=by cases h:ZiE ((n+1:Nat):Int) l a m b<;>simp_all
  simp only[ZiE,ZiJ,Yb,Yf,Yy] at hp;obtain⟨⟨⟨⟨⟨⟨⟨p1,p2⟩,p3⟩,p4⟩,p5⟩,p6⟩,p7⟩,p8⟩:=hp;obtain⟨a,rfl⟩:=Y4 p1;obtain⟨m,rfl⟩:=Y4 (show (0:Int)<=m by omega);obtain⟨b,rfl⟩:=Y4 (show (0:Int)<=b by omega);obtain⟨X,U,V,Y,rfl,rfl,rfl,rfl⟩:=ZTe l a m b (by omega) (by omega) (by omega);obtain⟨s1,s2⟩:=sub3 X U V Y;simp only[Int.toNat_natCast,s1,s2] at p7 p8;have:=ZUD (n:Int) X U V Y (by omega) (by omega) (ZfJ.1 p7) (ZfJ.1 p8) (by omega) p5;simp only[Int.toNat_natCast];rw[this,Yo X U V,ZmG X (U++V) Y _ (by simp;omega)]
def Zgs (l:List Cell) (a m b:Int):Bool:=ZiJ l a m b&&srtB ((l.drop a.toNat).take (m.toNat-a.toNat))&&srtB ((l.drop m.toNat).take (b.toNat-m.toNat))
def Zp2:En:=stE ZcQ ZrC 221 Zyp (λa=>some (Zgs a.1 a.2.1 a.2.2.1 a.2.2.2)) (λa=>ZdV a.1 a.2.1.toNat a.2.2.2.toNat)
theorem Zlu:Za Tryz.prog 265 Zp2:=Zgv (ZCH most) λa h1 h2 hp=>⟨by
 obtain⟨l,a,m,b⟩:=a;have hp:Zgs l a m b=true:=by cases h:Zgs l a m b<;>simp_all
 simp only[Zgs,Yb] at hp;have hk:decide (b-a<=((most:Nat):Int))=true:=by
  have:=hp.1.1;simp only[ZiJ,Yb,Yf,Yy] at this;obtain⟨⟨⟨⟨p1,p2⟩,p3⟩,p4⟩,p5⟩:=this;refine Yz ?_;have key:∀(a b:Int) (n:Nat),0<=a->b<=(n:Int)->n<=most->b-a<=((most:Nat):Int):=by intros;omega
  exact key a b _ p1 p4 p5
 simp only[ZiE,hp.1.1,hp.1.2,hp.2,hk,Y1];simp,rfl⟩
end
end Go.Proofs.YteaflmalcclnoaaGreatDoor
open Go.Proofs.Tryz (prog)
open Go Go.S3 Go.Proofs
namespace Go.Proofs.YteaflmalcclnoaaGreatDoor
noncomputable section
def ZPD:LS:={n:=63,Sl:=[(0,.tip 0),(1,.code (So Kc)),(2,.fix (A.clo 221 [])),(6,.code (So Kc)),(7,.code (So Kc)),(8,.code (So Kc))],Bx:=[],Sg:=[⟨Pq Kb Ka,97,false⟩],keep:=[0]}
def Zhc (a:QT6):RT (Option (Go1 (QT6))):=
 .br (decide (a.2.2.2.1<=a.1)) (.br (ZgB a.2.2.2.2.1 a.2.2.1 a.2.2.2.1) (Ls (Go1.cont (a.1,a.2.1,a.2.2.2.1,i64.wrap (a.2.2.2.1+a.2.1),ZdV a.2.2.2.2.1 (Int.toNat a.2.2.1) (Int.toNat a.2.2.2.1),PUnit.unit))) Ln) (Ls (Go1.brk (a.1,a.2.1,a.2.2.1,a.2.2.2.1,a.2.2.2.2.1,PUnit.unit)))
def ZCA:Ora:=Zbq false ZPD Zhc (λa=>(a.1-a.2.2.2.1).toNat+2)
theorem ZFD:Za1 (envX prog [(264,Zp6),(265,Zp2),(221,ZbR)] [] 1023 8) (.block 0 (.loop (Z5 Tryz.f253.body 0))) ZCA:=
 loopP ⟨Zlx,Zlu,Zav,Tv⟩
def ZPC:LS:={n:=63,Sl:=[(0,.tip 0),(1,.code (So Kc)),(2,.fix (A.clo 221 [])),(6,.code (So Kc)),(7,.code (So Kc)),(8,.code (So Kc))],Bx:=[],Sg:=[⟨Pq Kb Ka,97,false⟩],keep:=[0]}
def Zhb (a:QT6):RT (Option (Go1 (QT6))):=
 .br (decide (a.2.2.2.1<=a.1)) (.br (Zgs a.2.2.2.2.1 a.2.2.1 (i64.wrap (a.2.2.1+a.2.1)) a.2.2.2.1) (Ls (Go1.cont (a.1,a.2.1,a.2.2.2.1,i64.wrap (a.2.2.2.1+i64.wrap (2*a.2.1)),ZdV a.2.2.2.2.1 (Int.toNat a.2.2.1) (Int.toNat a.2.2.2.1),PUnit.unit))) Ln) (Ls (Go1.brk (a.1,a.2.1,a.2.2.1,a.2.2.2.1,a.2.2.2.2.1,PUnit.unit)))
def Zlv:Ora:=Zbq false ZPC Zhb (λa=>(a.1-a.2.2.2.1).toNat+2)
theorem Zp3:Za1 (envX prog [(264,Zp6),(265,Zp2),(221,ZbR)] [] 1023 8) (.block 4 (.loop (Z5 Tryz.f253.body 4))) Zlv:=
 loopP ⟨Zlx,Zlu,Zav,Tv⟩
def ZPB:LS:={n:=63,Sl:=[(0,.tip 0),(1,.code (So Kc)),(2,.fix (A.clo 221 [])),(6,.code (So Kc))],Bx:=[],Sg:=[⟨Pq Kb Ka,97,false⟩],keep:=[0]}
def ZfF (a:QT10):RT (Option (Go1 (QT10))):=
 let x1:QT6:=(a.1,a.2.1,0,i64.wrap (2*a.2.1),a.2.2.1,())
 let x2:=runF false Zhb (λa_1=>Int.toNat (a_1.1-a_1.2.2.2.1)+2) x1
 let x3:=okB x2
 let x4:QT6:=(getO (false,x1) x2).2
 let x5:=x4.2
 let x6:=x5.2
 let x7:=x6.1
 let x8:=x5.1
 let x9:=i64.wrap (x7+x8)
 let x10:=x4.1
 let x11:=decide (x9<x10)
 let x12:=x6.2.2.1
 .br (decide (a.2.1<a.1)) (.br (!x3||(!x11||Zgs x12 x7 x9 x10)) (.br (x3) (Ls (Go1.cont (x10,i64.wrap (x8*2),bif x11 then ZdV x12 (Int.toNat x7) (Int.toNat x10) else x12,PUnit.unit))) Ln) Ln) (Ls (Go1.brk (a.1,a.2.1,a.2.2.1,PUnit.unit)))
def ZCz:Ora:=Zbq false ZPB ZfF (λa=>(a.1-a.2.1).toNat+1)
theorem ZFC:Za1 (envX prog [(264,Zp6),(265,Zp2),(221,ZbR)] [(4,Zlv)] 1023 8) (.block 2 (.loop (Z5 Tryz.f253.body 2))) ZCz:=
 Zev (ZaT (l:=[(264,Zp6),(265,Zp2),(221,ZbR)]) ⟨Zlx,Zlu,Zav,Tv⟩ [(4,Zlv)] 1023 8) (Zim (by kernel_rfl) (by kernel_rfl) ⟨Zp3,Tv⟩) (λa=>by kernel_rfl)
def Zvj (s:List (Int×Int)) (n:Int):RT (Option (List (Int×Int))):=
 let x1:QT6:=(n,20,0,20,Stg.l (ZdI ZcQ ZrC s),())
 let x2:=runF false Zhc (λa=>Int.toNat (a.1-a.2.2.2.1)+2) x1
 let x3:QT6:=(getO (false,x1) x2).2
 let x4:=x3.2
 let x5:=x4.2
 let x6:=x5.2.2.1
 let x7:=x5.1
 let x8:=x3.1
 let x9:QT10:=(x8,x4.1,ZdV x6 (Int.toNat x7) (Int.toNat x8),())
 let x10:=runF false ZfF (λa=>Int.toNat (a.1-a.2.1)+1) x9
 .br (okB x2) (.br (ZgB x6 x7 x8) (.br (okB x10) (Ls (getO (false,x9) x10).2.2.2.1) Ln) Ln) Ln
def ZXC (s:List (Int×Int)) (n:Int):List (Int×Int):=getO [] (Zvj s n).val
def ZSM (s:List (Int×Int)) (n:Int):Bool:=okB (Zvj s n).val
def ZXB:En:=stE ZcQ ZrC 221 Zwr (λa=>some (ZSM a.1 a.2)) (λa=>ZXC a.1 a.2)
theorem ZPA:Za prog 253 ZXB:=
 ZmF (P:=prog) (n:=1023) (k:=8) (l:=[(264,Zp6),(265,Zp2),(221,ZbR)]) (ol:=[(0,ZCA),(4,Zlv),(2,ZCz)]) ⟨Zlx,Zlu,Zav,Tv⟩ Tryz.func253 rfl (by kernel_rfl) Tryz.call253 ⟨ZFD,Zp3,ZFC,Tv⟩ (r:=ZcQ) (T:=ZrC) (g0:=221) (ts:=Zwr) (t:=λa=>Zvj a.1 a.2) (λa=>by kernel_rfl)
def sb (s:List Cell) (c d:Nat):List Cell:=(s.drop c).take (d-c)
theorem ZJx (X T:List Cell) (c d:Nat) (h:d<=X.length):sb (X++T) c d=sb X c d:=by
 unfold sb;by_cases hc:c<=X.length
 ·rw[List.drop_append_of_le_length hc,List.take_append_of_le_length (by simp;omega)]
 ·rw[show d-c=0 by omega];simp
theorem ZSY (X L Y:List Cell):sb (X++L++Y) X.length (X.length+L.length)=L:=by unfold sb;rw[Yo,Yah rfl,Yav (by omega)]
theorem ZJw (X T:List Cell) (c d:Nat) (h:X.length<=c):sb (X++T) c d=sb T (c-X.length) (d-X.length):=by unfold sb;rw[List.drop_append,Y6 h,List.nil_append];congr 1;omega
theorem ZfK (s:List Cell) (a b:Nat) (h1:a<=b) (h2:b<=s.length):
  (ZdV s a b).length=s.length/\Sm (ZdV s a b) s/\(∀c d,d<=a->sb (ZdV s a b) c d=sb s c d)/\(∀c d,b<=c->sb (ZdV s a b) c d=sb s c d)/\sb (ZdV s a b) a b=isort (sb s a b):=by
 obtain⟨X,L,Y,rfl,rfl,rfl⟩:=ZTf s a b h1 h2;rw[ZrM,ZSY];refine⟨by simp[Zew],((Sm.refl X).app (ZfU L)).app (Sm.refl Y),λc d h=> ?_,λc d h=> ?_,?_⟩
 ·rw[Yo,Yo,ZJx _ _ _ _ h,ZJx _ _ _ _ h]
 ·rw[ZJw (X++isort L) Y c d (by simp[Zew];omega),ZJw (X++L) Y c d (by simp;omega)];simp[Zew]
 ·have:=ZSY X (isort L) Y;rwa [Zew] at this
def Blk (w:Nat) (s:List Cell):Prop:=∀i,Srt (sb s (w*i) (w*i+w))
theorem ZrV (s:List Cell) (c d:Nat) (h:s.length<=d):sb s c d=s.drop c:=by unfold sb;exact YW (by simp;omega)
theorem ZJv (s:List Cell) (c d:Nat) (h:s.length<=c):sb s c d=[]:=by unfold sb;rw[Y6 h];simp
theorem Zqr (s:List Cell) (a b:Nat) (h1:a<=b) (h2:b<=s.length) (hm:s.length<=most):ZgB s a b=true:=by simp only[ZgB,Yb,Yf,Yy];omega
theorem loop0 (L:List Cell) (hm:L.length<=most):
  ∃r,runF false Zhc (λa=>Int.toNat (a.1-a.2.2.2.1)+2) ((L.length:Int),20,0,20,L,())=some r/\
   ∃(j:Nat) (s:List Cell),r.2=((L.length:Int),20,((20*j:Nat):Int),((20*j+20:Nat):Int),s,())/\20*j<=L.length/\L.length<20*j+20/\s.length=L.length/\Sm s L/\∀i,i<j->Srt (sb s (20*i) (20*i+20)):=by
 have hms:=mst;refine ZK (fl:=false) (t:=Zhc) (fuel:=λa=>Int.toNat (a.1-a.2.2.2.1)+2)
  (I:=λa=>∃(j:Nat) (s:List Cell),a=((L.length:Int),20,((20*j:Nat):Int),((20*j+20:Nat):Int),s,())/\20*j<=L.length/\s.length=L.length/\Sm s L/\∀i,i<j->Srt (sb s (20*i) (20*i+20)))
  (m:=λa=>Int.toNat (a.1-a.2.2.2.1+1)) (R:=λr=>∃(j:Nat) (s:List Cell),r.2=((L.length:Int),20,((20*j:Nat):Int),((20*j+20:Nat):Int),s,())/\20*j<=L.length/\L.length<20*j+20/\s.length=L.length/\Sm s L/\∀i,i<j->Srt (sb s (20*i) (20*i+20)))
  (λa hi=> ?_) _ ⟨0,L,by simp,by omega,rfl,Sm.refl L,λi h=>by omega⟩ (by simp only;omega)
 obtain⟨j,s,rfl,h1,h2,h3,h4⟩:=hi;by_cases hb:20*j+20<=L.length
 ·left;have d:decide (((20*j+20:Nat):Int)<=(L.length:Int))=true:=by simp;omega
  have hr:=Zqr s (20*j) (20*j+20) (by omega) (by omega) (by omega);have w:wrap .i64 (((20*j+20:Nat):Int)+20)=((20*(j+1)+20:Nat):Int):=by rw[wrap_i64 _ (by omega) (by omega)];omega
  obtain⟨f1,f2,f3,f4,f5⟩:=ZfK s (20*j) (20*j+20) (by omega) (by omega);refine⟨((L.length:Int),20,((20*j+20:Nat):Int),((20*(j+1)+20:Nat):Int),ZdV s (20*j) (20*j+20),()),?_,⟨j+1,_,rfl,by omega,by omega,f2.trans h3,λi hi=> ?_⟩,by simp only;omega⟩
  ·simp only[Zhc,RT.val,d,hr,Ya,w,Int.toNat_natCast]
  ·by_cases hij:i=j
   ·subst hij;rw[f5];exact Zb0 _
   ·rw[f3 _ _ (by omega)];exact h4 i (by omega)
 ·right;left;have d:decide (((20*j+20:Nat):Int)<=(L.length:Int))=false:=by simp;omega
  exact⟨_,by simp only[Zhc,RT.val,d,Yc],j,s,rfl,h1,by omega,h2,h3,h4⟩
theorem Zvq (s:List Cell) (a m b:Nat) (h1:a<m) (h2:m<b) (h3:b<=s.length) (hm:s.length<=most) (k1:Srt (sb s a m)) (k2:Srt (sb s m b)):Zgs s a m b=true:=by simp only[Zgs,Int.toNat_natCast,Yb];refine⟨⟨?_,ZfJ.2 k1⟩,ZfJ.2 k2⟩;simp only[ZiJ,Yb,Yf,Yy];omega
theorem loop1 (L:List Cell) (w n:Nat) (hn:n=L.length) (hw:0<w) (hw2:w<=2*most) (hm:L.length<=most) (hB:Blk w L):
  ∃r,runF false Zhb (λa=>Int.toNat (a.1-a.2.2.2.1)+2) ((n:Int),(w:Int),0,((2*w:Nat):Int),L,())=some r/\
   ∃(j:Nat) (s:List Cell),r.2=((n:Int),(w:Int),((2*w*j:Nat):Int),((2*w*j+2*w:Nat):Int),s,())/\2*w*j<=n/\n<2*w*j+2*w/\s.length=n/\Sm s L/\(∀i,i<j->Srt (sb s (2*w*i) (2*w*i+2*w)))/\∀i,2*w*j<=w*i->Srt (sb s (w*i) (w*i+w)):=by
 have hms:=mst;refine ZK (fl:=false) (t:=Zhb) (fuel:=λa=>Int.toNat (a.1-a.2.2.2.1)+2)
  (I:=λa=>∃(j:Nat) (s:List Cell),a=((n:Int),(w:Int),((2*w*j:Nat):Int),((2*w*j+2*w:Nat):Int),s,())/\2*w*j<=n/\s.length=n/\Sm s L/\(∀i,i<j->Srt (sb s (2*w*i) (2*w*i+2*w)))/\∀i,2*w*j<=w*i->Srt (sb s (w*i) (w*i+w)))
  (m:=λa=>Int.toNat (a.1-a.2.2.2.1+1)) (R:=λr=>∃(j:Nat) (s:List Cell),r.2=((n:Int),(w:Int),((2*w*j:Nat):Int),((2*w*j+2*w:Nat):Int),s,())/\2*w*j<=n/\n<2*w*j+2*w/\s.length=n/\Sm s L/\(∀i,i<j->Srt (sb s (2*w*i) (2*w*i+2*w)))/\∀i,2*w*j<=w*i->Srt (sb s (w*i) (w*i+w)))
  (λa hi=> ?_) _ ⟨0,L,by simp,by omega,hn.symm,Sm.refl L,λi h=>by omega,λi _=>hB i⟩ (by simp only;omega)
 obtain⟨j,s,rfl,h1,h2,h3,h4,h5⟩:=hi;have q1:2*w*(j+1)=2*w*j+2*w:=by rw[Nat.mul_add];omega
 by_cases hb:2*w*j+2*w<=n
 ·left;have d:decide (((2*w*j+2*w:Nat):Int)<=(n:Int))=true:=Yz (Int.ofNat_le.2 hb);have e1:wrap .i64 (((2*w*j:Nat):Int)+(w:Int))=((2*w*j+w:Nat):Int):=wadd _ _ (by omega);have e2:wrap .i64 (2*(w:Int))=((2*w:Nat):Int):=by rw[wrap_i64 _ (by omega) (by omega)];omega
  have e3:wrap .i64 (((2*w*j+2*w:Nat):Int)+((2*w:Nat):Int))=((2*w*(j+1)+2*w:Nat):Int):=by rw[wadd _ _ (by omega),q1]
  have hr:=Zvq s (2*w*j) (2*w*j+w) (2*w*j+2*w) (by omega) (by omega) (by omega) (by omega)
   (by have:=h5 (2*j) (by rw[show w*(2*j)=2*w*j by rw[Nat.mul_left_comm,Nat.mul_assoc]];exact Ye _);rwa [show w*(2*j)=2*w*j by rw[Nat.mul_left_comm,Nat.mul_assoc]] at this)
   (by
    have e:w*(2*j+1)=2*w*j+w:=by rw[Nat.mul_add,Nat.mul_left_comm,Nat.mul_assoc];omega
    have:=h5 (2*j+1) (by rw[e];omega);rw[e] at this
    rwa [show 2*w*j+w+w=2*w*j+2*w by omega] at this)
  obtain⟨f1,f2,f3,f4,f5⟩:=ZfK s (2*w*j) (2*w*j+2*w) (by omega) (by omega);refine⟨((n:Int),(w:Int),((2*w*j+2*w:Nat):Int),((2*w*(j+1)+2*w:Nat):Int),ZdV s (2*w*j) (2*w*j+2*w),()),?_,⟨j+1,_,by rw[q1],by omega,by omega,f2.trans h3,λi hi=> ?_,λi hi=> ?_⟩,by simp only;omega⟩
  ·simp only[Zhb,RT.val,d,e1,e2,hr,Ya,e3,Int.toNat_natCast]
  ·by_cases hij:i=j
   ·subst hij;rw[f5];exact Zb0 _
   ·have:2*w*i+2*w<=2*w*j:=by have:=YaR (2*w) (show i+1<=j by omega);rw[Nat.mul_add] at this;omega
    rw[f3 _ _ this];exact h4 i (by omega)
  ·rw[f4 _ _ (by omega)];exact h5 i (by omega)
 ·right;left;have d:decide (((2*w*j+2*w:Nat):Int)<=(n:Int))=false:=YR (λh=>hb (Int.ofNat_le.1 h));exact⟨_,by simp only[Zhb,RT.val,d,Yc],j,s,rfl,h1,by omega,h2,h3,h4,h5⟩
theorem loop2 (L:List Cell) (n:Nat) (hn:n=L.length) (hm:L.length<=most) (hB:Blk 20 L):
  ∃r,runF false ZfF (λa=>Int.toNat (a.1-a.2.1)+1) ((n:Int),20,L,())=some r/\r.2.2.2.1=isort L:=by
 have hms:=mst;refine ZK (fl:=false) (t:=ZfF) (fuel:=λa=>Int.toNat (a.1-a.2.1)+1)
  (I:=λa=>∃(w:Nat) (s:List Cell),a=((n:Int),(w:Int),s,())/\0<w/\w<=2*most/\s.length=n/\Sm s L/\Blk w s)
  (m:=λa=>Int.toNat (a.1-a.2.1)) (R:=λr=>r.2.2.2.1=isort L)
  (λa hi=> ?_) _ ⟨20,L,by simp,by omega,by omega,hn.symm,Sm.refl L,hB⟩ (YaD _)
 obtain⟨w,s,rfl,h0,h1,h2,h3,h4⟩:=hi;by_cases hb:w<n
 ·left;have d:decide ((w:Int)<(n:Int))=true:=by simpa using hb
  have e0:wrap .i64 (2*(w:Int))=((2*w:Nat):Int):=by rw[wrap_i64 _ (by omega) (by omega)];omega
  obtain⟨r,hr,j,t,hr2,k1,k2,k3,k4,k5,k6⟩:=loop1 s w n h2.symm h0 h1 (by omega) h4;have e1:wrap .i64 (((2*w*j:Nat):Int)+(w:Int))=((2*w*j+w:Nat):Int):=wadd _ _ (by omega);have e2:wrap .i64 ((w:Int)*2)=((2*w:Nat):Int):=by rw[wrap_i64 _ (by omega) (by omega)];omega
  have eA:w*(2*j)=2*w*j:=by rw[Nat.mul_left_comm,Nat.mul_assoc]
  have eB:w*(2*j+1)=2*w*j+w:=by rw[Nat.mul_add,eA];omega
  have s1:=k6 (2*j) (by rw[eA];exact Ye _);have s2:=k6 (2*j+1) (by rw[eB];omega);rw[eA] at s1;rw[eB] at s2;have tail:∀i,j<i->n<=2*w*i:=λi hi=>by have:=YaR (2*w) (show j+1<=i by omega);rw[Nat.mul_add] at this;omega
  by_cases hm2:2*w*j+w<n
  ·have d2:decide (((2*w*j+w:Nat):Int)<(n:Int))=true:=Yz (Int.ofNat_lt.2 hm2);have s2':Srt (sb t (2*w*j+w) n):=by rw[ZrV _ _ _ (by omega)];rwa [ZrV _ _ _ (by omega)] at s2
   have ho:=Zvq t (2*w*j) (2*w*j+w) n (by omega) hm2 (by omega) (by omega) s1 s2';obtain⟨f1,f2,f3,f4,f5⟩:=ZfK t (2*w*j) n (by omega) (by omega);refine⟨((n:Int),((2*w:Nat):Int),ZdV t (2*w*j) n,()),?_,⟨2*w,_,rfl,by omega,by omega,by omega,f2.trans (k4.trans h3),λi=> ?_⟩,by simp only;omega⟩
   ·simp only[ZfF,RT.val,d,e0,hr,hr2,okB,getO,Ya,e1,d2,ho,e2,Yh,Yj,Yk,Int.toNat_natCast]
   ·rcases Nat.lt_trichotomy i j with hij|hij|hij
    ·have:2*w*i+2*w<=2*w*j:=by have:=YaR (2*w) (show i+1<=j by omega);rw[Nat.mul_add] at this;omega
     rw[f3 _ _ this];exact k5 i hij
    ·subst hij;rw[ZrV _ _ _ (by omega),<-ZrV _ _ n (by omega),f5];exact Zb0 _
    ·rw[ZJv _ _ _ (by have:=tail i hij;omega)];exact Yap
  ·have d2:decide (((2*w*j+w:Nat):Int)<(n:Int))=false:=YR (λh=>hm2 (Int.ofNat_lt.1 h));refine⟨((n:Int),((2*w:Nat):Int),t,()),?_,⟨2*w,_,rfl,by omega,by omega,by omega,k4.trans h3,λi=> ?_⟩,by simp only;omega⟩
   ·simp only[ZfF,RT.val,d,e0,hr,hr2,okB,getO,Ya,Yc,e1,d2,e2,Yh,Ym,Yw,Yj,Yk,Int.toNat_natCast]
   ·rcases Nat.lt_trichotomy i j with hij|hij|hij
    ·exact k5 i hij
    ·subst hij;rw[ZrV _ _ _ (by omega)];rwa [ZrV _ _ _ (by omega)] at s1
    ·rw[ZJv _ _ _ (by have:=tail i hij;omega)];exact Yap
 ·right;left;have d:decide ((w:Int)<(n:Int))=false:=by simpa using hb
  refine⟨((n:Int),(w:Int),s,()),by simp only[ZfF,RT.val,d,Yc],?_⟩;have:=h4 0;rw[ZrV _ _ _ (by omega)] at this;exact (Zhx (by simpa using this) h3).symm
theorem ZPP (L:List Cell) (hm:L.length<=most):(Zvj L L.length).val=some (isort L):=by
 have hms:=mst;obtain⟨r,hr,j,s,hr2,k1,k2,k3,k4,k5⟩:=loop0 L hm;have hok:=Zqr s (20*j) L.length k1 (by omega) (by omega);obtain⟨f1,f2,f3,f4,f5⟩:=ZfK s (20*j) L.length k1 (by omega)
 obtain⟨q,hq,hq2⟩:=loop2 (ZdV s (20*j) L.length) L.length (by omega) (by omega) (λi=>by
  rcases Nat.lt_trichotomy i j with hij|hij|hij
  ·rw[f3 _ _ (by omega)];exact k5 i hij
  ·subst hij;rw[ZrV _ _ _ (by omega),<-ZrV _ _ L.length (by omega),f5];exact Zb0 _
  ·rw[ZJv _ _ _ (by omega)];exact Yap)
 have hfin:isort (ZdV s (20*j) L.length)=isort L:=Zo3 (f2.trans k4);simp only[Zvj,ZdI,RT.val,hr,hr2,okB,getO,Ya,hok,Int.toNat_natCast,hq,hq2,hfin]
def ZmE (l:List Cell) (n:Int):Bool:=decide (n=l.length)&&Nat.ble l.length most
def ZIL:En:=stE ZcQ ZrC 221 Zwr (λa=>some (ZmE a.1 a.2)) (λa=>isort a.1)
theorem ZIK:Za Tryz.prog 253 ZIL:=Zgv ZPA λa h1 h2 hp=>by
 obtain⟨l,n⟩:=a;have hp:ZmE l n=true:=by cases h:ZmE l n<;>simp_all
 simp only[ZmE,Yb,Yf,Yy] at hp;obtain⟨rfl,p2⟩:=hp;have:=ZPP l p2;simp only[ZSM,ZXC];rw[this];simp[okB,getO]
abbrev ZuT:En:=Zrj (Pq Kb Ka) ZrC
theorem Zpy:Za Tryz.prog 58 ZuT:=
 Zri (P:=Tryz.prog) (n:=15) (k:=8) (l:=[]) (ol:=[]) trivial Tryz.func58 rfl (by kernel_rfl) Tryz.call58 trivial
  (λm=>⟨{chk:=none,v:=.w (.one .nilsl),m:=m,bd:=[],sd:=[]},by kernel_rfl,rfl,rfl⟩)
  (λm l h=>⟨{chk:=none,v:=.w (.one (.tip (len m.Sg) 0)),m:={m with Sg:=m.Sg++[ZhZ (Pq (R.int u16) (R.int u8)) ZrC l]},bd:=[],sd:=[]},by
   have e:(Zo (envX Tryz.prog [] [] 15 8) Tryz.f58 [.w (.one (.lst (Pq (R.int u16) (R.int u8)) false false true l))] m).val=cond (Nat.ble ([]++l).length most) (some {chk:=none,v:=.w (.one (.tip (len m.Sg) 0)),m:={m with Sg:=m.Sg++[ZhZ (Pq (R.int u16) (R.int u8)) ZrC ([]++l)]},bd:=[],sd:=[]}) none:=by kernel_rfl
   rw[e,List.nil_append,h];rfl,rfl,rfl⟩)
def Zvk (s:List (Int×Int)):RT (Option (List (Int×Int))):=
 .br (ZmE (Stg.l (ZdI ZcQ ZrC s)) (iN (Le (Stg.l (ZdI ZcQ ZrC s))))) (Ls (Cells.isort (Stg.l (ZdI ZcQ ZrC s)))) Ln
def Zys (s:List (Int×Int)):List (Int×Int):=getO [] (Zvk s).val
def ZCC (s:List (Int×Int)):Bool:=okB (Zvk s).val
def ZIN:En:=stE ZcQ ZrC 221 Zv5 (λa=>some (ZCC a.1)) (λa=>Zys a.1)
theorem ZCB:Za prog 220 ZIN:=
 ZmF (P:=prog) (n:=15) (k:=8) (l:=[(253,ZIL),(221,ZbR)]) (ol:=[]) ⟨ZIK,Zav,Tv⟩ Tryz.func220 rfl (by kernel_rfl) Tryz.call220 trivial (r:=ZcQ) (T:=ZrC) (g0:=221) (ts:=Zv5) (t:=λa=>Zvk a.1) (λa=>by kernel_rfl)
abbrev ZNm:List Sh:=[So rcCE]
abbrev ZBy:Rs:=Rs.one (So rcCE)
def ZRC:LS:={n:=45,Sl:=[(3,.tip 0),(4,.tip 1),(11,.tip 0),(12,.code (So Kc)),(13,.code (So Kc))],Bx:=[],Sg:=[⟨Pq Kb Ka,97,true⟩,⟨(Pq Kb Ka),97,true⟩]}
def Zjn (a:QT27):RT (Option (Go1 (QT27))):=
 let x1:=(R.get (Pq Kb Ka) a.2.2.1 a.2.1).2 !=0
 let x2:=i64.wrap (a.2.1+1)==iN (Le a.2.2.1)
 let x3:= !x1||(x2||Zh (i64.wrap (a.2.1+1)) (Le a.2.2.1))
 let x4:=x1&&(x2||(R.get (Pq Kb Ka) a.2.2.1 (i64.wrap (a.2.1+1))).1 !=(R.get (Pq Kb Ka) a.2.2.1 a.2.1).1)
 let x5:List (Int×Int):=a.2.2.2.1++[R.get (Pq Kb Ka) a.2.2.1 a.2.1]
 .br (decide (a.2.1<a.1)) (.br (!Zh a.2.1 (Le a.2.2.1)||(!x3||(!x4||Nat.ble (Le x5) most))) (.br (!Zh a.2.1 (Le a.2.2.1)||x3) (.br (Zh a.2.1 (Le a.2.2.1)) (Ls (Go1.cont (a.1,i64.wrap (a.2.1+1),a.2.2.1,bif x4 then x5 else a.2.2.2.1,PUnit.unit))) Ln) Ln) Ln) (Ls (Go1.brk (a.1,a.2.1,a.2.2.1,a.2.2.2.1,PUnit.unit)))
def ZEM:Ora:=Zbq false ZRC Zjn (λa=>(a.1-a.2.1).toNat+1)
theorem ZHy:Za1 (envX prog [(58,ZuT),(220,ZIN),(221,ZbR)] [] 127 8) (.block 0 (.loop (Z5 Tryz.f165.body 0))) ZEM:=
 loopP ⟨Zpy,ZCB,Zav,Tv⟩
def Zxj (l:List (Int×Int)):RT (Option (List (Int×Int))):=
 let x1:=runF false Zjn (λa=>Int.toNat (a.1-a.2.1)+1) (iN (Le (Zys l)),0,Zys l,[],())
 .br (Nat.ble (Le l) most) (.br (ZCC l) (.br (okB x1) (Ls (getO (false,iN (Le (Zys l)),0,Zys l,[],()) x1).2.2.2.2.1) Ln) Ln) Ln
def ZNo (l:List (Int×Int)):List (Int×Int):=getO ZBy.Df (Zxj l).val
def Zxk (l:List (Int×Int)):Bool:=okB (Zxj l).val
def ZNn:En:=Zf ZNm ZBy (λa=>some (Zxk a)) (λa=>ZNo a)
theorem ZEL:Za prog 165 ZNn:=
 pureP 127 [(58,ZuT),(220,ZIN),(221,ZbR)] [(0,ZEM)] _ _ ⟨Zpy,ZCB,Zav,Tv⟩ Tryz.func165 Tryz.call165 ⟨ZHy,Tv⟩
def ZNg:LS:={n:=31,Sl:=[(0,.code (So rcCE)),(2,.code (So R.bool)),(5,.code (So rcCE)),(6,.code (So Kc)),(7,.code (So Kc))],Bx:=[],Sg:=[]}
def Zet (a:List (Int×Int)×Bool×List (Int×Int)×Int×Int×PUnit):RT (Option (Go1 (List (Int×Int)×Bool×List (Int×Int)×Int×Int×PUnit))):=
 let x1:Int×Int:=R.get (Pq Kb Ka) a.2.2.1 a.2.2.2.2.1
 let x2:=x1.2==0
 let x3:List (Int×Int)×Int×Int×PUnit:=(a.2.2.1,a.2.2.2.1,a.2.2.2.2.1,PUnit.unit)
 .br (decide (a.2.2.2.2.1<a.2.2.2.1)) (.br (!Zh a.2.2.2.2.1 (Le a.2.2.1)||(x2||(!decide (a.2.2.2.2.1>0)||Zh (i64.wrap (a.2.2.2.2.1-1)) (Le a.1)))) (.br (Zh a.2.2.2.2.1 (Le a.2.2.1)) (.br (x2||decide (a.2.2.2.2.1>0)&&decide (x1.1<=(R.get (Pq Kb Ka) a.1 (i64.wrap (a.2.2.2.2.1-1))).1)) (Ls (Go1.ret (a.1,false,x3))) (Ls (Go1.cont (a.1,a.2.1,a.2.2.1,a.2.2.2.1,i64.wrap (a.2.2.2.2.1+1),PUnit.unit)))) Ln) Ln) (Ls (Go1.brk (a.1,a.2.1,x3)))
def Zxi:Ora:=Zbq true ZNg Zet (λa=>1000000000000)
theorem ZBx:Za1 (envX prog [] [] 31 8) (.block 0 (.loop (Z5 Tryz.f140.body 0))) Zxi:=
 loopP trivial
def Zkw (m:List (Int×Int)):RT (Option (Bool)):=
 let x1:=runF true Zet (λa=>1000000000000) (m,false,m,iN (Le m),0,())
 let x2:=getO (false,m,false,m,iN (Le m),0,()) x1
 .br (okB x1) (.br x2.1 (Ls x2.2.2.1) (Ls (true))) Ln
def ZoN (m:List (Int×Int)):Bool:=getO ZnA.Df (Zkw m).val
def Zul (m:List (Int×Int)):Bool:=okB (Zkw m).val
def ZNh:En:=Zf ZNm ZnA (λa=>some (Zul a)) (λa=>ZoN a)
theorem Zxh:Za prog 140 ZNh:=
 pureP 31 [] [(0,Zxi)] _ _ trivial Tryz.func140 Tryz.call140 ⟨ZBx,Tv⟩
def ZJS:LS:={n:=34,Sl:=[(0,.code (So rcCE)),(2,.code (So R.bool)),(5,.code (So Kc)),(6,.code (So Kc))],Bx:=[],Sg:=[]}
def Zei (a:List (Int×Int)×Bool×Int×Int×PUnit):RT (Option (Go1 (List (Int×Int)×Bool×Int×Int×PUnit))):=
 let x1:=(R.get (Pq Kb Ka) a.1 a.2.2.2.1).2==0
 let x2:= !Zh a.2.2.2.1 (Le a.1)||(x1||(!decide (a.2.2.2.1>0)||(!Zh a.2.2.2.1 (Le a.1)||Zh (i64.wrap (a.2.2.2.1-1)) (Le a.1))))
 let x3:= !x2
 let x4:= !Zh a.2.2.2.1 (Le a.1)||(x1||(!decide (a.2.2.2.1>0)||Zh a.2.2.2.1 (Le a.1)))
 .br (decide (a.2.2.2.1<a.2.2.1)) (.br (x3||(!x4||Zh a.2.2.2.1 (Le a.1))) (.br (x3||x4) (.br (x2) (.br (x1||decide (a.2.2.2.1>0)&&decide ((R.get (Pq Kb Ka) a.1 a.2.2.2.1).1<=(R.get (Pq Kb Ka) a.1 (i64.wrap (a.2.2.2.1-1))).1)) (Ls (Go1.ret (a.1,false,a.2.2.1,a.2.2.2.1,PUnit.unit))) (Ls (Go1.cont (a.1,a.2.1,a.2.2.1,i64.wrap (a.2.2.2.1+1),PUnit.unit)))) Ln) Ln) Ln) (Ls (Go1.brk (a.1,a.2.1,a.2.2.1,a.2.2.2.1,PUnit.unit)))
def ZvR:Ora:=Zbq true ZJS Zei (λa=>1000000000000)
theorem ZyX:Za1 (envX prog [] [] 15 8) (.block 0 (.loop (Z5 Tryz.f133.body 0))) ZvR:=
 loopP trivial
def Zj8 (m:List (Int×Int)):RT (Option (Bool)):=
 let x1:=runF true Zei (λa=>1000000000000) (m,false,iN (Le m),0,())
 let x2:=getO (false,m,false,iN (Le m),0,()) x1
 .br (okB x1) (.br x2.1 (Ls x2.2.2.1) (Ls (true))) Ln
def ZmR (m:List (Int×Int)):Bool:=getO ZnA.Df (Zj8 m).val
def Zj9 (m:List (Int×Int)):Bool:=okB (Zj8 m).val
def ZyY:En:=Zf ZNm ZnA (λa=>some (Zj9 a)) (λa=>ZmR a)
theorem ZmQ:Za prog 133 ZyY:=
 pureP 15 [] [(0,ZvR)] _ _ trivial Tryz.func133 Tryz.call133 ⟨ZyX,Tv⟩
abbrev Zza:List Sh:=[So rcCE,So Kb]
def ZQl:LS:={n:=25,Sl:=[(0,.code (So rcCE)),(1,.code (So Kb)),(4,.code (So Ka)),(5,.code (So Kc))],Bx:=[],Sg:=[]}
def Zho (a:List (Int×Int)×Int×Int×Int×PUnit):RT (Option (Go1 (List (Int×Int)×Int×Int×Int×PUnit))):=
 let x1:=(R.get (Pq Kb Ka) a.1 a.2.2.2.1).1==a.2.1
 .br (decide (a.2.2.2.1>=0)) (.br (!Zh a.2.2.2.1 (Le a.1)||(!x1||Zh a.2.2.2.1 (Le a.1))) (.br (Zh a.2.2.2.1 (Le a.1)) (.br (x1) (Ls (Go1.ret (a.1,a.2.1,(R.get (Pq Kb Ka) a.1 a.2.2.2.1).2,a.2.2.2.1,PUnit.unit))) (Ls (Go1.cont (a.1,a.2.1,a.2.2.1,i64.wrap (a.2.2.2.1-1),PUnit.unit)))) Ln) Ln) (Ls (Go1.brk (a.1,a.2.1,a.2.2.1,a.2.2.2.1,PUnit.unit)))
def ZDh:Ora:=Zbq true ZQl Zho (λa=>1000000000000)
theorem ZFS:Za1 (envX prog [] [] 63 8) (.block 0 (.loop (Z5 Tryz.f20.body 0))) ZDh:=
 loopP trivial
def Zqy (m:List (Int×Int)) (t:Int):RT (Option (Int)):=
 let x1:List (Int×Int)×Int×Int×Int×PUnit:=(m,t,0,i64.wrap (iN (Le m)-1),())
 let x2:=runF true Zho (λa=>1000000000000) x1
 let x3:=getO (false,x1) x2
 .br (okB x2) (.br x3.1 (Ls x3.2.2.2.1) (Ls (0))) Ln
def ZVc (m:List (Int×Int)) (t:Int):Int:=getO ZMD.Df (Zqy m t).val
def ZJ9 (m:List (Int×Int)) (t:Int):Bool:=okB (Zqy m t).val
def ZX7:En:=Zf Zza ZMD (λa=>some (ZJ9 a.1 a.2)) (λa=>ZVc a.1 a.2)
theorem ZQk:Za prog 20 ZX7:=
 pureP 63 [] [(0,ZDh)] _ _ trivial Tryz.func20 Tryz.call20 ⟨ZFS,Tv⟩
abbrev ZJY:List Sh:=[So rcCE,Sh.agg (Pq Kb Ka)]
def ZQe:LS:={n:=53,Sl:=[(3,.fix (A.loc 0 0)),(5,.tip 0),(6,.code (So R.bool)),(9,.code (So rcCE)),(10,.code (So Kc)),(11,.code (So Kc))],Bx:=[[.many (Pq Kb Ka)]],Sg:=[⟨(Pq Kb Ka),97,true⟩]}
def ZiP (a:QT7):RT (Option (Go1 (QT7))):=
 let x1:Int×Int:=R.get (Pq Kb Ka) a.2.1 a.2.2.2.1
 let x2:=x1.1
 let x3:= !a.1&&decide (x2>=a.2.2.2.2.1.1)
 let x4:List (Int×Int):=a.2.2.2.2.2.1++[a.2.2.2.2.1]
 let x5:= !x3||(!a.2.2.2.2.1.2 !=0||Nat.ble (Le x4) most)
 let x6:=x2 !=a.2.2.2.2.1.1
 let x7:List (Int×Int):=bif x3 then bif a.2.2.2.2.1.2 !=0 then x4 else a.2.2.2.2.2.1 else a.2.2.2.2.2.1
 let x8:List (Int×Int):=x7++[x1]
 .br (decide (a.2.2.2.1<a.2.2.1)) (.br (!Zh a.2.2.2.1 (Le a.2.1)||(!x5||(!x6||Nat.ble (Le x8) most))) (.br (!Zh a.2.2.2.1 (Le a.2.1)||x5) (.br (Zh a.2.2.2.1 (Le a.2.1)) (Ls (Go1.cont (x3||a.1,a.2.1,a.2.2.1,i64.wrap (a.2.2.2.1+1),a.2.2.2.2.1,bif x6 then x8 else x7,PUnit.unit))) Ln) Ln) Ln) (Ls (Go1.brk (a.1,a.2.1,a.2.2.1,a.2.2.2.1,a.2.2.2.2.1,a.2.2.2.2.2.1,PUnit.unit)))
def ZDc:Ora:=Zbq false ZQe ZiP (λa=>1000000000000)
theorem ZFO:Za1 (envX prog [] [] 511 8) (.block 0 (.loop (Z5 Tryz.f134.body 0))) ZDc:=
 loopP trivial
def Zqu (m:List (Int×Int)) (c:Int×Int):RT (Option (List (Int×Int))):=
 let x1:QT7:=(false,m,iN (Le m),0,c,[],())
 let x2:=runF false ZiP (λa=>1000000000000) x1
 let x3:QT7:=(getO (false,x1) x2).2
 let x4:=x3.2.2.2.2
 let x5:=x4.1
 let x6:= !x3.1&&x5.2 !=0
 let x7:=x4.2.1
 let x8:List (Int×Int):=x7++[x5]
 .br (okB x2) (.br (!x6||Nat.ble (Le x8) most) (Ls (bif x6 then x8 else x7)) Ln) Ln
def ZJ0 (m:List (Int×Int)) (c:Int×Int):List (Int×Int):=getO ZBy.Df (Zqu m c).val
def ZvV (m:List (Int×Int)) (c:Int×Int):Bool:=okB (Zqu m c).val
def ZJZ:En:=Zf ZJY ZBy (λa=>some (ZvV a.1 a.2)) (λa=>ZJ0 a.1 a.2)
theorem ZDb:Za prog 134 ZJZ:=
 pureP 511 [] [(0,ZDc)] _ _ trivial Tryz.func134 Tryz.call134 ⟨ZFO,Tv⟩
def ZQi:LS:={n:=21,Sl:=[(3,.code (So rcCE)),(10,.code (So rcCE)),(11,.code (So Kc)),(12,.code (So Kc))],Bx:=[],Sg:=[]}
def ZiQ (a:List (Int×Int)×List (Int×Int)×Int×Int×PUnit):RT (Option (Go1 (List (Int×Int)×List (Int×Int)×Int×Int×PUnit))):=
 let x1:Int×Int:=R.get (Pq Kb Ka) a.2.1 a.2.2.2.1
 .br (decide (a.2.2.2.1<a.2.2.1)) (.br (!Zh a.2.2.2.1 (Le a.2.1)||ZvV a.1 x1) (.br (Zh a.2.2.2.1 (Le a.2.1)) (Ls (Go1.cont (ZJ0 a.1 x1,a.2.1,a.2.2.1,i64.wrap (a.2.2.2.1+1),PUnit.unit))) Ln) Ln) (Ls (Go1.brk (a.1,a.2.1,a.2.2.1,a.2.2.2.1,PUnit.unit)))
def ZDf:Ora:=Zbq false ZQi ZiQ (λa=>1000000000000)
theorem ZFQ:Za1 (envX prog [(133,ZyY),(134,ZJZ)] [] 63 8) (.block 0 (.loop (Z5 Tryz.f49.body 0))) ZDf:=
 loopP ⟨ZmQ,ZDb,Tv⟩
def Zqv (l:List (Int×Int)):RT (Option (List (Int×Int))):=
 let x1:=runF false ZiQ (λa=>1000000000000) ([],l,iN (Le l),0,())
 .br (Zj9 l) (.br (!ZmR l||Nat.ble (Le ([]++l)) most) (.br (ZmR l) (Ls ([]++l)) (.br (okB x1) (Ls (getO (false,[],l,iN (Le l),0,()) x1).2.1) Ln)) Ln) Ln
def ZVb (l:List (Int×Int)):List (Int×Int):=getO ZBy.Df (Zqv l).val
def ZJ4 (l:List (Int×Int)):Bool:=okB (Zqv l).val
def ZX2:En:=Zf ZNm ZBy (λa=>some (ZJ4 a)) (λa=>ZVb a)
theorem ZQh:Za prog 49 ZX2:=
 pureP 63 [(133,ZyY),(134,ZJZ)] [(0,ZDf)] _ _ ⟨ZmQ,ZDb,Tv⟩ Tryz.func49 Tryz.call49 ⟨ZFQ,Tv⟩
def ZiR (a:QT14):RT (Option (Go1 (QT14))):=
 let x1:QT5:=R.get (Pq Kb (Pq Kb (Pq R.bool Kc))) a.2.2.1 a.2.2.2.2.1
 let x2:List (QT5)×Int×Int×PUnit:=(a.2.2.1,a.2.2.2.1,a.2.2.2.2.1,PUnit.unit)
 .br (decide (a.2.2.2.2.1<a.2.2.2.1)) (.br (Zh a.2.2.2.2.1 (Le a.2.2.1)) (.br (decide (x1.1<=a.1)&&decide (a.1<=x1.2.1)) (Ls (Go1.ret (a.1,a.2.2.2.2.1,x2))) (Ls (Go1.cont (a.1,a.2.1,a.2.2.1,a.2.2.2.1,i64.wrap (a.2.2.2.2.1+1),PUnit.unit)))) Ln) (Ls (Go1.brk (a.1,a.2.1,x2)))
def Zqz (l:List (QT5)) (t:Int):RT (Option (Int)):=
 let x1:=runF true ZiR (λa=>1000000000000) (t,0,l,iN (Le l),0,())
 let x2:=getO (false,t,0,l,iN (Le l),0,()) x1
 .br (okB x1) (.br x2.1 (Ls x2.2.2.1) (Ls (-1))) Ln
def ZVe (l:List (QT5)) (t:Int):Int:=getO ZTl.Df (Zqz l t).val
def ZKd (l:List (QT5)) (t:Int):Bool:=okB (Zqz l t).val
abbrev ZMa:List Sh:=[So rcRG,So Kb]
def ZRa:LS:={n:=26,Sl:=[(1,.code (So Kb)),(4,.code (So Kc)),(7,.code (So rcRG)),(8,.code (So Kc)),(9,.code (So Kc))],Bx:=[],Sg:=[]}
def ZEh (a:QT14):RT (Option (Go1 (QT14))):=
 let x1:QT5:=R.get (Pq Kb (Pq Kb (Pq R.bool Kc))) a.2.2.1 a.2.2.2.2.1
 let x2:List (QT5)×Int×Int×PUnit:=(a.2.2.1,a.2.2.2.1,a.2.2.2.2.1,PUnit.unit)
 .br (decide (a.2.2.2.2.1<a.2.2.2.1)) (.br (Zh a.2.2.2.2.1 (Le a.2.2.1)) (.br (decide (x1.1<=a.1)&&decide (a.1<=x1.2.1)) (Ls (Go1.ret (a.1,a.2.2.2.2.1,x2))) (Ls (Go1.cont (a.1,a.2.1,a.2.2.1,a.2.2.2.1,i64.wrap (a.2.2.2.2.1+1),PUnit.unit)))) Ln) (Ls (Go1.brk (a.1,a.2.1,x2)))
def ZEi:Ora:=Zbq true ZRa ZEh (λa=>1000000000000)
theorem ZGz:Za1 (envX prog [] [] 127 8) (.block 0 (.loop (Z5 Tryz.f163.body 0))) ZEi:=
 loopP trivial
def ZEg (l:List (QT5)) (t:Int):RT (Option (Int)):=
 let x1:=runF true ZEh (λa=>1000000000000) (t,0,l,iN (Le l),0,())
 let x2:=getO (false,t,0,l,iN (Le l),0,()) x1
 .br (okB x1) (.br x2.1 (Ls x2.2.2.1) (Ls (-1))) Ln
def ZpS (l:List (QT5)) (t:Int):Int:=getO ZTl.Df (ZEg l t).val
def ZwF (l:List (QT5)) (t:Int):Bool:=okB (ZEg l t).val
def ZEj:En:=Zf ZMa ZTl (λa=>some (ZwF a.1 a.2)) (λa=>ZpS a.1 a.2)
theorem Ztp:Za prog 163 ZEj:=
 pureP 127 [] [(0,ZEi)] _ _ trivial Tryz.func163 Tryz.call163 ⟨ZGz,Tv⟩
end
end Go.Proofs.YteaflmalcclnoaaGreatDoor
namespace Go.Proofs.Cells
def getX (l:List Cell) (a:Int):Int:=((flt a l).getLast?.map Prod.snd).getD 0
def Vld (m:List Cell):Prop:=m.Pairwise (λa b=>a.1<b.1)/\∀c∈m,c.2≠0
variable {l:List Cell}
theorem ZHK {l':List Cell} (h:Sm l l') (a:Int):getX l a=getX l' a:=by rw[getX,getX,h a]
variable {m:List Cell}
theorem Vld.srt (h:Vld m):Srt m:=h.1.imp λh=>Int.le_of_lt h
theorem Vld.tail {c:Cell} (h:Vld (c::m)):Vld m:=⟨(YC.1 h.1).2,λx hx=>h.2 x (YA _ hx)⟩
theorem ZEY (a:Int):getX [] a=0:=rfl
theorem Zl1 (a:Int) (c:Cell) (l:List Cell):flt a (c::l)=if c.1=a then c::flt a l else flt a l:=by by_cases h:c.1=a<;>simp[flt,h]
theorem Zey (c:Cell) (l:List Cell) (a:Int):getX (c::l) a=if c.1=a/\flt a l=[] then c.2 else getX l a:=by
 simp only[getX,Zl1];by_cases h:c.1=a
 ·simp only[h,if_true,true_and];cases hf:flt a l with
  |nil=>simp
  |cons x r=>simp[List.getLast?_cons_cons]
 ·simp[h]
theorem Vld.flt {m:List Cell} (h:Vld m) (a:Int):Cells.flt a m=if getX m a=0 then [] else [(a,getX m a)]:=by
 induction m with
 |nil=>simp[Cells.flt,ZEY]
 |cons c m ih=>
  have ih:=ih h.tail;have h1:=YC.1 h.1;by_cases hc:c.1=a
  ·have hn:Cells.flt a m=[]:=Zez λx hx=>by have:=h1.1 x hx;omega
   have hz:=h.2 c (by simp);rw[Zl1,Zey];simp only[hc,hn,and_self,if_true,hz,if_false];rw[<-hc]
  ·rw[Zl1,Zey];simp only[hc,false_and,if_false,ih]
theorem ZUb {m':List Cell} (h:Vld m) (h':Vld m') (e:∀a,getX m a=getX m' a):m=m':=
 uniq h.srt h'.srt λk=>by rw[h.flt,h'.flt,e k]
def dd:List Cell->List Cell
 |[]=>[]
 |x::r=>match r with
  |[]=>if x.2=0 then [] else [x]
  |y::_=>if x.1=y.1 then dd r else if x.2=0 then dd r else x::dd r
theorem Zrh:∀{l:List Cell} {c:Cell},c∈dd l->c∈l/\c.2≠0
 |[],c,h=>by simp[dd] at h
 |[x],c,h=>by
  simp only[dd] at h;split at h
  ·simp at h
  ·rename_i hz;simp at h;subst h;exact⟨by simp,hz⟩
 |x::y::r,c,h=>by
  rw[dd] at h;split at h
  ·have:=Zrh h;exact⟨YA _ this.1,this.2⟩
  ·split at h
   ·have:=Zrh h;exact⟨YA _ this.1,this.2⟩
   ·rename_i hz;rcases Ys.1 h with e|e
    ·subst e;exact⟨by simp,hz⟩
    ·have:=Zrh e;exact⟨YA _ this.1,this.2⟩
theorem ZTW:∀{l:List Cell},Srt l->Vld (dd l)
 |[],_=>⟨Yap,λc h=>by simp[dd] at h⟩
 |[x],_=>by refine⟨?_,λc h=>(Zrh h).2⟩;simp only[dd];split<;>simp
 |x::y::r,h=>by
  have h1:=YC.1 h;have ih:=ZTW (l:=y::r) h1.2;have h2:=YC.1 h1.2;rw[dd];split
  ·exact ih
  ·rename_i hne;split
   ·exact ih
   ·rename_i hz;refine⟨YC.2 ⟨λc hc=> ?_,ih.1⟩,λc hc=> ?_⟩
    ·have hxy:=h1.1 y (by simp);rcases Ys.1 (Zrh hc).1 with e|e
     ·rw[e];omega
     ·have:=h2.1 c e;omega
    ·rcases Ys.1 hc with e|e
     ·rw[e];exact hz
     ·exact ih.2 c e
theorem ZTX:∀{l:List Cell},Srt l->∀a,getX (dd l) a=getX l a
 |[],_,_=>rfl
 |[x],_,a=>by
  simp only[dd];split
  ·rename_i hz;rw[Zey];simp[flt,getX,hz]
  ·rfl
 |x::y::r,h,a=>by
  have h1:=YC.1 h;have ih:=ZTX (l:=y::r) h1.2 a;have h2:=YC.1 h1.2;rw[dd,Zey x (y::r)];by_cases hxy:x.1=y.1
  ·rw[YX hxy,ih];by_cases hc:x.1=a/\flt a (y::r)=[]
   ·obtain⟨e,e2⟩:=hc;rw[Zl1,YX (by rw[<-hxy];exact e)] at e2;simp at e2
   ·rw[Y3 hc]
  ·rw[Y3 hxy];have hlt:∀c∈y::r,x.1<c.1:=λc hc=>by
    have:=h1.1 y (by simp);rcases Ys.1 hc with e|e
    ·rw[e];omega
    ·have:=h2.1 c e;omega
   by_cases hc:x.1=a
   ·have hn:flt a (y::r)=[]:=Zez λc hc'=>by have:=hlt c hc';omega
    have hn2:flt a (dd (y::r))=[]:=Zez λc hc'=>by have:=hlt c (Zrh hc').1;omega
    by_cases hz:x.2=0
    ·rw[YX hz,YX ⟨hc,hn⟩,hz,getX,hn2];rfl
    ·rw[Y3 hz,YX ⟨hc,hn⟩,Zey,YX ⟨hc,hn2⟩]
   ·by_cases hz:x.2=0
    ·rw[YX hz,Y3 (λh=>hc h.1),ih]
    ·rw[Y3 hz,Y3 (λh=>hc h.1),Zey,Y3 (λh=>hc h.1),ih]
def putX:List Cell->Cell->List Cell
 |[],c=>if c.2=0 then [] else [c]
 |x::r,c=>if x.1<c.1 then x::putX r c else if c.2=0 then (if x.1=c.1 then r else x::r) else if x.1=c.1 then c::r else c::x::r
theorem Zsn:∀{m:List Cell} {c x:Cell},x∈putX m c->x=c\/x∈m
 |[],c,x,h=>by
  simp only[putX] at h;split at h
  ·simp at h
  ·left;simpa using h
 |y::r,c,x,h=>by
  simp only[putX] at h;split at h
  ·rcases Ys.1 h with e|e
   ·right;simp[e]
   ·rcases Zsn e with e|e
    ·exact .inl e
    ·right;simp[e]
  ·split at h
   ·split at h
    ·right;simp[h]
    ·right;exact h
   ·split at h
    ·rcases Ys.1 h with e|e
     ·exact .inl e
     ·right;simp[e]
    ·rcases Ys.1 h with e|e
     ·exact .inl e
     ·right;exact e
theorem ZDm:∀{m:List Cell} {c:Cell},Vld m->Vld (putX m c)
 |[],c,_=>by
  simp only[putX];split
  ·exact⟨Yap,λc h=>by simp at h⟩
  ·rename_i hz;exact⟨by simp,λx h=>by simp at h;rw[h];exact hz⟩
 |y::r,c,h=>by
  have h1:=YC.1 h.1;have hy:=h.2 y (by simp);simp only[putX];split
  ·rename_i hlt;have ih:=ZDm (c:=c) h.tail;refine⟨YC.2 ⟨λx hx=> ?_,ih.1⟩,λx hx=> ?_⟩
   ·rcases Zsn hx with e|e
    ·rw[e];exact hlt
    ·exact h1.1 x e
   ·rcases Ys.1 hx with e|e
    ·rw[e];exact hy
    ·exact ih.2 x e
  ·rename_i hge;split
   ·split
    ·exact h.tail
    ·exact h
   ·rename_i hz;split
    ·rename_i he;refine⟨YC.2 ⟨λx hx=> ?_,h1.2⟩,λx hx=> ?_⟩
     ·have:=h1.1 x hx;omega
     ·rcases Ys.1 hx with e|e
      ·rw[e];exact hz
      ·exact h.2 x (YA _ e)
    ·rename_i hne;refine⟨YC.2 ⟨λx hx=> ?_,h.1⟩,λx hx=> ?_⟩
     ·rcases Ys.1 hx with e|e
      ·rw[e];omega
      ·have:=h1.1 x e;omega
     ·rcases Ys.1 hx with e|e
      ·rw[e];exact hz
      ·exact h.2 x e
theorem Zjx {a:Int} (h:∀c∈l,c.1≠a):getX l a=0:=by rw[getX,Zez h];rfl
theorem Zed {x:Cell} {r:List Cell} (h:∀c∈r,x.1<c.1) (a:Int):getX (x::r) a=if x.1=a then x.2 else getX r a:=by
 rw[Zey];by_cases hx:x.1=a
 ·have:flt a r=[]:=Zez λc hc=>by have:=h c hc;omega
  simp[hx,this]
 ·simp[hx]
theorem ZDn:∀{m:List Cell} {c:Cell},Vld m->∀a,getX (putX m c) a=if c.1=a then c.2 else getX m a
 |[],c,_,a=>by
  simp only[putX];split
  ·rename_i hz;rw[ZEY,hz];simp
  ·rw[Zed (by simp)]
 |y::r,c,h,a=>by
  have h1:=YC.1 h.1;simp only[putX];split
  ·rename_i hlt
   rw[Zed (λx hx=>by
    rcases Zsn hx with e|e
    ·rw[e];exact hlt
    ·exact h1.1 x e),Zed h1.1,ZDn h.tail a]
   by_cases e1:y.1=a
   ·simp only[e1,if_true];rw[Y3 (by omega)]
   ·simp[e1]
  ·rename_i hge;split
   ·rename_i hz;split
    ·rename_i he;rw[Zed h1.1];by_cases e:c.1=a
     ·rw[YX e,hz];exact Zjx λx hx=>by have:=h1.1 x hx;omega
     ·rw[Y3 e,Y3 (by omega)]
    ·rename_i hne;by_cases e:c.1=a
     ·rw[YX e,hz];exact Zjx λx hx=>by
       rcases Ys.1 hx with e'|e'
       ·rw[e'];omega
       ·have:=h1.1 x e';omega
     ·rw[Y3 e]
   ·split
    ·rename_i he;rw[Zed (λx hx=>by have:=h1.1 x hx;omega),Zed h1.1];by_cases e:c.1=a
     ·simp[e]
     ·rw[Y3 e,Y3 e,Y3 (by omega)]
    ·rename_i hne
     rw[Zed (λx hx=>by
      rcases Ys.1 hx with e|e
      ·rw[e];omega
      ·have:=h1.1 x e;omega)]
def normX (l:List Cell):List Cell:=l.foldl putX []
theorem ZN6 (l:List Cell) (c:Cell) (a:Int):getX (l++[c]) a=if c.1=a then c.2 else getX l a:=by
 rw[getX,getX,ZdK];by_cases h:c.1=a
 ·have:flt a [c]=[c]:=by simp[flt,h]
  rw[this,List.getLast?_append];simp[h]
 ·have:flt a [c]=[]:=Zez λx hx=>by simp at hx;rw[hx];exact h
  rw[this];simp[h]
theorem Zpe:∀(l:List Cell) {m:List Cell},Vld m->Vld (l.foldl putX m)/\∀a,getX (l.foldl putX m) a=getX (m++l) a
 |[],m,h=>⟨h,λa=>by simp⟩
 |c::l,m,h=>by
  obtain⟨h1,h2⟩:=Zpe l (ZDm (c:=c) h);refine⟨h1,λa=> ?_⟩;rw[List.foldl_cons,h2 a];have e:m++c::l=(m++[c])++l:=by simp
  rw[e];have key:∀{p q:List Cell},(∀b,getX p b=getX q b)->∀l b,getX (p++l) b=getX (q++l) b:=by
   intro p q hpq l b;simp only[getX,ZdK,List.getLast?_append];cases hl:(flt b l).getLast? with
   |none=>simpa [getX] using hpq b
   |some x=>simp
  exact key (λb=>by rw[ZDn h,ZN6]) l a
theorem Zjf (l:List Cell):Vld (normX l):=(Zpe l ⟨Yap,λc h=>by simp at h⟩).1
theorem ZMU (l:List Cell) (a:Int):getX (normX l) a=getX l a:=(Zpe l ⟨Yap,λc h=>by simp at h⟩).2 a
theorem ZEw (h:Vld m) (e:∀a,getX m a=getX l a):normX l=m:=ZUb (Zjf l) h λa=>by rw[ZMU,e]
theorem Zhs (h:Vld m):normX m=m:=ZEw h λ_=>rfl
theorem ZHi (l:List Cell):dd (isort l)=normX l:=
 (ZEw (ZTW (Zb0 l)) λa=>by rw[ZTX (Zb0 l),ZHK (ZfU l)]).symm
end Go.Proofs.Cells
namespace Go.Proofs.YteaflmalcclnoaaGreatDoor
noncomputable section
abbrev ZS:=QT5
theorem ZuG (l:List Cell) (i:Nat) (h:i<l.length):l.drop i=el l i::l.drop (i+1):=by rw[Yaa h];have:=Zc8 l i h;rw[Yg h,oinj] at this;rw[this]
theorem Zyv (l:List Cell) (i:Nat) (h:i<l.length):l.take (i+1)=l.take i++[el l i]:=by rw[Yak,Zc8 l i h];rfl
theorem ZZg (l:List Cell) (i:Nat) (h:i<l.length):el l i∈l:=Ya8.2 ⟨i,Zc8 l i h⟩
def okAt (m:List Cell) (i:Nat):Bool:= !((el m i).2==0||(decide ((i:Int)>0)&&decide ((el m i).1<=(el m (i-1)).1)))
def vldB (m:List Cell):Bool:=(List.range m.length).all (okAt m)
variable {m:List Cell} {i:Nat}
theorem Zp0 (hi:i<m.length) (h:okAt m i=false):vldB m=false:=by rw[YK];intro he;have:=YU.1 he i (Yaz.2 hi);rw[h] at this;exact absurd this (by simp)
theorem Zmj (h:∀i,i<m.length->okAt m i=true):vldB m=true:=YU.2 λi hi=>h i (Yaz.1 hi)
theorem Ziz:vldB m=true↔Vld m:=by
 constructor
 ·intro h;have ha:∀i,i<m.length->okAt m i=true:=λi hi=>YU.1 h i (Yaz.2 hi)
  have hs:∀i,i+1<m.length->(el m i).1<(el m (i+1)).1:=λi hi=>by
   have:=ha (i+1) hi;simp only[okAt,YJ,Yq,Yan,Y5,Nat.add_sub_cancel] at this;rcases this.2 with e|e
   ·omega
   ·omega
  refine⟨?_,λc hc=> ?_⟩
  ·rw[YaG];have key:∀d i,i+d+1<m.length->(el m i).1<(el m (i+d+1)).1:=by
    intro d
    induction d with
    |zero=>intro i hi;exact hs i hi
    |succ d ih=>intro i hi;have h1:=ih i (by omega);have h2:=hs (i+d+1) (by omega);rw[show i+(d+1)+1=i+d+1+1 by omega];omega
   intro i j hi hj hij;have:=key (j-i-1) i (by omega);rw[show i+(j-i-1)+1=j by omega] at this;have e1:=Zc8 m i hi;have e2:=Zc8 m j hj;rw[Yg hi,oinj] at e1;rw[Yg hj,oinj] at e2;rw[e1,e2];exact this
  ·obtain⟨i,hi⟩:=Ya8.1 hc;have hlt:=(YE.1 hi).1;rw[Zc8 m i hlt,oinj] at hi;have:=ha i hlt;rw[<-hi];simp only[okAt,YJ,Yq,beq_eq_false_iff_ne] at this;exact this.1
 ·intro h;refine Zmj λi hi=> ?_
  simp only[okAt,YJ,Yq,beq_eq_false_iff_ne,Yan,Y5];refine⟨h.2 _ (ZZg m i hi),?_⟩;by_cases h0:i=0
  ·left;omega
  ·right;have:=YaG.1 h.1 (i-1) i (by omega) hi (by omega);have e1:=Zc8 m (i-1) (by omega);have e2:=Zc8 m i hi;rw[Yg (by omega),oinj] at e1;rw[Yg hi,oinj] at e2;rw[e1,e2] at this;omega
theorem ZXp (i:Nat) (h:0<i) (h2:i<=4611686018427387904):wrap .i64 ((i:Int)-1)=((i-1:Nat):Int):=by rw[wrap_i64 _ (by omega) (by omega)];omega
theorem ZMS (m:List Cell) (i:Nat):((el m i).2==0||(decide ((i:Int)>0)&&decide ((el m i).1<=(el m (i-1)).1)))= !okAt m i:=by simp only[okAt,Bool.not_not]
theorem ZHt (m:List Cell) (hm:m.length<=most):(Zkw m).val=some (vldB m):=by
 have hms:=mst;obtain⟨r,hr,hR⟩:=ZK (fl:=true) (t:=Zet) (fuel:=λa=>1000000000000)
  (I:=λa=>∃i:Nat,i<=m.length/\(∀k,k<i->okAt m k=true)/\a=(m,false,m,(m.length:Int),(i:Int),()))
  (m:=λa=>Int.toNat (a.2.2.2.1-a.2.2.2.2.1)) (R:=λr=>(r.1=false/\vldB m=true)\/(r.1=true/\vldB m=false/\r.2.2.1=false))
  (λa hi=>by
   obtain⟨i,hi,hk,rfl⟩:=hi;by_cases hlt:i<m.length
   ·have d:decide ((i:Int)<(m.length:Int))=true:=by simpa using hlt
    have r1:=ZaP m i hlt;have hw:decide ((i:Int)>0)=true->Zh (wrap .i64 ((i:Int)-1)) m.length=true/\wrap .i64 ((i:Int)-1)=((i-1:Nat):Int):=λh=>by simp only[Yf] at h;have e:=ZXp i (by omega) (by omega);exact⟨by rw[e];exact ZaP m (i-1) (by omega),e⟩
    have hck:((el m i).2==0||(!decide ((i:Int)>0)||Zh (wrap .i64 ((i:Int)-1)) m.length))=true:=by
     cases h:decide ((i:Int)>0) with
     |false=>simp
     |true=>rw[(hw h).1];simp
    have hcd:((el m i).2==0||(decide ((i:Int)>0)&&decide ((el m i).1<=(R.get CR m (wrap .i64 ((i:Int)-1))).1)))= !okAt m i:=by
     rw[<-ZMS];cases h:decide ((i:Int)>0) with
     |false=>simp
     |true=>rw[(hw h).2,ZcX]
    cases ho:okAt m i with
    |true=>
     left;refine⟨(m,false,m,(m.length:Int),((i+1:Nat):Int),()),?_,⟨i+1,hlt,λk hk'=> ?_,rfl⟩,by simp only;omega⟩
     ·rw[ho] at hcd;simp only[Zet,RT.val,d,r1,ZcX,hck,hcd,Yh,Yj,Ya,Yc,Ziw i (by omega)]
     ·by_cases e:k=i
      ·subst e;exact ho
      ·exact hk k (by omega)
    |false=>
     right;right;refine⟨(m,false,m,(m.length:Int),(i:Int),()),rfl,?_,.inr ⟨rfl,Zp0 hlt ho,rfl⟩⟩;rw[ho] at hcd;simp only[Zet,RT.val,d,r1,ZcX,hck,hcd,Yh,Ym,Yj,Ya,Yc]
   ·right;left;have d:decide ((i:Int)<(m.length:Int))=false:=by simpa using hlt
    exact⟨(m,false,m,(m.length:Int),(i:Int),()),by simp only[Zet,RT.val,d,Yc],.inl ⟨rfl,Zmj λk hk'=>hk k (by omega)⟩⟩)
  (m,false,m,(m.length:Int),0,()) ⟨0,Yr _,λk h=>by omega,rfl⟩ (by simp only;omega)
 have hr':runF true Zet (λa=>1000000000000) (m,false,m,iN m.length,0,())=some r:=hr;rcases hR with ⟨h1,h2⟩|⟨h1,h2,h3⟩
 ·simp only[Zkw,RT.val,hr',okB,getO,Ya,h1,Yc,h2]
 ·simp only[Zkw,RT.val,hr',okB,getO,Ya,h1,h2,h3]
theorem Zqn (m:List Cell) (hm:m.length<=most):(Zj8 m).val=some (vldB m):=by
 have hms:=mst;obtain⟨r,hr,hR⟩:=ZK (fl:=true) (t:=Zei) (fuel:=λa=>1000000000000)
  (I:=λa=>∃i:Nat,i<=m.length/\(∀k,k<i->okAt m k=true)/\a=(m,false,(m.length:Int),(i:Int),()))
  (m:=λa=>Int.toNat (a.2.2.1-a.2.2.2.1)) (R:=λr=>(r.1=false/\vldB m=true)\/(r.1=true/\vldB m=false/\r.2.2.1=false))
  (λa hi=>by
   obtain⟨i,hi,hk,rfl⟩:=hi;by_cases hlt:i<m.length
   ·have d:decide ((i:Int)<(m.length:Int))=true:=by simpa using hlt
    have r1:=ZaP m i hlt;have hw:decide ((i:Int)>0)=true->Zh (wrap .i64 ((i:Int)-1)) m.length=true/\wrap .i64 ((i:Int)-1)=((i-1:Nat):Int):=λh=>by simp only[Yf] at h;have e:=ZXp i (by omega) (by omega);exact⟨by rw[e];exact ZaP m (i-1) (by omega),e⟩
    have hck:((el m i).2==0||(!decide ((i:Int)>0)||Zh (wrap .i64 ((i:Int)-1)) m.length))=true:=by
     cases h:decide ((i:Int)>0) with
     |false=>simp
     |true=>rw[(hw h).1];simp
    have hcd:((el m i).2==0||(decide ((i:Int)>0)&&decide ((el m i).1<=(R.get CR m (wrap .i64 ((i:Int)-1))).1)))= !okAt m i:=by
     rw[<-ZMS];cases h:decide ((i:Int)>0) with
     |false=>simp
     |true=>rw[(hw h).2,ZcX]
    cases ho:okAt m i with
    |true=>
     left;refine⟨(m,false,(m.length:Int),((i+1:Nat):Int),()),?_,⟨i+1,hlt,λk hk'=> ?_,rfl⟩,by simp only;omega⟩
     ·rw[ho] at hcd;simp only[Zei,RT.val,d,r1,ZcX,hck,hcd,Yh,Yj,Yk,Ya,Yc,Ziw i (by omega)]
     ·by_cases e:k=i
      ·subst e;exact ho
      ·exact hk k (by omega)
    |false=>
     right;right;refine⟨(m,false,(m.length:Int),(i:Int),()),rfl,?_,.inr ⟨rfl,Zp0 hlt ho,rfl⟩⟩;rw[ho] at hcd;simp only[Zei,RT.val,d,r1,ZcX,hck,hcd,Yh,Ym,Yj,Yk,Ya,Yc]
   ·right;left;have d:decide ((i:Int)<(m.length:Int))=false:=by simpa using hlt
    exact⟨(m,false,(m.length:Int),(i:Int),()),by simp only[Zei,RT.val,d,Yc],.inl ⟨rfl,Zmj λk hk'=>hk k (by omega)⟩⟩)
  (m,false,(m.length:Int),0,()) ⟨0,Yr _,λk h=>by omega,rfl⟩ (by simp only;omega)
 have hr':runF true Zei (λa=>1000000000000) (m,false,iN m.length,0,())=some r:=hr;rcases hR with ⟨h1,h2⟩|⟨h1,h2,h3⟩
 ·simp only[Zj8,RT.val,hr',okB,getO,Ya,h1,Yc,h2]
 ·simp only[Zj8,RT.val,hr',okB,getO,Ya,h1,h2,h3]
variable {t:Int}
theorem ZN7 (hi:i<m.length) (he:(el m i).1=t) (hk:∀k,i<k->k<m.length->(el m k).1≠t):getX m t=(el m i).2:=by
 have e:m=m.take i++[el m i]++m.drop (i+1):=by rw[Yo,List.singleton_append,<-ZuG m i hi,Yam]
 have h0:flt t (m.drop (i+1))=[]:=Zez λc hc=>by obtain⟨k,h1,h2,rfl⟩:=Zjm hc;exact hk k (by omega) h2
 have h1:flt t [el m i]=[el m i]:=by simp[flt,he]
 have h2:flt t m=flt t (m.take i)++[el m i]:=by conv=>lhs;rw[e,ZdK,ZdK,h0,h1,YG]
 rw[getX,h2,List.getLast?_append];simp
theorem ZP3 (m:List Cell) (t:Int) (hm:m.length<=most):(Zqy m t).val=some (getX m t):=by
 have hms:=mst;obtain⟨r,hr,hR⟩:=ZK (fl:=true) (t:=Zho) (fuel:=λa=>1000000000000)
  (I:=λa=>∃i:Nat,i<=m.length/\(∀k,i<=k->k<m.length->(el m k).1≠t)/\a=(m,t,0,(i:Int)-1,()))
  (m:=λa=>Int.toNat (a.2.2.2.1+1)) (R:=λr=>(r.1=false/\getX m t=0)\/(r.1=true/\r.2.2.2.1=getX m t))
  (λa hi=>by
   obtain⟨i,hi,hk,rfl⟩:=hi;cases i with
   |zero=>
    right;left;refine⟨(m,t,0,((0:Nat):Int)-1,()),by simp[Zho,RT.val],.inl ⟨rfl,Zjx λc hc=> ?_⟩⟩;obtain⟨k,hk'⟩:=Ya8.1 hc;have hlt:=(YE.1 hk').1;rw[Zc8 m k hlt,oinj] at hk';rw[<-hk'];exact hk k (Yr _) hlt
   |succ i=>
    have ei:((i+1:Nat):Int)-1=(i:Int):=by omega
    rw[ei];have d:decide ((i:Int)>=0)=true:=by simp
    have r1:=ZaP m i (by omega);cases he:((el m i).1==t) with
    |true=>
     right;right;refine⟨(m,t,(el m i).2,(i:Int),()),rfl,by simp only[Zho,RT.val,d,r1,ZcX,he,Ya,Yh,Yj],.inr ⟨rfl,?_⟩⟩;exact (ZN7 (by omega) (by simpa using he) λk h1 h2=>hk k (by omega) h2).symm
    |false=>
     left;refine⟨(m,t,0,(i:Int)-1,()),?_,⟨i,by omega,λk h1 h2=> ?_,rfl⟩,by simp only;omega⟩
     ·have w:wrap .i64 ((i:Int)-1)=(i:Int)-1:=wrap_i64 _ (by omega) (by omega);simp only[Zho,RT.val,d,r1,ZcX,he,Ya,Yc,Yh,Ym,Yw,Yj,w]
     ·by_cases e:k=i
      ·subst e;simpa using he
      ·exact hk k (by omega) h2)
  (m,t,0,(m.length:Int)-1,()) ⟨m.length,Ye _,λk h1 h2=>by omega,rfl⟩ (by simp only;omega)
 have w:wrap .i64 (iN m.length-1)=(m.length:Int)-1:=wrap_i64 _ (by simp only[iN,Le];omega) (by simp only[iN,Le];omega);rcases hR with ⟨h1,h2⟩|⟨h1,h2⟩
 ·simp only[Zqy,RT.val,w,hr,okB,getO,Ya,h1,Yc,h2]
 ·simp only[Zqy,RT.val,w,hr,okB,getO,Ya,h1,h2]
def pst (c:Cell) (s:Bool×List Cell) (x:Cell):Bool×List Cell:=
 let t:= !s.1&&decide (x.1>=c.1)
 let o:=bif t then (bif c.2 !=0 then s.2++[c] else s.2) else s.2
 (t||s.1,bif x.1 !=c.1 then o++[x] else o)
def pfin (c:Cell) (s:Bool×List Cell):List Cell:=bif !s.1&&c.2 !=0 then s.2++[c] else s.2
theorem ZDr (c:Cell):∀(m:List Cell) (o:List Cell),(∀x∈m,x.1≠c.1)->m.foldl (pst c) (true,o)=(true,o++m)
 |[],o,_=>by simp
 |x::m,o,h=>by
  have hx:(x.1 !=c.1)=true:=by simpa using h x (by simp)
  simp only[List.foldl_cons,pst,Yh,YZ,Yc,Yk,hx,Ya];rw[ZDr c m (o++[x]) λy hy=>h y (YA _ hy)];simp
theorem ZKs (c:Cell):∀(m:List Cell) (o:List Cell),m.Pairwise (λa b=>a.1<b.1)->pfin c (m.foldl (pst c) (false,o))=o++putX m c
 |[],o,_=>by
  simp only[List.foldl_nil,pfin,putX,Ym,YQ];by_cases h:c.2=0
  ·simp[h]
  ·have:(c.2 !=0)=true:=by simpa using h
   simp[h,this]
 |x::m,o,h=>by
  have h1:=YC.1 h;by_cases hx:x.1<c.1
  ·have e1:decide (x.1>=c.1)=false:=by simp;omega
   have e2:(x.1 !=c.1)=true:=by simp;omega
   simp only[List.foldl_cons,pst,e1,Yau,Yc,Yx,e2,Ya];rw[ZKs c m (o++[x]) h1.2,putX,YX hx];simp
  ·have e1:decide (x.1>=c.1)=true:=by simp;omega
   have hne:∀y∈m,y.1≠c.1:=λy hy=>by have:=h1.1 y hy;omega
   simp only[List.foldl_cons,pst,e1,Ym,Y1,Ya,Yw];rw[ZDr c m _ hne,putX,Y3 hx];simp only[pfin,Yh,YZ,Yc];by_cases hz:c.2=0
   ·by_cases hk:x.1=c.1
    ·simp[hz,hk]
    ·have:(x.1 !=c.1)=true:=by simpa using hk
     simp[hz,hk,this]
   ·have hz1:(c.2 !=0)=true:=by simpa using hz
    by_cases hk:x.1=c.1
    ·simp[hz,hk,hz1]
    ·have:(x.1 !=c.1)=true:=by simpa using hk
     simp[hz,hk,this,hz1]
theorem Zzg (c:Cell):∀(m:List Cell) (s:Bool×List Cell),(m.foldl (pst c) s).2.length+(bif (m.foldl (pst c) s).1 then 0 else 1)<=s.2.length+(bif s.1 then 0 else 1)+m.length
 |[],s=>by simp
 |x::m,s=>by
  rw[List.foldl_cons];have ih:=Zzg c m (pst c s x);have:(pst c s x).2.length+(bif (pst c s x).1 then 0 else 1)<=s.2.length+(bif s.1 then 0 else 1)+1:=by obtain⟨d,o⟩:=s;simp only[pst];generalize decide (x.1>=c.1)=b1;generalize (c.2 !=0)=b2;generalize (x.1 !=c.1)=b3;cases d<;>cases b1<;>cases b2<;>cases b3<;>simp<;>omega
  simp only[List.length_cons];omega
theorem ZvI (m:List Cell) (c:Cell) (hv:Vld m) (hm:m.length+1<=most):ZvV m c=true/\ZJ0 m c=putX m c:=by
 have hms:=mst;obtain⟨r,hr,h1,i,hR⟩:=ZK (fl:=false) (t:=ZiP) (fuel:=λa=>1000000000000)
  (λa=>∃i:Nat,i<=m.length/\a=(((m.take i).foldl (pst c) (false,[])).1,m,(m.length:Int),(i:Int),c,((m.take i).foldl (pst c) (false,[])).2,()))
  (λa=>Int.toNat (a.2.2.1-a.2.2.2.1)) (λr=>r.1=false/\∃i:Nat,r.2=((m.foldl (pst c) (false,[])).1,m,(m.length:Int),(i:Int),c,(m.foldl (pst c) (false,[])).2,()))
  (by
   rintro a ⟨i,hi,rfl⟩;by_cases hlt:i<m.length
   ·left;have d:decide ((i:Int)<(m.length:Int))=true:=by simpa using hlt
    have r1:=ZaP m i hlt;have hl:=Zzg c (m.take i) (false,[]);have hs:(m.take (i+1)).foldl (pst c) (false,[])=pst c ((m.take i).foldl (pst c) (false,[])) (el m i):=by rw[Zyv m i hlt,YaX];rfl
    rw[YH,Ya7 (by omega)] at hl;refine⟨_,?_,⟨i+1,hlt,rfl⟩,by simp only;omega⟩;rw[hs];generalize (m.take i).foldl (pst c) (false,[])=s at hl|-;obtain⟨dn,o⟩:=s;simp only[List.length_nil,Yc] at hl;simp only[ZiP,RT.val,d,r1,ZcX,Ya,Yh,Yj,pst,Ziw i (by omega)];generalize decide ((el m i).1>=c.1)=b1;generalize hb2:(c.2 !=0)=b2;generalize hb3:((el m i).1 !=c.1)=b3;have l1:Nat.ble (o++[c]).length most=true\/dn=true:=by
     cases dn with
     |true=>exact .inr rfl
     |false=>left;rw[Yy];simp only[Yc] at hl;simp only[Yd,List.length_singleton];omega
    have l2:Nat.ble (o++[el m i]).length most=true:=by rw[Yy];simp only[Yd,List.length_singleton];cases dn<;>simp only[Ya,Yc] at hl<;>omega
    have l3:Nat.ble (o++[c]++[el m i]).length most=true\/dn=true:=by
     cases dn with
     |true=>exact .inr rfl
     |false=>left;rw[Yy];simp only[Yc] at hl;simp only[Yd,List.length_singleton];omega
    cases dn with
    |true=>
     cases b3<;>simp only[l2,Yh,Ym,YZ,Yw,Yj,Yk,Ya,Yc]
    |false=>
     have l1:Nat.ble (o++[c]).length most=true:=by simpa using l1
     have l3:Nat.ble (o++[c]++[el m i]).length most=true:=by simpa using l3
     cases b1<;>cases b2<;>cases b3<;>simp only[l1,l2,l3,Yh,Ym,YZ,YQ,Yw,Yj,Yk,Yx,Y1,Ya,Yc]
   ·right;left;have d:decide ((i:Int)<(m.length:Int))=false:=by simpa using hlt
    have e:m.take i=m:=YW (by omega);rw[e]
    exact⟨_,by simp only[ZiP,RT.val,d,Yc],rfl,i,rfl⟩)
  (false,m,iN m.length,0,c,[],()) ⟨0,Yr _,rfl⟩ (by simp only[iN,Le];omega)
 have hl:=Zzg c m (false,[]);have hp:=ZKs c m [] hv.1;simp only[List.nil_append] at hp;obtain⟨r1,r2⟩:=r;simp only at h1 hR;subst h1 hR;generalize m.foldl (pst c) (false,[])=s at hl hp hr;obtain⟨dn,o⟩:=s;have hb:(!(!dn&&c.2 !=0)||Nat.ble (o++[c]).length most)=true:=by
  cases dn with
  |true=>rfl
  |false=>
   have:Nat.ble (o++[c]).length most=true:=by rw[Yy];simp only[Yc,List.length_nil] at hl;simp only[Yd,List.length_singleton];omega
   rw[this];simp
 have hv:(Zqu m c).val=some (putX m c):=by simp only[Zqu,RT.val,hr,okB,getO,Ya,hb,<-hp,pfin]
 exact⟨by simp only[ZvV,hv];rfl,by simp only[ZJ0,hv,getO]⟩
theorem Zso (c:Cell):∀m:List Cell,(putX m c).length<=m.length+1
 |[]=>by simp only[putX];split<;>simp
 |x::m=>by
  have:=Zso c m;simp only[putX];repeat' split
  all_goals simp only[List.length_cons];omega
theorem Zkr (l:List Cell) (c:Cell):normX (l++[c])=putX (normX l) c:=by simp[normX,YaX]
theorem ZE2:∀(l m:List Cell),(l.foldl putX m).length<=m.length+l.length
 |[],m=>by simp
 |x::l,m=>by have:=ZE2 l (putX m x);have:=Zso x m;simp only[List.foldl_cons,List.length_cons];omega
theorem Zeo (l:List Cell):(normX l).length<=l.length:=by have:=ZE2 l [];simpa [normX] using this
theorem ZJH (l:List Cell) (hl:l.length+1<=most):ZJ4 l=true/\ZVb l=normX l:=by
 have hms:=mst;have h1:=Zqn l (by omega);have hc:Zj9 l=true:=by simp only[Zj9,h1];rfl
 have hv0:ZmR l=vldB l:=by simp only[ZmR,h1,getO]
 have hv:(Zqv l).val=some (normX l):=by
  cases hb:vldB l with
  |true=>
   have e:Nat.ble l.length most=true:=by rw[Yy];omega
   simp only[Zqv,RT.val,hc,hv0,hb,List.nil_append,e,Ya,Yh,Yj,Zhs (Ziz.1 hb)]
  |false=>
   obtain⟨r,hr,h1,i,hR⟩:=ZK (fl:=false) (t:=ZiQ) (fuel:=λa=>1000000000000)
    (λa=>∃i:Nat,i<=l.length/\a=(normX (l.take i),l,(l.length:Int),(i:Int),()))
    (λa=>Int.toNat (a.2.2.1-a.2.2.2.1)) (λr=>r.1=false/\∃i:Nat,r.2=(normX l,l,(l.length:Int),(i:Int),()))
    (by
     rintro a ⟨i,hi,rfl⟩;by_cases hlt:i<l.length
     ·left;have d:decide ((i:Int)<(l.length:Int))=true:=by simpa using hlt
      have r1:=ZaP l i hlt;have hlen:=Zeo (l.take i);rw[YH] at hlen;have hp:=ZvI (normX (l.take i)) (el l i) (Zjf _) (by omega);refine⟨_,?_,⟨i+1,hlt,rfl⟩,by simp only;omega⟩;rw[Zyv l i hlt,Zkr];simp only[ZiQ,RT.val,d,r1,ZcX,hp.1,hp.2,Ya,Yk,Ziw i (by omega)]
     ·right;left;have d:decide ((i:Int)<(l.length:Int))=false:=by simpa using hlt
      have e:l.take i=l:=YW (by omega);rw[e]
      exact⟨_,by simp only[ZiQ,RT.val,d,Yc],rfl,i,rfl⟩)
    ([],l,iN l.length,0,()) ⟨0,Yr _,rfl⟩ (by simp only[iN,Le];omega)
   obtain⟨r1,r2⟩:=r;simp only at h1 hR;subst h1 hR;simp only[Zqv,RT.val,hc,hv0,hb,hr,okB,getO,Ya,Yc,Ym,Yw]
 exact⟨by simp only[ZJ4,hv];rfl,by simp only[ZVb,hv,getO]⟩
def ZBE (s:List Cell) (i:Nat):Bool:=(el s i).2 !=0&&(decide (i+1=s.length)||(el s (i+1)).1 !=(el s i).1)
theorem ZXc (s:List Cell) (i:Nat) (h:i<s.length):dd (s.drop i)=(bif ZBE s i then [el s i] else [])++dd (s.drop (i+1)):=by
 rw[ZuG s i h];by_cases hl:i+1<s.length
 ·rw[ZuG s (i+1) hl,dd];have e:decide (i+1=s.length)=false:=by simp;omega
  simp only[ZBE,e,Yj];by_cases h1:(el s i).1=(el s (i+1)).1
  ·have:((el s (i+1)).1 !=(el s i).1)=false:=by simp[h1]
   simp only[this,Yau,Yc,List.nil_append,YX h1]
  ·have:((el s (i+1)).1 !=(el s i).1)=true:=by simpa using λe=>h1 e.symm
   simp only[this,YY,Y3 h1];by_cases h2:(el s i).2=0
   ·have:((el s i).2 !=0)=false:=by simp[h2]
    simp only[this,YX h2,Yc,List.nil_append]
   ·have:((el s i).2 !=0)=true:=by simpa using h2
    simp only[this,Y3 h2,Ya,List.singleton_append]
 ·have hn:s.drop (i+1)=[]:=Y6 (by omega);have e:decide (i+1=s.length)=true:=by simp;omega
  rw[hn];simp only[ZBE,e,Yw,YY,dd,YG];by_cases h2:(el s i).2=0
  ·have:((el s i).2 !=0)=false:=by simp[h2]
   simp only[this,YX h2,Yc]
  ·have:((el s i).2 !=0)=true:=by simpa using h2
   simp only[this,Y3 h2,Ya]
theorem ZIw (l:List Cell) (hl:l.length<=most):ZCC l=true/\Zys l=isort l:=by
 have hs:ZmE l (iN l.length)=true:=by simp[ZmE,iN,Le];omega
 have hv:(Zvk l).val=some (isort l):=by simp only[Zvk,RT.val,ZdI,hs,Ya]
 exact⟨by simp only[ZCC,hv];rfl,by simp only[Zys,hv,getO]⟩
theorem Zw9 (l:List Cell) (hl:l.length<=most):Zxk l=true/\ZNo l=normX l:=by
 have hms:=mst;have h1:=ZIw l hl;have hlen:=Zew l;generalize hs:isort l=s at hlen h1;obtain⟨r,hr,h2,i,hR⟩:=ZK (fl:=false) (t:=Zjn) (fuel:=λa=>Int.toNat (a.1-a.2.1)+1)
  (λa=>∃(i:Nat) (o:List Cell),i<=s.length/\o.length<=i/\o++dd (s.drop i)=dd s/\a=((s.length:Int),(i:Int),s,o,()))
  (λa=>Int.toNat (a.1-a.2.1)) (λr=>r.1=false/\∃i:Nat,r.2=((s.length:Int),(i:Int),s,dd s,()))
  (by
   rintro a ⟨i,o,hi,ho,hd,rfl⟩;by_cases hlt:i<s.length
   ·left;have d:decide ((i:Int)<(s.length:Int))=true:=by simpa using hlt
    have r1:=ZaP s i hlt;have w:=Ziw i (by omega);have e1:(((i+1:Nat):Int)==iN s.length)=decide (i+1=s.length):=by rw[Bool.eq_iff_iff];simp[iN,Le];omega
    have hst:=ZXc s i hlt;have hle:∀x:Cell,Nat.ble (o++[x]).length most=true:=λx=>by rw[Yy];simp only[Yd,List.length_singleton];omega
    refine⟨((s.length:Int),((i+1:Nat):Int),s,o++(bif ZBE s i then [el s i] else []),()),?_,⟨i+1,_,hlt,?_,?_,rfl⟩,by simp only;omega⟩
    ·have e3:(!((el s i).2 !=0)||(decide (i+1=s.length)||Zh ((i+1:Nat):Int) s.length))=true:=by
      by_cases hq:i+1=s.length
      ·simp[hq]
      ·rw[ZaP s (i+1) (by omega)];simp
     have e4:((el s i).2 !=0&&(decide (i+1=s.length)||(el s (i+1)).1 !=(el s i).1))=ZBE s i:=rfl;have g1:=ZcX s i;have g2:=ZcX s (i+1);simp only[Zjn,RT.val,d,r1,w,g1,g2,e1,e3,e4,hle,Ya,Yh,Yj,Yk];cases ZBE s i<;>simp
    ·cases ZBE s i<;>simp only[Ya,Yc,YG,Yd,List.length_singleton]<;>omega
    ·rw[Yo,<-hst,hd]
   ·right;left;have d:decide ((i:Int)<(s.length:Int))=false:=by simpa using hlt
    have e:s.drop i=[]:=Y6 (by omega);rw[e] at hd;simp only[dd,YG] at hd;subst hd
    exact⟨_,by simp only[Zjn,RT.val,d,Yc],rfl,i,rfl⟩)
  (iN s.length,0,s,[],()) ⟨0,[],Yr _,by simp,by simp,rfl⟩ (by simp only[iN,Le];omega)
 obtain⟨r1,r2⟩:=r;simp only at h2 hR;subst h2 hR;have hb:Nat.ble l.length most=true:=by rw[Yy];exact hl
 have hv:(Zxj l).val=some (normX l):=by simp only[Zxj,RT.val,hb,h1.1,h1.2,hr,okB,getO,Ya];rw[<-hs,ZHi]
 exact⟨by simp only[Zxk,hv];rfl,by simp only[ZNo,hv,getO]⟩
abbrev BR:R:=R.int u8
theorem get_d (l:List Int) (i:Nat):R.get BR l (i:Int)=l.getD i 0:=by simp[R.get,R.Df]
def ZoV (t:Int) (b:List Int) (n:Nat):List Cell:=(List.range n).map λi:Nat=>(wrap .u16 (t+wrap .u16 (i:Int)),b.getD i 0)
theorem ZHA (t:Int) (b:List Int) (n:Nat):ZoV t b (n+1)=ZoV t b n++[(wrap .u16 (t+wrap .u16 (n:Int)),b.getD n 0)]:=by simp[ZoV,List.range_succ]
theorem ZoU (t:Int) (b:List Int) (n:Nat):(ZoV t b n).length=n:=by simp[ZoV]
def ZoT (t:Int) (b:List Int):List Cell:=normX (ZoV t b b.length)
theorem Zw7 (m:List Cell) (hm:m.length<=most):Zul m=true/\ZoN m=vldB m:=by have h:=ZHt m hm;exact⟨by simp only[Zul,h];rfl,by simp only[ZoN,h,getO]⟩
theorem ZJA (m:List Cell) (hm:m.length<=most):Zj9 m=true/\ZmR m=vldB m:=by have h:=Zqn m hm;exact⟨by simp only[Zj9,h];rfl,by simp only[ZmR,h,getO]⟩
theorem ZUV (m:List Cell) (t:Int) (hm:m.length<=most):ZJ9 m t=true/\ZVc m t=getX m t:=by have h:=ZP3 m t hm;exact⟨by simp only[ZJ9,h];rfl,by simp only[ZVc,h,getO]⟩
abbrev GR:R:=Pq Kb (Pq Kb (Pq R.bool Kc))
def hitB (t:Int) (r:ZS):Bool:=decide (r.1<=t)&&decide (t<=r.2.1)
def Zcv (l:List ZS) (t:Int):Int:=if l.findIdx (hitB t)<l.length then (l.findIdx (hitB t):Int) else-1
def rg (l:List ZS) (i:Nat):ZS:=l.getD i (0,0,false,0)
theorem ZTN (l:List ZS) (i:Nat):R.get GR l (i:Int)=rg l i:=by simp[R.get,R.Df,rg]
theorem ZvK (l:List ZS) (i:Nat) (h:i<l.length):l[i]=rg l i:=by simp[rg,h]
theorem ZWX {l:List ZS} (hi:i<l.length) (h:hitB t (rg l i)=true) (hk:∀k,k<i->hitB t (rg l k)=false):Zcv l t=i:=by have:l.findIdx (hitB t)=i:=(List.findIdx_eq hi).2 ⟨by rw[ZvK l i hi];exact h,λj hj=>by rw[ZvK l j (by omega)];exact hk j hj⟩;simp only[Zcv,this,hi,if_true]
theorem ZWW {l:List ZS} (hk:∀k,k<l.length->hitB t (rg l k)=false):Zcv l t= -1:=by
 have:¬l.findIdx (hitB t)<l.length:=by rw[List.findIdx_lt_length];rintro⟨x,hx,hp⟩;obtain⟨i,hi,rfl⟩:=YaP.1 hx;rw[ZvK l i hi,hk i hi] at hp;exact absurd hp (by simp)
 simp only[Zcv,this,if_false]
theorem ZJJ (l:List ZS) (t:Int) (hl:l.length<=most):ZKd l t=true/\ZVe l t=Zcv l t:=by
 have hms:=mst;obtain⟨r,hr,hR⟩:=ZK (fl:=true) (t:=ZiR) (fuel:=λ_=>1000000000000)
  (λx=>∃i:Nat,i<=l.length/\(∀k,k<i->hitB t (rg l k)=false)/\x=(t,0,l,(l.length:Int),(i:Int),()))
  (λx=>Int.toNat (x.2.2.2.1-x.2.2.2.2.1)) (λr=>(r.1=false/\Zcv l t= -1)\/(r.1=true/\r.2.2.1=Zcv l t))
  (by
   rintro x ⟨i,hi,hk,rfl⟩;by_cases hlt:i<l.length
   ·have d:decide ((i:Int)<(l.length:Int))=true:=by simpa using hlt
    have r1:=ZaP l i hlt;have g1:=ZTN l i;cases hh:hitB t (rg l i) with
    |false=>
     left;refine⟨(t,0,l,(l.length:Int),((i+1:Nat):Int),()),?_,⟨i+1,hlt,λk hk'=> ?_,rfl⟩,by simp only;omega⟩
     ·simp only[hitB] at hh;simp only[ZiR,RT.val,d,r1,g1,hh,Ya,Yc,Ziw i (by omega)]
     ·by_cases e:k=i
      ·subst e;exact hh
      ·exact hk k (by omega)
    |true=>
     right;right;refine⟨(t,(i:Int),l,(l.length:Int),(i:Int),()),rfl,?_,.inr ⟨rfl,(ZWX hlt hh hk).symm⟩⟩;simp only[hitB] at hh;simp only[ZiR,RT.val,d,r1,g1,hh,Ya]
   ·right;left;have d:decide ((i:Int)<(l.length:Int))=false:=by simpa using hlt
    exact⟨_,by simp only[ZiR,RT.val,d,Yc];rfl,.inl ⟨rfl,ZWW λk h=>hk k (by omega)⟩⟩)
  (t,0,l,iN l.length,0,()) ⟨0,Yr _,λk h=>by omega,rfl⟩ (by simp only[iN,Le];omega)
 have hv:(Zqz l t).val=some (Zcv l t):=by
  rcases hR with ⟨h1,h2⟩|⟨h1,h2⟩
  ·simp only[Zqz,RT.val,hr,okB,getO,Ya,h1,Yc,h2]
  ·simp only[Zqz,RT.val,hr,okB,getO,Ya,h1,h2]
 exact⟨by simp only[ZKd,hv];rfl,by simp only[ZVe,hv,getO]⟩
theorem Znc (l:List ZS) (t:Int) (hl:l.length<=most):ZwF l t=true/\ZpS l t=Zcv l t:=by have h:=ZJJ l t hl;have e:ZEg l t=Zqz l t:=rfl;simp only[ZKd,ZVe,<-e] at h;exact h
def ZkZ (l:List ZS) (m:List Cell) (t:Int):Int:=bif decide (Zcv l t<0) then 255 else getX m t
end
end Go.Proofs.YteaflmalcclnoaaGreatDoor
namespace Go.Proofs.YteaflmalcclnoaaGreatDoor
open Go Go.S3 Go.Proofs Go.Proofs.Cells Go.RowKit Go.Shelf
attribute [local go_sem] Oper.semAt_some
noncomputable section
def bwL (l:List Cell) (k:Nat):List (Nat×Cell):=(List.range k).map λj=>(l.length-1-j,el l (l.length-1-j))
theorem ZFo (l:List Cell) (k:Nat):bwL l (k+1)=bwL l k++[(l.length-1-k,el l (l.length-1-k))]:=by simp[bwL,List.range_succ]
theorem ZXe (l:List Cell) (k:Nat):(bwL l k).length=k:=by simp[bwL]
theorem ZFp (l:List Cell) (m:Nat) (h:m+1<=l.length):bwL l (l.length-m)=bwL l (l.length-(m+1))++[(m,el l m)]:=by
 have e:l.length-m=(l.length-(m+1))+1:=by omega
 have e2:l.length-1-(l.length-(m+1))=m:=by omega
 rw[e,ZFo,e2]
abbrev ZCf (x:Nat×Cell):Array Value:= #[.int .i64 (x.1:Int),.agg #[.int .u16 x.2.1,.int .u8 x.2.2]]
set_option maxRecDepth 100000 in
set_option maxHeartbeats 2000000 in
theorem ZSD (F:Fence) (n:Nat) (h8:F.fn 262) (hro:F.round=none) (hn:1<=n) (y Bs n₀ b off cap:Nat) (l:List Cell) (hreach:l.length<=1073741824) (hb:b<n₀) (hB:Bs<n₀) (J Jx:List (Nat×Cell)->World->Prop)
  (hY:∀pre x W,J pre W->pre.length<l.length->YieldAt F (n-1) prog y (ZCf x) W λe W'=>
   (e=.returned (.bool true)/\J (pre++[x]) W'/\Below n₀ W W')\/(e=.returned (.bool false)/\Jx (pre++[x]) W'))
  (W:World) (hBs:W.cell? ⟨Bs,0,none⟩=some (.slice (some ⟨b,off,none⟩) l.length cap))
  (hc:∀j,j<l.length->W.cell? ⟨b,off+j*2,none⟩=some (.int .u16 (el l j).1)/\W.cell? ⟨b,off+j*2+1,none⟩=some (.int .u8 (el l j).2)) (h0:J [] W):
  CallsIn F n prog 262 #[.func (.yield y) #[] #[],.pointer (some ⟨Bs,0,none⟩)] W λe W'=>(∃v,e=.returned v)/\
   ((∃ys,ys=bwL l l.length/\J ys W')\/(∃pre,(∃k,k<=l.length/\pre=bwL l k)/\Jx pre W')):=by
 refine callsIn_of_wp Tryz.func262 rfl h8 ?_ hro;simp only[Tryz.ntmps262,Y7,List.length_cons,List.length_nil,Nat.reduceAdd,Nat.reduceSub,Yaj,Array.replicate_zero,Yaq,Yal,List.nil_append,List.cons_append];gi_wp2
 gi_loopw [3] (λi wr=>∃m:Nat,m<=l.length/\i=.int .i64 ((m:Int)-1)/\J (bwL l (l.length-m)) wr/\Below n₀ W wr)
  (λi _=>(intOf i+1).toNat)
 case atStart=>exact⟨l.length,Ye _,rfl,by simpa [bwL] using h0,Below.refl _ _⟩
 case round=>
  obtain⟨m,hm,rfl,hJs,hnx⟩:=hrel;have hbx:wr.cell? ⟨Bs,0,none⟩=some (.slice (some ⟨b,off,none⟩) l.length cap):=(hnx.cell (p:=⟨Bs,0,none⟩) hB).trans hBs;cases m with
  |zero=>
   gi_wp2
   go_end0
   exact⟨⟨_,rfl⟩,.inl ⟨_,rfl,by simpa using hJs⟩⟩
  |succ m=>
   have e1:((m+1:Nat):Int)-1=(m:Int):=by omega
   rw[e1];have hlt:m<l.length:=by omega
   obtain⟨q1,q2⟩:=hc m hlt;have hcx1:wr.cell? ⟨b,off+m*2,none⟩=some (.int .u16 (el l m).1):=(hnx.cell (p:=⟨b,off+m*2,none⟩) hb).trans q1;have hcx2:wr.cell? ⟨b,off+m*2+1,none⟩=some (.int .u8 (el l m).2):=(hnx.cell (p:=⟨b,off+m*2+1,none⟩) hb).trans q2;obtain⟨fn,tmps,assign,body,hy,hR⟩:=hY _ (m,el l m) wr hJs (by rw[ZXe];omega);dsimp only[ZCf] at hy;clear hc hBs q1 q2;gi_wp2
   refine hR.mono ?_;rintro e W3 (⟨rfl,hJ3,hk3⟩|⟨rfl,hJx3⟩)
   ·gi_wp2
    go_roundw
    case rel=>exact⟨m,by omega,rfl,by rw[ZFp l m hlt];exact hJ3,hnx.trans hk3⟩
    case measure=>simp[intOf]
   ·gi_wp2
    refine bodyPost_ret (results_none rfl _ _ _) rfl ?_;exact⟨⟨_,rfl⟩,.inr ⟨_,⟨l.length-m,by omega,(ZFp l m hlt).symm⟩,hJx3⟩⟩
set_option maxRecDepth 100000 in
set_option maxHeartbeats 1000000 in
theorem Zyb (F:Fence) (n:Nat) (h8:F.fn 262) (hro:F.round=none) (y Bs cap:Nat) (a:Option Addr) (J:List (Nat×Cell)->World->Prop) (W:World) (hBs:W.cell? ⟨Bs,0,none⟩=some (.slice a 0 cap)) (h0:J [] W):
  CallsIn F n prog 262 #[.func (.yield y) #[] #[],.pointer (some ⟨Bs,0,none⟩)] W λe W'=>(∃v,e=.returned v)/\J [] W':=by
 refine callsIn_of_wp Tryz.func262 rfl h8 ?_ hro;simp only[Tryz.ntmps262,Y7,List.length_cons,List.length_nil,Nat.reduceAdd,Nat.reduceSub,Yaj,Array.replicate_zero,Yaq,Yal,List.nil_append,List.cons_append];gi_wp2
 gi_loopw [3] (λi wr=>i=.int .i64 (-1)/\J [] wr) (λ_ _=>0)
 case atStart=>exact⟨rfl,h0⟩
 case round=>
  obtain⟨rfl,hJs⟩:=hrel;gi_wp2
  go_end0
  exact⟨⟨_,rfl⟩,hJs⟩
set_option maxHeartbeats 1000000 in
theorem ZXl (F:Fence) (n:Nat) (h6:F.fn 248) (hro:F.round=none) (a:Option Addr) (len cap:Nat) (w:World):
  CallsIn F n prog 248 #[.slice a len cap] w λe w'=>e=.returned (.func (.func 262) #[] #[.pointer (some ⟨w.heap.size,0,none⟩)])/\w'=w.alloc (.cells #[.slice a len cap] 25):=by
 refine callsIn_of_wp Tryz.func248 rfl h6 ?_ hro;simp only[Tryz.ntmps248,Y7,List.length_cons,List.length_nil,Nat.reduceAdd,Nat.reduceSub,Yaj,Array.replicate_zero,Yaq,Yal,List.nil_append,List.cons_append];gi_wp2
 go_ret
 exact⟨rfl,rfl⟩
def Held (n₀:Nat) (W:World) (sv:Value) (l:List Cell):Prop:=
 (∃a cap,sv=.slice a 0 cap/\l=[])\/∃b off cap,sv=.slice (some ⟨b,off,none⟩) l.length cap/\b<n₀/\
  ∀j,j<l.length->W.cell? ⟨b,off+j*2,none⟩=some (.int .u16 (el l j).1)/\W.cell? ⟨b,off+j*2+1,none⟩=some (.int .u8 (el l j).2)
variable {n₀:Nat} {sv:Value} {l:List Cell}
theorem Held.below {A B:World} (h:Below n₀ A B):Held n₀ A sv l->Held n₀ B sv l
 | .inl e=>.inl e
 | .inr ⟨b,off,cap,e,hb,hc⟩=>.inr ⟨b,off,cap,e,hb,λj hj=>⟨(h.cell (p:=⟨b,off+j*2,none⟩) hb).trans (hc j hj).1,(h.cell (p:=⟨b,off+j*2+1,none⟩) hb).trans (hc j hj).2⟩⟩
theorem Held.mono {n₁:Nat} {W:World} (h:Held n₀ W sv l) (hn:n₀<=n₁):Held n₁ W sv l:=
 h.elim .inl λ⟨b,off,cap,e,hb,hc⟩=>.inr ⟨b,off,cap,e,by omega,hc⟩
theorem ZH3 (F:Fence) (n:Nat) (h8:F.fn 262) (hro:F.round=none) (hn:1<=n) (Bs n₀:Nat) (sv:Value) (l:List Cell) (hreach:l.length<=1073741824) (w:World) (hBs:Bs<n₀) (hn₀:n₀<=w.heap.size)
  (hc:w.cell? ⟨Bs,0,none⟩=some sv) (hI:Held n₀ w sv l):
  SeqStopsK F n prog 262 #[.pointer (some ⟨Bs,0,none⟩)] ZCf (Below n₀) (λys=>ys=bwL l l.length)
   (λpre=>∃k,k<=l.length/\pre=bwL l k) l.length w:=λy J Jx W hW _ _ hY h0=>by
 have hc':=(hW.cell (p:=⟨Bs,0,none⟩) (by show Bs<_;omega)).trans hc;rcases hI.below (hW.mono hn₀) with ⟨a,cap,rfl,rfl⟩|⟨b,off,cap,rfl,hb,hcs⟩
 ·exact (Zyb F n h8 hro y Bs cap a J W hc' h0).mono λe W' ⟨he,hj⟩=>⟨he,.inl ⟨_,rfl,hj⟩⟩
 ·exact ZSD F n h8 hro hn y Bs n₀ b off cap l hreach hb hBs J Jx hY W hc' hcs h0
end
end Go.Proofs.YteaflmalcclnoaaGreatDoor
namespace Go.Proofs.YteaflmalcclnoaaGreatDoor
open Go Go.S3 Go.Proofs Go.Proofs.Cells Go.RowKit Go.Shelf
attribute [local go_sem] Oper.semAt_some
noncomputable section
set_option maxRecDepth 100000 in
set_option maxHeartbeats 2000000 in
theorem ZY7 (F:Fence) (n:Nat) (h4:F.fn 209) (h6:F.fn 248) (h8:F.fn 262) (hro:F.round=none) (hn:3<=n) (a:Option Addr) (len cap:Nat) (l:List Cell) (t:Int) (hreach:l.length<=1073741824)
  (w:World) (hI:Held w.heap.size w (.slice a len cap) l):
  CallsIn F n Tryz.prog 209 #[.slice a len cap,.int .u16 t] w λe W'=>e=.returned (.int .u8 (getX l t))/\Below w.heap.size w W':=by
 have h1:1<=n:=by omega
 refine callsIn_of_wp_marks Tryz.func209 rfl h4 ?_ hro;simp only[Tryz.ntmps209,Y7,List.length_cons,List.length_nil,Nat.reduceAdd,Nat.reduceSub,Yaj,Array.replicate_zero,Yaq,Yal,List.nil_append,List.cons_append]
 gi_wp2_with (gi_at_call 248;refine (ZXl F (n-1) h6 hro _ _ _ _).mono ?_;rintro e w' ⟨rfl,rfl⟩)
 have bT:=Boxed.new w 37 (.int .u16 t);have bR:=Boxed.new (w.alloc (.cells #[.int .u16 t] 37)) 5 (.int .u8 0);have bN:=Boxed.new ((w.alloc (.cells #[.int .u16 t] 37)).alloc (.cells #[.int .u8 0] 5)) 25 (.slice a len cap);rw[World.size_alloc] at bR bN;rw[World.size_alloc] at bN;have hB0:Below w.heap.size w (((w.alloc (.cells #[.int .u16 t] 37)).alloc (.cells #[.int .u8 0] 5)).alloc (.cells #[.slice a len cap] 25)):=(((Below.refl _ w).alloc (Ye _) _).alloc (by simp) _).alloc (by simp;omega) _;refine wpIn_rangeFunc_ownH hro h1 (gf:=262) (lb:= #[.pointer (some ⟨w.heap.size+2,0,none⟩)]) rfl h8 (enters_of Tryz.func262 (by kernel_rfl) rfl)
  (ZH3 F (n-1) h8 hro (by omega) (w.heap.size+2) (w.heap.size+3) _ l hreach _ (by omega) (by simp) bN.cell ?held) belowK_t (belowK_b (by simp)) (Below.refl _ _) (λ_=>rfl)
  (λpre W=>((∀p∈pre,p.2.1≠t)/\W.cell? ⟨w.heap.size,0,none⟩=some (.int .u16 t)/\W.cell? ⟨w.heap.size+1,0,none⟩=some (.int .u8 0)/\W.frozen? ⟨w.heap.size+1,0,none⟩=false/\w.heap.size+3<=W.heap.size)/\Below w.heap.size w W)
  (λc pre W=>(c=.ret/\∃ini last,pre=ini++[last]/\(∀p∈ini,p.2.1≠t)/\last.2.1=t/\W.cell? ⟨w.heap.size+1,0,none⟩=some (.int .u8 last.2.2))/\Below w.heap.size w W)
  (OwnFrom.and (Own.from (λs A B row hs hg hr=>⟨hs.1,cell_kept hs.2.1 hg hr,cell_kept hs.2.2.1 hg hr,(frozen_kept hs.2.2.1 hg hr).trans hs.2.2.2.1,YD hs.2.2.2.2 hg.size⟩) _) (ownFrom_below (Ye _) (by simp;omega)))
  (λc=>OwnFrom.and (Own.from (λs A B row hs hg hr=>by obtain⟨hc,ini,last,e1,e2,e3,e4⟩:=hs;exact⟨hc,ini,last,e1,e2,e3,cell_kept e4 hg hr⟩) _) (ownFrom_below (Ye _) (by simp;omega)))
  ⟨⟨by simp,((bT.alloc _).alloc _).cell,(bR.alloc _).cell,(bR.alloc _).frozen,by simp⟩,hB0⟩
  (λx a' W=>∃B,W.cell? ⟨B,0,none⟩=some (.int .u16 x.2.1)/\W.cell? ⟨B,1,none⟩=some (.int .u8 x.2.2)/\
   a'={tmps:= #[.slice a len cap,.int .u16 t,undef,.pointer (some ⟨w.heap.size,0,none⟩),.pointer (some ⟨w.heap.size+1,0,none⟩),undef,.pointer (some ⟨B,0,none⟩),.slice a len cap,.func (.func 262) #[] #[.pointer (some ⟨w.heap.size+2,0,none⟩)],.int .i64 (x.1:Int),.agg #[.int .u16 x.2.1,.int .u8 x.2.2],undef,undef,undef,undef,undef,undef],defers:=[]})
  (λx a'=>Own.from (λs A B row hs hg hr=>by obtain⟨b,e2,e3,e4⟩:=hs;exact⟨b,cell_kept e2 hg hr,cell_kept e3 hg hr,e4⟩) _)
  ?assign ?body ?done ?stop
 case held=>exact (hI.below hB0).mono (by omega)
 case assign=>
  rintro y pre x W K ⟨⟨hp,hct,hcr,hfr,hsz⟩,hB⟩ hK;gi_wp2
  have hn1:∀o:Obj,(W.alloc o).heap[W.heap.size]? =some o:=λo=>World.alloc_heap_new W o
  refine hK _ _ ((KeepsOthers.alloc W _).from _) ((Below.refl _ W).alloc hsz _) ⟨⟨hp,?_,?_,?_,by simp;omega⟩,hB.alloc (by omega) _⟩ ⟨W.heap.size,?_,?_,rfl⟩
  ·exact cell_kept hct (World.grownBy_alloc W _ none) (λr e=>by cases e)
  ·exact cell_kept hcr (World.grownBy_alloc W _ none) (λr e=>by cases e)
  ·exact (frozen_kept hcr (World.grownBy_alloc W _ none) (λr e=>by cases e)).trans hfr
  ·simp only[World.cell?];rw[hn1];rfl
  ·simp only[World.cell?];rw[hn1];rfl
 case body=>
  rintro y pre x a' W hy hl ⟨⟨hp,hct,hcr,hfr,hsz⟩,hB⟩ ⟨B,hB2,hB3,rfl⟩ _;gi_wp2
  ·have hx:x.2.1=t:=by simpa using (by assumption:(x.2.1==t)=true)
   exact⟨(KeepsOthers.setCell _ _ _).from _,⟨rfl,pre,x,rfl,hp,hx,World.cell?_setCell_same' _ _ _ (by rw[hcr];rfl)⟩,hB.setCell (p:=⟨w.heap.size+1,0,none⟩) (by simp) _⟩
  ·have hx:x.2.1≠t:=by simpa using (by assumption:(x.2.1==t)=false)
   exact⟨KeepsFrom.refl _ _,Below.refl _ _,⟨λp hp'=>(YV.1 hp').elim (hp p) (λe=>by simp at e;subst e;exact hx),hct,hcr,hfr,hsz⟩,hB⟩
 case done=>
  rintro D ys W hD rfl ⟨⟨hne,hct,hcr,hfr,hsz⟩,hB⟩ hK;gi_wp2
  have hK':=(KeepsOthers.setCell W ⟨w.heap.size+1,0,none⟩ (.int .u8 0)).same D _ hK rfl;refine⟨by simp,.inl ⟨_,_,rfl,run_takeDeferred hK',?_⟩⟩;have hc5:=cell_kept (World.cell?_setCell_same' W ⟨w.heap.size+1,0,none⟩ (.int .u8 0) (by rw[hcr];rfl)) (grownBy_putObj' _ D (.deferred none)) (λr e=>by cases e;exact⟨_,hK',rfl⟩);have h0:getX l t=0:=Zjx λc hc=>by obtain⟨i,hi,rfl⟩:=YaP.1 hc;have e1:=Zc8 l i hi;rw[Yg hi,oinj] at e1;rw[e1];refine hne (i,el l i) ?_;simp only[bwL,List.mem_map,Yaz];exact⟨l.length-1-i,by omega,by rw[show l.length-1-(l.length-1-i)=i by omega]⟩
  refine⟨.int .u8 0,?_,by rw[h0],(hB.setCell (p:=⟨w.heap.size+1,0,none⟩) (by simp) _).trans (belowK_b (w:=w) (Ye _) _ D _ _ (by simp at hD;omega) hK' rfl rfl)⟩;simp[results,Tryz.f209,go_sem,hc5]
 case stop=>
  rintro D c pre W hD ⟨k,hk,rfl⟩ ⟨⟨rfl,ini,last,e1,e2,e3,hcr⟩,hB⟩ hK;gi_wp2
  refine⟨by simp,.inl ⟨_,_,rfl,run_takeDeferred hK,?_⟩⟩;have hc5:=cell_kept hcr (grownBy_putObj' _ D (.deferred none)) (λr e=>by cases e;exact⟨_,hK,rfl⟩);obtain⟨k',rfl⟩:∃k',k=k'+1:=by
   cases k with
   |zero=>simp[bwL] at e1
   |succ k'=>exact⟨k',rfl⟩
  rw[ZFo] at e1;obtain⟨rfl,e5⟩:=Ya1 e1 rfl;simp only[YaJ,and_true] at e5;subst e5;have hg:getX l t=(el l (l.length-1-k')).2:=ZN7 (i:=l.length-1-k') (by omega) e3 λq h1 h2=>by refine e2 (q,el l q) ?_;simp only[bwL,List.mem_map,Yaz];exact⟨l.length-1-q,by omega,by rw[show l.length-1-(l.length-1-q)=q by omega]⟩
  refine⟨.int .u8 (el l (l.length-1-k')).2,?_,by rw[hg],hB.trans (belowK_b (w:=w) (Ye _) W D _ _ (by simp at hD;omega) hK rfl rfl)⟩;simp[results,Tryz.f209,go_sem,hc5]
def ZYR:List Sh:=[.one (.sl (Pq Kb Ka)),.one (.int u16)]
def ZYS:Rs:=.one (.one Ka)
def ZYT:En:=Zf ZYR ZYS (λa=>some (Nat.ble (Le (α:=Cell) a.1) most)) (λa=>getX a.1 a.2)
theorem ZWT (l:List Cell) (h:∀c∈l,inR .u8 c.2) (t:Int):inR .u8 (getX l t):=by
 by_cases hx:∃c∈l,c.1=t
 ·have hne:flt t l≠[]:=by
   obtain⟨c,hc,he⟩:=hx;intro h0;have:c∈flt t l:=by simp[flt,hc,he]
   rw[h0] at this;simp at this
  rw[getX];cases hq:(flt t l).getLast? with
  |none=>exact absurd (List.getLast?_eq_none_iff.1 hq) hne
  |some c=>
   have:=List.mem_of_getLast? hq;simp only[flt,List.mem_filter] at this;exact h c this.1
 ·rw[Zjx λc hc e=>hx ⟨c,hc,e⟩];exact⟨by decide,by decide⟩
theorem ZWB:Za Tryz.prog 209 ZYT:=by
 refine⟨Tryz.call209,λvs chk v hp hc x m w args hm hv=> ?_⟩;simp only at hp;split at hp
 ·rename_i a ha;simp only[oinj,pinj] at hp;obtain⟨rfl,rfl⟩:=hp;obtain⟨hargs,hin⟩:=Zax ha hv;obtain⟨l,t⟩:=a;have hle:List.length (α:=Cell) l<=most:=by
   cases hb:Nat.ble (List.length (α:=Cell) l) most with
   |true=>simpa [Yy] using hb
   |false=>rw[hb] at hc;exact absurd rfl hc
  have hmost:most<=1073741824:=by decide
  match args,hargs with
  |[v0,v1],hargs=>
   have hv0:RA x (.lst (Pq (R.int u16) (R.int u8)) false false false l) v0:=hargs.1;have hv1:RA x (.int false .u16 t) v1:=hargs.2.1;have hl8:∀c∈(l:List Cell),inR .u8 c.2:=λc hc=>((hin.1:rcCE.ok l).2 c hc).2
   cases hv1;obtain⟨aa,len,cap,rfl,hheld⟩:∃aa len cap,v0=.slice aa len cap/\Held w.heap.size w (.slice aa len cap) l:=by
    cases hv0 with
    |lst0 _ _ _ _ _ _ a cap h1 h2 h3 _=>exact⟨a,0,cap,rfl,.inl ⟨a,cap,rfl,h1⟩⟩
    |lst _ _ _ _ _ _ p o cap c h0 hf hcap hml hz hr=>
     refine⟨_,_,cap,rfl,.inr ⟨p,o,cap,rfl,?_,λj hj=> ?_⟩⟩
     ·have hpos:0<List.length (α:=Cell) l:=List.length_pos_iff.2 h0;exact hm.fz_lt (hz 0 0 _ hpos rfl)
     ·have q1:=hm.fz _ _ _ (hz j 0 _ hj rfl);have q2:=hm.fz _ _ _ (hz j 1 _ hj rfl);have r1:=hr j 0 _ hj rfl;have r2:=hr j 1 _ hj rfl;generalize c j 0=c0 at q1 r1;generalize c j 1=c1 at q2 r2;cases r1;cases r2;exact⟨q1,q2⟩
   have key:=ZY7 {fn:=λ_=>True} 3 trivial trivial trivial rfl (Ye _) aa len cap l t (by omega) w hheld;refine (key.calls (λk d hd=>by simp at hd)).mono ?_;rintro e w' ⟨rfl,hb⟩;have hs:Zb5 w w':=⟨⟨hb.size,λk hk=>hb.block k hk⟩,hb.os,hb.tape,hb.output⟩;exact⟨_,x,rfl,.int _ _ _ _ (ZWT l hl8 t),hm.old hs.1,.refl x,hs⟩
  |[],hargs=>exact hargs.elim
  |[_],hargs=>exact hargs.2.elim
  |_::_::_::_,hargs=>exact hargs.2.2.elim
 ·simp at hp
end
end Go.Proofs.YteaflmalcclnoaaGreatDoor
namespace Go.Proofs.YteaflmalcclnoaaGreatDoor
noncomputable section
abbrev ZXF:List Sh:=[Sh.agg (Pq Kb Ka),So Kb]
def uAtT (c:Int×Int) (t:Int):RT (Int):=
 .Lf (uCmp c.1 t)
def uAt (c:Int×Int) (t:Int):Int:=(uAtT c t).val
def uAtE:En:=Zf ZXF ZTl (λ_=>none) (λa=>uAt a.1 a.2)
theorem ZI2:Za prog 216 uAtE:=
 pureQ 31 [(217,ZUB)] [] _ _ ⟨ZIZ,Tv⟩ Tryz.func216 Tryz.call216 trivial
abbrev Zyt:Rs:=Rs.tup [So Kc,So R.bool]
def ZPF:LS:={n:=49,Sl:=[(0,.code (So rcCE)),(1,.code (So Kb)),(2,.fix (A.clo 216 [])),(8,.code (So Kc)),(9,.code (So Kc)),(10,.code (So Kc))],Bx:=[],Sg:=[]}
def Zhe (a:List (Int×Int)×Int×Int×Int×Int×PUnit):RT (Option (Go1 (List (Int×Int)×Int×Int×Int×Int×PUnit))):=
 let x1:=i64.wrap (shrI IntKind.u64 (IntKind.u64.wrap (i64.wrap (a.2.2.2.1+a.2.2.2.2.1))) 1)
 let x2:=decide (uAt (R.get (Pq Kb Ka) a.1 x1) a.2.1<0)
 .br (decide (a.2.2.2.1<a.2.2.2.2.1)) (.br (Zh x1 (Le a.1)) (Ls (Go1.cont (a.1,a.2.1,a.2.2.1,bif x2 then i64.wrap (x1+1) else a.2.2.2.1,bif x2 then a.2.2.2.2.1 else x1,PUnit.unit))) Ln) (Ls (Go1.brk (a.1,a.2.1,a.2.2.1,a.2.2.2.1,a.2.2.2.2.1,PUnit.unit)))
def ZCE:Ora:=Zbq false ZPF Zhe (λa=>(a.2.2.2.2.1-a.2.2.2.1).toNat+1)
theorem ZFE:Za1 (envX prog [(216,uAtE)] [] 4095 8) (.block 0 (.loop (Z5 Tryz.f215.body 0))) ZCE:=
 loopP ⟨ZI2,Tv⟩
def Zp7 (x:List (Int×Int)) (t:Int):RT (Option (Int×Bool)):=
 let x1:List (Int×Int)×Int×Int×Int×Int×PUnit:=(x,t,iN (Le x),0,iN (Le x),())
 let x2:=runF false Zhe (λa=>Int.toNat (a.2.2.2.2.1-a.2.2.2.1)+1) x1
 let x3:List (Int×Int)×Int×Int×Int×Int×PUnit:=(getO (false,x1) x2).2
 let x4:=x3.2
 let x5:=x4.2
 let x6:=x5.2.1
 let x7:=decide (x6<x5.1)
 let x8:=x3.1
 .br (okB x2) (.br (!x7||Zh x6 (Le x8)) (Ls ((bif x7 then x6 else x6,x7&&uAt (R.get (Pq Kb Ka) x8 x6) x4.1==0))) Ln) Ln
def Zef (x:List (Int×Int)) (t:Int):Int×Bool:=getO Zyt.Df (Zp7 x t).val
def ZCF (x:List (Int×Int)) (t:Int):Bool:=okB (Zp7 x t).val
def ZSN:En:=ZKr 216 Zza Zyt (λa=>some (ZCF a.1 a.2)) (λa=>Zef a.1 a.2)
theorem ZPE:Za prog 215 ZSN:=
 ZFW (P:=prog) (n:=4095) (k:=8) (l:=[(216,uAtE)]) (ol:=[(0,ZCE)]) ⟨ZI2,Tv⟩ Tryz.func215 rfl (by kernel_rfl) Tryz.call215 ⟨ZFE,Tv⟩ (g0:=216) (ts:=Zza) (rs:=Zyt) (t:=λa=>Zp7 a.1 a.2) (λa=>by kernel_rfl)
abbrev ZTD:List Sh:=[So rcCE,So Kb,So Ka]
def ZHx (m:List (Int×Int)) (t:Int) (v:Int):RT (Option (List (Int×Int))):=
 let x1:= !(v==0&& !(Zef m t).2)||Nat.ble (Le m) most
 let x2:= !x1
 let x3:=v==0&& !(Zef m t).2||(!v==0||(!Nat.ble (Le m) most||decide (0<=(Zef m t).1)&&decide ((Zef m t).1<iN (Le m))&&decide (i64.wrap ((Zef m t).1+1)=(Zef m t).1+1)))
 let x4:= !x3
 let x5:=v==0&& !(Zef m t).2||(!v==0||Nat.ble (Le m) most)
 let x6:= !x5
 let x7:=v==0&& !(Zef m t).2||(v==0||(!(Zef m t).2||Nat.ble (Le m) most))
 .br (Zul m) (.br (!!ZoN m||(!Nat.ble (Le m) most||(!Nat.ble (Le (m++[(t,v)])) most||Zxk (m++[(t,v)])))) (.br (!!ZoN m||(!Nat.ble (Le m) most||Nat.ble (Le (m++[(t,v)])) most)) (.br (!!ZoN m||Nat.ble (Le m) most) (.br (!ZoN m) (Ls (ZNo (m++[(t,v)]))) (.br (ZCF m t) (.br (x2||(x4||(x6||(!x7||(v==0&& !(Zef m t).2||(v==0||(!(Zef m t).2||Zh (Zef m t).1 (Le m)))))))) (.br (x2||(x4||(x6||x7))) (.br (x2||(x4||x5)) (.br (x2||x3) (.br (x1) (.br (v==0&& !(Zef m t).2) (Ls (m)) (.br (v==0) (Ls (delX m (Int.toNat (Zef m t).1))) (.br (Zef m t).2 (Ls (setI m (Zef m t).1 ((R.get (Pq Kb Ka) m (Zef m t).1).1,v))) (.br (!Nat.ble (Le m) most||decide (0<=(Zef m t).1)&&decide ((Zef m t).1<=iN (Le m))&&Nat.ble (Le m+1) most) (.br (Nat.ble (Le m) most) (Ls (insX m (Int.toNat (Zef m t).1) (t,v))) Ln) Ln)))) Ln) Ln) Ln) Ln) Ln) Ln)) Ln) Ln) Ln) Ln
def mPut (m:List (Int×Int)) (t:Int) (v:Int):List (Int×Int):=getO ZBy.Df (ZHx m t v).val
def ZRB (m:List (Int×Int)) (t:Int) (v:Int):Bool:=okB (ZHx m t v).val
def ZYQ:En:=Zf ZTD ZBy (λa=>some (ZRB a.1 a.2.1 a.2.2)) (λa=>mPut a.1 a.2.1 a.2.2)
theorem ZWz:Za prog 164 ZYQ:=
 ZgI (P:=prog) (n:=35253225784319) (k:=108) (l:=[(58,ZuT),(140,ZNh),(165,ZNn),(215,ZSN),(216,uAtE),(218,delE),(219,insE)]) (ol:=[]) ⟨Zpy,Zxh,ZEL,ZPE,ZI2,ZZi,ZY2,Tv⟩ Tryz.func164 rfl (by kernel_rfl) Tryz.call164 trivial (ts:=ZTD) (rs:=ZBy) (t:=λa=>ZHx a.1 a.2.1 a.2.2) (λa=>by kernel_rfl)
theorem ZI0 (x y:Int):decide (uCmp x y<0)=decide (x<y):=by
 simp only[uCmp,ZI1,RT.val,bne_self_eq_false,Yc];by_cases h:x<y
 ·simp[h]
 ·by_cases h2:x>y<;>simp[h,h2]
theorem ZUA (x y:Int):(uCmp x y==0)=(x==y):=by
 simp only[uCmp,ZI1,RT.val,bne_self_eq_false,Yc];by_cases h:x<y
 ·have:x≠y:=by omega
  simp[h,this]
 ·by_cases h2:x>y
  ·have:x≠y:=by omega
   simp[h,h2,this]
  ·have:x=y:=by omega
   simp[h,h2,this]
theorem ZI3 (c:Cell) (t:Int):uAt c t=uCmp c.1 t:=rfl
def At (m:List Cell) (t:Int) (i:Nat):Prop:=i<=m.length/\(∀k,k<i->(el m k).1<t)/\∀k,i<=k->k<m.length->t<=(el m k).1
theorem ZIy (m:List Cell) (t:Int) (hv:Vld m) (hm:m.length<=most):ZCF m t=true/\∃i,At m t i/\Zef m t=((i:Int),decide (i<m.length)&&((el m i).1==t)):=by
 have hms:=mst;obtain⟨r,hr,h1,i,hi,hR⟩:=ZK (fl:=false) (t:=Zhe) (fuel:=λa=>Int.toNat (a.2.2.2.2.1-a.2.2.2.1)+1)
  (λa=>∃lo hi:Nat,lo<=hi/\hi<=m.length/\(∀k,k<lo->(el m k).1<t)/\(∀k,hi<=k->k<m.length->t<=(el m k).1)/\a=(m,t,(m.length:Int),(lo:Int),(hi:Int),()))
  (λa=>Int.toNat (a.2.2.2.2.1-a.2.2.2.1)) (λr=>r.1=false/\∃i:Nat,At m t i/\r.2=(m,t,(m.length:Int),(i:Int),(i:Int),()))
  (by
   rintro a ⟨lo,hi,h1,h2,h3,h4,rfl⟩;by_cases hlt:lo<hi
   ·left;have d:decide ((lo:Int)<(hi:Int))=true:=by simpa using hlt
    have hmid:=Zo8 lo hi (by omega);obtain⟨M,hM⟩:∃M,M=(lo+hi)/2:=⟨_,rfl⟩;rw[<-hM] at hmid;have r1:=ZaP m M (by omega);have g:=ZcX m M;have w:=Ziw M (by omega);by_cases hc:(el m M).1<t
    ·have dc:decide (uAt (el m M) t<0)=true:=by rw[ZI3,ZI0];simpa using hc
     refine⟨(m,t,(m.length:Int),((M+1:Nat):Int),(hi:Int),()),?_,⟨M+1,hi,by omega,h2,λk hk=> ?_,h4,rfl⟩,by simp only;omega⟩
     ·simp only[Zhe,RT.val,d,hmid,r1,g,dc,w,Ya]
     ·by_cases e:k=M
      ·subst e;exact hc
      ·by_cases e2:k<lo
       ·exact h3 k e2
       ·have:=YaG.1 hv.1 k M (by omega) (by omega) (by omega);have e1:=Zc8 m k (by omega);have e3:=Zc8 m M (by omega);rw[Yg (by omega),oinj] at e1 e3;rw[e1,e3] at this;omega
    ·have dc:decide (uAt (el m M) t<0)=false:=by rw[ZI3,ZI0];simpa using hc
     refine⟨(m,t,(m.length:Int),(lo:Int),(M:Int),()),?_,⟨lo,M,by omega,by omega,h3,λk hk hk2=> ?_,rfl⟩,by simp only;omega⟩
     ·simp only[Zhe,RT.val,d,hmid,r1,g,dc,Ya,Yc]
     ·by_cases e:k=M
      ·subst e;omega
      ·have:=YaG.1 hv.1 M k (by omega) (by omega) (by omega);have e1:=Zc8 m k (by omega);have e3:=Zc8 m M (by omega);rw[Yg (by omega),oinj] at e1 e3;rw[e1,e3] at this;omega
   ·right;left;have d:decide ((lo:Int)<(hi:Int))=false:=by simpa using hlt
    have:hi=lo:=by omega
    subst this
    exact⟨_,by simp only[Zhe,RT.val,d,Yc],rfl,hi,⟨h2,h3,h4⟩,rfl⟩)
  (m,t,iN m.length,0,iN m.length,()) ⟨0,m.length,Yr _,Ye _,λk h=>by omega,λk h1 h2=>by omega,rfl⟩ (by simp only[iN,Le];omega)
 obtain⟨r1,r2⟩:=r;simp only at h1 hR;subst h1 hR;have hd:decide ((i:Int)<(m.length:Int))=decide (i<m.length):=by simp
 have hv:(Zp7 m t).val=some ((i:Int),decide (i<m.length)&&((el m i).1==t)):=by
  have g:=ZcX m i;by_cases hlt:i<m.length
  ·have r1:=ZaP m i hlt;have hd:decide ((i:Int)<(m.length:Int))=true:=by simpa using hlt
   simp only[Zp7,RT.val,hr,okB,getO,Ya,hd,r1,Yh,Yj,g,ZI3,ZUA,hlt,decide_true,YQ]
  ·have hd:decide ((i:Int)<(m.length:Int))=false:=by simpa using hlt
   simp only[Zp7,RT.val,hr,okB,getO,Ya,Yc,hd,Ym,Yw,hlt,Ya3,YZ]
 exact⟨by simp only[ZCF,hv];rfl,i,hi,by simp only[Zef,hv,getO]⟩
theorem ZKp:∀(i:Nat) (m:List Cell) (c:Cell),i<=m.length->(∀k,k<i->(el m k).1<c.1)->putX m c=m.take i++putX (m.drop i) c
 |0,m,c,_,_=>by simp
 |i+1,[],c,h,_=>by simp at h
 |i+1,x::m,c,h,hk=>by have h0:x.1<c.1:=hk 0 (by omega);rw[putX,YX h0,ZKp i m c (by simpa using h) (λk h'=>hk (k+1) (by omega))];simp
theorem ZKo (m:List Cell) (t v:Int) (i:Nat) (h:At m t i):
  (v=0->(decide (i<m.length)&&((el m i).1==t))=false->putX m (t,v)=m)/\
  (v=0->(decide (i<m.length)&&((el m i).1==t))=true->putX m (t,v)=delX m i)/\
  (v≠0->(decide (i<m.length)&&((el m i).1==t))=true->putX m (t,v)=setI m (i:Int) ((el m i).1,v))/\
  (v≠0->(decide (i<m.length)&&((el m i).1==t))=false->putX m (t,v)=insX m i (t,v)):=by
 obtain⟨h1,h2,h3⟩:=h;have hp:=ZKp i m (t,v) h1 h2;by_cases hlt:i<m.length
 ·have hd:=ZuG m i hlt;have hge:=h3 i (Ye _) hlt;have hn:¬(el m i).1<t:=by omega
  rw[hd] at hp;simp only[putX,Y3 hn] at hp;simp only[hlt,decide_true,YQ];refine⟨λhz he=> ?_,λhz he=> ?_,λhz he=> ?_,λhz he=> ?_⟩
  ·have he:(el m i).1≠t:=by simpa using he
   rw[hp,YX hz,Y3 he,<-hd,Yam]
  ·have he:(el m i).1=t:=by simpa using he
   rw[hp,YX hz,YX he,delX]
  ·have he:(el m i).1=t:=by simpa using he
   rw[hp,Y3 hz,YX he,setI,Int.toNat_natCast,he,List.set_eq_take_append_cons_drop,YX hlt]
  ·have he:(el m i).1≠t:=by simpa using he
   rw[hp,Y3 hz,Y3 he,insX,<-hd];simp
 ·have he:i=m.length:=by omega
  subst he;simp only[List.drop_length,putX] at hp;simp only[Nat.lt_irrefl,Ya3,YZ];refine⟨λhz _=> ?_,λhz he=>by simp at he,λhz he=>by simp at he,λhz _=> ?_⟩
  ·rw[hp,YX hz];simp
  ·rw[hp,Y3 hz,insX];simp
theorem ZRy (m:List Cell) (t v:Int) (hm:m.length+1<=most):ZRB m t v=true/\mPut m t v=putX (normX m) (t,v):=by
 have hms:=mst;have hv1:=Zw7 m (by omega);have hb1:Nat.ble m.length most=true:=by rw[Yy];omega
 have hv:(ZHx m t v).val=some (putX (normX m) (t,v)):=by
  cases hval:vldB m with
  |false=>
   have hl:(m++[(t,v)]).length<=most:=by simp;omega
   have hb2:Nat.ble (m++[(t,v)]).length most=true:=by rw[Yy];exact hl
   obtain⟨n1,n2⟩:=Zw9 (m++[(t,v)]) hl;simp only[ZHx,RT.val,hv1.1,hv1.2,hval,hb1,hb2,n1,n2,Zkr,Ym,Yh,Yk,YaS,Ya]
  |true=>
   have hV:=Ziz.1 hval;obtain⟨f1,i,hi,f2⟩:=ZIy m t hV (by omega);obtain⟨q1,q2,q3,q4⟩:=ZKo m t v i hi;have hile:decide ((i:Int)<=iN m.length)=true:=by simpa [iN,Le] using hi.1
   have hi0:decide ((0:Int)<=(i:Int))=true:=by simp
   have hb3:Nat.ble (m.length+1) most=true:=by rw[Yy];omega
   have w:=Ziw i (by have:=hi.1;omega);have g:=ZcX m i;rw[Zhs hV];simp only[ZHx,RT.val,hv1.1,hv1.2,hval,hb1,f1,f2,hile,hi0,hb3,w,g,Yh,Ym,Yw,Yk,Yx,Yj,Y1,YQ,Ya,Yc,Int.toNat_natCast];cases hfd:(decide (i<m.length)&&((el m i).1==t)) with
   |true=>
    have hlt:i<m.length:=by rw[Yb,Yf] at hfd;exact hfd.1
    have r1:=ZaP m i hlt;have hd:decide ((i:Int)<iN m.length)=true:=by simpa [iN,Le] using hlt
    have hw:decide (((i+1:Nat):Int)=(i:Int)+1)=true:=by simp
    by_cases hz:v=0
    ·have hz1:(v==0)=true:=by simpa using hz
     simp only[hz1,r1,hd,hw,q2 hz hfd,Yh,Ym,Yau,YY,Yw,Yk,Yx,Yj,Y1,Ya,Yc]
    ·have hz1:(v==0)=false:=by simpa using hz
     simp only[hz1,r1,hd,hw,q3 hz hfd,Yh,Ym,YZ,Yau,YY,Yw,Yk,Yx,Yj,Y1,Ya,Yc]
   |false=>
    by_cases hz:v=0
    ·have hz1:(v==0)=true:=by simpa using hz
     simp only[hz1,q1 hz hfd,Yh,Ym,Yau,YY,Yw,Yk,Yx,Yj,Y1,Ya,Yc]
    ·have hz1:(v==0)=false:=by simpa using hz
     simp only[hz1,q4 hz hfd,Yh,Ym,YZ,Yau,YY,Yw,Yk,Yx,Yj,Y1,Ya,Yc]
 exact⟨by simp only[ZRB,hv];rfl,by simp only[mPut,hv,getO]⟩
abbrev Znm:List Sh:=[So rcRG]
def ZGd:LS:={n:=30,Sl:=[(2,.code (So Kc)),(8,.code (So rcRG)),(9,.code (So Kc)),(10,.code (So Kc))],Bx:=[],Sg:=[]}
def ZqL (a:QT16):RT (Option (Go1 (QT16))):=
 let x1:QT5:=R.get (Pq Kb (Pq Kb (Pq R.bool Kc))) a.2.1 a.2.2.2.1
 let x2:=x1.2
 let x3:=x2.2.2
 let x4:List (QT5)×Int×Int×PUnit:=(a.2.1,a.2.2.1,a.2.2.2.1,PUnit.unit)
 .br (decide (a.2.2.2.1<a.2.2.1)) (.br (Zh a.2.2.2.1 (Le a.2.1)) (.br (decide (x2.1<x1.1)||(decide (x3<0)||decide (x3>100))) (Ls (Go1.ret (1,x4))) (Ls (Go1.cont (a.1,a.2.1,a.2.2.1,i64.wrap (a.2.2.2.1+1),PUnit.unit)))) Ln) (Ls (Go1.brk (a.1,x4)))
def ZqM:Ora:=Zbq true ZGd ZqL (λa=>1000000000000)
theorem Zwn:Za1 (envX prog [] [] 31 8) (.block 0 (.loop (Z5 Tryz.f139.body 0))) ZqM:=
 loopP trivial
def ZlK (l:List (QT5)):RT (Option (Int)):=
 let x1:=runF true ZqL (λa=>1000000000000) (0,l,iN (Le l),0,())
 let x2:=getO (false,0,l,iN (Le l),0,()) x1
 .br (decide (iN (Le l)>16)) (Ls (3)) (.br (okB x1) (.br x2.1 (Ls x2.2.1) (Ls (0))) Ln)
def ZK5 (l:List (QT5)):Int:=getO ZTl.Df (ZlK l).val
def ZDN (l:List (QT5)):Bool:=okB (ZlK l).val
def ZQM:En:=Zf Znm ZTl (λa=>some (ZDN a)) (λa=>ZK5 a)
theorem ZGc:Za prog 139 ZQM:=
 pureP 31 [] [(0,ZqM)] _ _ trivial Tryz.func139 Tryz.call139 ⟨Zwn,Tv⟩
abbrev ZsZ:List Sh:=[So rcRG,So rcCE,So Kb]
def Znz (l:List (QT5)) (m:List (Int×Int)) (t:Int):RT (Option (Int)):=
 .br (ZwF l t) (.br (decide (ZpS l t<0)) (Ls (255)) (.br (Nat.ble (Le m) most) (Ls (Cells.getX m t)) Ln)) Ln
def ZLp (l:List (QT5)) (m:List (Int×Int)) (t:Int):Int:=getO ZMD.Df (Znz l m t).val
def ZzS (l:List (QT5)) (m:List (Int×Int)) (t:Int):Bool:=okB (Znz l m t).val
def ZVF:En:=Zf ZsZ ZMD (λa=>some (ZzS a.1 a.2.1 a.2.2)) (λa=>ZLp a.1 a.2.1 a.2.2)
theorem ZLo:Za prog 156 ZVF:=
 pureP 127 [(163,ZEj),(209,ZYT)] [] _ _ ⟨Ztp,ZWB,Tv⟩ Tryz.func156 Tryz.call156 trivial
abbrev Znf:List Sh:=[So rcRG,So rcCE,So Kb,So Ka]
def Zi5 (l:List (QT5)) (m:List (Int×Int)) (t:Int) (v:Int):RT (Option (List (Int×Int))):=
 let x1:=decide (ZpS l t>=0)&&(R.get (Pq Kb (Pq Kb (Pq R.bool Kc))) l (ZpS l t)).2.2.1
 .br (ZwF l t) (.br (!decide (ZpS l t>=0)||Zh (ZpS l t) (Le l)) (.br (!x1||ZRB m t v) (.br (x1) (Ls (mPut m t v)) (.br (Zxk m) (Ls (ZNo m)) Ln)) Ln) Ln) Ln
def ZzC (l:List (QT5)) (m:List (Int×Int)) (t:Int) (v:Int):List (Int×Int):=getO ZBy.Df (Zi5 l m t v).val
def ZsJ (l:List (QT5)) (m:List (Int×Int)) (t:Int) (v:Int):Bool:=okB (Zi5 l m t v).val
def ZQJ:En:=Zf Znf ZBy (λa=>some (ZsJ a.1 a.2.1 a.2.2.1 a.2.2.2)) (λa=>ZzC a.1 a.2.1 a.2.2.1 a.2.2.2)
theorem ZF9:Za prog 77 ZQJ:=
 pureP 1023 [(163,ZEj),(164,ZYQ),(165,ZNn)] [] _ _ ⟨Ztp,ZWz,ZEL,Tv⟩ Tryz.func77 Tryz.call77 trivial
def Zi7 (l:List (QT5)) (t:Int):RT (Option (Int)):=
 let x1:Int:=(R.get (Pq Kb (Pq Kb (Pq R.bool Kc))) l (ZpS l t)).2.2.2
 let x2:Int:=if 100<x1 then 100 else x1
 .br (ZwF l t) (.br (decide (ZpS l t<0)) (Ls (0)) (.br (Zh (ZpS l t) (Le l)) (Ls (if x2>0 then x2 else 0)) Ln)) Ln
def ZzE (l:List (QT5)) (t:Int):Int:=getO ZTl.Df (Zi7 l t).val
def ZsK (l:List (QT5)) (t:Int):Bool:=okB (Zi7 l t).val
def ZQK:En:=Zf ZMa ZTl (λa=>some (ZsK a.1 a.2)) (λa=>ZzE a.1 a.2)
theorem ZGa:Za prog 208 ZQK:=
 pureP 63 [(163,ZEj)] [] _ _ ⟨Ztp,Tv⟩ Tryz.func208 Tryz.call208 trivial
def ZJ7 (n:Int):RT (Int):=
 .Lf (if (if 100<n then 100 else n)>0 then if 100<n then 100 else n else 0)
def Zqw (n:Int):Int:=(ZJ7 n).val
def Zfk (a:QT16):RT (Option (Go1 (QT16))):=
 let x1:QT5:=R.get (Pq Kb (Pq Kb (Pq R.bool Kc))) a.2.1 a.2.2.2.1
 let x2:=x1.2
 let x3:=x2.2.2
 let x4:List (QT5)×Int×Int×PUnit:=(a.2.1,a.2.2.1,a.2.2.2.1,PUnit.unit)
 .br (decide (a.2.2.2.1<a.2.2.1)) (.br (Zh a.2.2.2.1 (Le a.2.1)) (.br (decide (x2.1<x1.1)||(decide (x3<0)||decide (x3>100))) (Ls (Go1.ret (1,x4))) (Ls (Go1.cont (a.1,a.2.1,a.2.2.1,i64.wrap (a.2.2.2.1+1),PUnit.unit)))) Ln) (Ls (Go1.brk (a.1,x4)))
def ZfM (l:List (QT5)):RT (Option (Int)):=
 let x1:=runF true Zfk (λa=>1000000000000) (0,l,iN (Le l),0,())
 let x2:=getO (false,0,l,iN (Le l),0,()) x1
 .br (decide (iN (Le l)>16)) (Ls (3)) (.br (okB x1) (.br x2.1 (Ls x2.2.1) (Ls (0))) Ln)
def ZyW (l:List (QT5)):Int:=getO ZTl.Df (ZfM l).val
def Zr7 (l:List (QT5)):Bool:=okB (ZfM l).val
def sm {α:Type} (l:List α):Bool:=Nat.ble (l.length+1) most
def smC (l:List (Int×Int)):Bool:=sm l
def smB (l:List Int):Bool:=sm l
def smG (l:List ZS):Bool:=sm l
variable {α:Type}
theorem Zvx {l:List α}:sm l=true↔l.length+1<=most:=by simp[sm]
theorem Zvw {l:List α} (h:sm l=true):l.length<=most:=by have:=Zvx.1 h;omega
theorem ZR4 (l:List ZS) (t:Int): -1<=Zcv l t/\(Zcv l t<0\/∃i:Nat,i<l.length/\Zcv l t=i):=by
 unfold Zcv;split
 ·rename_i h;exact⟨by omega,.inr ⟨_,h,rfl⟩⟩
 ·exact⟨by omega,.inl (by omega)⟩
theorem ZxJ (l:List ZS) (t:Int) (h:0<=Zcv l t):Zh (Zcv l t) l.length=true:=by
 rcases (ZR4 l t).2 with h1|⟨i,hi,e⟩
 ·omega
 ·rw[e];exact ZaP l i hi
def ZcB (l:List ZS) (m:List Cell) (t v:Int):List Cell:=bif decide (Zcv l t>=0)&&(R.get GR l (Zcv l t)).2.2.1 then putX (normX m) (t,v) else normX m
def limX (n:Int):Int:=if (if 100<n then 100 else n)>0 then if 100<n then 100 else n else 0
def Ziv (l:List ZS) (t:Int):Int:=bif decide (Zcv l t>=0) then limX (R.get GR l (Zcv l t)).2.2.2 else 0
theorem ge_lt (x:Int):decide (x>=0)= !decide (x<0):=by by_cases h:x<0<;>simp[h]<;>omega
theorem ZKx (l:List ZS) (m:List Cell) (t:Int) (hl:l.length<=most) (hm:m.length<=most):ZzS l m t=true/\ZLp l m t=ZkZ l m t:=by
 have h1:=Znc l t hl;have hb:Nat.ble m.length most=true:=by rw[Yy];exact hm
 have hv:(Znz l m t).val=some (ZkZ l m t):=by simp only[Znz,RT.val,h1.1,h1.2,hb,Ya,ZkZ];cases decide (Zcv l t<0)<;>rfl
 exact⟨by simp only[ZzS,hv];rfl,by simp only[ZLp,hv,getO]⟩
theorem ZFT (l:List ZS) (m:List Cell) (t v:Int) (hl:l.length<=most) (hm:m.length+1<=most):ZsJ l m t v=true/\ZzC l m t v=ZcB l m t v:=by
 have h1:=Znc l t hl;have h2:=ZRy m t v hm;have h3:=Zw9 m (by omega);have hv:(Zi5 l m t v).val=some (ZcB l m t v):=by
  have hr:(!decide (Zcv l t>=0)||Zh (Zcv l t) l.length)=true:=by
   by_cases h:0<=Zcv l t
   ·rw[ZxJ l t h];simp
   ·have:decide (Zcv l t>=0)=false:=by simp;omega
    rw[this];rfl
  simp only[Zi5,RT.val,h1.1,h1.2,h2.1,h2.2,h3.1,h3.2,hr,Yk,Ya,ZcB];cases decide (Zcv l t>=0)&&(R.get GR l (Zcv l t)).2.2.1<;>rfl
 exact⟨by simp only[ZsJ,hv];rfl,by simp only[ZzC,hv,getO]⟩
theorem ZFU (l:List ZS) (t:Int) (hl:l.length<=most):ZsK l t=true/\ZzE l t=Ziv l t:=by
 have h1:=Znc l t hl;have hv:(Zi7 l t).val=some (Ziv l t):=by
  simp only[Zi7,RT.val,h1.1,h1.2,Ya,Ziv,limX,ge_lt];by_cases h:Zcv l t<0
  ·have hd:decide (Zcv l t<0)=true:=by simpa using h
   simp only[hd,Yh,Ya,Yc]
  ·have hd:decide (Zcv l t<0)=false:=by simpa using h
   have hr:=ZxJ l t (by omega);simp only[hd,hr,Ym,Ya,Yc]
 exact⟨by simp only[ZsK,hv];rfl,by simp only[ZzE,hv,getO]⟩
def badR (r:ZS):Bool:=decide (r.2.1<r.1)||(decide (r.2.2.2<0)||decide (r.2.2.2>100))
def ZbM (l:List ZS):Int:=bif decide (iN l.length>16) then 3 else bif l.any badR then 1 else 0
theorem ZyN (l:List ZS) (hl:l.length<=most):Zr7 l=true/\ZyW l=ZbM l:=by
 have hms:=mst;obtain⟨r,hr,hR⟩:=ZK (fl:=true) (t:=Zfk) (fuel:=λ_=>1000000000000)
  (λx=>∃i:Nat,i<=l.length/\(∀k,k<i->badR (rg l k)=false)/\x=(0,l,(l.length:Int),(i:Int),()))
  (λx=>Int.toNat (x.2.2.1-x.2.2.2.1)) (λr=>(r.1=false/\l.any badR=false)\/(r.1=true/\l.any badR=true/\r.2.1=1))
  (by
   rintro x ⟨i,hi,hk,rfl⟩;by_cases hlt:i<l.length
   ·have d:decide ((i:Int)<(l.length:Int))=true:=by simpa using hlt
    have r1:=ZaP l i hlt;have g1:=ZTN l i;cases hh:badR (rg l i) with
    |false=>
     left;refine⟨(0,l,(l.length:Int),((i+1:Nat):Int),()),?_,⟨i+1,hlt,λk hk'=> ?_,rfl⟩,by simp only;omega⟩
     ·simp only[badR] at hh;simp only[Zfk,RT.val,d,r1,g1,hh,Ya,Yc,Ziw i (by omega)]
     ·by_cases e:k=i
      ·subst e;exact hh
      ·exact hk k (by omega)
    |true=>
     right;right;refine⟨(1,l,(l.length:Int),(i:Int),()),rfl,?_,.inr ⟨rfl,List.any_eq_true.2 ⟨rg l i,?_,hh⟩,rfl⟩⟩
     ·simp only[badR] at hh;simp only[Zfk,RT.val,d,r1,g1,hh,Ya]
     ·rw[<-ZvK l i hlt];exact Ya0 hlt
   ·right;left;have d:decide ((i:Int)<(l.length:Int))=false:=by simpa using hlt
    refine⟨_,by simp only[Zfk,RT.val,d,Yc];rfl,.inl ⟨rfl,?_⟩⟩;rw[List.any_eq_false];intro q hq;obtain⟨k,hk',rfl⟩:=YaP.1 hq
    rw[ZvK l k hk',hk k (by omega)];simp)
  (0,l,iN l.length,0,()) ⟨0,Yr _,λk h=>by omega,rfl⟩ (by simp only[iN,Le];omega)
 have hv:(ZfM l).val=some (ZbM l):=by
  cases hd:decide (iN l.length>16) with
  |true=>simp only[ZfM,RT.val,hd,Ya,ZbM]
  |false=>
   rcases hR with ⟨h1,h2⟩|⟨h1,h2,h3⟩
   ·simp only[ZfM,RT.val,hd,hr,okB,getO,Ya,Yc,h1,h2,ZbM]
   ·simp only[ZfM,RT.val,hd,hr,okB,getO,Ya,Yc,h1,h2,h3,ZbM]
 exact⟨by simp only[Zr7,hv];rfl,by simp only[ZyW,hv,getO]⟩
theorem Zzf (l:List ZS) (hl:l.length<=most):ZDN l=true/\ZK5 l=ZbM l:=by have h:=ZyN l hl;have e:ZlK l=ZfM l:=rfl;simp only[Zr7,ZyW,<-e] at h;exact h
theorem Zvo {P:Program} {f:FuncId} {ts:List Sh} {rs:Rs} {C:HL ts->Bool} {F G:HL ts->rs.den} (h:Za P f (Zf ts rs (λa=>some (C a)) F)) {pre:HL ts->Bool} (hp:∀a,pre a=true->C a=true/\F a=G a):
  Za P f (Zf ts rs (λa=>some (pre a)) G):=by
 have key:∀a,some (pre a)≠some false->pre a=true:=λa h=>by cases hq:pre a with
  |true=>rfl
  |false=>rw[hq] at h;exact absurd rfl h
 exact h.pure_congr (λa _ hq=>by rw[(hp a (key a hq)).1];simp) (λa _ hq=>(hp a (key a hq)).2)
def ZEI:En:=Zf ZNm ZnA (λa=>some (smC a)) (λa=>vldB a)
theorem ZHw:Za prog 140 ZEI:=Zvo Zxh λa h=>Zw7 a (Zvw h)
def Zr8:En:=Zf ZNm ZnA (λa=>some (smC a)) (λa=>vldB a)
theorem Zqs:Za prog 133 Zr8:=Zvo ZmQ λa h=>ZJA a (Zvw h)
def ZKb:En:=Zf Zza ZMD (λa=>some (smC a.1)) (λa=>getX a.1 a.2)
theorem ZKa:Za prog 20 ZKb:=Zvo ZQk λa h=>ZUV a.1 a.2 (Zvw h)
def Zy7:En:=Zf ZNm ZBy (λa=>some (smC a)) (λa=>normX a)
theorem Zv0:Za prog 49 Zy7:=Zvo ZQh λa h=>ZJH a (Zvx.1 h)
def Zs0:En:=Zf ZsZ ZMD (λa=>some (smG a.1&&smC a.2.1)) (λa=>ZkZ a.1 a.2.1 a.2.2)
theorem ZGh:Za prog 156 Zs0:=Zvo ZLo λa h=>by rw[Yb] at h;exact ZKx a.1 a.2.1 a.2.2 (Zvw h.1) (Zvw h.2)
def ZgK:En:=Zf Znf ZBy (λa=>some (smG a.1&&smC a.2.1)) (λa=>ZcB a.1 a.2.1 a.2.2.1 a.2.2.2)
theorem Zng:Za prog 77 ZgK:=Zvo ZF9 λa h=>by rw[Yb] at h;exact ZFT a.1 a.2.1 a.2.2.1 a.2.2.2 (Zvw h.1) (Zvx.1 h.2)
def Zni:En:=Zf ZMa ZTl (λa=>some (smG a.1)) (λa=>Ziv a.1 a.2)
theorem ZzD:Za prog 208 Zni:=Zvo ZGa λa h=>ZFU a.1 a.2 (Zvw h)
def Zwo:En:=Zf Znm ZTl (λa=>some (smG a)) (λa=>ZbM a)
theorem ZzI:Za prog 139 Zwo:=Zvo ZGc λa h=>Zzf a (Zvw h)
abbrev ZCp:List Sh:=[So Ka,So Ka,So Ka]
def ZIm (a:Int) (b:Int) (c:Int):RT (Int):=
 .Lf (xorI u8 (xorI u8 (xorI u8 a b) c) 165)
def ZhM (a:Int) (b:Int) (c:Int):Int:=(ZIm a b c).val
def Zyn:En:=Zf ZCp ZMD (λ_=>none) (λa=>ZhM a.1 a.2.1 a.2.2)
theorem Zu4:Za Tryz.prog 137 Zyn:=
 pureQ 127 [] [] _ _ trivial Tryz.func137 Tryz.call137 trivial
def ZPq (o:Bool) (n:Int):RT (Option (Int)):=
 .br (!o||decide (0<=n)) (.br (o) (Ls (shlI u8 1 n)) (Ls (0))) Ln
def wBit (o:Bool) (n:Int):Int:=getO ZMD.Df (ZPq o n).val
def ZfE (o:Bool) (n:Int):Bool:=okB (ZPq o n).val
def ZUa:En:=Zf ZTv ZMD (λa=>some (ZfE a.1 a.2)) (λa=>wBit a.1 a.2)
theorem ZIn:Za Tryz.prog 136 ZUa:=
 pureP 31 [] [] _ _ trivial Tryz.func136 Tryz.call136 trivial
abbrev ZIk:Rs:=Rs.one (Sh.agg ZfL)
def ZSH:RT INPT:=
 .Lf ((true,false,false,false,false,false,false,false,0,0))
def ZN:INPT:=(ZSH).val
def ZSI:En:=Zf Zv5 ZIk (λ_=>none) (λa=>ZN)
theorem ZPo:Za Tryz.prog 205 ZSI:=
 pureQ 1 [] [] _ _ trivial Tryz.func205 Tryz.call205 trivial
abbrev ZIl:Rs:=Rs.one (So (R.sl Ka))
def Zd4 (a:List INPT×Int×Int×List Int×PUnit):RT (Option (Go1 (List INPT×Int×Int×List Int×PUnit))):=
 let x1:INPT:=R.get ZfL a.1 a.2.2.1
 let x2:= !x1.1
 let x3:=ZfE x2 0
 let x4:= !x3
 let x5:=x1.2
 let x6:=x5.1
 let x7:=ZfE x6 1
 let x8:= !x7
 let x9:=x5.2
 let x10:=x9.1
 let x11:=ZfE x10 2
 let x12:= !x11
 let x13:=x9.2
 let x14:=x13.1
 let x15:=ZfE x14 3
 let p1:=( !x15)::x12::x8::x4::[]
 let x17:=x13.2
 let x18:=x17.1
 let x19:=ZfE x18 4
 let p3:=( !x19)::p1
 let x21:=x17.2
 let x22:=x21.1
 let x23:=ZfE x22 5
 let p6:=( !x23)::p3
 let x25:=x21.2
 let x26:=x25.1
 let x27:=ZfE x26 6
 let p8:=(!x27)::p6
 let x28:=x25.2
 let x29:=x28.1
 let x30:=orR p8 (ZfE x29 7)
 let x31:= !x30
 let x32:=orR p6 x27
 let p2:=( !x32)::x31::(decide (a.2.2.1>=65536))::(!Zh a.2.2.1 (Le a.1))::[]
 let x34:=orR p3 x23
 let p4:=( !x34)::p2
 let x36:=orR p1 x19
 let p5:=( !x36)::p4
 let x38:=x4||(x8||(x12||x15))
 let p7:=( !x38)::p5
 let x40:=x4||(x8||x11)
 let p9:=( !x40)::p7
 let x42:=x4||x7
 let p10:=( !x42)::p9
 let p11:=x4::p10
 let x44:=orI u8 (orI u8 (orI u8 (orI u8 (orI u8 (orI u8 (orI u8 (wBit x2 0) (wBit x6 1)) (wBit x10 2)) (wBit x14 3)) (wBit x18 4)) (wBit x22 5)) (wBit x26 6)) (wBit x29 7)
 let x45:=x28.2
 let x46:=x45.1
 let x47:=x45.2
 let x48:List Int:=a.2.2.2.1++[x44,x46,x47,ZhM x44 x46 x47]
 .br (decide (a.2.2.1<a.2.1)) (.br (orR p11 (Nat.ble (Le x48) most)) (.br (orR p10 x3) (.br (orR p9 x42) (.br (orR p7 x40) (.br (orR p5 x38) (.br (orR p4 x36) (.br (orR p2 x34) (.br (!Zh a.2.2.1 (Le a.1)||(decide (a.2.2.1>=65536)||(x31||x32))) (.br (!Zh a.2.2.1 (Le a.1)||(decide (a.2.2.1>=65536)||x30)) (.br (Zh a.2.2.1 (Le a.1)) (.br (decide (a.2.2.1>=65536)) (Ls (Go1.brk (a.1,a.2.1,a.2.2.1,a.2.2.2.1,PUnit.unit))) (Ls (Go1.cont (a.1,a.2.1,i64.wrap (a.2.2.1+1),x48,PUnit.unit)))) Ln) Ln) Ln) Ln) Ln) Ln) Ln) Ln) Ln) Ln) (Ls (Go1.brk (a.1,a.2.1,a.2.2.1,a.2.2.2.1,PUnit.unit)))
def Zg8 (l:List INPT):RT (Option (List Int)):=
 let x1:=runF false Zd4 (λa=>1000000000000) (l,iN (Le l),0,[],())
 .br (okB x1) (Ls (getO (false,l,iN (Le l),0,[],()) x1).2.2.2.2.1) Ln
def Zmi (l:List INPT):List Int:=getO ZIl.Df (Zg8 l).val
def ZCo (l:List INPT):Bool:=okB (Zg8 l).val
def ZfD (l:BRDT):RT (Option (Int)):=
 .br (l.1 !=1&&l.1 !=2) (Ls (1)) (.br (smG l.2.1) (.br (ZbM l.2.1 !=0) (Ls (ZbM l.2.1)) (.br (decide (l.2.2.1<0)||(decide (l.2.2.1>100)||smC l.2.2.2.2.2.2)) (.br (decide (l.2.2.1<0)||(decide (l.2.2.1>100)|| !vldB l.2.2.2.2.2.2)) (Ls (1)) (Ls (0))) Ln)) Ln)
def Zci (l:BRDT):Int:=getO ZTl.Df (ZfD l).val
def Zmf (l:BRDT):Bool:=okB (ZfD l).val
abbrev ZXr:Rs:=Rs.tup [Sh.agg (Pq (Pq Zbc (Pq Kc (Pq (R.sl Ka) (Pq (RY) (Pq Kc R.bool))))) (Pq rcCE (Pq Zcq (Pq (Pq Kb (Pq Ka Kc)) (Pq Kc (R.sl (Pq Ka Ka))))))),So Kc]
def ZFv (l:BRDT):RT (Option (SYST×Int)):=
 let x1:TR:=(0,0,0,0,0,0,0,(false,false,false,false,false,false,false),0,0)
 .br (Zmf l) (.br (Zci l !=0) (Ls (((((0,x1,false,false,false,0,false,false,false,false,false,false,false),0,[],(0,0,0,0),0,false),[],(0,false,false,false,false,0,0,false,false,false,false,false,0,0,0,0,0,0,0,false),(0,0,0),0,[]),Zci l))) (.br (smC l.2.2.2.2.2.2) (Ls ((((((newX l.1).1.1,x1,false,false,false,(newX l.1).1.2.2.2.2.2.1,false,false,false,false,false,false,false),0,[],(1,0,0,4),1,false),Cells.normX l.2.2.2.2.2.2,(0,false,false,false,false,0,0,false,false,false,false,false,0,0,0,0,7,0,0,false),(0,0,0),0,[]),0))) Ln)) Ln
def wNew (l:BRDT):SYST×Int:=getO ZXr.Df (ZFv l).val
def ZXs (l:BRDT):Bool:=okB (ZFv l).val
def ZIg (l:BRDT) (x:QT15):RT (Option (Int)):=
 .br (!(decide (x.1>=1)&&decide (x.1<=5))||smG l.2.1) (.br (decide (x.1>=1)&&decide (x.1<=5)) (Ls (Ziv l.2.1 x.2.1)) (.br (x.1==6||x.1==7) (Ls (Zqw l.2.2.1)) (Ls (0)))) Ln
def ZT9 (l:BRDT) (x:QT15):Int:=getO ZTl.Df (ZIg l x).val
def ZCn (s:SYST):RT (Int):=
 .br (Zq s.1 !=7) (.Lf (0)) (.Lf (i64.wrap (s.2.2.2.2.1+1)))
def ZcD (s:SYST):Int:=(ZCn s).val
def ZIh (l:BRDT) (p:Int):RT (Bool×Bool):=
 .Lf ((bif !l.2.2.2.2.2.1 then bif p==l.2.2.2.1 then p==u8.wrap (l.2.2.2.1+1) else p==u8.wrap (l.2.2.2.1+1) else p==u8.wrap (l.2.2.2.1+1),!l.2.2.2.2.2.1&&(p==l.2.2.2.1||p==u8.wrap (l.2.2.2.1+1))))
def Ze9 (l:BRDT) (p:Int):Bool×Bool:=(ZIh l p).val
def ZIi (l:BRDT) (p:Int):RT (Int×Bool):=
 .Lf ((i64.wrap (u8.wrap (p-l.2.2.2.2.1)),decide (u8.wrap (p-l.2.2.2.2.1)<4)))
def Zix (l:BRDT) (p:Int):Int×Bool:=(ZIi l p).val
def Ziy (c:CORT) (s:Int) (d:Int):RT TY:=
 let x1:Int:=bif Zba c.2.2.2.1.1 then d else c.2.2.2.1.2.2.1
 .Lf ((c.2.2.2.1.1,c.2.2.2.1.2.1,bif s==3 then x1 else c.2.2.2.1.2.2.1,bif s==3 then bif c.2.2.2.1.1==1||c.2.2.2.1.1==8 then ZeP c.1.1 x1 else c.2.2.2.1.2.2.2 else c.2.2.2.1.2.2.2))
def Zp (c:CORT) (s:Int) (d:Int):QT15:=(Ziy c s d).val
def ZSG (s:Int):RT (Int):=
 .br (Zz s) (.Lf (3)) (.br (s==5) (.Lf (2)) (.Lf (1)))
def Zmg (s:Int):Int:=(ZSG s).val
def ZXq (e:EVTT) (c:TC) (l:LINT):RT EVTT:=
 .Lf ((e.1,e.2.1,e.2.2.1,l,c.2.2.2.2.2.2.2.1,c.2.2.2.2.2.2.1,c.2.2.2.2.2.2.2.2.2.1,c.2.2.2.2.2.2.2.2.1,e.2.2.2.2.2.2.2.2))
def ZjT (e:EVTT) (c:TC) (l:LINT):EVTT:=(ZXq e c l).val
def ZQc:LS:={n:=53,Sl:=[(3,.fix (A.loc 0 0)),(5,.tip 0),(6,.code (So R.bool)),(9,.code (So rcCE)),(10,.code (So Kc)),(11,.code (So Kc))],Bx:=[[.many (Pq Kb Ka)]],Sg:=[⟨(Pq Kb Ka),97,false⟩]}
def ZC8 (a:QT7):RT (Option (Go1 (QT7))):=
 let x1:Int×Int:=R.get (Pq Kb Ka) a.2.1 a.2.2.2.1
 let x2:=x1.1
 let x3:= !a.1&&decide (x2>=a.2.2.2.2.1.1)
 let x4:List (Int×Int):=a.2.2.2.2.2.1++[a.2.2.2.2.1]
 let x5:= !x3||(!a.2.2.2.2.1.2 !=0||Nat.ble (Le x4) most)
 let x6:=x2 !=a.2.2.2.2.1.1
 let x7:List (Int×Int):=bif x3 then bif a.2.2.2.2.1.2 !=0 then x4 else a.2.2.2.2.2.1 else a.2.2.2.2.2.1
 let x8:List (Int×Int):=x7++[x1]
 .br (decide (a.2.2.2.1<a.2.2.1)) (.br (!Zh a.2.2.2.1 (Le a.2.1)||(!x5||(!x6||Nat.ble (Le x8) most))) (.br (!Zh a.2.2.2.1 (Le a.2.1)||x5) (.br (Zh a.2.2.2.1 (Le a.2.1)) (Ls (Go1.cont (x3||a.1,a.2.1,a.2.2.1,i64.wrap (a.2.2.2.1+1),a.2.2.2.2.1,bif x6 then x8 else x7,PUnit.unit))) Ln) Ln) Ln) (Ls (Go1.brk (a.1,a.2.1,a.2.2.1,a.2.2.2.1,a.2.2.2.2.1,a.2.2.2.2.2.1,PUnit.unit)))
def ZC9:Ora:=Zbq false ZQc ZC8 (λa=>1000000000000)
theorem ZFN:Za1 (envX prog [] [] 511 8) (.block 0 (.loop (Z5 Tryz.f134.body 0))) ZC9:=
 loopP trivial
def ZC7 (m:List (Int×Int)) (c:Int×Int):RT (Option (List (Int×Int))):=
 let x1:QT7:=(false,m,iN (Le m),0,c,[],())
 let x2:=runF false ZC8 (λa=>1000000000000) x1
 let x3:QT7:=(getO (false,x1) x2).2
 let x4:=x3.2.2.2.2
 let x5:=x4.1
 let x6:= !x3.1&&x5.2 !=0
 let x7:=x4.2.1
 let x8:List (Int×Int):=x7++[x5]
 .br (okB x2) (.br (!x6||Nat.ble (Le x8) most) (Ls (bif x6 then x8 else x7)) Ln) Ln
def ZQd (m:List (Int×Int)) (c:Int×Int):List (Int×Int):=getO [] (ZC7 m c).val
def ZDa (m:List (Int×Int)) (c:Int×Int):Bool:=okB (ZC7 m c).val
def ZJW:En:=frzE (newE ZcQ ZrC ZJY (λa=>some (ZDa a.1 a.2)) (λa=>ZQd a.1 a.2))
theorem ZJX:Za prog 134 (newE ZcQ ZrC ZJY (λa=>some (ZDa a.1 a.2)) (λa=>ZQd a.1 a.2)):=
 ZlU (P:=prog) (n:=511) (k:=8) (l:=[]) (ol:=[(0,ZC9)]) trivial Tryz.func134 rfl (by kernel_rfl) Tryz.call134 ⟨ZFN,Tv⟩ (r:=ZcQ) (T:=ZrC) (ts:=ZJY) (t:=λa=>ZC7 a.1 a.2) (λa=>by kernel_rfl)
theorem ZC6:Za prog 134 ZJW:=ZxD ZJX
def ZJ3:LS:={n:=21,Sl:=[(3,.tip 0),(10,.code (So rcCE)),(11,.code (So Kc)),(12,.code (So Kc))],Bx:=[],Sg:=[⟨(Pq Kb Ka),97,false⟩]}
def ZgC (a:List (Int×Int)×Int×Int×List (Int×Int)×PUnit):RT (Option (Go1 (List (Int×Int)×Int×Int×List (Int×Int)×PUnit))):=
 .br (decide (a.2.2.1<a.2.1)) (.br (!Zh a.2.2.1 (Le a.1)||ZDa a.2.2.2.1 (R.get (Pq Kb Ka) a.1 a.2.2.1)) (.br (Zh a.2.2.1 (Le a.1)) (Ls (Go1.cont (a.1,a.2.1,i64.wrap (a.2.2.1+1),Stg.l (newG ZcQ ZrC (ZQd a.2.2.2.1 (R.get (Pq Kb Ka) a.1 a.2.2.1))),PUnit.unit))) Ln) Ln) (Ls (Go1.brk (a.1,a.2.1,a.2.2.1,a.2.2.2.1,PUnit.unit)))
def ZvY:Ora:=Zbq false ZJ3 ZgC (λa=>1000000000000)
theorem Zy5:Za1 (envX prog [(133,Zr8),(134,ZJW)] [] 63 8) (.block 0 (.loop (Z5 Tryz.f49.body 0))) ZvY:=
 loopP ⟨Zqs,ZC6,Tv⟩
def Zka (l:List (Int×Int)):RT (Option (List (Int×Int))):=
 let x1:=runF false ZgC (λa=>1000000000000) (l,iN (Le l),0,[],())
 .br (smC l) (.br (!vldB l||Nat.ble (Le ([]++l)) most) (.br (vldB l) (Ls ([]++l)) (.br (okB x1) (Ls (getO (false,l,iN (Le l),0,[],()) x1).2.2.2.2.1) Ln)) Ln) Ln
def ZvZ (l:List (Int×Int)):List (Int×Int):=getO [] (Zka l).val
def ZmW (l:List (Int×Int)):Bool:=okB (Zka l).val
def Zy6:En:=frzE (newE ZcQ ZrC ZNm (λa=>some (ZmW a)) (λa=>ZvZ a))
theorem ZFP:Za prog 49 (newE ZcQ ZrC ZNm (λa=>some (ZmW a)) (λa=>ZvZ a)):=
 ZlU (P:=prog) (n:=63) (k:=8) (l:=[(133,Zr8),(134,ZJW)]) (ol:=[(0,ZvY)]) ⟨Zqs,ZC6,Tv⟩ Tryz.func49 rfl (by kernel_rfl) Tryz.call49 ⟨Zy5,Tv⟩ (r:=ZcQ) (T:=ZrC) (ts:=ZNm) (t:=λa=>Zka a) (λa=>by kernel_rfl)
theorem ZvX:Za prog 49 Zy6:=ZxD ZFP
abbrev Zsg:List Sh:=[So Kb,So (R.sl Ka)]
def ZJ5:LS:={n:=27,Sl:=[(0,.code (So Kb)),(1,.code (So (R.sl Ka))),(5,.tip 0),(8,.code (So Kc)),(9,.code (So Kc))],Bx:=[],Sg:=[⟨(Pq Kb Ka),97,true⟩]}
def ZgD (a:QT28):RT (Option (Go1 (QT28))):=
 let x1:List (Int×Int):=a.2.2.2.2.1++[(u16.wrap (a.1+u16.wrap a.2.2.2.1),R.get Ka a.2.1 a.2.2.2.1)]
 let x2:= !Zh a.2.2.2.1 (Le a.2.1)||Nat.ble (Le x1) most
 .br (decide (a.2.2.2.1<a.2.2.1)) (.br (!x2||Zh a.2.2.2.1 (Le a.2.1)) (.br (x2) (Ls (Go1.cont (a.1,a.2.1,a.2.2.1,i64.wrap (a.2.2.2.1+1),x1,PUnit.unit))) Ln) Ln) (Ls (Go1.brk (a.1,a.2.1,a.2.2.1,a.2.2.2.1,a.2.2.2.2.1,PUnit.unit)))
def Zv1:Ora:=Zbq false ZJ5 ZgD (λa=>1000000000000)
theorem Zy8:Za1 (envX prog [(49,Zy6)] [] 127 8) (.block 0 (.loop (Z5 Tryz.f19.body 0))) Zv1:=
 loopP ⟨ZvX,Tv⟩
def ZmX (t:Int) (b:List Int):RT (Option (List (Int×Int))):=
 let x1:=runF false ZgD (λa=>1000000000000) (t,b,iN (Le b),0,[],())
 let x2:List (Int×Int):=(getO (false,t,b,iN (Le b),0,[],()) x1).2.2.2.2.2.1
 .br (okB x1) (.br (ZmW x2) (Ls (Stg.l (newG ZcQ ZrC (ZvZ x2)))) Ln) Ln
def ZJ6 (t:Int) (b:List Int):List (Int×Int):=getO [] (ZmX t b).val
def Zy9 (t:Int) (b:List Int):Bool:=okB (ZmX t b).val
theorem ZFR:Za prog 19 (newE ZcQ ZrC Zsg (λa=>some (Zy9 a.1 a.2)) (λa=>ZJ6 a.1 a.2)):=
 ZlU (P:=prog) (n:=127) (k:=8) (l:=[(49,Zy6)]) (ol:=[(0,Zv1)]) ⟨ZvX,Tv⟩ Tryz.func19 rfl (by kernel_rfl) Tryz.call19 ⟨Zy8,Tv⟩ (r:=ZcQ) (T:=ZrC) (ts:=Zsg) (t:=λa=>ZmX a.1 a.2) (λa=>by kernel_rfl)
theorem ZJE (m:List Cell) (c:Cell) (hv:Vld m) (hm:m.length+1<=most):ZDa m c=true/\ZQd m c=putX m c:=by have h:=ZvI m c hv hm;have e:ZC7 m c=Zqu m c:=rfl;simp only[ZvV,ZJ0,<-e] at h;exact h
theorem ZFI (l:List Cell) (hl:l.length+1<=most):ZmW l=true/\ZvZ l=normX l:=by
 have hms:=mst;have hs:smC l=true:=(Zvx.2 hl:sm l=true);have hv:(Zka l).val=some (normX l):=by
  cases hb:vldB l with
  |true=>
   have e:Nat.ble l.length most=true:=by rw[Yy];omega
   simp only[Zka,RT.val,hs,hb,List.nil_append,e,Ya,Yh,Yj,Zhs (Ziz.1 hb)]
  |false=>
   obtain⟨r,hr,h1,i,hR⟩:=ZK (fl:=false) (t:=ZgC) (fuel:=λa=>1000000000000)
    (λa=>∃i:Nat,i<=l.length/\a=(l,(l.length:Int),(i:Int),normX (l.take i),()))
    (λa=>Int.toNat (a.2.1-a.2.2.1)) (λr=>r.1=false/\∃i:Nat,r.2=(l,(l.length:Int),(i:Int),normX l,()))
    (by
     rintro a ⟨i,hi,rfl⟩;by_cases hlt:i<l.length
     ·left;have d:decide ((i:Int)<(l.length:Int))=true:=by simpa using hlt
      have r1:=ZaP l i hlt;have hlen:=Zeo (l.take i);rw[YH] at hlen;have hp:=ZJE (normX (l.take i)) (el l i) (Zjf _) (by omega);refine⟨_,?_,⟨i+1,hlt,rfl⟩,by simp only;omega⟩;rw[Zyv l i hlt,Zkr];simp only[ZgC,RT.val,d,r1,ZcX,hp.1,hp.2,Ya,Yk,Ziw i (by omega)]
     ·right;left;have d:decide ((i:Int)<(l.length:Int))=false:=by simpa using hlt
      have e:l.take i=l:=YW (by omega);rw[e]
      exact⟨_,by simp only[ZgC,RT.val,d,Yc],rfl,i,rfl⟩)
    (l,iN l.length,0,[],()) ⟨0,Yr _,rfl⟩ (by simp only[iN,Le];omega)
   obtain⟨r1,r2⟩:=r;simp only at h1 hR;subst h1 hR;simp only[Zka,RT.val,hs,hb,hr,okB,getO,Ya,Yc,Ym,Yw]
 exact⟨by simp only[ZmW,hv];rfl,by simp only[ZvZ,hv,getO]⟩
theorem ZFK (t:Int) (b:List Int) (hb:b.length+1<=most):Zy9 t b=true/\ZJ6 t b=ZoT t b:=by
 have hms:=mst;obtain⟨r,hr,h1,hR⟩:=ZK (fl:=false) (t:=ZgD) (fuel:=λa=>1000000000000)
  (λa=>∃i:Nat,i<=b.length/\a=(t,b,(b.length:Int),(i:Int),ZoV t b i,()))
  (λa=>Int.toNat (a.2.2.1-a.2.2.2.1)) (λr=>r.1=false/\r.2=(t,b,(b.length:Int),(b.length:Int),ZoV t b b.length,()))
  (by
   rintro a ⟨i,hi,rfl⟩;by_cases hlt:i<b.length
   ·left;have d:decide ((i:Int)<(b.length:Int))=true:=by simpa using hlt
    have r1:=ZaP b i hlt;have hl:∀x:Cell,Nat.ble (ZoV t b i++[x]).length most=true:=λx=>by rw[Yy,Yd,ZoU];simp only[List.length_singleton];omega
    refine⟨_,?_,⟨i+1,hlt,rfl⟩,by simp only;omega⟩;rw[ZHA];have g:=get_d b i;simp only[ZgD,RT.val,d,r1,g,hl,Ya,Yh,Yj,Ziw i (by omega)]
   ·right;left;have d:decide ((i:Int)<(b.length:Int))=false:=by simpa using hlt
    have e:i=b.length:=by omega
    subst e
    exact⟨_,by simp only[ZgD,RT.val,d,Yc],rfl,rfl⟩)
  (t,b,iN b.length,0,[],()) ⟨0,Yr _,rfl⟩ (by simp only[iN,Le];omega)
 obtain⟨r1,r2⟩:=r;simp only at h1 hR;subst h1 hR;have hn:=ZFI (ZoV t b b.length) (by rw[ZoU];exact hb);have hv:(ZmX t b).val=some (ZoT t b):=by simp only[ZmX,RT.val,hr,okB,getO,Ya,hn.1,hn.2,ZoT]
 exact⟨by simp only[Zy9,hv];rfl,by simp only[ZJ6,hv,getO]⟩
def ZlG:En:=frzE (newE ZcQ ZrC Zsg (λa=>some (smB a.2)) (λa=>ZoT a.1 a.2))
theorem Zkb:Za Tryz.prog 19 ZlG:=ZxD (ZHj ZFR λa _ h=>by
 have hb:smB a.2=true:=by cases hq:smB a.2 with
  |true=>rfl
  |false=>rw[hq] at h;exact absurd rfl h
 obtain⟨h1,h2⟩:=ZFK a.1 a.2 (Zvx.1 hb)
 exact⟨by rw[h1];simp,h2⟩)
