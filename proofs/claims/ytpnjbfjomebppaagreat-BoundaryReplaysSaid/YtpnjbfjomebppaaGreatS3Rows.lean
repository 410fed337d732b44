import Derived.Test.YtpnjbfjomebppaaGreatS3Ins
set_option linter.unusedVariables false
set_option linter.unusedSimpArgs false
namespace Go.S3
structure RowsOk (x:Ctx) (r:R) (l:List r.den) (news:List Value):Prop where
 len:news.length=l.length*r.wid
 row:∀i j b,i<l.length->nth (elN r l i) j=some b->∃u,news[i*r.wid+j]? =some u/\RA x.bare b u
variable {r:R} {k i:Nat}
theorem ZVT {l:List r.den} (h:i<k):elN r (l.take k) i=elN r l i:=by simp only[elN,Yq,YC,YT h]
theorem ZVU {l:List r.den}:elN r (l.drop k) i=elN r l (k+i):=by simp only[elN,Yq,YI]
theorem RowsOk.nil (x:Ctx) (r:R):RowsOk x r [] []:=⟨by simp,λi j b h=>by simp at h⟩
variable {x:Ctx} {a:List Value}
theorem RowsOk.append {l l':List r.den} {b:List Value} (h:RowsOk x r l a) (k:RowsOk x r l' b):RowsOk x r (l++l') (a++b):=by
 refine⟨by rw[Yd,Yd,h.len,k.len,YaC],λi j d hi hd=> ?_⟩;have hj:=Zjv hd;rw[Yd] at hi;by_cases hl:i<l.length
 ·rw[ZIq hl] at hd;obtain⟨u,e1,e2⟩:=h.row i j d hl hd;refine⟨u,?_,e2⟩;rw[Yl];· exact e1
  rw[h.len];exact ZdA hl hd
 ·rw[Zz5 (by omega)] at hd;obtain⟨u,e1,e2⟩:=k.row (i-l.length) j d (by omega) hd;refine⟨u,?_,e2⟩;have e:i*r.wid=l.length*r.wid+(i-l.length)*r.wid:=by rw[<-Nat.add_mul];congr 1;omega
  rw[YQ (by rw[h.len];have:=YH r.wid (show l.length<=i by omega);omega),h.len];rw[show i*r.wid+j-l.length*r.wid=(i-l.length)*r.wid+j by omega];exact e1
theorem RowsOk.take {l:List r.den} (h:RowsOk x r l a) (k:Nat):RowsOk x r (l.take k) (a.take (k*r.wid)):=by
 refine⟨?_,λi j b hi hb=> ?_⟩
 ·rw[YA,YA,h.len,Nat.min_def,Nat.min_def];by_cases hk:k<=l.length
  ·rw[YT hk,YT (YH _ hk)]
  ·rw[YZ hk];split
   ·rename_i h1;have:=YH r.wid (show l.length<=k by omega);omega
   ·rfl
 ·rw[YA] at hi;rw[ZVT (by omega)] at hb;obtain⟨u,e1,e2⟩:=h.row i j b (by omega) hb;refine⟨u,?_,e2⟩;have hj:=Zjv hb;rw[YC,YT];· exact e1
  have:=YH r.wid (show i+1<=k by omega);rw[YaC] at this;omega
theorem RowsOk.drop {l:List r.den} (h:RowsOk x r l a) (k:Nat):RowsOk x r (l.drop k) (a.drop (k*r.wid)):=by refine⟨by rw[YN,YN,h.len,Nat.sub_mul],λi j b hi hb=> ?_⟩;rw[YN] at hi;rw[ZVU] at hb;obtain⟨u,e1,e2⟩:=h.row (k+i) j b (by omega) hb;refine⟨u,?_,e2⟩;rw[YI,show k*r.wid+(i*r.wid+j)=(k+i)*r.wid+j by rw[YaC];omega];exact e1
theorem RowsOk.pre {l:List r.den} (h:RowsOk x r l a) (rest:List Value):∀i j b,i<l.length->nth (elN r l i) j=some b->∃u,(a++rest)[i*r.wid+j]? =some u/\RA x.bare b u:=λi j b hi hb=>by obtain⟨u,e1,e2⟩:=h.row i j b hi hb;exact⟨u,by rw[Yl (by rw[h.len];exact ZdA hi hb)];exact e1,e2⟩
variable {w:World} {p:Nat}
theorem RowsOk.of_tip {g:Stg} {s:SI} (h:StgOk x g s w) {cap:Nat} {C:List Value} (hrow:w.heap[p]? =some (.cells C.toArray g.T (0,0))) (hb:s.blk=some (p,cap)):
  RowsOk x g.r g.l (C.take (g.l.length*g.r.wid))/\C.length=cap*g.r.wid/\g.l.length<=cap/\cap<=maxLen:=by
 obtain⟨C',c1,c2,c3,c4,c5,c6,c7,c8⟩:=h.row p cap hb;rw[hrow] at c1;have hC:C=C':=by simp only[oinj,Obj.cells.injEq,and_true] at c1;have:=congrArg Array.toList c1;simpa using this
 subst hC;have hn:=h.n;refine⟨⟨?_,λi j b hi hbb=> ?_⟩,c2,by omega,c4⟩
 ·rw[YA,YaS];rw[c2];exact YH _ (by omega)
 ·obtain⟨v,e1,e2⟩:=c5 i j b (by omega) hbb;exact⟨v,by rw[YC,YT (ZdA hi hbb)];exact e1,e2⟩
theorem RowsOk.one {l:List r.den} (h:RowsOk x r l a) (hw:0<r.wid):∀u∈a,u.oneCell'=true:=by
 intro u hu;obtain⟨k,hk⟩:=Yau hu;have hlt:=(YB.1 hk).1;rw[h.len] at hlt;have h1:k/r.wid<l.length:=(Nat.div_lt_iff_lt_mul hw).2 hlt;obtain⟨b,hb⟩:=ZSO (r:=r) (l:=l) (i:=k/r.wid) (Nat.mod_lt k hw);obtain⟨u',e1,e2⟩:=h.row _ _ b h1 hb;have:k/r.wid*r.wid+k%r.wid=k:=by rw[Nat.mul_comm];exact Nat.div_add_mod k r.wid
 rw[this,hk] at e1;simp only[oinj] at e1;subst e1;exact ZrX e2
theorem Zfv {C:Array Value} {T:TypeId} (h:w.heap[p]? =some (.cells C T (0,0))) (o:Nat):w.frozen? ⟨p,o,none⟩=false:=by simp[World.frozen?,h]
