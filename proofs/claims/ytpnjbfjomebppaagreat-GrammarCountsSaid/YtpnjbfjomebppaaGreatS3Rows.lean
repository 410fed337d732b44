import Derived.Test.YtpnjbfjomebppaaGreatS3Ins
set_option linter.unusedVariables false
set_option linter.unusedSimpArgs false
namespace Go.S3
structure RowsOk (x:Ctx) (r:R) (l:List r.den) (news:List Value):Prop where
 len:news.length=l.length*r.wid
 row:∀i j b,i<l.length->nth (elN r l i) j=some b->∃u,news[i*r.wid+j]? =some u/\RA x.bare b u
variable {r:R} {k i:Nat}
theorem ZJq {l:List r.den} (h:i<k):elN r (l.take k) i=elN r l i:=by simp only[elN,Yo,YE,YW h]
theorem ZJr {l:List r.den}:elN r (l.drop k) i=elN r l (k+i):=by simp only[elN,Yo,YK]
theorem RowsOk.nil (x:Ctx) (r:R):RowsOk x r [] []:=⟨by simp,λi j b h=>by simp at h⟩
variable {x:Ctx} {a:List Value}
theorem RowsOk.append {l l':List r.den} {b:List Value} (h:RowsOk x r l a) (k:RowsOk x r l' b):RowsOk x r (l++l') (a++b):=by
 refine⟨by rw[Yh,Yh,h.len,k.len,Yao],λi j d hi hd=> ?_⟩;have hj:=ZhE hd;rw[Yh] at hi;by_cases hl:i<l.length
 ·rw[Zz3 hl] at hd;obtain⟨u,e1,e2⟩:=h.row i j d hl hd;refine⟨u,?_,e2⟩;rw[Yj];· exact e1
  rw[h.len];exact ZdP hl hd
 ·rw[ZtU (by omega)] at hd;obtain⟨u,e1,e2⟩:=k.row (i-l.length) j d (by omega) hd;refine⟨u,?_,e2⟩;have e:i*r.wid=l.length*r.wid+(i-l.length)*r.wid:=by rw[<-Nat.add_mul];congr 1;omega
  rw[YJ (by rw[h.len];have:=YR r.wid (show l.length<=i by omega);omega),h.len];rw[show i*r.wid+j-l.length*r.wid=(i-l.length)*r.wid+j by omega];exact e1
theorem RowsOk.take {l:List r.den} (h:RowsOk x r l a) (k:Nat):RowsOk x r (l.take k) (a.take (k*r.wid)):=by
 refine⟨?_,λi j b hi hb=> ?_⟩
 ·rw[Y4,Y4,h.len,Nat.min_def,Nat.min_def];by_cases hk:k<=l.length
  ·rw[YW hk,YW (YR _ hk)]
  ·rw[Y0 hk];split
   ·rename_i h1;have:=YR r.wid (show l.length<=k by omega);omega
   ·rfl
 ·rw[Y4] at hi;rw[ZJq (by omega)] at hb;obtain⟨u,e1,e2⟩:=h.row i j b (by omega) hb;refine⟨u,?_,e2⟩;have hj:=ZhE hb;rw[YE,YW];· exact e1
  have:=YR r.wid (show i+1<=k by omega);rw[Yao] at this;omega
theorem RowsOk.drop {l:List r.den} (h:RowsOk x r l a) (k:Nat):RowsOk x r (l.drop k) (a.drop (k*r.wid)):=by refine⟨by rw[Yaj,Yaj,h.len,Nat.sub_mul],λi j b hi hb=> ?_⟩;rw[Yaj] at hi;rw[ZJr] at hb;obtain⟨u,e1,e2⟩:=h.row (k+i) j b (by omega) hb;refine⟨u,?_,e2⟩;rw[YK,show k*r.wid+(i*r.wid+j)=(k+i)*r.wid+j by rw[Yao];omega];exact e1
theorem RowsOk.pre {l:List r.den} (h:RowsOk x r l a) (rest:List Value):∀i j b,i<l.length->nth (elN r l i) j=some b->∃u,(a++rest)[i*r.wid+j]? =some u/\RA x.bare b u:=λi j b hi hb=>by obtain⟨u,e1,e2⟩:=h.row i j b hi hb;exact⟨u,by rw[Yj (by rw[h.len];exact ZdP hi hb)];exact e1,e2⟩
theorem RowsOk.one {l:List r.den} (h:RowsOk x r l a) (hw:0<r.wid):∀u∈a,u.oneCell'=true:=by
 intro u hu;obtain⟨k,hk⟩:=Yai hu;have hlt:=(Yx.1 hk).1;rw[h.len] at hlt;have h1:k/r.wid<l.length:=(Nat.div_lt_iff_lt_mul hw).2 hlt;obtain⟨b,hb⟩:=ZG8 (r:=r) (l:=l) (i:=k/r.wid) (Nat.mod_lt k hw);obtain⟨u',e1,e2⟩:=h.row _ _ b h1 hb;have:k/r.wid*r.wid+k%r.wid=k:=by rw[Nat.mul_comm];exact Nat.div_add_mod k r.wid
 rw[this,hk] at e1;simp only[oinj] at e1;subst e1;exact Znl e2
end Go.S3
