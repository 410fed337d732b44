import Derived.Test.YtghoimllhpjkjaaGreatS3Ins
set_option linter.unusedVariables false
set_option linter.unusedSimpArgs false
namespace Go.S3
structure RowsOk (x:Ctx) (r:R) (l:List r.den) (news:List Value):Prop where
 len:news.length=l.length*r.wid
 row:∀i j b,i<l.length->nth (elN r l i) j=some b->∃u,news[i*r.wid+j]? =some u/\RA x.bare b u
variable {r:R} {k i:Nat}
theorem ZID {l:List r.den} (h:i<k):elN r (l.take k) i=elN r l i:=by simp only[elN,Yl,YD,YV h]
theorem ZIE {l:List r.den}:elN r (l.drop k) i=elN r l (k+i):=by simp only[elN,Yl,YH]
theorem RowsOk.nil (x:Ctx) (r:R):RowsOk x r [] []:=⟨by simp,λi j b h=>by simp at h⟩
variable {x:Ctx} {a:List Value}
theorem RowsOk.append {l l':List r.den} {b:List Value} (h:RowsOk x r l a) (k:RowsOk x r l' b):RowsOk x r (l++l') (a++b):=by
 refine⟨by rw[Yf,Yf,h.len,k.len,Yan],λi j d hi hd=> ?_⟩;have hj:=Zhn hd;rw[Yf] at hi;by_cases hl:i<l.length
 ·rw[Zzp hl] at hd;obtain⟨u,e1,e2⟩:=h.row i j d hl hd;refine⟨u,?_,e2⟩;rw[Yi];· exact e1
  rw[h.len];exact ZdF hl hd
 ·rw[Zto (by omega)] at hd;obtain⟨u,e1,e2⟩:=k.row (i-l.length) j d (by omega) hd;refine⟨u,?_,e2⟩;have e:i*r.wid=l.length*r.wid+(i-l.length)*r.wid:=by rw[<-Nat.add_mul];congr 1;omega
  rw[YG (by rw[h.len];have:=YP r.wid (show l.length<=i by omega);omega),h.len];rw[show i*r.wid+j-l.length*r.wid=(i-l.length)*r.wid+j by omega];exact e1
theorem RowsOk.take {l:List r.den} (h:RowsOk x r l a) (k:Nat):RowsOk x r (l.take k) (a.take (k*r.wid)):=by
 refine⟨?_,λi j b hi hb=> ?_⟩
 ·rw[Y2,Y2,h.len,Nat.min_def,Nat.min_def];by_cases hk:k<=l.length
  ·rw[YV hk,YV (YP _ hk)]
  ·rw[YX hk];split
   ·rename_i h1;have:=YP r.wid (show l.length<=k by omega);omega
   ·rfl
 ·rw[Y2] at hi;rw[ZID (by omega)] at hb;obtain⟨u,e1,e2⟩:=h.row i j b (by omega) hb;refine⟨u,?_,e2⟩;have hj:=Zhn hb;rw[YD,YV];· exact e1
  have:=YP r.wid (show i+1<=k by omega);rw[Yan] at this;omega
theorem RowsOk.drop {l:List r.den} (h:RowsOk x r l a) (k:Nat):RowsOk x r (l.drop k) (a.drop (k*r.wid)):=by refine⟨by rw[Yah,Yah,h.len,Nat.sub_mul],λi j b hi hb=> ?_⟩;rw[Yah] at hi;rw[ZIE] at hb;obtain⟨u,e1,e2⟩:=h.row (k+i) j b (by omega) hb;refine⟨u,?_,e2⟩;rw[YH,show k*r.wid+(i*r.wid+j)=(k+i)*r.wid+j by rw[Yan];omega];exact e1
theorem RowsOk.pre {l:List r.den} (h:RowsOk x r l a) (rest:List Value):∀i j b,i<l.length->nth (elN r l i) j=some b->∃u,(a++rest)[i*r.wid+j]? =some u/\RA x.bare b u:=λi j b hi hb=>by obtain⟨u,e1,e2⟩:=h.row i j b hi hb;exact⟨u,by rw[Yi (by rw[h.len];exact ZdF hi hb)];exact e1,e2⟩
theorem RowsOk.one {l:List r.den} (h:RowsOk x r l a) (hw:0<r.wid):∀u∈a,u.oneCell'=true:=by
 intro u hu;obtain⟨k,hk⟩:=Yag hu;have hlt:=(Yu.1 hk).1;rw[h.len] at hlt;have h1:k/r.wid<l.length:=(Nat.div_lt_iff_lt_mul hw).2 hlt;obtain⟨b,hb⟩:=ZGq (r:=r) (l:=l) (i:=k/r.wid) (Nat.mod_lt k hw);obtain⟨u',e1,e2⟩:=h.row _ _ b h1 hb;have:k/r.wid*r.wid+k%r.wid=k:=by rw[Nat.mul_comm];exact Nat.div_add_mod k r.wid
 rw[this,hk] at e1;simp only[oinj] at e1;subst e1;exact ZmY e2
end Go.S3
