import Derived.Test.YtlgmapcjapofoaaS3Ins
set_option linter.unusedVariables false
set_option linter.unusedSimpArgs false
namespace Go.S3
structure RowsOk (x:Ctx) (r:R) (l:List r.den) (news:List Value):Prop where
 len:news.length=l.length*r.wid
 row:∀i j b,i<l.length->nth (elN r l i) j=some b->∃u,news[i*r.wid+j]? =some u/\RA x.bare b u
theorem Zm3 {r:R} {l:List r.den} {k i:Nat} (h:i<k):elN r (l.take k) i=elN r l i:=by
 simp only[elN,List.getD_eq_getElem?_getD,List.getElem?_take,if_pos h]
theorem Zm4 {r:R} {l:List r.den} {k i:Nat}:elN r (l.drop k) i=elN r l (k+i):=by
 simp only[elN,List.getD_eq_getElem?_getD,List.getElem?_drop]
theorem RowsOk.nil (x:Ctx) (r:R):RowsOk x r [] []:=⟨by simp,λi j b h=>by simp at h⟩
theorem RowsOk.append {x:Ctx} {r:R} {l l':List r.den} {a b:List Value} (h:RowsOk x r l a) (k:RowsOk x r l' b):RowsOk x r (l++l') (a++b):=by
 refine⟨by rw[List.length_append,List.length_append,h.len,k.len,Nat.add_mul],λi j d hi hd=> ?_⟩
 have hj:=Zc5 hd
 rw[List.length_append] at hi
 by_cases hl:i<l.length
 ·rw[ZjI hl] at hd
  obtain⟨u,e1,e2⟩:=h.row i j d hl hd
  refine⟨u,?_,e2⟩
  rw[List.getElem?_append_left];· exact e1
  rw[h.len];exact Za8 hl hd
 ·rw[ZhX (by omega)] at hd
  obtain⟨u,e1,e2⟩:=k.row (i-l.length) j d (by omega) hd
  refine⟨u,?_,e2⟩
  have e:i*r.wid=l.length*r.wid+(i-l.length)*r.wid:=by rw[<-Nat.add_mul];congr 1;omega
  rw[List.getElem?_append_right (by rw[h.len];have:=Nat.mul_le_mul_right r.wid (show l.length<=i by omega);omega),h.len]
  rw[show i*r.wid+j-l.length*r.wid=(i-l.length)*r.wid+j by omega]
  exact e1
theorem RowsOk.take {x:Ctx} {r:R} {l:List r.den} {a:List Value} (h:RowsOk x r l a) (k:Nat):RowsOk x r (l.take k) (a.take (k*r.wid)):=by
 refine⟨?_,λi j b hi hb=> ?_⟩
 ·rw[List.length_take,List.length_take,h.len,Nat.min_def,Nat.min_def]
  by_cases hk:k<=l.length
  ·rw[if_pos hk,if_pos (Nat.mul_le_mul_right _ hk)]
  ·rw[if_neg hk]
   split
   ·rename_i h1
    have:=Nat.mul_le_mul_right r.wid (show l.length<=k by omega)
    omega
   ·rfl
 ·rw[List.length_take] at hi
  rw[Zm3 (by omega)] at hb
  obtain⟨u,e1,e2⟩:=h.row i j b (by omega) hb
  refine⟨u,?_,e2⟩
  have hj:=Zc5 hb
  rw[List.getElem?_take,if_pos];· exact e1
  have:=Nat.mul_le_mul_right r.wid (show i+1<=k by omega)
  rw[Nat.add_mul] at this;omega
theorem RowsOk.drop {x:Ctx} {r:R} {l:List r.den} {a:List Value} (h:RowsOk x r l a) (k:Nat):RowsOk x r (l.drop k) (a.drop (k*r.wid)):=by
 refine⟨by rw[List.length_drop,List.length_drop,h.len,Nat.sub_mul],λi j b hi hb=> ?_⟩
 rw[List.length_drop] at hi
 rw[Zm4] at hb
 obtain⟨u,e1,e2⟩:=h.row (k+i) j b (by omega) hb
 refine⟨u,?_,e2⟩
 rw[List.getElem?_drop,show k*r.wid+(i*r.wid+j)=(k+i)*r.wid+j by rw[Nat.add_mul];omega];exact e1
theorem RowsOk.pre {x:Ctx} {r:R} {l:List r.den} {a:List Value} (h:RowsOk x r l a) (rest:List Value):∀i j b,i<l.length->nth (elN r l i) j=some b->∃u,(a++rest)[i*r.wid+j]? =some u/\RA x.bare b u:=λi j b hi hb=>by
 obtain⟨u,e1,e2⟩:=h.row i j b hi hb
 exact⟨u,by rw[List.getElem?_append_left (by rw[h.len];exact Za8 hi hb)];exact e1,e2⟩
theorem RowsOk.one {x:Ctx} {r:R} {l:List r.den} {a:List Value} (h:RowsOk x r l a) (hw:0<r.wid):∀u∈a,u.oneCell'=true:=by
 intro u hu
 obtain⟨k,hk⟩:=List.getElem?_of_mem hu
 have hlt:=(List.getElem?_eq_some_iff.1 hk).1
 rw[h.len] at hlt
 have h1:k/r.wid<l.length:=(Nat.div_lt_iff_lt_mul hw).2 hlt
 obtain⟨b,hb⟩:=Zl5 (r:=r) (l:=l) (i:=k/r.wid) (Nat.mod_lt k hw)
 obtain⟨u',e1,e2⟩:=h.row _ _ b h1 hb
 have:k/r.wid*r.wid+k%r.wid=k:=by rw[Nat.mul_comm];exact Nat.div_add_mod k r.wid
 rw[this,hk] at e1
 simp only[oinj] at e1;subst e1
 exact Zfw e2
end Go.S3
