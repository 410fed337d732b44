import Derived.Test.YtpnjbfjomebppaaGreatS3Stg
import Derived.Laws.IdiomCopy
set_option linter.unusedVariables false
set_option linter.unusedSimpArgs false
namespace Go.S3
variable {P:Program}
theorem Zck (w:World) (dT sT ty elem:TypeId) (k b o dLen dCap:Nat) (a:Addr) (sLen sCap:Nat) (cs:List Value)
  (hu:P.underlying dT=some (.slice elem)) (hs:(P.info? elem).map (·.size)=some k) (hn:cs.length=Nat.min sLen dLen*k)
  (hsrc:∀j v,cs[j]? =some v->w.cell? (a.add j)=some v) (hc:∀j,j<cs.length->(w.cell? ⟨b,o+j,none⟩).isSome=true) (hf:∀j,j<cs.length->w.frozen? ⟨b,o+j,none⟩=false) (h1:∀v∈cs,v.oneCell'=true):
  (Builtin.copy_ #[dT,sT] ty #[.slice (some ⟨b,o,none⟩) dLen dCap,.slice (some a) sLen sCap]).run P w=.ok (goInt (Nat.min sLen dLen)) (w.setCells b o cs):=by
 have hl:=run_loadCells_list (P:=P) w a cs hsrc;have hst:=run_storeCells_cells (P:=P) b o cs 0 w (by simpa using hc) (by simpa using hf) h1;cases hq:P.info? elem with
 |none=>simp[hq] at hs
 |some i=>
  have hi:i.size=k:=by simpa [hq] using hs
  simp only[Nat.add_zero] at hst;simp[Builtin.copy_,run_underlying hu,Builtin.lenOf,Builtin.firstCells,sizeOf,typeInfo,hq,hi,<-hn,hl,hst]
theorem ZmO (w:World) (t e ty:TypeId) (z:Value) (ht:P.underlying t=some (.slice e)) (hv:∀w,(zeroValue e).run P w=.ok z w) (b o n c:Nat) (hn:0<n) (zs:List Value)
  (hzs:(Builtin.zeroCells z.cells n).toList=zs) (h1:∀v∈zs,v.oneCell'=true)
  (hc:∀j,j<zs.length->(w.cell? ⟨b,o+j,none⟩).isSome=true) (hf:∀j,j<zs.length->w.frozen? ⟨b,o+j,none⟩=false):
  (Builtin.clear_ #[t] ty #[.slice (some ⟨b,o,none⟩) n c]).run P w=.ok (.tuple #[]) (w.setCells b o zs):=by have hst:=run_storeCells_cells (P:=P) b o zs 0 w (by simpa using hc) (by simpa using hf) h1;simp only[Nat.add_zero] at hst;obtain⟨m,rfl⟩:∃m,n=m+1:=⟨n-1,by omega⟩;simp[Builtin.clear_,run_underlying ht,hv,hzs,hst]
theorem ZxT (w:World) (b o:Nat) (vs:List Value) (C:List Value) (T:TypeId) (hb:w.heap[b]? =some (.cells C.toArray T (0,0))) (hl:o+vs.length<=C.length) (h1:∀v∈vs,v.oneCell'=true):
  w.setCells b o vs=w.setRow b (C.take o++vs++C.drop (o+vs.length)).toArray:=by
 have hc:∀j,j<vs.length->w.cell? ⟨b,o+0+j,none⟩=C[o+j]? :=λj _=>by rw[Zaf hb];rfl
 have hf:∀j,j<vs.length->w.frozen? ⟨b,o+0+j,none⟩=false:=λj _=>by simp[World.frozen?,hb]
 have e1:=run_storeCells_cells (P:=default) b o vs 0 w (λj hj=>by rw[hc j hj,Yi (by omega)];rfl) hf h1;have e2:=run_storeCells_at default b o T vs 0 C.toArray w hb (by simpa using hl) h1;rw[e1] at e2;simpa using e2
variable {w:World} {C:List Value}
theorem Zbk {b o:Nat} {vs:List Value} {T:TypeId} (hb:w.heap[b]? =some (.cells C.toArray T (0,0))) (hl:o+vs.length<=C.length) (h1:∀v∈vs,v.oneCell'=true):
  (w.setCells b o vs).heap[b]? =some (.cells (C.take o++vs++C.drop (o+vs.length)).toArray T (0,0)):=by rw[ZxT w b o vs C T hb hl h1];exact setRow_heap w b _ _ T (0,0) hb
theorem ZaE (b:Nat):∀(vs:List Value) (o:Nat) (w:World) (k:Nat),k≠b->(w.setCells b o vs).heap[k]? =w.heap[k]?
 |[],_,_,_,_=>rfl
 |v::r,o,w,k,h=>by rw[World.setCells,ZaE b r (o+1) _ k h];exact RowKit.Below.heap_setCell w ⟨b,o,none⟩ v k h
theorem Za0 (b:Nat):∀(vs:List Value) (o:Nat) (w:World),(w.setCells b o vs).heap.size=w.heap.size
 |[],_,_=>rfl
 |v::r,o,w=>by rw[World.setCells,Za0 b r (o+1)];simp[World.setCell]
theorem Za1 (b:Nat):∀(vs:List Value) (o:Nat) (w:World),(w.setCells b o vs).os=w.os/\(w.setCells b o vs).tape=w.tape/\(w.setCells b o vs).output=w.output
 |[],_,_=>⟨rfl,rfl,rfl⟩
 |v::r,o,w=>by rw[World.setCells];exact Za1 b r (o+1) _
theorem Z1r {x:Ctx} {m:Mem} {w':World} (hm:MK x m w) {h:Nat} {g:Stg} {s:SI} (hg:nth m.Sg h=some g) (hs:nth x.S h=some s) (hf:g.fzn=false)
  (h1:w'.os=w.os) (h2:w'.tape=w.tape) (h3:w'.output=w.output) (hsz:w.heap.size<=w'.heap.size)
  (hoth:∀k,k<w.heap.size->(∀cap,s.blk≠some (k,cap))->w'.heap[k]? =w.heap[k]?)
  {l:List g.r.den} {p cap:Nat} (hblk:(∃c,s.blk=some (p,c))\/w.heap.size<=p) (hrow:w'.heap[p]? =some (.cells C.toArray g.T (0,0)))
  (hC:C.length=cap*g.r.wid) (hn:l.length<=cap) (hcap:cap<=maxLen)
  (hel:∀i j a,i<l.length->nth (elN g.r l i) j=some a->∃v,C[i*g.r.wid+j]? =some v/\RA x.bare a v):
  ∃x',MK x' {m with Sg:=setN m.Sg h ⟨g.r,g.T,l,g.ver+1,false,false,false,0⟩} w'/\Ext x x'/\Step x w w'/\RA x' (.tip h (g.ver+1)) (.slice (some ⟨p,0,none⟩) l.length cap):=by
 have ho:=hm.stg h g s hg hs;have hver:=ho.ver;have hfc:=ho.fzn hf;have hnofz:∀p' c',s.blk=some (p',c')->∀o,x.fz p' o=none:=λp' c' e o=>by obtain⟨C0,_,_,_,_,_,_,_,c8⟩:=ho.row p' c' e;exact c8 o (by omega)
 have hp:x.own p/\∀o,x.fz p o=none:=by
  rcases hblk with ⟨c,e⟩|e
  ·exact⟨(hm.sown h s p c hs e).1,hnofz p c e⟩
  ·exact⟨hm.fresh p e,λo=>by
    cases hz:x.fz p o with
    |none=>rfl
    |some v=>have:=hm.fz_lt hz;omega⟩
 have key:=hm.setS (w':=w') (g':=⟨g.r,g.T,l,g.ver+1,false,false,false,0⟩) (s':=⟨some (p,cap),none,l.length,s.w,g.ver+1,0⟩) (fz':=x.fz) hg hs
  ⟨by simp;omega,λe=>by simp at e;omega⟩ hsz hoth (λ_ _ _ e=>e) (λ_ _ _ _=>rfl)
  (λb o v e=>by
   have hb:∀c,s.blk≠some (b,c):=λc e'=>by rw[hnofz b c e' o] at e;simp at e
   rw[World.cell?_of_block (w:=w) (a:=⟨b,o,none⟩) (hoth b (hm.fz_lt e) hb)]
   exact hm.fz b o v e)
  (λp' c' e=>by
   simp only[oinj,pinj] at e;obtain⟨rfl,rfl⟩:=e
   exact hblk)
  ⟨rfl,rfl,ho.wd,λe=>by simp at e,λp' c' e=>by
   simp only[oinj,pinj] at e;obtain⟨rfl,rfl⟩:=e
   exact⟨C,hrow,hC,hn,hcap,λi j a hi ha=>by
    obtain⟨v,f1,f2⟩:=hel i j a hi ha
    exact⟨v,f1,f2.plain (x':=Ctx.bare _) (λ_ _ _ e=>e) (R.enc_plain _ _ _ (Zbl ha))⟩,Ys _,λo h=>by simp at h,λo _=>hp.2 o⟩,
   λ_=>rfl,λe=>by simp at e,λe=>by simp at e⟩
 refine⟨_,key.1,key.2,⟨h1,h2,h3,hsz,λk hk=> ?_⟩,.tip _ _ _ _ _ (ZK hs) (Ye _) (λ_=>rfl) trivial⟩;refine hoth k ?_ ?_
 ·rcases Y3 k w.heap.size with e|e
  ·exact e
  ·exact absurd (hm.fresh k e) hk
 ·intro c e;exact hk (hm.sown h s k c hs e).1
