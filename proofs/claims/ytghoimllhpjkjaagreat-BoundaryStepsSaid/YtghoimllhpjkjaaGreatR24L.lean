import Derived.Test.YtghoimllhpjkjaaGreatMemD
import Derived.RangeFuncNested
import Derived.RangeFuncLeaves
import Derived.Shelf.Abstract
import Derived.OwnWalkIn
import Derived.TacticsInMore
import Derived.LoopNIn
import Derived.LoopIn
import Derived.Test.YtghoimllhpjkjaaGreatS3Clo
import Derived.Test.YtghoimllhpjkjaaGreatMakeOk5
import Derived.Test.YtghoimllhpjkjaaGreatPicL
open Go.Proofs.Tryz (prog)
set_option linter.unusedVariables false
set_option linter.unusedSimpArgs false
namespace Go.Proofs.YtghoimllhpjkjaaGreat
open Go Go.S3 Go.Proofs Go.Proofs.Cells Go.RowKit Go.Shelf
attribute [local go_sem] Oper.semAt_some
noncomputable section
def bwL (l:List Cell) (k:Nat):List (Nat×Cell):=(List.range k).map λj=>(l.length-1-j,el l (l.length-1-j))
theorem ZII (l:List Cell) (k:Nat):bwL l (k+1)=bwL l k++[(l.length-1-k,el l (l.length-1-k))]:=by simp[bwL,List.range_succ]
theorem Z1k (l:List Cell) (k:Nat):(bwL l k).length=k:=by simp[bwL]
theorem ZIJ (l:List Cell) (m:Nat) (h:m+1<=l.length):bwL l (l.length-m)=bwL l (l.length-(m+1))++[(m,el l m)]:=by
 have e:l.length-m=(l.length-(m+1))+1:=by omega
 have e2:l.length-1-(l.length-(m+1))=m:=by omega
 rw[e,ZII,e2]
abbrev ZEL (x:Nat×Cell):Array Value:= #[.int .i64 (x.1:Int),.agg #[.int .u16 x.2.1,.int .u8 x.2.2]]
set_option maxRecDepth 100000 in
set_option maxHeartbeats 2000000 in
theorem ZWt (F:Fence) (n:Nat) (h8:F.fn 331) (hro:F.round=none) (hn:1<=n) (y Bs n₀ b off cap:Nat) (l:List Cell) (hreach:l.length<=1073741824) (hb:b<n₀) (hB:Bs<n₀) (J Jx:List (Nat×Cell)->World->Prop)
  (hY:∀pre x W,J pre W->pre.length<l.length->YieldAt F (n-1) prog y (ZEL x) W λe W'=>
   (e=.returned (.bool true)/\J (pre++[x]) W'/\Below n₀ W W')\/(e=.returned (.bool false)/\Jx (pre++[x]) W'))
  (W:World) (hBs:W.cell? ⟨Bs,0,none⟩=some (.slice (some ⟨b,off,none⟩) l.length cap))
  (hc:∀j,j<l.length->W.cell? ⟨b,off+j*2,none⟩=some (.int .u16 (el l j).1)/\W.cell? ⟨b,off+j*2+1,none⟩=some (.int .u8 (el l j).2)) (h0:J [] W):
  CallsIn F n prog 331 #[.func (.yield y) #[] #[],.pointer (some ⟨Bs,0,none⟩)] W λe W'=>(∃v,e=.returned v)/\
   ((∃ys,ys=bwL l l.length/\J ys W')\/(∃pre,(∃k,k<=l.length/\pre=bwL l k)/\Jx pre W')):=by
 refine callsIn_of_wp Tryz.func331 rfl h8 ?_ hro;simp only[Tryz.ntmps331,Yak,List.length_cons,List.length_nil,Nat.reduceAdd,Nat.reduceSub,Array.replicate_succ,Array.replicate_zero,List.push_toArray,List.append_toArray,List.nil_append,List.cons_append];gi_wp2
 gi_loopw [3] (λi wr=>∃m:Nat,m<=l.length/\i=.int .i64 ((m:Int)-1)/\J (bwL l (l.length-m)) wr/\Below n₀ W wr)
  (λi _=>(intOf i+1).toNat)
 case atStart=>exact⟨l.length,Ye _,rfl,by simpa [bwL] using h0,Below.refl _ _⟩
 case round=>
  obtain⟨m,hm,rfl,hJs,hnx⟩:=hrel;have hbx:wr.cell? ⟨Bs,0,none⟩=some (.slice (some ⟨b,off,none⟩) l.length cap):=(hnx.cell (p:=⟨Bs,0,none⟩) hB).trans hBs;cases m with
  |zero=>
   gi_wp2
   go_end0
   exact⟨⟨_,rfl⟩,.inl ⟨_,rfl,by simpa using hJs⟩⟩
  |succ m=>
   have e1:((m+1:Nat):Int)-1=(m:Int):=by omega
   rw[e1];have hlt:m<l.length:=by omega
   obtain⟨q1,q2⟩:=hc m hlt;have hcx1:wr.cell? ⟨b,off+m*2,none⟩=some (.int .u16 (el l m).1):=(hnx.cell (p:=⟨b,off+m*2,none⟩) hb).trans q1;have hcx2:wr.cell? ⟨b,off+m*2+1,none⟩=some (.int .u8 (el l m).2):=(hnx.cell (p:=⟨b,off+m*2+1,none⟩) hb).trans q2;obtain⟨fn,tmps,assign,body,hy,hR⟩:=hY _ (m,el l m) wr hJs (by rw[Z1k];omega);dsimp only[ZEL] at hy;clear hc hBs q1 q2;gi_wp2
   refine hR.mono ?_;rintro e W3 (⟨rfl,hJ3,hk3⟩|⟨rfl,hJx3⟩)
   ·gi_wp2
    go_roundw
    case rel=>exact⟨m,by omega,rfl,by rw[ZIJ l m hlt];exact hJ3,hnx.trans hk3⟩
    case measure=>simp[intOf]
   ·gi_wp2
    refine bodyPost_ret (results_none rfl _ _ _) rfl ?_;exact⟨⟨_,rfl⟩,.inr ⟨_,⟨l.length-m,by omega,(ZIJ l m hlt).symm⟩,hJx3⟩⟩
set_option maxRecDepth 100000 in
set_option maxHeartbeats 1000000 in
theorem Zz1 (F:Fence) (n:Nat) (h8:F.fn 331) (hro:F.round=none) (y Bs cap:Nat) (a:Option Addr) (J:List (Nat×Cell)->World->Prop) (W:World) (hBs:W.cell? ⟨Bs,0,none⟩=some (.slice a 0 cap)) (h0:J [] W):
  CallsIn F n prog 331 #[.func (.yield y) #[] #[],.pointer (some ⟨Bs,0,none⟩)] W λe W'=>(∃v,e=.returned v)/\J [] W':=by
 refine callsIn_of_wp Tryz.func331 rfl h8 ?_ hro;simp only[Tryz.ntmps331,Yak,List.length_cons,List.length_nil,Nat.reduceAdd,Nat.reduceSub,Array.replicate_succ,Array.replicate_zero,List.push_toArray,List.append_toArray,List.nil_append,List.cons_append];gi_wp2
 gi_loopw [3] (λi wr=>i=.int .i64 (-1)/\J [] wr) (λ_ _=>0)
 case atStart=>exact⟨rfl,h0⟩
 case round=>
  obtain⟨rfl,hJs⟩:=hrel;gi_wp2
  go_end0
  exact⟨⟨_,rfl⟩,hJs⟩
set_option maxHeartbeats 1000000 in
theorem Z1p (F:Fence) (n:Nat) (h6:F.fn 308) (hro:F.round=none) (a:Option Addr) (len cap:Nat) (w:World):
  CallsIn F n prog 308 #[.slice a len cap] w λe w'=>e=.returned (.func (.func 331) #[] #[.pointer (some ⟨w.heap.size,0,none⟩)])/\w'=w.alloc (.cells #[.slice a len cap] 25):=by
 refine callsIn_of_wp Tryz.func308 rfl h6 ?_ hro;simp only[Tryz.ntmps308,Yak,List.length_cons,List.length_nil,Nat.reduceAdd,Nat.reduceSub,Array.replicate_succ,Array.replicate_zero,List.push_toArray,List.append_toArray,List.nil_append,List.cons_append];gi_wp2
 go_ret
 exact⟨rfl,rfl⟩
def Held (n₀:Nat) (W:World) (sv:Value) (l:List Cell):Prop:=
 (∃a cap,sv=.slice a 0 cap/\l=[])\/∃b off cap,sv=.slice (some ⟨b,off,none⟩) l.length cap/\b<n₀/\
  ∀j,j<l.length->W.cell? ⟨b,off+j*2,none⟩=some (.int .u16 (el l j).1)/\W.cell? ⟨b,off+j*2+1,none⟩=some (.int .u8 (el l j).2)
variable {n₀:Nat} {sv:Value} {l:List Cell}
theorem Held.below {A B:World} (h:Below n₀ A B):Held n₀ A sv l->Held n₀ B sv l
 | .inl e=>.inl e
 | .inr ⟨b,off,cap,e,hb,hc⟩=>.inr ⟨b,off,cap,e,hb,λj hj=>⟨(h.cell (p:=⟨b,off+j*2,none⟩) hb).trans (hc j hj).1,(h.cell (p:=⟨b,off+j*2+1,none⟩) hb).trans (hc j hj).2⟩⟩
theorem Held.mono {n₁:Nat} {W:World} (h:Held n₀ W sv l) (hn:n₀<=n₁):Held n₁ W sv l:=
 h.elim .inl λ⟨b,off,cap,e,hb,hc⟩=>.inr ⟨b,off,cap,e,by omega,hc⟩
theorem ZL1 (F:Fence) (n:Nat) (h8:F.fn 331) (hro:F.round=none) (hn:1<=n) (Bs n₀:Nat) (sv:Value) (l:List Cell) (hreach:l.length<=1073741824) (w:World) (hBs:Bs<n₀) (hn₀:n₀<=w.heap.size)
  (hc:w.cell? ⟨Bs,0,none⟩=some sv) (hI:Held n₀ w sv l):
  SeqStopsK F n prog 331 #[.pointer (some ⟨Bs,0,none⟩)] ZEL (Below n₀) (λys=>ys=bwL l l.length)
   (λpre=>∃k,k<=l.length/\pre=bwL l k) l.length w:=λy J Jx W hW _ _ hY h0=>by
 have hc':=(hW.cell (p:=⟨Bs,0,none⟩) (by show Bs<_;omega)).trans hc;rcases hI.below (hW.mono hn₀) with ⟨a,cap,rfl,rfl⟩|⟨b,off,cap,rfl,hb,hcs⟩
 ·exact (Zz1 F n h8 hro y Bs cap a J W hc' h0).mono λe W' ⟨he,hj⟩=>⟨he,.inl ⟨_,rfl,hj⟩⟩
 ·exact ZWt F n h8 hro hn y Bs n₀ b off cap l hreach hb hBs J Jx hY W hc' hcs h0
end
end Go.Proofs.YtghoimllhpjkjaaGreat
open Go.IntKind (u8 u16 i64)
namespace Go.Proofs.YtghoimllhpjkjaaGreat
open Go Go.S3 Go.Proofs Go.Proofs.Cells Go.RowKit Go.Shelf
attribute [local go_sem] Oper.semAt_some
noncomputable section
set_option maxRecDepth 100000 in
set_option maxHeartbeats 2000000 in
theorem Z2R (F:Fence) (n:Nat) (h4:F.fn 258) (h6:F.fn 308) (h8:F.fn 331) (hro:F.round=none) (hn:3<=n) (a:Option Addr) (len cap:Nat) (l:List Cell) (t:Int) (hreach:l.length<=1073741824)
  (w:World) (hI:Held w.heap.size w (.slice a len cap) l):
  CallsIn F n Tryz.prog 258 #[.slice a len cap,.int .u16 t] w λe W'=>e=.returned (.int .u8 (getX l t))/\Below w.heap.size w W':=by
 have h1:1<=n:=by omega
 refine callsIn_of_wp_marks Tryz.func258 rfl h4 ?_ hro;simp only[Tryz.ntmps258,Yak,List.length_cons,List.length_nil,Nat.reduceAdd,Nat.reduceSub,Array.replicate_succ,Array.replicate_zero,List.push_toArray,List.append_toArray,List.nil_append,List.cons_append]
 gi_wp2_with (gi_at_call 308;refine (Z1p F (n-1) h6 hro _ _ _ _).mono ?_;rintro e w' ⟨rfl,rfl⟩)
 have bT:=Boxed.new w 34 (.int .u16 t);have bR:=Boxed.new (w.alloc (.cells #[.int .u16 t] 34)) 5 (.int .u8 0);have bN:=Boxed.new ((w.alloc (.cells #[.int .u16 t] 34)).alloc (.cells #[.int .u8 0] 5)) 25 (.slice a len cap);rw[World.size_alloc] at bR bN;rw[World.size_alloc] at bN;have hB0:Below w.heap.size w (((w.alloc (.cells #[.int .u16 t] 34)).alloc (.cells #[.int .u8 0] 5)).alloc (.cells #[.slice a len cap] 25)):=(((Below.refl _ w).alloc (Ye _) _).alloc (by simp) _).alloc (by simp;omega) _;refine wpIn_rangeFunc_ownH hro h1 (gf:=331) (lb:= #[.pointer (some ⟨w.heap.size+2,0,none⟩)]) rfl h8 (enters_of Tryz.func331 (by kernel_rfl) rfl)
  (ZL1 F (n-1) h8 hro (by omega) (w.heap.size+2) (w.heap.size+3) _ l hreach _ (by omega) (by simp) bN.cell ?held) belowK_t (belowK_b (by simp)) (Below.refl _ _) (λ_=>rfl)
  (λpre W=>((∀p∈pre,p.2.1≠t)/\W.cell? ⟨w.heap.size,0,none⟩=some (.int .u16 t)/\W.cell? ⟨w.heap.size+1,0,none⟩=some (.int .u8 0)/\W.frozen? ⟨w.heap.size+1,0,none⟩=false/\w.heap.size+3<=W.heap.size)/\Below w.heap.size w W)
  (λc pre W=>(c=.ret/\∃ini last,pre=ini++[last]/\(∀p∈ini,p.2.1≠t)/\last.2.1=t/\W.cell? ⟨w.heap.size+1,0,none⟩=some (.int .u8 last.2.2))/\Below w.heap.size w W)
  (OwnFrom.and (Own.from (λs A B row hs hg hr=>⟨hs.1,cell_kept hs.2.1 hg hr,cell_kept hs.2.2.1 hg hr,(frozen_kept hs.2.2.1 hg hr).trans hs.2.2.2.1,YT hs.2.2.2.2 hg.size⟩) _) (ownFrom_below (Ye _) (by simp;omega)))
  (λc=>OwnFrom.and (Own.from (λs A B row hs hg hr=>by obtain⟨hc,ini,last,e1,e2,e3,e4⟩:=hs;exact⟨hc,ini,last,e1,e2,e3,cell_kept e4 hg hr⟩) _) (ownFrom_below (Ye _) (by simp;omega)))
  ⟨⟨by simp,((bT.alloc _).alloc _).cell,(bR.alloc _).cell,(bR.alloc _).frozen,by simp⟩,hB0⟩
  (λx a' W=>∃B,W.cell? ⟨B,0,none⟩=some (.int .u16 x.2.1)/\W.cell? ⟨B,1,none⟩=some (.int .u8 x.2.2)/\
   a'={tmps:= #[.slice a len cap,.int .u16 t,undef,.pointer (some ⟨w.heap.size,0,none⟩),.pointer (some ⟨w.heap.size+1,0,none⟩),undef,.pointer (some ⟨B,0,none⟩),.slice a len cap,.func (.func 331) #[] #[.pointer (some ⟨w.heap.size+2,0,none⟩)],.int .i64 (x.1:Int),.agg #[.int .u16 x.2.1,.int .u8 x.2.2],undef,undef,undef,undef,undef,undef],defers:=[]})
  (λx a'=>Own.from (λs A B row hs hg hr=>by obtain⟨b,e2,e3,e4⟩:=hs;exact⟨b,cell_kept e2 hg hr,cell_kept e3 hg hr,e4⟩) _)
  ?assign ?body ?done ?stop
 case held=>exact (hI.below hB0).mono (by omega)
 case assign=>
  rintro y pre x W K ⟨⟨hp,hct,hcr,hfr,hsz⟩,hB⟩ hK;gi_wp2
  have hn1:∀o:Obj,(W.alloc o).heap[W.heap.size]? =some o:=λo=>World.alloc_heap_new W o
  refine hK _ _ ((KeepsOthers.alloc W _).from _) ((Below.refl _ W).alloc hsz _) ⟨⟨hp,?_,?_,?_,by simp;omega⟩,hB.alloc (by omega) _⟩ ⟨W.heap.size,?_,?_,rfl⟩
  ·exact cell_kept hct (World.grownBy_alloc W _ none) (λr e=>by cases e)
  ·exact cell_kept hcr (World.grownBy_alloc W _ none) (λr e=>by cases e)
  ·exact (frozen_kept hcr (World.grownBy_alloc W _ none) (λr e=>by cases e)).trans hfr
  ·simp only[World.cell?];rw[hn1];rfl
  ·simp only[World.cell?];rw[hn1];rfl
 case body=>
  rintro y pre x a' W hy hl ⟨⟨hp,hct,hcr,hfr,hsz⟩,hB⟩ ⟨B,hB2,hB3,rfl⟩ _;gi_wp2
  ·have hx:x.2.1=t:=by simpa using (by assumption:(x.2.1==t)=true)
   exact⟨(KeepsOthers.setCell _ _ _).from _,⟨rfl,pre,x,rfl,hp,hx,World.cell?_setCell_same' _ _ _ (by rw[hcr];rfl)⟩,hB.setCell (p:=⟨w.heap.size+1,0,none⟩) (by simp) _⟩
  ·have hx:x.2.1≠t:=by simpa using (by assumption:(x.2.1==t)=false)
   exact⟨KeepsFrom.refl _ _,Below.refl _ _,⟨λp hp'=>(Yaa.1 hp').elim (hp p) (λe=>by simp at e;subst e;exact hx),hct,hcr,hfr,hsz⟩,hB⟩
 case done=>
  rintro D ys W hD rfl ⟨⟨hne,hct,hcr,hfr,hsz⟩,hB⟩ hK;gi_wp2
  have hK':=(KeepsOthers.setCell W ⟨w.heap.size+1,0,none⟩ (.int .u8 0)).same D _ hK rfl;refine⟨by simp,.inl ⟨_,_,rfl,run_takeDeferred hK',?_⟩⟩;have hc5:=cell_kept (World.cell?_setCell_same' W ⟨w.heap.size+1,0,none⟩ (.int .u8 0) (by rw[hcr];rfl)) (grownBy_putObj' _ D (.deferred none)) (λr e=>by cases e;exact⟨_,hK',rfl⟩);have h0:getX l t=0:=Zji λc hc=>by obtain⟨i,hi,rfl⟩:=YaI.1 hc;have e1:=ZcA l i hi;rw[Yi hi,oinj] at e1;rw[e1];refine hne (i,el l i) ?_;simp only[bwL,List.mem_map,YaF];exact⟨l.length-1-i,by omega,by rw[show l.length-1-(l.length-1-i)=i by omega]⟩
  refine⟨.int .u8 0,?_,by rw[h0],(hB.setCell (p:=⟨w.heap.size+1,0,none⟩) (by simp) _).trans (belowK_b (w:=w) (Ye _) _ D _ _ (by simp at hD;omega) hK' rfl rfl)⟩;simp[results,Tryz.f258,go_sem,hc5]
 case stop=>
  rintro D c pre W hD ⟨k,hk,rfl⟩ ⟨⟨rfl,ini,last,e1,e2,e3,hcr⟩,hB⟩ hK;gi_wp2
  refine⟨by simp,.inl ⟨_,_,rfl,run_takeDeferred hK,?_⟩⟩;have hc5:=cell_kept hcr (grownBy_putObj' _ D (.deferred none)) (λr e=>by cases e;exact⟨_,hK,rfl⟩);obtain⟨k',rfl⟩:∃k',k=k'+1:=by
   cases k with
   |zero=>simp[bwL] at e1
   |succ k'=>exact⟨k',rfl⟩
  rw[ZII] at e1;obtain⟨rfl,e5⟩:=List.append_inj' e1 rfl;simp only[List.cons.injEq,and_true] at e5;subst e5;have hg:getX l t=(el l (l.length-1-k')).2:=ZSJ (i:=l.length-1-k') (by omega) e3 λq h1 h2=>by refine e2 (q,el l q) ?_;simp only[bwL,List.mem_map,YaF];exact⟨l.length-1-q,by omega,by rw[show l.length-1-(l.length-1-q)=q by omega]⟩
  refine⟨.int .u8 (el l (l.length-1-k')).2,?_,by rw[hg],hB.trans (belowK_b (w:=w) (Ye _) W D _ _ (by simp at hD;omega) hK rfl rfl)⟩;simp[results,Tryz.f258,go_sem,hc5]
def Z2B:List Sh:=[.one (.sl (R.Pq (R.int u16) (R.int u8))),.one (.int u16)]
def Z2C:Rs:=.one (.one (R.int u8))
def Z2D:En:=Zg Z2B Z2C (λa=>some (Nat.ble (List.length (α:=Cell) a.1) most)) (λa=>getX a.1 a.2)
theorem Z07 (l:List Cell) (h:∀c∈l,inR .u8 c.2) (t:Int):inR .u8 (getX l t):=by
 by_cases hx:∃c∈l,c.1=t
 ·have hne:flt t l≠[]:=by
   obtain⟨c,hc,he⟩:=hx;intro h0;have:c∈flt t l:=by simp[flt,hc,he]
   rw[h0] at this;simp at this
  rw[getX];cases hq:(flt t l).getLast? with
  |none=>exact absurd (List.getLast?_eq_none_iff.1 hq) hne
  |some c=>
   have:=List.mem_of_getLast? hq;simp only[flt,List.mem_filter] at this;exact h c this.1
 ·rw[Zji λc hc e=>hx ⟨c,hc,e⟩];exact⟨by decide,by decide⟩
theorem Z0N:Za Tryz.prog 258 Z2D:=by
 refine⟨Tryz.call258,λvs chk v hp hc x m w args hm hv=> ?_⟩;simp only at hp;split at hp
 ·rename_i a ha;simp only[oinj,pinj] at hp;obtain⟨rfl,rfl⟩:=hp;obtain⟨hargs,hin⟩:=Zce ha hv;obtain⟨l,t⟩:=a;have hle:List.length (α:=Cell) l<=most:=by
   cases hb:Nat.ble (List.length (α:=Cell) l) most with
   |true=>simpa [YH] using hb
   |false=>rw[hb] at hc;exact absurd rfl hc
  have hmost:most<=1073741824:=by decide
  match args,hargs with
  |[v0,v1],hargs=>
   have hv0:RA x (.lst (R.Pq (R.int u16) (R.int u8)) false false false l) v0:=hargs.1;have hv1:RA x (.int false .u16 t) v1:=hargs.2.1;have hl8:∀c∈(l:List Cell),inR .u8 c.2:=λc hc=>((hin.1:rcCE.ok l).2 c hc).2
   cases hv1;obtain⟨aa,len,cap,rfl,hheld⟩:∃aa len cap,v0=.slice aa len cap/\Held w.heap.size w (.slice aa len cap) l:=by
    cases hv0 with
    |lst0 _ _ _ _ _ _ a cap h1 h2 h3 _=>exact⟨a,0,cap,rfl,.inl ⟨a,cap,rfl,h1⟩⟩
    |lst _ _ _ _ _ _ p o cap c h0 hf hcap hml hz hr=>
     refine⟨_,_,cap,rfl,.inr ⟨p,o,cap,rfl,?_,λj hj=> ?_⟩⟩
     ·have hpos:0<List.length (α:=Cell) l:=List.length_pos_iff.2 h0;exact hm.fz_lt (hz 0 0 _ hpos rfl)
     ·have q1:=hm.fz _ _ _ (hz j 0 _ hj rfl);have q2:=hm.fz _ _ _ (hz j 1 _ hj rfl);have r1:=hr j 0 _ hj rfl;have r2:=hr j 1 _ hj rfl;generalize c j 0=c0 at q1 r1;generalize c j 1=c1 at q2 r2;cases r1;cases r2;exact⟨q1,q2⟩
   have key:=Z2R {fn:=λ_=>True} 3 trivial trivial trivial rfl (Ye _) aa len cap l t (by omega) w hheld;refine (key.calls (λk d hd=>by simp at hd)).mono ?_;rintro e w' ⟨rfl,hb⟩;have hs:Zdz w w':=⟨⟨hb.size,λk hk=>hb.block k hk⟩,hb.os,hb.tape,hb.output⟩;exact⟨_,x,rfl,.int _ _ _ _ (Z07 l hl8 t),hm.old hs.1,.refl x,hs⟩
  |[],hargs=>exact hargs.elim
  |[_],hargs=>exact hargs.2.elim
  |_::_::_::_,hargs=>exact hargs.2.2.elim
 ·simp at hp
end
end Go.Proofs.YtghoimllhpjkjaaGreat
open Go Go.S3 Go.Proofs
set_option maxRecDepth 100000
namespace Go.Proofs.YtghoimllhpjkjaaGreat
noncomputable section
abbrev Z1G:List Sh:=[Sh.agg (R.Pq (R.int u16) (R.int u8)),Sh.one (R.int u16)]
abbrev Z1H:Rs:=Rs.one (Sh.one (R.int i64))
def uAtT (c:Int×Int) (t:Int):RT (Int):=
 .Lf (uCmp c.1 t)
def uAt (c:Int×Int) (t:Int):Int:=(uAtT c t).val
def uAtE:En:=Zg Z1G Z1H (λ_=>none) (λa=>uAt a.1 a.2)
theorem ZNN:Za prog 296 uAtE:=
 pureQ 31 [(186,ZY1)] [] Z1G Z1H ⟨ZNK,Tv⟩ Tryz.func296 Tryz.call296 trivial (t:=λa=>uAtT a.1 a.2)
abbrev ZNJ:List Sh:=[Sh.one rcCE,Sh.one (R.int u16)]
abbrev ZAC:Rs:=Rs.tup [Sh.one (R.int i64),Sh.one R.bool]
def ZT7:LS:={n:=49,Sl:=[(0,.code (Sh.one rcCE)),(1,.code (Sh.one (R.int u16))),(2,.fix (A.clo 296 [])),(8,.code (Sh.one (R.int i64))),(9,.code (Sh.one (R.int i64))),(10,.code (Sh.one (R.int i64)))],Bx:=[],Sg:=[]}
def Zg2 (a:List (Int×Int)×Int×Int×Int×Int×PUnit):RT (Option (Go1 (List (Int×Int)×Int×Int×Int×Int×PUnit))):=
 let x1:=i64.wrap (shrI IntKind.u64 (IntKind.u64.wrap (i64.wrap (a.2.2.2.1+a.2.2.2.2.1))) 1)
 let x2:=decide (uAt (R.get (R.Pq (R.int u16) (R.int u8)) a.1 x1) a.2.1<0)
 .br (decide (a.2.2.2.1<a.2.2.2.2.1)) (.br (Ze x1 (List.length a.1)) (.Lf (some (Go1.cont (a.1,a.2.1,a.2.2.1,bif x2 then i64.wrap (x1+1) else a.2.2.2.1,bif x2 then a.2.2.2.2.1 else x1,PUnit.unit)))) (.Lf none)) (.Lf (some (Go1.brk (a.1,a.2.1,a.2.2.1,a.2.2.2.1,a.2.2.2.2.1,PUnit.unit))))
def ZFN:Ora:=Za2 false ZT7 Zg2 (λa=>(a.2.2.2.2.1-a.2.2.2.1).toNat+1)
theorem ZIZ:ZaH (envX prog [(296,uAtE)] [] 4095 8) (.block 0 (.loop (Z7 Tryz.f295.body 0))) ZFN:=
 loopP ⟨ZNN,Tv⟩
def ZqQ (x:List (Int×Int)) (t:Int):RT (Option (Int×Bool)):=
 let x1:List (Int×Int)×Int×Int×Int×Int×PUnit:=(x,t,iN (List.length x),0,iN (List.length x),())
 let x2:=runF false Zg2 (λa=>Int.toNat (a.2.2.2.2.1-a.2.2.2.1)+1) x1
 let x3:List (Int×Int)×Int×Int×Int×Int×PUnit:=(getO (false,x1) x2).2
 let x4:=x3.2
 let x5:=x4.2
 let x6:=x5.2.1
 let x7:=decide (x6<x5.1)
 let x8:=x3.1
 .br (okB x2) (.br (!x7||Ze x6 (List.length x8)) (.Lf (some ((bif x7 then x6 else x6,x7&&uAt (R.get (R.Pq (R.int u16) (R.int u8)) x8 x6) x4.1==0)))) (.Lf none)) (.Lf none)
def Zea (x:List (Int×Int)) (t:Int):Int×Bool:=getO ZAC.Df (ZqQ x t).val
def ZFO (x:List (Int×Int)) (t:Int):Bool:=okB (ZqQ x t).val
def ZWV:En:=ZP6 296 ZNJ ZAC (λa=>some (ZFO a.1 a.2)) (λa=>Zea a.1 a.2)
theorem ZT6:Za prog 295 ZWV:=
 ZKk (P:=prog) (n:=4095) (k:=8) (l:=[(296,uAtE)]) (ol:=[(0,ZFN)]) ⟨ZNN,Tv⟩ Tryz.func295 rfl (by kernel_rfl) Tryz.call295 ⟨ZIZ,Tv⟩ (g0:=296) (ts:=ZNJ) (rs:=ZAC) (t:=λa=>ZqQ a.1 a.2) (λa=>by kernel_rfl)
abbrev ZX8:List Sh:=[Sh.one rcCE,Sh.one (R.int u16),Sh.one (R.int u8)]
abbrev ZSc:Rs:=Rs.one (Sh.one rcCE)
def ZLF (m:List (Int×Int)) (t:Int) (v:Int):RT (Option (List (Int×Int))):=
 let x1:= !(v==0&& !(Zea m t).2)||Nat.ble (List.length m) most
 let x2:= !x1
 let x3:=v==0&& !(Zea m t).2||(!v==0||(!Nat.ble (List.length m) most||decide (0<=(Zea m t).1)&&decide ((Zea m t).1<iN (List.length m))&&decide (i64.wrap ((Zea m t).1+1)=(Zea m t).1+1)))
 let x4:= !x3
 let x5:=v==0&& !(Zea m t).2||(!v==0||Nat.ble (List.length m) most)
 let x6:= !x5
 let x7:=v==0&& !(Zea m t).2||(v==0||(!(Zea m t).2||Nat.ble (List.length m) most))
 .br (Zv0 m) (.br (!!Zpl m||(!Nat.ble (List.length m) most||(!Nat.ble (List.length (m++[(t,v)])) most||Zzg (m++[(t,v)])))) (.br (!!Zpl m||(!Nat.ble (List.length m) most||Nat.ble (List.length (m++[(t,v)])) most)) (.br (!!Zpl m||Nat.ble (List.length m) most) (.br (!Zpl m) (.Lf (some (ZSh (m++[(t,v)])))) (.br (ZFO m t) (.br (x2||(x4||(x6||(!x7||(v==0&& !(Zea m t).2||(v==0||(!(Zea m t).2||Ze (Zea m t).1 (List.length m)))))))) (.br (x2||(x4||(x6||x7))) (.br (x2||(x4||x5)) (.br (x2||x3) (.br (x1) (.br (v==0&& !(Zea m t).2) (.Lf (some (m))) (.br (v==0) (.Lf (some (delX m (Int.toNat (Zea m t).1)))) (.br (Zea m t).2 (.Lf (some (setI m (Zea m t).1 ((R.get (R.Pq (R.int u16) (R.int u8)) m (Zea m t).1).1,v)))) (.br (!Nat.ble (List.length m) most||decide (0<=(Zea m t).1)&&decide ((Zea m t).1<=iN (List.length m))&&Nat.ble (List.length m+1) most) (.br (Nat.ble (List.length m) most) (.Lf (some (insX m (Int.toNat (Zea m t).1) (t,v)))) (.Lf none)) (.Lf none))))) (.Lf none)) (.Lf none)) (.Lf none)) (.Lf none)) (.Lf none)) (.Lf none))) (.Lf none)) (.Lf none)) (.Lf none)) (.Lf none)
def mPut (m:List (Int×Int)) (t:Int) (v:Int):List (Int×Int):=getO ZSc.Df (ZLF m t v).val
def ZVN (m:List (Int×Int)) (t:Int) (v:Int):Bool:=okB (ZLF m t v).val
def Z2A:En:=Zg ZX8 ZSc (λa=>some (ZVN a.1 a.2.1 a.2.2)) (λa=>mPut a.1 a.2.1 a.2.2)
theorem Z0L:Za prog 246 Z2A:=
 ZnY (P:=prog) (n:=35253225784319) (k:=108) (l:=[(117,ZSg),(183,Zwx),(294,ZSa),(295,ZWV),(296,uAtE),(297,delE),(298,insE)]) (ol:=[]) ⟨Zv4,Zp5,ZR8,ZT6,ZNN,Z2V,Z2M,Tv⟩ Tryz.func246 rfl (by kernel_rfl) Tryz.call246 trivial (ts:=ZX8) (rs:=ZSc) (t:=λa=>ZLF a.1 a.2.1 a.2.2) (λa=>by kernel_rfl)
end
end Go.Proofs.YtghoimllhpjkjaaGreat
open Go Go.S3 Go.Proofs Go.Proofs.Cells
namespace Go.Proofs.YtghoimllhpjkjaaGreat
noncomputable section
theorem ZNL (x y:Int):decide (uCmp x y<0)=decide (x<y):=by
 simp only[uCmp,ZNM,RT.val,bne_self_eq_false,Yb];by_cases h:x<y
 ·simp[h]
 ·by_cases h2:x>y<;>simp[h,h2]
theorem ZY0 (x y:Int):(uCmp x y==0)=(x==y):=by
 simp only[uCmp,ZNM,RT.val,bne_self_eq_false,Yb];by_cases h:x<y
 ·have:x≠y:=by omega
  simp[h,this]
 ·by_cases h2:x>y
  ·have:x≠y:=by omega
   simp[h,h2,this]
  ·have:x=y:=by omega
   simp[h,h2,this]
theorem ZNO (c:Cell) (t:Int):uAt c t=uCmp c.1 t:=rfl
def At (m:List Cell) (t:Int) (i:Nat):Prop:=i<=m.length/\(∀k,k<i->(el m k).1<t)/\∀k,i<=k->k<m.length->t<=(el m k).1
theorem ZNj (m:List Cell) (t:Int) (hv:Vld m) (hm:m.length<=most):ZFO m t=true/\∃i,At m t i/\Zea m t=((i:Int),decide (i<m.length)&&((el m i).1==t)):=by
 have hms:=mst;obtain⟨r,hr,h1,i,hi,hR⟩:=ZH (fl:=false) (t:=Zg2) (fuel:=λa=>Int.toNat (a.2.2.2.2.1-a.2.2.2.1)+1)
  (λa=>∃lo hi:Nat,lo<=hi/\hi<=m.length/\(∀k,k<lo->(el m k).1<t)/\(∀k,hi<=k->k<m.length->t<=(el m k).1)/\a=(m,t,(m.length:Int),(lo:Int),(hi:Int),()))
  (λa=>Int.toNat (a.2.2.2.2.1-a.2.2.2.1)) (λr=>r.1=false/\∃i:Nat,At m t i/\r.2=(m,t,(m.length:Int),(i:Int),(i:Int),()))
  (by
   rintro a ⟨lo,hi,h1,h2,h3,h4,rfl⟩;by_cases hlt:lo<hi
   ·left;have d:decide ((lo:Int)<(hi:Int))=true:=by simpa using hlt
    have hmid:=ZpN lo hi (by omega);obtain⟨M,hM⟩:∃M,M=(lo+hi)/2:=⟨_,rfl⟩;rw[<-hM] at hmid;have r1:=ZaE m M (by omega);have g:=Zcn m M;have w:=ZhI M (by omega);by_cases hc:(el m M).1<t
    ·have dc:decide (uAt (el m M) t<0)=true:=by rw[ZNO,ZNL];simpa using hc
     refine⟨(m,t,(m.length:Int),((M+1:Nat):Int),(hi:Int),()),?_,⟨M+1,hi,by omega,h2,λk hk=> ?_,h4,rfl⟩,by simp only;omega⟩
     ·simp only[Zg2,RT.val,d,hmid,r1,g,dc,w,Ya]
     ·by_cases e:k=M
      ·subst e;exact hc
      ·by_cases e2:k<lo
       ·exact h3 k e2
       ·have:=Yay.1 hv.1 k M (by omega) (by omega) (by omega);have e1:=ZcA m k (by omega);have e3:=ZcA m M (by omega);rw[Yi (by omega),oinj] at e1 e3;rw[e1,e3] at this;omega
    ·have dc:decide (uAt (el m M) t<0)=false:=by rw[ZNO,ZNL];simpa using hc
     refine⟨(m,t,(m.length:Int),(lo:Int),(M:Int),()),?_,⟨lo,M,by omega,by omega,h3,λk hk hk2=> ?_,rfl⟩,by simp only;omega⟩
     ·simp only[Zg2,RT.val,d,hmid,r1,g,dc,Ya,Yb]
     ·by_cases e:k=M
      ·subst e;omega
      ·have:=Yay.1 hv.1 M k (by omega) (by omega) (by omega);have e1:=ZcA m k (by omega);have e3:=ZcA m M (by omega);rw[Yi (by omega),oinj] at e1 e3;rw[e1,e3] at this;omega
   ·right;left;have d:decide ((lo:Int)<(hi:Int))=false:=by simpa using hlt
    have:hi=lo:=by omega
    subst this
    exact⟨_,by simp only[Zg2,RT.val,d,Yb],rfl,hi,⟨h2,h3,h4⟩,rfl⟩)
  (m,t,iN m.length,0,iN m.length,()) ⟨0,m.length,Yu _,Ye _,λk h=>by omega,λk h1 h2=>by omega,rfl⟩ (by simp only[iN];omega)
 obtain⟨r1,r2⟩:=r;simp only at h1 hR;subst h1 hR;have hd:decide ((i:Int)<(m.length:Int))=decide (i<m.length):=by simp
 have hv:(ZqQ m t).val=some ((i:Int),decide (i<m.length)&&((el m i).1==t)):=by
  have g:=Zcn m i;by_cases hlt:i<m.length
  ·have r1:=ZaE m i hlt;have hd:decide ((i:Int)<(m.length:Int))=true:=by simpa using hlt
   simp only[ZqQ,RT.val,hr,okB,getO,Ya,hd,r1,Yf,Yj,g,ZNO,ZY0,hlt,decide_true,YX]
  ·have hd:decide ((i:Int)<(m.length:Int))=false:=by simpa using hlt
   simp only[ZqQ,RT.val,hr,okB,getO,Ya,Yb,hd,Yk,Ys,hlt,decide_false,YZ]
 exact⟨by simp only[ZFO,hv];rfl,i,hi,by simp only[Zea,hv,getO]⟩
theorem ZP4:∀(i:Nat) (m:List Cell) (c:Cell),i<=m.length->(∀k,k<i->(el m k).1<c.1)->putX m c=m.take i++putX (m.drop i) c
 |0,m,c,_,_=>by simp
 |i+1,[],c,h,_=>by simp at h
 |i+1,x::m,c,h,hk=>by have h0:x.1<c.1:=hk 0 (by omega);rw[putX,YV h0,ZP4 i m c (by simpa using h) (λk h'=>hk (k+1) (by omega))];simp
theorem ZP3 (m:List Cell) (t v:Int) (i:Nat) (h:At m t i):
  (v=0->(decide (i<m.length)&&((el m i).1==t))=false->putX m (t,v)=m)/\
  (v=0->(decide (i<m.length)&&((el m i).1==t))=true->putX m (t,v)=delX m i)/\
  (v≠0->(decide (i<m.length)&&((el m i).1==t))=true->putX m (t,v)=setI m (i:Int) ((el m i).1,v))/\
  (v≠0->(decide (i<m.length)&&((el m i).1==t))=false->putX m (t,v)=insX m i (t,v)):=by
 obtain⟨h1,h2,h3⟩:=h;have hp:=ZP4 i m (t,v) h1 h2;by_cases hlt:i<m.length
 ·have hd:=Zwr m i hlt;have hge:=h3 i (Ye _) hlt;have hn:¬(el m i).1<t:=by omega
  rw[hd] at hp;simp only[putX,Y0 hn] at hp;simp only[hlt,decide_true,YX];refine⟨λhz he=> ?_,λhz he=> ?_,λhz he=> ?_,λhz he=> ?_⟩
  ·have he:(el m i).1≠t:=by simpa using he
   rw[hp,YV hz,Y0 he,<-hd,Yad]
  ·have he:(el m i).1=t:=by simpa using he
   rw[hp,YV hz,YV he,delX]
  ·have he:(el m i).1=t:=by simpa using he
   rw[hp,Y0 hz,YV he,setI,Int.toNat_natCast,he,List.set_eq_take_append_cons_drop,YV hlt]
  ·have he:(el m i).1≠t:=by simpa using he
   rw[hp,Y0 hz,Y0 he,insX,<-hd];simp
 ·have he:i=m.length:=by omega
  subst he;simp only[YaS,putX] at hp;simp only[Nat.lt_irrefl,decide_false,YZ];refine⟨λhz _=> ?_,λhz he=>by simp at he,λhz he=>by simp at he,λhz _=> ?_⟩
  ·rw[hp,YV hz];simp
  ·rw[hp,Y0 hz,insX];simp
theorem ZVL (m:List Cell) (t v:Int) (hm:m.length+1<=most):ZVN m t v=true/\mPut m t v=putX (normX m) (t,v):=by
 have hms:=mst;have hv1:=ZR2 m (by omega);have hb1:Nat.ble m.length most=true:=by rw[YH];omega
 have hv:(ZLF m t v).val=some (putX (normX m) (t,v)):=by
  cases hval:vldB m with
  |false=>
   have hl:(m++[(t,v)]).length<=most:=by simp;omega
   have hb2:Nat.ble (m++[(t,v)]).length most=true:=by rw[YH];exact hl
   obtain⟨n1,n2⟩:=Zpg (m++[(t,v)]) hl;simp only[ZLF,RT.val,hv1.1,hv1.2,hval,hb1,hb2,n1,n2,Zkd,Yk,Yf,Yh,Yag,Ya]
  |true=>
   have hV:=Zlk.1 hval;obtain⟨f1,i,hi,f2⟩:=ZNj m t hV (by omega);obtain⟨q1,q2,q3,q4⟩:=ZP3 m t v i hi;have hile:decide ((i:Int)<=iN m.length)=true:=by simpa [iN] using hi.1
   have hi0:decide ((0:Int)<=(i:Int))=true:=by simp
   have hb3:Nat.ble (m.length+1) most=true:=by rw[YH];omega
   have w:=ZhI i (by have:=hi.1;omega);have g:=Zcn m i;rw[Zfb hV];simp only[ZLF,RT.val,hv1.1,hv1.2,hval,hb1,f1,f2,hile,hi0,hb3,w,g,Yf,Yk,Ys,Yh,Yx,Yj,YW,YX,Ya,Yb,Int.toNat_natCast];cases hfd:(decide (i<m.length)&&((el m i).1==t)) with
   |true=>
    have hlt:i<m.length:=by rw[Yc,Ym] at hfd;exact hfd.1
    have r1:=ZaE m i hlt;have hd:decide ((i:Int)<iN m.length)=true:=by simpa [iN] using hlt
    have hw:decide (((i+1:Nat):Int)=(i:Int)+1)=true:=by simp
    by_cases hz:v=0
    ·have hz1:(v==0)=true:=by simpa using hz
     simp only[hz1,r1,hd,hw,q2 hz hfd,Yf,Yk,Y6,YY,Ys,Yh,Yx,Yj,YW,Ya,Yb]
    ·have hz1:(v==0)=false:=by simpa using hz
     simp only[hz1,r1,hd,hw,q3 hz hfd,Yf,Yk,YZ,Y6,YY,Ys,Yh,Yx,Yj,YW,Ya,Yb]
   |false=>
    by_cases hz:v=0
    ·have hz1:(v==0)=true:=by simpa using hz
     simp only[hz1,q1 hz hfd,Yf,Yk,Y6,YY,Ys,Yh,Yx,Yj,YW,Ya,Yb]
    ·have hz1:(v==0)=false:=by simpa using hz
     simp only[hz1,q4 hz hfd,Yf,Yk,YZ,Y6,YY,Ys,Yh,Yx,Yj,YW,Ya,Yb]
 exact⟨by simp only[ZVN,hv];rfl,by simp only[mPut,hv,getO]⟩
abbrev ZuL:List Sh:=[Sh.one rcRG,Sh.one rcCE,Sh.one (R.int u16)]
abbrev ZlH:Rs:=Rs.one (Sh.one (R.int u8))
def Zn9 (l:List (QT3)) (m:List (Int×Int)) (t:Int):RT (Option (Int)):=
 .br (ZHC l t) (.br (decide (ZDC l t<0)) (.Lf (some (255))) (.br (Nat.ble (List.length m) most) (.Lf (some (Cells.getX m t))) (.Lf none))) (.Lf none)
def ZQC (l:List (QT3)) (m:List (Int×Int)) (t:Int):Int:=getO ZlH.Df (Zn9 l m t).val
def ZCJ (l:List (QT3)) (m:List (Int×Int)) (t:Int):Bool:=okB (Zn9 l m t).val
def ZZ8:En:=Zg ZuL ZlH (λa=>some (ZCJ a.1 a.2.1 a.2.2)) (λa=>ZQC a.1 a.2.1 a.2.2)
theorem ZQB:Za prog 204 ZZ8:=
 pureP 127 [(245,ZRc),(258,Z2D)] [] ZuL ZlH ⟨ZHy,Z0N,Tv⟩ Tryz.func204 Tryz.call204 trivial (t:=λa=>Zn9 a.1 a.2.1 a.2.2)
abbrev ZnZ:List Sh:=[Sh.one rcRG,Sh.one rcCE,Sh.one (R.int u16),Sh.one (R.int u8)]
abbrev ZiX:Rs:=Rs.one (Sh.one rcCE)
def ZiW (l:List (QT3)) (m:List (Int×Int)) (t:Int) (v:Int):RT (Option (List (Int×Int))):=
 let x1:=decide (ZDC l t>=0)&&(R.get (R.Pq (R.int u16) (R.Pq (R.int u16) (R.Pq R.bool (R.int i64)))) l (ZDC l t)).2.2.1
 .br (ZHC l t) (.br (!decide (ZDC l t>=0)||Ze (ZDC l t) (List.length l)) (.br (!x1||ZVN m t v) (.br (x1) (.Lf (some (mPut m t v))) (.br (Zzg m) (.Lf (some (ZSh m))) (.Lf none))) (.Lf none)) (.Lf none)) (.Lf none)
def ZCz (l:List (QT3)) (m:List (Int×Int)) (t:Int) (v:Int):List (Int×Int):=getO ZiX.Df (ZiW l m t v).val
def Zuy (l:List (QT3)) (m:List (Int×Int)) (t:Int) (v:Int):Bool:=okB (ZiW l m t v).val
def ZU8:En:=Zg ZnZ ZiX (λa=>some (Zuy a.1 a.2.1 a.2.2.1 a.2.2.2)) (λa=>ZCz a.1 a.2.1 a.2.2.1 a.2.2.2)
theorem ZKq:Za prog 187 ZU8:=
 pureP 1023 [(117,ZSg),(245,ZRc),(246,Z2A)] [] ZnZ ZiX ⟨Zv4,ZHy,Z0L,Tv⟩ Tryz.func187 Tryz.call187 trivial (t:=λa=>ZiW a.1 a.2.1 a.2.2.1 a.2.2.2)
abbrev ZGE:List Sh:=[Sh.one (R.int i64)]
abbrev ZGF:Rs:=Rs.one (Sh.one (R.int i64))
def ZPe (n:Int):RT (Int):=
 .Lf (if (if 100<n then 100 else n)>0 then if 100<n then 100 else n else 0)
def ZPf (n:Int):Int:=(ZPe n).val
def ZB6:En:=Zg ZGE ZGF (λ_=>none) (λa=>ZPf a)
theorem Zye:Za prog 301 ZB6:=
 pureQ 7 [] [] ZGE ZGF trivial Tryz.func301 Tryz.call301 trivial (t:=λa=>ZPe a)
abbrev Zs2:List Sh:=[Sh.one rcRG,Sh.one (R.int u16)]
abbrev Zlr:Rs:=Rs.one (Sh.one (R.int i64))
def ZmO (l:List (QT3)) (t:Int):RT (Option (Int)):=
 .br (ZnP l t) (.br (!decide (Zj2 l t>=0)||Ze (Zj2 l t) (List.length l)) (.br (decide (Zj2 l t>=0)) (.Lf (some (ZPf (R.get (R.Pq (R.int u16) (R.Pq (R.int u16) (R.Pq R.bool (R.int i64)))) l (Zj2 l t)).2.2.2))) (.Lf (some (0)))) (.Lf none)) (.Lf none)
def ZOr (l:List (QT3)) (t:Int):Int:=getO Zlr.Df (ZmO l t).val
def ZA0 (l:List (QT3)) (t:Int):Bool:=okB (ZmO l t).val
def ZZi:En:=Zg Zs2 Zlr (λa=>some (ZA0 a.1 a.2)) (λa=>ZOr a.1 a.2)
theorem ZOq:Za prog 300 ZZi:=
 pureP 63 [(43,ZGS),(301,ZB6)] [] Zs2 Zlr ⟨ZtC,Zye,Tv⟩ Tryz.func300 Tryz.call300 trivial (t:=λa=>ZmO a.1 a.2)
abbrev ZmQ:List Sh:=[Sh.one rcRG]
abbrev ZiC:Rs:=Rs.one (Sh.one (R.int i64))
def ZJd:LS:={n:=30,Sl:=[(2,.code (Sh.one (R.int i64))),(8,.code (Sh.one rcRG)),(9,.code (Sh.one (R.int i64))),(10,.code (Sh.one (R.int i64)))],Bx:=[],Sg:=[]}
def ZdV (a:QT29):RT (Option (Go1 (QT29))):=
 let x1:QT3:=R.get (R.Pq (R.int u16) (R.Pq (R.int u16) (R.Pq R.bool (R.int i64)))) a.2.1 a.2.2.2.1
 let x2:=x1.2
 let x3:=x2.2.2
 let x4:List (QT3)×Int×Int×PUnit:=(a.2.1,a.2.2.1,a.2.2.2.1,PUnit.unit)
 .br (decide (a.2.2.2.1<a.2.2.1)) (.br (Ze a.2.2.2.1 (List.length a.2.1)) (.br (decide (x2.1<x1.1)||(decide (x3<0)||decide (x3>100))) (.Lf (some (Go1.ret (1,x4)))) (.Lf (some (Go1.cont (a.1,a.2.1,a.2.2.1,i64.wrap (a.2.2.2.1+1),PUnit.unit))))) (.Lf none)) (.Lf (some (Go1.brk (a.1,x4))))
def Zq6:Ora:=Za2 true ZJd ZdV (λa=>1000000000000)
theorem ZxN:ZaH (envX prog [] [] 31 8) (.block 0 (.loop (Z7 Tryz.f247.body 0))) Zq6:=
 loopP trivial
def Zfy (l:List (QT3)):RT (Option (Int)):=
 let x1:=runF true ZdV (λa=>1000000000000) (0,l,iN (List.length l),0,())
 let x2:=getO (false,0,l,iN (List.length l),0,()) x1
 .br (decide (iN (List.length l)>16)) (.Lf (some (3))) (.br (okB x1) (.br x2.1 (.Lf (some x2.2.1)) (.Lf (some (0)))) (.Lf none))
def ZA2 (l:List (QT3)):Int:=getO ZiC.Df (Zfy l).val
def Zs5 (l:List (QT3)):Bool:=okB (Zfy l).val
def ZUu:En:=Zg ZmQ ZiC (λa=>some (Zs5 a)) (λa=>ZA2 a)
theorem ZJc:Za prog 247 ZUu:=
 pureP 31 [] [(0,Zq6)] ZmQ ZiC trivial Tryz.func247 Tryz.call247 ⟨ZxN,Tv⟩ (t:=λa=>Zfy a)
def sm {α:Type} (l:List α):Bool:=Nat.ble (l.length+1) most
def smC (l:List (Int×Int)):Bool:=sm l
def smB (l:List Int):Bool:=sm l
def smG (l:List ZM):Bool:=sm l
variable {α:Type}
theorem ZkM {l:List α}:sm l=true↔l.length+1<=most:=by simp[sm]
theorem ZmB {l:List α} (h:sm l=true):l.length<=most:=by have:=ZkM.1 h;omega
theorem ZV8 (l:List ZM) (t:Int): -1<=Zbi l t/\(Zbi l t<0\/∃i:Nat,i<l.length/\Zbi l t=i):=by
 unfold Zbi;split
 ·rename_i h;exact⟨by omega,.inr ⟨_,h,rfl⟩⟩
 ·exact⟨by omega,.inl (by omega)⟩
theorem ZpY (l:List ZM) (t:Int) (h:0<=Zbi l t):Ze (Zbi l t) l.length=true:=by
 rcases (ZV8 l t).2 with h1|⟨i,hi,e⟩
 ·omega
 ·rw[e];exact ZaE l i hi
def ZaO (l:List ZM) (m:List Cell) (t v:Int):List Cell:=bif decide (Zbi l t>=0)&&(R.get GR l (Zbi l t)).2.2.1 then putX (normX m) (t,v) else normX m
def limX (n:Int):Int:=if (if 100<n then 100 else n)>0 then if 100<n then 100 else n else 0
def ZwM (l:List ZM) (t:Int):Int:=bif decide (Zbi l t>=0) then limX (R.get GR l (Zbi l t)).2.2.2 else 0
theorem ZQa (l:List ZM) (m:List Cell) (t:Int) (hl:l.length<=most) (hm:m.length<=most):ZCJ l m t=true/\ZQC l m t=ZeH l m t:=by
 have h1:=Zyu l t hl;have hb:Nat.ble m.length most=true:=by rw[YH];exact hm
 have hv:(Zn9 l m t).val=some (ZeH l m t):=by simp only[Zn9,RT.val,h1.1,h1.2,hb,Ya,ZeH];cases decide (Zbi l t<0)<;>rfl
 exact⟨by simp only[ZCJ,hv];rfl,by simp only[ZQC,hv,getO]⟩
theorem ZKi (l:List ZM) (m:List Cell) (t v:Int) (hl:l.length<=most) (hm:m.length+1<=most):Zuy l m t v=true/\ZCz l m t v=ZaO l m t v:=by
 have h1:=Zyu l t hl;have h2:=ZVL m t v hm;have h3:=Zpg m (by omega);have hv:(ZiW l m t v).val=some (ZaO l m t v):=by
  have hr:(!decide (Zbi l t>=0)||Ze (Zbi l t) l.length)=true:=by
   by_cases h:0<=Zbi l t
   ·rw[ZpY l t h];simp
   ·have:decide (Zbi l t>=0)=false:=by simp;omega
    rw[this];rfl
  simp only[ZiW,RT.val,h1.1,h1.2,h2.1,h2.2,h3.1,h3.2,hr,Yh,Ya,ZaO];cases decide (Zbi l t>=0)&&(R.get GR l (Zbi l t)).2.2.1<;>rfl
 exact⟨by simp only[Zuy,hv];rfl,by simp only[ZCz,hv,getO]⟩
theorem ZI2 (l:List ZM) (m:List Cell) (t v:Int) (hl:l.length<=most) (hm:m.length+1<=most):Zs1 l m t v=true/\ZAZ l m t v=ZaO l m t v:=by
 have h1:=Zix l t hl;have h2:=ZUl m t v hm;have h3:=ZmJ m hm;have hv:(ZiA l m t v).val=some (ZaO l m t v):=by
  have hr:(!decide (Zbi l t>=0)||Ze (Zbi l t) l.length)=true:=by
   by_cases h:0<=Zbi l t
   ·rw[ZpY l t h];simp
   ·have:decide (Zbi l t>=0)=false:=by simp;omega
    rw[this];rfl
  simp only[ZiA,RT.val,h1.1,h1.2,h2.1,h2.2,h3.1,h3.2,hr,Yh,Ya,ZaO];cases decide (Zbi l t>=0)&&(R.get GR l (Zbi l t)).2.2.1<;>rfl
 exact⟨by simp only[Zs1,hv];rfl,by simp only[ZAZ,hv,getO]⟩
theorem ZI3 (l:List ZM) (t:Int) (hl:l.length<=most):ZA0 l t=true/\ZOr l t=ZwM l t:=by
 have h1:=Zix l t hl;have hv:(ZmO l t).val=some (ZwM l t):=by
  have hr:(!decide (Zbi l t>=0)||Ze (Zbi l t) l.length)=true:=by
   by_cases h:0<=Zbi l t
   ·rw[ZpY l t h];simp
   ·have:decide (Zbi l t>=0)=false:=by simp;omega
    rw[this];rfl
  simp only[ZmO,RT.val,h1.1,h1.2,hr,Ya,ZwM];cases decide (Zbi l t>=0)<;>rfl
 exact⟨by simp only[ZA0,hv];rfl,by simp only[ZOr,hv,getO]⟩
def badR (r:ZM):Bool:=decide (r.2.1<r.1)||(decide (r.2.2.2<0)||decide (r.2.2.2>100))
def Zd8 (l:List ZM):Int:=bif decide (iN l.length>16) then 3 else bif l.any badR then 1 else 0
theorem ZAQ (l:List ZM) (hl:l.length<=most):Zs5 l=true/\ZA2 l=Zd8 l:=by
 have hms:=mst;obtain⟨r,hr,hR⟩:=ZH (fl:=true) (t:=ZdV) (fuel:=λ_=>1000000000000)
  (λx=>∃i:Nat,i<=l.length/\(∀k,k<i->badR (rg l k)=false)/\x=(0,l,(l.length:Int),(i:Int),()))
  (λx=>Int.toNat (x.2.2.1-x.2.2.2.1)) (λr=>(r.1=false/\l.any badR=false)\/(r.1=true/\l.any badR=true/\r.2.1=1))
  (by
   rintro x ⟨i,hi,hk,rfl⟩;by_cases hlt:i<l.length
   ·have d:decide ((i:Int)<(l.length:Int))=true:=by simpa using hlt
    have r1:=ZaE l i hlt;have g1:=ZYd l i;cases hh:badR (rg l i) with
    |false=>
     left;refine⟨(0,l,(l.length:Int),((i+1:Nat):Int),()),?_,⟨i+1,hlt,λk hk'=> ?_,rfl⟩,by simp only;omega⟩
     ·simp only[badR] at hh;simp only[ZdV,RT.val,d,r1,g1,hh,Ya,Yb,ZhI i (by omega)]
     ·by_cases e:k=i
      ·subst e;exact hh
      ·exact hk k (by omega)
    |true=>
     right;right;refine⟨(1,l,(l.length:Int),(i:Int),()),rfl,?_,.inr ⟨rfl,List.any_eq_true.2 ⟨rg l i,?_,hh⟩,rfl⟩⟩
     ·simp only[badR] at hh;simp only[ZdV,RT.val,d,r1,g1,hh,Ya]
     ·rw[<-ZxA l i hlt];exact List.getElem_mem hlt
   ·right;left;have d:decide ((i:Int)<(l.length:Int))=false:=by simpa using hlt
    refine⟨_,by simp only[ZdV,RT.val,d,Yb];rfl,.inl ⟨rfl,?_⟩⟩;rw[List.any_eq_false];intro q hq;obtain⟨k,hk',rfl⟩:=YaI.1 hq
    rw[ZxA l k hk',hk k (by omega)];simp)
  (0,l,iN l.length,0,()) ⟨0,Yu _,λk h=>by omega,rfl⟩ (by simp only[iN];omega)
 have hv:(Zfy l).val=some (Zd8 l):=by
  cases hd:decide (iN l.length>16) with
  |true=>simp only[Zfy,RT.val,hd,Ya,Zd8]
  |false=>
   rcases hR with ⟨h1,h2⟩|⟨h1,h2,h3⟩
   ·simp only[Zfy,RT.val,hd,hr,okB,getO,Ya,Yb,h1,h2,Zd8]
   ·simp only[Zfy,RT.val,hd,hr,okB,getO,Ya,Yb,h1,h2,h3,Zd8]
 exact⟨by simp only[Zs5,hv];rfl,by simp only[ZA2,hv,getO]⟩
theorem ZhQ {P:Program} {f:FuncId} {ts:List Sh} {rs:Rs} {C:HL ts->Bool} {F G:HL ts->rs.den} (h:Za P f (Zg ts rs (λa=>some (C a)) F)) {pre:HL ts->Bool} (hp:∀a,pre a=true->C a=true/\F a=G a):
  Za P f (Zg ts rs (λa=>some (pre a)) G):=by
 have key:∀a,some (pre a)≠some false->pre a=true:=λa h=>by cases hq:pre a with
  |true=>rfl
  |false=>rw[hq] at h;exact absurd rfl h
 exact h.pure_congr (λa _ hq=>by rw[(hp a (key a hq)).1];simp) (λa _ hq=>(hp a (key a hq)).2)
def Zlt:En:=Zg Zs4 Zls (λa=>some (smC a)) (λa=>vldB a)
theorem ZjY:Za prog 44 Zlt:=ZhQ ZmP λa h=>ZN7 a (ZmB h)
def Zpq:En:=Zg ZEj Zv5 (λa=>some (smC a)) (λa=>normX a)
theorem Zpp:Za prog 117 Zpq:=ZhQ Zv4 λa h=>Zpg a (ZmB h)
def Zto:En:=Zg ZBo Ztm (λa=>some (smC a)) (λa=>normX a)
theorem Zm2:Za prog 92 Zto:=ZhQ Ztl λa h=>ZmJ a (ZkM.1 h)
def ZGf:En:=Zg Ztb Zlw (λa=>some (smC a.1)) (λa=>decide ((a.1:List Cell)=a.2))
theorem ZJi:Za prog 39 ZGf:=ZhQ ZOw λa h=>ZOc a.1 a.2 (ZmB h)
def ZuM:En:=Zg ZuL ZlH (λa=>some (smG a.1&&smC a.2.1)) (λa=>ZeH a.1 a.2.1 a.2.2)
theorem ZKv:Za prog 204 ZuM:=ZhQ ZQB λa h=>by rw[Yc] at h;exact ZQa a.1 a.2.1 a.2.2 (ZmB h.1) (ZmB h.2)
def ZGn:En:=Zg Ztd Zlx (λa=>some (smG a.1&&smC a.2.1)) (λa=>ZeH a.1 a.2.1 a.2.2)
theorem ZJj:Za prog 102 ZGn:=ZhQ ZOF λa h=>by rw[Yc] at h;exact ZOd a.1 a.2.1 a.2.2 (ZmB h.1) (ZmB h.2)
def ZgB:En:=Zg ZnZ ZiX (λa=>some (smG a.1&&smC a.2.1)) (λa=>ZaO a.1 a.2.1 a.2.2.1 a.2.2.2)
theorem Zh2:Za prog 187 ZgB:=ZhQ ZKq λa h=>by rw[Yc] at h;exact ZKi a.1 a.2.1 a.2.2.1 a.2.2.2 (ZmB h.1) (ZkM.1 h.2)
def ZmN:En:=Zg ZmL ZiB (λa=>some (smG a.1&&smC a.2.1)) (λa=>ZaO a.1 a.2.1 a.2.2.1 a.2.2.2)
theorem ZmM:Za prog 101 ZmN:=ZhQ ZI9 λa h=>by rw[Yc] at h;exact ZI2 a.1 a.2.1 a.2.2.1 a.2.2.2 (ZmB h.1) (ZkM.1 h.2)
def ZF5:En:=Zg Zs2 Zlr (λa=>some (smG a.1)) (λa=>ZwM a.1 a.2)
theorem ZJa:Za prog 300 ZF5:=ZhQ ZOq λa h=>ZI3 a.1 a.2 (ZmB h)
def ZxO:En:=Zg ZmQ ZiC (λa=>some (smG a)) (λa=>Zd8 a)
theorem ZA1:Za prog 247 ZxO:=ZhQ ZJc λa h=>ZAQ a (ZmB h)
abbrev ZFc:List Sh:=[Sh.one (R.int u8),Sh.one (R.int u8),Sh.one (R.int u8)]
abbrev ZFd:Rs:=Rs.one (Sh.one (R.int u8))
def ZMC (a:Int) (b:Int) (c:Int):RT (Int):=
 .Lf (xorI u8 (xorI u8 (xorI u8 a b) c) 165)
def Zw0 (a:Int) (b:Int) (c:Int):Int:=(ZMC a b c).val
def Zme:En:=Zg ZFc ZFd (λ_=>none) (λa=>Zw0 a.1 a.2.1 a.2.2)
theorem Zin:Za prog 134 Zme:=
 pureQ 127 [] [] ZFc ZFd trivial Tryz.func134 Tryz.call134 trivial (t:=λa=>ZMC a.1 a.2.1 a.2.2)
abbrev ZWF:List Sh:=[Sh.one R.bool,Sh.one (R.int i64)]
abbrev ZMI:Rs:=Rs.one (Sh.one (R.int u8))
def ZTM (o:Bool) (n:Int):RT (Option (Int)):=
 .br (!o||decide (0<=n)) (.br (o) (.Lf (some (shlI u8 1 n))) (.Lf (some (0)))) (.Lf none)
def wBit (o:Bool) (n:Int):Int:=getO ZMI.Df (ZTM o n).val
def Zfq (o:Bool) (n:Int):Bool:=okB (ZTM o n).val
def ZYC:En:=Zg ZWF ZMI (λa=>some (Zfq a.1 a.2)) (λa=>wBit a.1 a.2)
theorem ZMH:Za prog 133 ZYC:=
 pureP 31 [] [] ZWF ZMI trivial Tryz.func133 Tryz.call133 trivial (t:=λa=>ZTM a.1 a.2)
abbrev ZMy:List Sh:=[]
abbrev ZMz:Rs:=Rs.one (Sh.agg Zds)
def ZWD:RT INPT:=
 .Lf ((true,false,false,false,false,false,false,false,0,0))
def ZW:INPT:=(ZWD).val
def ZE8:En:=Zg ZMy ZMz (λ_=>none) (λa=>ZW)
theorem Zsj:Za prog 190 ZE8:=
 pureQ 1 [] [] ZMy ZMz trivial Tryz.func190 Tryz.call190 trivial (t:=λa=>ZWD)
abbrev ZwW:List Sh:=[Sh.one (R.sl (R.int u8))]
abbrev Zl9:Rs:=Rs.one (Sh.one (R.sl Zds))
def ZIQ:LS:={n:=83,Sl:=[(0,.code (Sh.one (R.sl (R.int u8)))),(3,.tip 0),(4,.code (Sh.one (R.int i64)))],Bx:=[],Sg:=[⟨Zds,195,true⟩]}
def ZcX (a:List Int×Int×List INPT×PUnit):RT (Option (Go1 (List Int×Int×List INPT×PUnit))):=
 let x1:= !Ze (i64.wrap (a.2.1+1)) (List.length a.1)||Ze (i64.wrap (a.2.1+2)) (List.length a.1)
 let x2:= !Ze (i64.wrap (a.2.1+3)) (List.length a.1)||x1
 let x3:= !x2
 let x4:= !Ze (i64.wrap (a.2.1+3)) (List.length a.1)||Ze (i64.wrap (a.2.1+1)) (List.length a.1)
 let x5:= !x4
 let p1:=(!Ze (i64.wrap (a.2.1+3)) (List.length a.1))::x5::x3::(!Ze a.2.1 (List.length a.1))::[]
 let x6:=R.get (R.int u8) a.1 (i64.wrap (a.2.1+3)) !=Zw0 (R.get (R.int u8) a.1 a.2.1) (R.get (R.int u8) a.1 (i64.wrap (a.2.1+1))) (R.get (R.int u8) a.1 (i64.wrap (a.2.1+2)))
 let x7:= !x6||Nat.ble (List.length (a.2.2.1++[ZW])) most
 let x8:= !x7
 let p2:=x6::x8::p1
 let x9:List INPT:=a.2.2.1++[(andI u8 (R.get (R.int u8) a.1 a.2.1) 1==0,andI u8 (R.get (R.int u8) a.1 a.2.1) 2 !=0,andI u8 (R.get (R.int u8) a.1 a.2.1) 4 !=0,andI u8 (R.get (R.int u8) a.1 a.2.1) 8 !=0,andI u8 (R.get (R.int u8) a.1 a.2.1) 16 !=0,andI u8 (R.get (R.int u8) a.1 a.2.1) 32 !=0,andI u8 (R.get (R.int u8) a.1 a.2.1) 64 !=0,andI u8 (R.get (R.int u8) a.1 a.2.1) 128 !=0,R.get (R.int u8) a.1 (i64.wrap (a.2.1+1)),R.get (R.int u8) a.1 (i64.wrap (a.2.1+2)))]
 let x10:= !Ze (i64.wrap (a.2.1+1)) (List.length a.1)||(!Ze (i64.wrap (a.2.1+2)) (List.length a.1)||Nat.ble (List.length x9) most)
 let x11:= !x10
 let p3:=x11::p2
 let p4:=(!x1)::p3
 .br (decide (i64.wrap (a.2.1+4)<=iN (List.length a.1))&&decide (iN (List.length a.2.2.1)<65536)) (.br (orR p4 (Ze (i64.wrap (a.2.1+1)) (List.length a.1))) (.br (orR p3 x1) (.br (orR p2 x10) (.br (orR p1 x7) (.br (!Ze a.2.1 (List.length a.1)||(x3||(x5||Ze (i64.wrap (a.2.1+3)) (List.length a.1)))) (.br (!Ze a.2.1 (List.length a.1)||(x3||x4)) (.br (!Ze a.2.1 (List.length a.1)||x2) (.br (Ze a.2.1 (List.length a.1)) (.Lf (some (Go1.cont (a.1,i64.wrap (a.2.1+4),bif x6 then a.2.2.1++[ZW] else x9,PUnit.unit)))) (.Lf none)) (.Lf none)) (.Lf none)) (.Lf none)) (.Lf none)) (.Lf none)) (.Lf none)) (.Lf none)) (.Lf (some (Go1.brk (a.1,a.2.1,a.2.2.1,PUnit.unit))))
def ZqA:Ora:=Za2 false ZIQ ZcX (λa=>1000000000000)
theorem ZwX:ZaH (envX prog [(134,Zme),(190,ZE8)] [] 63 8) (.block 0 (.loop (Z7 Tryz.f120.body 0))) ZqA:=
 loopP ⟨Zin,Zsj,Tv⟩
def Zii (l:List Int):RT (Option (List INPT)):=
 .br (okB (runF false ZcX (λa=>1000000000000) (l,0,[],()))) (.Lf (some (getO (false,l,0,[],()) (runF false ZcX (λa=>1000000000000) (l,0,[],()))).2.2.2.1)) (.Lf none)
def Zbg (l:List Int):List INPT:=getO Zl9.Df (Zii l).val
def Zlj (l:List Int):Bool:=okB (Zii l).val
def Zsl:En:=Zg ZwW Zl9 (λa=>some (Zlj a)) (λa=>Zbg a)
theorem Zqy:Za prog 120 Zsl:=
 pureP 63 [(134,Zme),(190,ZE8)] [(0,ZqA)] ZwW Zl9 ⟨Zin,Zsj,Tv⟩ Tryz.func120 Tryz.call120 ⟨ZwX,Tv⟩ (t:=λa=>Zii a)
abbrev ZMA:Rs:=Rs.one (Sh.one (R.sl (R.int u8)))
def ZdU (a:List INPT×Int×Int×List Int×PUnit):RT (Option (Go1 (List INPT×Int×Int×List Int×PUnit))):=
 let x1:INPT:=R.get Zds a.1 a.2.2.1
 let x2:= !x1.1
 let x3:=Zfq x2 0
 let x4:= !x3
 let x5:=x1.2
 let x6:=x5.1
 let x7:=Zfq x6 1
 let x8:= !x7
 let x9:=x5.2
 let x10:=x9.1
 let x11:=Zfq x10 2
 let x12:= !x11
 let x13:=x9.2
 let x14:=x13.1
 let x15:=Zfq x14 3
 let x16:= !x15
 let p2:=x16::x12::x8::x4::[]
 let x17:=x13.2
 let x18:=x17.1
 let x19:=Zfq x18 4
 let x20:= !x19
 let p3:=x20::p2
 let x21:=x17.2
 let x22:=x21.1
 let x23:=Zfq x22 5
 let x24:= !x23
 let p5:=x24::p3
 let x25:=x21.2
 let x26:=x25.1
 let x27:=Zfq x26 6
 let p8:=(!x27)::p5
 let x28:=x25.2
 let x29:=x28.1
 let x30:=orR p8 (Zfq x29 7)
 let x31:= !x30
 let x32:=orR p5 x27
 let x33:= !x32
 let p1:=x33::x31::(decide (a.2.2.1>=65536))::(!Ze a.2.2.1 (List.length a.1))::[]
 let x34:=orR p3 x23
 let x35:= !x34
 let p4:=x35::p1
 let x36:=orR p2 x19
 let x37:= !x36
 let p6:=x37::p4
 let x38:=x4||(x8||(x12||x15))
 let x39:= !x38
 let p7:=x39::p6
 let x40:=x4||(x8||x11)
 let x41:= !x40
 let p9:=x41::p7
 let x42:=x4||x7
 let x43:= !x42
 let p10:=x43::p9
 let p11:=x4::p10
 let x44:=orI u8 (orI u8 (orI u8 (orI u8 (orI u8 (orI u8 (orI u8 (wBit x2 0) (wBit x6 1)) (wBit x10 2)) (wBit x14 3)) (wBit x18 4)) (wBit x22 5)) (wBit x26 6)) (wBit x29 7)
 let x45:=x28.2
 let x46:=x45.1
 let x47:=x45.2
 let x48:List Int:=a.2.2.2.1++[x44,x46,x47,Zw0 x44 x46 x47]
 .br (decide (a.2.2.1<a.2.1)) (.br (orR p11 (Nat.ble (List.length x48) most)) (.br (orR p10 x3) (.br (orR p9 x42) (.br (orR p7 x40) (.br (orR p6 x38) (.br (orR p4 x36) (.br (orR p1 x34) (.br (!Ze a.2.2.1 (List.length a.1)||(decide (a.2.2.1>=65536)||(x31||x32))) (.br (!Ze a.2.2.1 (List.length a.1)||(decide (a.2.2.1>=65536)||x30)) (.br (Ze a.2.2.1 (List.length a.1)) (.br (decide (a.2.2.1>=65536)) (.Lf (some (Go1.brk (a.1,a.2.1,a.2.2.1,a.2.2.2.1,PUnit.unit)))) (.Lf (some (Go1.cont (a.1,a.2.1,i64.wrap (a.2.2.1+1),x48,PUnit.unit))))) (.Lf none)) (.Lf none)) (.Lf none)) (.Lf none)) (.Lf none)) (.Lf none)) (.Lf none)) (.Lf none)) (.Lf none)) (.Lf none)) (.Lf (some (Go1.brk (a.1,a.2.1,a.2.2.1,a.2.2.2.1,PUnit.unit))))
def ZgX (l:List INPT):RT (Option (List Int)):=
 let x1:=runF false ZdU (λa=>1000000000000) (l,iN (List.length l),0,[],())
 .br (okB x1) (.Lf (some (getO (false,l,iN (List.length l),0,[],()) x1).2.2.2.2.1)) (.Lf none)
def Zl8 (l:List INPT):List Int:=getO ZMA.Df (ZgX l).val
def ZE9 (l:List INPT):Bool:=okB (ZgX l).val
abbrev ZEY:List Sh:=[Sh.agg (R.Pq (R.int i64) (R.Pq rcRG (R.Pq (R.int i64) (R.Pq (R.int u8) (R.Pq (R.int u8) (R.Pq R.bool rcCE))))))]
abbrev Zsd:Rs:=Rs.one (Sh.one (R.int i64))
def ZjG (l:BRDT):RT (Option (Int)):=
 .br (l.1 !=1&&l.1 !=2) (.Lf (some (1))) (.br (smG l.2.1) (.br (Zd8 l.2.1 !=0) (.Lf (some (Zd8 l.2.1))) (.br (decide (l.2.2.1<0)||(decide (l.2.2.1>100)||smC l.2.2.2.2.2.2)) (.br (decide (l.2.2.1<0)||(decide (l.2.2.1>100)|| !vldB l.2.2.2.2.2.2)) (.Lf (some (1))) (.Lf (some (0)))) (.Lf none))) (.Lf none))
def ZcQ (l:BRDT):Int:=getO Zsd.Df (ZjG l).val
def Zse (l:BRDT):Bool:=okB (ZjG l).val
def ZMh:En:=Zg ZEY Zsd (λa=>some (Zse a)) (λa=>ZcQ a)
theorem ZMg:Za prog 188 ZMh:=
 pureP 15 [(44,Zlt),(247,ZxO)] [] ZEY Zsd ⟨ZjY,ZA1,Tv⟩ Tryz.func188 Tryz.call188 trivial (t:=λa=>ZjG a)
abbrev ZWB:List Sh:=[Sh.agg (R.Pq (R.int i64) (R.Pq rcRG (R.Pq (R.int i64) (R.Pq (R.int u8) (R.Pq (R.int u8) (R.Pq R.bool rcCE))))))]
abbrev ZMq:Rs:=Rs.tup [Sh.agg (R.Pq (R.Pq Zt (R.Pq (R.int i64) (R.Pq (R.sl (R.int u8)) (R.Pq (RY) (R.Pq (R.int i64) R.bool))))) (R.Pq rcCE (R.Pq Zba (R.Pq (R.Pq (R.int u16) (R.Pq (R.int u8) (R.int i64))) (R.Pq (R.int i64) (R.sl (R.Pq (R.int u8) (R.int u8)))))))),Sh.one (R.int i64)]
def ZAe (l:BRDT):RT (Option (SYST×Int)):=
 let x1:TR:=(0,0,0,0,0,0,0,(false,false,false,false,false,false,false),0,0)
 .br (Zse l) (.br (ZcQ l !=0) (.Lf (some (((((0,x1,false,false,false,0,false,false,false,false,false,false,false),0,[],(0,0,0,0),0,false),[],(0,false,false,false,false,0,0,false,false,false,false,false,0,0,0,0,0,0,0,false),(0,0,0),0,[]),ZcQ l)))) (.br (smC l.2.2.2.2.2.2) (.Lf (some ((((((newX l.1).1.1,x1,false,false,false,(newX l.1).1.2.2.2.2.2.1,false,false,false,false,false,false,false),0,[],(1,0,0,4),1,false),Cells.normX l.2.2.2.2.2.2,(0,false,false,false,false,0,0,false,false,false,false,false,0,0,0,0,7,0,0,false),(0,0,0),0,[]),0)))) (.Lf none))) (.Lf none)
def wNew (l:BRDT):SYST×Int:=getO ZMq.Df (ZAe l).val
def ZTE (l:BRDT):Bool:=okB (ZAe l).val
def ZYy:En:=Zg ZWB ZMq (λa=>some (ZTE a)) (λa=>wNew a)
theorem ZMp:Za prog 119 ZYy:=
 pureP 31 [(80,ZXk),(92,Zto),(188,ZMh),(189,ZYJ)] [] ZWB ZMq ⟨ZUP,Zm2,ZMg,ZM5,Tv⟩ Tryz.func119 Tryz.call119 trivial (t:=λa=>ZAe a)
def Za1:En:=.tree (ZO (envX prog [] [] 7 8) Tryz.f99)
theorem ZbI:Za prog 99 Za1:=Zaf (P:=prog) (n:=7) (k:=8) (l:=[]) (ol:=[]) trivial Tryz.func99 rfl (by kernel_rfl) Tryz.call99 trivial
abbrev ZMr:List Sh:=[Sh.agg (R.Pq (R.int i64) (R.Pq rcRG (R.Pq (R.int i64) (R.Pq (R.int u8) (R.Pq (R.int u8) (R.Pq R.bool rcCE)))))),Sh.agg (RY)]
abbrev ZAf:Rs:=Rs.one (Sh.one (R.int i64))
def ZE1 (l:BRDT) (x:QT12):RT (Option (Int)):=
 .br (!(decide (x.1>=1)&&decide (x.1<=5))||smG l.2.1) (.br (decide (x.1>=1)&&decide (x.1<=5)) (.Lf (some (ZwM l.2.1 x.2.1))) (.br (x.1==6||x.1==7) (.Lf (some (ZPf l.2.2.1))) (.Lf (some (0))))) (.Lf none)
def ZTH (l:BRDT) (x:QT12):Int:=getO ZAf.Df (ZE1 l x).val
def ZE2 (l:BRDT) (x:QT12):Bool:=okB (ZE1 l x).val
def ZWC:En:=Zg ZMr ZAf (λa=>some (ZE2 a.1 a.2)) (λa=>ZTH a.1 a.2)
theorem ZTF:Za prog 249 ZWC:=
 pureP 16447 [(99,Za1),(300,ZF5),(301,ZB6)] [] ZMr ZAf ⟨ZbI,ZJa,Zye,Tv⟩ Tryz.func249 Tryz.call249 trivial (t:=λa=>ZE1 a.1 a.2)
abbrev ZwN:List Sh:=[Sh.agg (R.Pq (R.Pq Zt (R.Pq (R.int i64) (R.Pq (R.sl (R.int u8)) (R.Pq (RY) (R.Pq (R.int i64) R.bool))))) (R.Pq rcCE (R.Pq Zba (R.Pq (R.Pq (R.int u16) (R.Pq (R.int u8) (R.int i64))) (R.Pq (R.int i64) (R.sl (R.Pq (R.int u8) (R.int u8))))))))]
abbrev ZwO:Rs:=Rs.one (Sh.one (R.int i64))
def ZEX (s:SYST):RT (Int):=
 .br (ZS s.1 !=7) (.Lf (0)) (.Lf (i64.wrap (s.2.2.2.2.1+1)))
def ZhJ (s:SYST):Int:=(ZEX s).val
def Zsc:En:=Zg ZwN ZwO (λ_=>none) (λa=>ZhJ a)
theorem Zqx:Za prog 193 Zsc:=
 pureQ 7 [(79,Zfz)] [] ZwN ZwO ⟨Zeg,Tv⟩ Tryz.func193 Tryz.call193 trivial (t:=λa=>ZEX a)
abbrev ZwQ:List Sh:=[Sh.agg (R.Pq (R.int i64) (R.Pq rcRG (R.Pq (R.int i64) (R.Pq (R.int u8) (R.Pq (R.int u8) (R.Pq R.bool rcCE)))))),Sh.agg (R.Pq (R.Pq Zt (R.Pq (R.int i64) (R.Pq (R.sl (R.int u8)) (R.Pq (RY) (R.Pq (R.int i64) R.bool))))) (R.Pq rcCE (R.Pq Zba (R.Pq (R.Pq (R.int u16) (R.Pq (R.int u8) (R.int i64))) (R.Pq (R.int i64) (R.sl (R.Pq (R.int u8) (R.int u8)))))))),Sh.agg Zds]
abbrev Zl5:Rs:=Rs.one (Sh.agg Zqp)
def Zig (l:BRDT) (s:SYST) (i:INPT):RT (Option LINT):=
 let x1:=bif i.2.1 then i.2.2.2.1 else i.2.2.2.1
 let x2:=bif i.2.1 then i.2.2.2.2.1 else i.2.2.2.2.1
 let x3:=bif i.2.1 then i.2.2.2.2.2.1 else i.2.2.2.2.2.1
 let x4:=bif i.2.1 then i.2.2.2.2.2.2.1 else i.2.2.2.2.2.2.1
 let x5:=bif i.2.1 then i.2.2.2.2.2.2.2.1 else i.2.2.2.2.2.2.2.1
 let x6:=bif l.2.2.2.2.2.1 then andI u8 i.2.2.2.2.2.2.2.2.1 1==1 else vInt s.2.2.1
 let x7:=bif i.2.1 then x6 else x6
 .br (ZTV s.2.2.1) (.br (!i.1||ZE2 l s.1.2.2.2.1) (.Lf (some ((i.1&&bif i.2.1 then decide (ZhJ s>=ZTH l s.1.2.2.2.1) else decide (ZhJ s>=ZTH l s.1.2.2.2.1),bif i.1 then i.2.1||Zcq s.2.2.2.1 else i.2.1||Zcq s.2.2.2.1,bif i.1 then bif i.2.1 then i.2.2.1 else i.2.2.1 else bif i.2.1 then i.2.2.1 else i.2.2.1,bif i.1 then x1 else x1,bif i.1 then x2 else x2,bif i.1 then x3 else x3,bif i.1 then x4 else x4,bif i.1 then x5 else x5,bif i.1 then x7 else x7)))) (.Lf none)) (.Lf none)
def Zsi (l:BRDT) (s:SYST) (i:INPT):LINT:=getO Zl5.Df (Zig l s i).val
def Zli (l:BRDT) (s:SYST) (i:INPT):Bool:=okB (Zig l s i).val
def ZE3:En:=Zg ZwQ Zl5 (λa=>some (Zli a.1 a.2.1 a.2.2)) (λa=>Zsi a.1 a.2.1 a.2.2)
theorem ZIN:Za prog 192 ZE3:=
 pureP 255 [(193,Zsc),(248,Z1x),(249,ZWC),(250,Zml)] [] ZwQ Zl5 ⟨Zqx,ZYK,ZTF,Zmk,Tv⟩ Tryz.func192 Tryz.call192 trivial (t:=λa=>Zig a.1 a.2.1 a.2.2)
abbrev ZE4:List Sh:=[Sh.agg (R.Pq (R.int i64) (R.Pq rcRG (R.Pq (R.int i64) (R.Pq (R.int u8) (R.Pq (R.int u8) (R.Pq R.bool rcCE)))))),Sh.one (R.int u8)]
abbrev ZE5:Rs:=Rs.tup [Sh.one R.bool,Sh.one R.bool]
def ZMw (l:BRDT) (p:Int):RT (Bool×Bool):=
 .Lf ((bif !l.2.2.2.2.2.1 then bif p==l.2.2.2.1 then p==u8.wrap (l.2.2.2.1+1) else p==u8.wrap (l.2.2.2.1+1) else p==u8.wrap (l.2.2.2.1+1),!l.2.2.2.2.2.1&&(p==l.2.2.2.1||p==u8.wrap (l.2.2.2.1+1))))
def ZdB (l:BRDT) (p:Int):Bool×Bool:=(ZMw l p).val
def ZAg:En:=Zg ZE4 ZE5 (λ_=>none) (λa=>ZdB a.1 a.2)
theorem ZwR:Za prog 251 ZAg:=
 pureQ 63 [] [] ZE4 ZE5 trivial Tryz.func251 Tryz.call251 trivial (t:=λa=>ZMw a.1 a.2)
abbrev ZE6:List Sh:=[Sh.agg (R.Pq (R.int i64) (R.Pq rcRG (R.Pq (R.int i64) (R.Pq (R.int u8) (R.Pq (R.int u8) (R.Pq R.bool rcCE)))))),Sh.one (R.int u8)]
abbrev ZE7:Rs:=Rs.tup [Sh.one (R.int i64),Sh.one R.bool]
def ZMx (l:BRDT) (p:Int):RT (Int×Bool):=
 .Lf ((i64.wrap (u8.wrap (p-l.2.2.2.2.1)),decide (u8.wrap (p-l.2.2.2.2.1)<4)))
def Zf7 (l:BRDT) (p:Int):Int×Bool:=(ZMx l p).val
def ZAh:En:=Zg ZE6 ZE7 (λ_=>none) (λa=>Zf7 a.1 a.2)
theorem ZwS:Za prog 252 ZAh:=
 pureQ 127 [] [] ZE6 ZE7 trivial Tryz.func252 Tryz.call252 trivial (t:=λa=>ZMx a.1 a.2)
abbrev ZWE:List Sh:=[Sh.agg (R.Pq (R.int i64) (R.Pq rcRG (R.Pq (R.int i64) (R.Pq (R.int u8) (R.Pq (R.int u8) (R.Pq R.bool rcCE)))))),Sh.agg (R.Pq (R.Pq Zt (R.Pq (R.int i64) (R.Pq (R.sl (R.int u8)) (R.Pq (RY) (R.Pq (R.int i64) R.bool))))) (R.Pq rcCE (R.Pq Zba (R.Pq (R.Pq (R.int u16) (R.Pq (R.int u8) (R.int i64))) (R.Pq (R.int i64) (R.sl (R.Pq (R.int u8) (R.int u8)))))))),Sh.agg Zds]
abbrev ZMG:Rs:=Rs.tup [Sh.agg (R.Pq (R.Pq Zt (R.Pq (R.int i64) (R.Pq (R.sl (R.int u8)) (R.Pq (RY) (R.Pq (R.int i64) R.bool))))) (R.Pq rcCE (R.Pq Zba (R.Pq (R.Pq (R.int u16) (R.Pq (R.int u8) (R.int i64))) (R.Pq (R.int i64) (R.sl (R.Pq (R.int u8) (R.int u8)))))))),Sh.one (R.int u8)]
def ZMF (l:BRDT) (s:SYST) (i:INPT):RT (Option (SYST×Int)):=
 let x1:=decide (s.1.2.2.2.1.1>=1)&&decide (s.1.2.2.2.1.1<=5)
 let x2:= !x1||smG l.2.1&&smC s.2.1
 let x3:= !x2
 let x4:=s.1.2.2.2.1.1 !=6&&l.2.2.2.2.2.1
 let p1:=(!(ZdB l (u8.wrap s.1.2.2.2.1.2.1)).2)::(s.1.2.2.2.1.1 !=6)::x4::x1::[]
 let x5:=x1||(x4||(!s.1.2.2.2.1.1 !=6||ZTY s.2.2.1))
 let x6:= !x5
 let x7:=orR p1 (ZFo s.2.2.1 (ZdB l (u8.wrap s.1.2.2.2.1.2.1)).1)
 let p2:=(!(Zf7 l (u8.wrap s.1.2.2.2.1.2.1)).2)::((ZdB l (u8.wrap s.1.2.2.2.1.2.1)).2)::(s.1.2.2.2.1.1 !=6)::x4::x1::(!x7)::x6::x3::[]
 let x8:=ZTP s.2.2.1 (ZdB l (u8.wrap s.1.2.2.2.1.2.1)).1
 let x9:=x8.1
 .br (i.2.2.1||(ZS s.1 !=3|| !ZbC s.1.2.2.2.1.1)) (.Lf (some ((s,0)))) (.br (orR p2 (Zsx s.2.2.2.1 (Zf7 l (u8.wrap s.1.2.2.2.1.2.1)).1)) (.br (x3||(x6||x7)) (.br (x3||x5) (.br (x2) (.Lf (some (((s.1,s.2.1,(R.sel Zba x1 s.2.2.1 (R.sel Zba x4 s.2.2.1 (R.sel Zba (s.1.2.2.2.1.1 !=6) (vAck s.2.2.1).1 (R.sel Zba ((ZdB l (u8.wrap s.1.2.2.2.1.2.1)).2) x9 s.2.2.1)))),s.2.2.2),bif x1 then ZeH l.2.1 s.2.1 s.1.2.2.2.1.2.1 else bif x4 then i.2.2.2.2.2.2.2.2.2 else bif s.1.2.2.2.1.1 !=6 then (vAck s.2.2.1).2 else bif (ZdB l (u8.wrap s.1.2.2.2.1.2.1)).2 then x8.2 else bif (Zf7 l (u8.wrap s.1.2.2.2.1.2.1)).2 then ZMU s.2.2.2.1 (Zf7 l (u8.wrap s.1.2.2.2.1.2.1)).1 else i.2.2.2.2.2.2.2.2.2)))) (.Lf none)) (.Lf none)) (.Lf none)) (.Lf none))
def wBus (l:BRDT) (s:SYST) (i:INPT):SYST×Int:=getO ZMG.Df (ZMF l s i).val
def ZTL (l:BRDT) (s:SYST) (i:INPT):Bool:=okB (ZMF l s i).val
def Z1s:En:=Zg ZWE ZMG (λa=>some (ZTL a.1 a.2.1 a.2.2)) (λa=>wBus a.1 a.2.1 a.2.2)
theorem ZYA:Za prog 194 Z1s:=
 pureP 4956598223910189960238497791 [(79,Zfz),(99,Za1),(102,ZGn),(103,ZhY),(251,ZAg),(252,ZAh),(253,Z1y),(254,ZWI),(255,ZMT)] [] ZWE ZMG ⟨Zeg,ZbI,ZJj,Ze6,ZwR,ZwS,ZYN,ZTN,ZMR,Tv⟩ Tryz.func194 Tryz.call194 trivial (t:=λa=>ZMF a.1 a.2.1 a.2.2)
abbrev ZEZ:List Sh:=[Sh.agg (R.Pq (R.int i64) (R.Pq rcRG (R.Pq (R.int i64) (R.Pq (R.int u8) (R.Pq (R.int u8) (R.Pq R.bool rcCE)))))),Sh.agg (R.Pq (R.Pq Zt (R.Pq (R.int i64) (R.Pq (R.sl (R.int u8)) (R.Pq (RY) (R.Pq (R.int i64) R.bool))))) (R.Pq rcCE (R.Pq Zba (R.Pq (R.Pq (R.int u16) (R.Pq (R.int u8) (R.int i64))) (R.Pq (R.int i64) (R.sl (R.Pq (R.int u8) (R.int u8)))))))),Sh.agg (RY)]
abbrev Zsf:Rs:=Rs.one (Sh.agg (R.Pq (R.Pq Zt (R.Pq (R.int i64) (R.Pq (R.sl (R.int u8)) (R.Pq (RY) (R.Pq (R.int i64) R.bool))))) (R.Pq rcCE (R.Pq Zba (R.Pq (R.Pq (R.int u16) (R.Pq (R.int u8) (R.int i64))) (R.Pq (R.int i64) (R.sl (R.Pq (R.int u8) (R.int u8)))))))))
def Zl4 (l:BRDT) (s:SYST) (x:QT12):RT (Option SYST):=
 let x1:List (Int×Int):=[]++s.2.2.2.2.2++[(u8.wrap x.2.1,x.2.2.1)]
 let x2:=ZMM s.2.2.1 (ZdB l (u8.wrap x.2.1)).1 x.2.2.1
 let x30:=ZAn s.2.2.2.1 (Zf7 l (u8.wrap x.2.1)).1 x.2.2.1
 .br (!x.1 !=7||smG l.2.1&&smC s.2.1) (.br (x.1 !=7) (.Lf (some ((s.1,ZaO l.2.1 s.2.1 x.2.1 x.2.2.1,s.2.2)))) (.br (!Nat.ble (List.length ([]++s.2.2.2.2.2)) most||Nat.ble (List.length x1) most) (.br (Nat.ble (List.length ([]++s.2.2.2.2.2)) most) (.br (!(ZdB l (u8.wrap x.2.1)).2||Zsu s.2.2.1 (ZdB l (u8.wrap x.2.1)).1 x.2.2.1) (.Lf (some ((s.1,s.2.1,(R.sel Zba ((ZdB l (u8.wrap x.2.1)).2) x2 s.2.2.1),(R.sel Z1U ((ZdB l (u8.wrap x.2.1)).2) s.2.2.2.1 (R.sel Z1U ((Zf7 l (u8.wrap x.2.1)).2) x30 s.2.2.2.1)),s.2.2.2.2.1,x1)))) (.Lf none)) (.Lf none)) (.Lf none))) (.Lf none)
def ZE0 (l:BRDT) (s:SYST) (x:QT12):SYST:=getO Zsf.Df (Zl4 l s x).val
def Zsg (l:BRDT) (s:SYST) (x:QT12):Bool:=okB (Zl4 l s x).val
def ZMk:En:=Zg ZEZ Zsf (λa=>some (Zsg a.1 a.2.1 a.2.2)) (λa=>ZE0 a.1 a.2.1 a.2.2)
theorem ZMi:Za prog 195 ZMk:=
 pureP 4095 [(101,ZmN),(251,ZAg),(252,ZAh),(256,ZML),(257,ZFi)] [] ZEZ Zsf ⟨ZmM,ZwR,ZwS,ZMJ,ZIT,Tv⟩ Tryz.func195 Tryz.call195 trivial (t:=λa=>Zl4 a.1 a.2.1 a.2.2)
abbrev ZFa:List Sh:=[Sh.agg (R.Pq (R.int i64) (R.Pq rcRG (R.Pq (R.int i64) (R.Pq (R.int u8) (R.Pq (R.int u8) (R.Pq R.bool rcCE)))))),Sh.agg (R.Pq (R.Pq Zt (R.Pq (R.int i64) (R.Pq (R.sl (R.int u8)) (R.Pq (RY) (R.Pq (R.int i64) R.bool))))) (R.Pq rcCE (R.Pq Zba (R.Pq (R.Pq (R.int u16) (R.Pq (R.int u8) (R.int i64))) (R.Pq (R.int i64) (R.sl (R.Pq (R.int u8) (R.int u8)))))))),Sh.agg Zds]
abbrev Zsn:Rs:=Rs.tup [Sh.agg (R.Pq (R.Pq Zt (R.Pq (R.int i64) (R.Pq (R.sl (R.int u8)) (R.Pq (RY) (R.Pq (R.int i64) R.bool))))) (R.Pq rcCE (R.Pq Zba (R.Pq (R.Pq (R.int u16) (R.Pq (R.int u8) (R.int i64))) (R.Pq (R.int i64) (R.sl (R.Pq (R.int u8) (R.int u8)))))))),Sh.agg ZOp,Sh.agg (R.Pq Zqp (R.Pq (R.int u8) (R.Pq (R.Pq (R.int u16) (R.int u8)) R.bool)))]
def Zmd (l:BRDT) (s:SYST) (i:INPT):RT (Option (QT32)):=
 let x1:=ZFs s.2.2.1 i.2.2.2.2.2.2.2.2.1
 let x29:SYST:=(s.1,s.2.1,(R.sel Zba (!l.2.2.2.2.2.1) x1 s.2.2.1),s.2.2.2)
 let x30:=wBus l x29 i
 let x31:=x30.1
 let x32:=x31.1
 let x33:= !i.2.2.1&&(ZS s.1==3&&Zfx s.1.2.2.2.1.1)
 let x34:=Zsi l x29 i
 let x35:=x30.2
 let x36:=clkX x32 x34 x35
 let x37:=x36.1
 let x38:=x31.2
 let x39:=x38.1
 let x40:=x38.2
 let x41:=x40.1
 let x42:=x40.2
 let x43:=x42.1
 let x44:=ZhJ x29
 let x45:=x42.2.2
 let x46:SYST:=(x37,x39,x41,x43,x44,x45)
 let x47:=x36.2
 let x48:=x47.2.2.2.2.2.2.2.2.2.2.2.2.2.2.2.1
 let x49:=ZE0 l x46 s.1.2.2.2.1
 let x50:=x49.2
 let x51:=x50.2
 let x52:=x51.2
 let x53:=x52.1
 let x54:Int:=bif x33 then x53.1 else x43.1
 let x55:=x53.2
 let x56:=x43.2
 let x57:Int:=bif x33 then x55.1 else x56.1
 let x58:Int:=bif x33 then x55.2 else x56.2
 let x59:=Zio (x54,x57,x58)
 let x60:=x59.2
 let x61:=x60.2
 let x62:List (Int×Int):=bif x33 then x50.1 else x39
 let x63:=x49.1
 let x64:=x63.1
 let x65:=x37.1
 let x118:=x63.2
 let x119:=x37.2
 let x120:=x118.2
 let x121:=x119.2
 let x122:=x120.2
 let x123:=x122.1
 let x124:=x121.2
 let x125:=x124.1
 let x130:=x122.2
 let x131:=x124.2
 let x132:=x60.1
 let x133:=x132.1
 let x134:=x132.2
 let x135:=x51.1
 let x136:=x135.2
 let x137:=x41.2
 let x138:=x136.2
 let x139:=x137.2
 let x140:=x138.2
 let x141:=x139.2
 let x142:=x140.2
 let x143:=x141.2
 let x144:=x142.2
 let x145:=x143.2
 let x146:=x144.2
 let x147:=x145.2
 let x148:=x146.2
 let x149:=x147.2
 let x150:=x148.2
 let x151:=x149.2
 let x152:=x150.2
 let x153:=x151.2
 let x154:=x152.2
 let x155:=x153.2
 let x156:=x154.2
 let x157:=x155.2
 let x158:=x156.2
 let x159:=x157.2
 let x160:=x158.2
 let x161:=x159.2
 let x162:=x160.2
 let x163:=x161.2
 let x164:=x162.2
 let x165:=x163.2
 let x166:=x164.2
 let x167:=x165.2
 let x168:=x166.2
 let x169:=x167.2
 let x170:=x168.2
 let x171:=x169.2
 let x172:=x59.1
 let x173:=x172.2
 let x174:=x52.2
 .br (Zli l x29 i) (.br (ZTL l x29 i) (.br (ZOk x32) (.br (!x33||Zsg l x46 s.1.2.2.2.1) (.br (!x48||(!x61||smG l.2.1&&smC x62)) (.Lf (some (((((R.sel Zt x33 x64 x65),bif x33 then x118.1 else x119.1,bif x33 then x120.1 else x121.1,(R.sel RY x33 x123 x125),bif x33 then x130.1 else x131.1,bif x33 then x130.2 else x131.2),bif x48 then bif x61 then ZaO l.2.1 x62 x133 x134 else x62 else x62,(bif x33 then x135.1 else x41.1,bif x33 then x136.1 else x137.1,bif x33 then x138.1 else x139.1,bif x33 then x140.1 else x141.1,bif x33 then x142.1 else x143.1,bif x33 then x144.1 else x145.1,bif x33 then x146.1 else x147.1,bif x33 then x148.1 else x149.1,bif x33 then x150.1 else x151.1,bif x33 then x152.1 else x153.1,bif x33 then x154.1 else x155.1,bif x33 then x156.1 else x157.1,bif x33 then x158.1 else x159.1,bif x33 then x160.1 else x161.1,bif x33 then x162.1 else x163.1,bif x33 then x164.1 else x165.1,bif x33 then x166.1 else x167.1,bif i.2.2.1 then 0 else bif x33 then x168.1 else x169.1,bif x33 then x170.1 else x171.1,bif x33 then x170.2 else x171.2),(bif x48 then bif x61 then x172.1 else x54 else x54,bif x48 then bif x61 then x173.1 else x57 else x57,bif i.2.2.1 then 0 else bif x48 then bif x61 then x173.2 else x58 else x58),bif x33 then x174.1 else x44,bif x33 then x174.2 else x45),x47,x34,x35,(bif x48 then bif x61 then x133 else 0 else 0,bif x48 then bif x61 then x134 else 0 else 0),x48&&x61)))) (.Lf none)) (.Lf none)) (.Lf none)) (.Lf none)) (.Lf none)
def ZFb (l:BRDT) (s:SYST) (i:INPT):QT32:=getO Zsn.Df (Zmd l s i).val
def Zso (l:BRDT) (s:SYST) (i:INPT):Bool:=okB (Zmd l s i).val
def ZAl:En:=Zg ZFa Zsn (λa=>some (Zso a.1 a.2.1 a.2.2)) (λa=>ZFb a.1 a.2.1 a.2.2)
theorem ZwZ:Za prog 121 ZAl:=
 pureP 131071 [(27,ZGX),(79,Zfz),(100,Zs0),(101,ZmN),(191,ZMZ),(192,ZE3),(193,Zsc),(194,Z1s),(195,ZMk),(196,ZqF)] [] ZFa Zsn ⟨ZKh,Zeg,Zq5,ZmM,ZMX,ZIN,Zqx,ZYA,ZMi,Zw5,Tv⟩ Tryz.func121 Tryz.call121 trivial (t:=λa=>Zmd a.1 a.2.1 a.2.2)
abbrev ZqC:List Sh:=[Sh.agg (R.Pq Zt (R.Pq (R.int i64) (R.Pq (R.sl (R.int u8)) (R.Pq (RY) (R.Pq (R.int i64) R.bool))))),Sh.one (R.int i64),Sh.one (R.int u8)]
abbrev ZqD:Rs:=Rs.one (Sh.agg (RY))
def Zil (c:CORT) (s:Int) (d:Int):RT TY:=
 let x1:Int:=bif ZbC c.2.2.2.1.1 then d else c.2.2.2.1.2.2.1
 .Lf ((c.2.2.2.1.1,c.2.2.2.1.2.1,bif s==3 then x1 else c.2.2.2.1.2.2.1,bif s==3 then bif c.2.2.2.1.1==1||c.2.2.2.1.1==8 then Ze8 c.1.1 x1 else c.2.2.2.1.2.2.2 else c.2.2.2.1.2.2.2))
def Zab (c:CORT) (s:Int) (d:Int):QT12:=(Zil c s d).val
def Zim:En:=Zg ZqC ZqD (λ_=>none) (λa=>Zab a.1 a.2.1 a.2.2)
theorem ZhM:Za prog 123 Zim:=
 pureQ 255 [(103,ZhY),(116,ZnN)] [] ZqC ZqD ⟨Ze6,ZiL,Tv⟩ Tryz.func123 Tryz.call123 trivial (t:=λa=>Zil a.1 a.2.1 a.2.2)
abbrev ZMs:List Sh:=[Sh.one (R.int i64)]
abbrev ZMu:Rs:=Rs.one (Sh.one (R.int i64))
def ZMt (s:Int):RT (Int):=
 .br (Zc s) (.Lf (3)) (.br (s==5) (.Lf (2)) (.Lf (1)))
def Zf6 (s:Int):Int:=(ZMt s).val
def ZMv:En:=Zg ZMs ZMu (λ_=>none) (λa=>Zf6 a)
theorem ZTI:Za prog 200 ZMv:=
 pureQ 79 [(104,Zhb)] [] ZMs ZMu ⟨Zgt,Tv⟩ Tryz.func200 Tryz.call200 trivial (t:=λa=>ZMt a)
abbrev ZMd:List Sh:=[Sh.agg Zbb,Sh.agg Zt,Sh.agg Zqp]
abbrev ZMe:Rs:=Rs.one (Sh.agg Zbb)
def ZWz (e:EVTT) (c:TC) (l:LINT):RT EVTT:=
 .Lf ((e.1,e.2.1,e.2.2.1,l,c.2.2.2.2.2.2.2.1,c.2.2.2.2.2.2.1,c.2.2.2.2.2.2.2.2.2.1,c.2.2.2.2.2.2.2.2.1,e.2.2.2.2.2.2.2.2))
def Zd6 (e:EVTT) (c:TC) (l:LINT):EVTT:=(ZWz e c l).val
def ZMf:En:=Zg ZMd ZMe (λ_=>none) (λa=>Zd6 a.1 a.2.1 a.2.2)
theorem ZTC:Za prog 198 ZMf:=
 pureQ 127 [] [] ZMd ZMe trivial Tryz.func198 Tryz.call198 trivial (t:=λa=>ZWz a.1 a.2.1 a.2.2)
abbrev ZFe:List Sh:=[Sh.agg (R.Pq Zt (R.Pq (R.int i64) (R.Pq (R.sl (R.int u8)) (R.Pq (RY) (R.Pq (R.int i64) R.bool))))),Sh.one (R.int i64),Sh.one (R.int u8)]
abbrev Zsp:Rs:=Rs.one (Sh.one (R.sl (R.int u8)))
def Zmf (c:CORT) (s:Int) (d:Int):RT (Option (List Int)):=
 let x1:List Int:=[]++c.2.2.1++[(Zab c s d).2.2.1]
 .br (Nat.ble (List.length ([]++c.2.2.1)) most) (.br (!s==3||Nat.ble (List.length x1) most) (.Lf (some (bif s==3 then x1 else []++c.2.2.1))) (.Lf none)) (.Lf none)
def ZFf (c:CORT) (s:Int) (d:Int):List Int:=getO Zsp.Df (Zmf c s d).val
def Zsq (c:CORT) (s:Int) (d:Int):Bool:=okB (Zmf c s d).val
def ZAm:En:=Zg ZFe Zsp (λa=>some (Zsq a.1 a.2.1 a.2.2)) (λa=>ZFf a.1 a.2.1 a.2.2)
theorem ZMD:Za prog 201 ZAm:=
 pureP 255 [(123,Zim)] [] ZFe Zsp ⟨ZhM,Tv⟩ Tryz.func201 Tryz.call201 trivial (t:=λa=>Zmf a.1 a.2.1 a.2.2)
abbrev Zl6:List Sh:=[Sh.agg (R.Pq Zt (R.Pq (R.int i64) (R.Pq (R.sl (R.int u8)) (R.Pq (RY) (R.Pq (R.int i64) R.bool))))),Sh.agg Zqp,Sh.one (R.int u8)]
abbrev ZhK:Rs:=Rs.tup [Sh.agg Zt,Sh.one R.bool]
def ZeX (c:CORT) (l:LINT) (d:Int):RT (Option (TC×Bool)):=
 let x1:TC×Bool:=((0,(0,0,0,0,0,0,0,(false,false,false,false,false,false,false),0,0),false,false,false,0,false,false,false,false,false,false,false),false)
 .br l.2.2.1 (.Lf (some (x1))) (.br (Ze7 c c.2.2.2.2.1 d) (.br (!Zgu c.2.2.2.2.1 (ZhZ c c.2.2.2.2.1 d).1) (.Lf (some (x1))) (.br (Zh (Zj c.1 l) c.2.1 (ZhZ c c.2.2.2.2.1 d).2).2 (.Lf (some (x1))) (.Lf (some ((finX (Zj c.1 l) c.2.1 (ZhZ c c.2.2.2.2.1 d).2 l,true)))))) (.Lf none))
def Zih (c:CORT) (l:LINT) (d:Int):TC×Bool:=getO ZhK.Df (ZeX c l d).val
def ZgW (c:CORT) (l:LINT) (d:Int):Bool:=okB (ZeX c l d).val
def ZjH:En:=Zg Zl6 ZhK (λa=>some (ZgW a.1 a.2.1 a.2.2)) (λa=>Zih a.1 a.2.1 a.2.2)
theorem ZwT:Za prog 199 ZjH:=
 pureP 16383 [(42,Zrn),(84,ZnI),(89,ZOH),(90,ZPB),(98,ZZB)] [] Zl6 ZhK ⟨ZiJ,ZnH,ZGm,ZGT,ZPo,Tv⟩ Tryz.func199 Tryz.call199 trivial (t:=λa=>ZeX a.1 a.2.1 a.2.2)
end
end Go.Proofs.YtghoimllhpjkjaaGreat
