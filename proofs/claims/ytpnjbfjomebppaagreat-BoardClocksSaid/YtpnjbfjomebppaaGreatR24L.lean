import Derived.Test.YtpnjbfjomebppaaGreatMemD
import Derived.RangeFuncNested
import Derived.RangeFuncLeaves
import Derived.Shelf.Abstract
import Derived.OwnWalkIn
import Derived.TacticsInMore
import Derived.LoopNIn
import Derived.LoopIn
import Derived.Test.YtpnjbfjomebppaaGreatS3Clo
import Derived.Test.YtpnjbfjomebppaaGreatMakeOk5
import Derived.Test.YtpnjbfjomebppaaGreatPicL
open Go.Proofs.Tryz (prog)
set_option linter.unusedVariables false
set_option linter.unusedSimpArgs false
namespace Go.Proofs.YtpnjbfjomebppaaGreat
open Go Go.S3 Go.Proofs Go.Proofs.Cells Go.RowKit Go.Shelf
attribute [local go_sem] Oper.semAt_some
noncomputable section
def bwL (l:List Cell) (k:Nat):List (Nat×Cell):=(List.range k).map λj=>(l.length-1-j,el l (l.length-1-j))
theorem ZLK (l:List Cell) (k:Nat):bwL l (k+1)=bwL l k++[(l.length-1-k,el l (l.length-1-k))]:=by simp[bwL,List.range_succ]
theorem Z6d (l:List Cell) (k:Nat):(bwL l k).length=k:=by simp[bwL]
theorem ZLL (l:List Cell) (m:Nat) (h:m+1<=l.length):bwL l (l.length-m)=bwL l (l.length-(m+1))++[(m,el l m)]:=by
 have e:l.length-m=(l.length-(m+1))+1:=by omega
 have e2:l.length-1-(l.length-(m+1))=m:=by omega
 rw[e,ZLK,e2]
abbrev ZHG (x:Nat×Cell):Array Value:= #[.int .i64 (x.1:Int),.agg #[.int .u16 x.2.1,.int .u8 x.2.2]]
set_option maxRecDepth 100000 in
set_option maxHeartbeats 2000000 in
theorem Z02 (F:Fence) (n:Nat) (h8:F.fn 382) (hro:F.round=none) (hn:1<=n) (y Bs n₀ b off cap:Nat) (l:List Cell) (hreach:l.length<=1073741824) (hb:b<n₀) (hB:Bs<n₀) (J Jx:List (Nat×Cell)->World->Prop)
  (hY:∀pre x W,J pre W->pre.length<l.length->YieldAt F (n-1) prog y (ZHG x) W λe W'=>
   (e=.returned (.bool true)/\J (pre++[x]) W'/\Below n₀ W W')\/(e=.returned (.bool false)/\Jx (pre++[x]) W'))
  (W:World) (hBs:W.cell? ⟨Bs,0,none⟩=some (.slice (some ⟨b,off,none⟩) l.length cap))
  (hc:∀j,j<l.length->W.cell? ⟨b,off+j*2,none⟩=some (.int .u16 (el l j).1)/\W.cell? ⟨b,off+j*2+1,none⟩=some (.int .u8 (el l j).2)) (h0:J [] W):
  CallsIn F n prog 382 #[.func (.yield y) #[] #[],.pointer (some ⟨Bs,0,none⟩)] W λe W'=>(∃v,e=.returned v)/\
   ((∃ys,ys=bwL l l.length/\J ys W')\/(∃pre,(∃k,k<=l.length/\pre=bwL l k)/\Jx pre W')):=by
 refine callsIn_of_wp Tryz.func382 rfl h8 ?_ hro;simp only[Tryz.ntmps382,Yah,List.length_cons,List.length_nil,Nat.reduceAdd,Nat.reduceSub,Array.replicate_succ,Array.replicate_zero,List.push_toArray,List.append_toArray,List.nil_append,List.cons_append];gi_wp2
 gi_loopw [3] (λi wr=>∃m:Nat,m<=l.length/\i=.int .i64 ((m:Int)-1)/\J (bwL l (l.length-m)) wr/\Below n₀ W wr)
  (λi _=>(intOf i+1).toNat)
 case atStart=>exact⟨l.length,Ye _,rfl,by simpa [bwL] using h0,Below.refl _ _⟩
 case round=>
  obtain⟨m,hm,rfl,hJs,hnx⟩:=hrel;have hbx:wr.cell? ⟨Bs,0,none⟩=some (.slice (some ⟨b,off,none⟩) l.length cap):=(hnx.cell (p:=⟨Bs,0,none⟩) hB).trans hBs;cases m with
  |zero=>
   gi_wp2
   go_end0
   exact⟨⟨_,rfl⟩,.inl ⟨_,rfl,by simpa using hJs⟩⟩
  |succ m=>
   have e1:((m+1:Nat):Int)-1=(m:Int):=by omega
   rw[e1];have hlt:m<l.length:=by omega
   obtain⟨q1,q2⟩:=hc m hlt;have hcx1:wr.cell? ⟨b,off+m*2,none⟩=some (.int .u16 (el l m).1):=(hnx.cell (p:=⟨b,off+m*2,none⟩) hb).trans q1;have hcx2:wr.cell? ⟨b,off+m*2+1,none⟩=some (.int .u8 (el l m).2):=(hnx.cell (p:=⟨b,off+m*2+1,none⟩) hb).trans q2;obtain⟨fn,tmps,assign,body,hy,hR⟩:=hY _ (m,el l m) wr hJs (by rw[Z6d];omega);dsimp only[ZHG] at hy;clear hc hBs q1 q2;gi_wp2
   refine hR.mono ?_;rintro e W3 (⟨rfl,hJ3,hk3⟩|⟨rfl,hJx3⟩)
   ·gi_wp2
    go_roundw
    case rel=>exact⟨m,by omega,rfl,by rw[ZLL l m hlt];exact hJ3,hnx.trans hk3⟩
    case measure=>simp[intOf]
   ·gi_wp2
    refine bodyPost_ret (results_none rfl _ _ _) rfl ?_;exact⟨⟨_,rfl⟩,.inr ⟨_,⟨l.length-m,by omega,(ZLL l m hlt).symm⟩,hJx3⟩⟩
set_option maxRecDepth 100000 in
set_option maxHeartbeats 1000000 in
theorem ZCz (F:Fence) (n:Nat) (h8:F.fn 382) (hro:F.round=none) (y Bs cap:Nat) (a:Option Addr) (J:List (Nat×Cell)->World->Prop) (W:World) (hBs:W.cell? ⟨Bs,0,none⟩=some (.slice a 0 cap)) (h0:J [] W):
  CallsIn F n prog 382 #[.func (.yield y) #[] #[],.pointer (some ⟨Bs,0,none⟩)] W λe W'=>(∃v,e=.returned v)/\J [] W':=by
 refine callsIn_of_wp Tryz.func382 rfl h8 ?_ hro;simp only[Tryz.ntmps382,Yah,List.length_cons,List.length_nil,Nat.reduceAdd,Nat.reduceSub,Array.replicate_succ,Array.replicate_zero,List.push_toArray,List.append_toArray,List.nil_append,List.cons_append];gi_wp2
 gi_loopw [3] (λi wr=>i=.int .i64 (-1)/\J [] wr) (λ_ _=>0)
 case atStart=>exact⟨rfl,h0⟩
 case round=>
  obtain⟨rfl,hJs⟩:=hrel;gi_wp2
  go_end0
  exact⟨⟨_,rfl⟩,hJs⟩
set_option maxHeartbeats 1000000 in
theorem Z6h (F:Fence) (n:Nat) (h6:F.fn 345) (hro:F.round=none) (a:Option Addr) (len cap:Nat) (w:World):
  CallsIn F n prog 345 #[.slice a len cap] w λe w'=>e=.returned (.func (.func 382) #[] #[.pointer (some ⟨w.heap.size,0,none⟩)])/\w'=w.alloc (.cells #[.slice a len cap] 26):=by
 refine callsIn_of_wp Tryz.func345 rfl h6 ?_ hro;simp only[Tryz.ntmps345,Yah,List.length_cons,List.length_nil,Nat.reduceAdd,Nat.reduceSub,Array.replicate_succ,Array.replicate_zero,List.push_toArray,List.append_toArray,List.nil_append,List.cons_append];gi_wp2
 go_ret
 exact⟨rfl,rfl⟩
def Held (n₀:Nat) (W:World) (sv:Value) (l:List Cell):Prop:=
 (∃a cap,sv=.slice a 0 cap/\l=[])\/∃b off cap,sv=.slice (some ⟨b,off,none⟩) l.length cap/\b<n₀/\
  ∀j,j<l.length->W.cell? ⟨b,off+j*2,none⟩=some (.int .u16 (el l j).1)/\W.cell? ⟨b,off+j*2+1,none⟩=some (.int .u8 (el l j).2)
variable {n₀:Nat} {sv:Value} {l:List Cell}
theorem Held.below {A B:World} (h:Below n₀ A B):Held n₀ A sv l->Held n₀ B sv l
 | .inl e=>.inl e
 | .inr ⟨b,off,cap,e,hb,hc⟩=>.inr ⟨b,off,cap,e,hb,λj hj=>⟨(h.cell (p:=⟨b,off+j*2,none⟩) hb).trans (hc j hj).1,(h.cell (p:=⟨b,off+j*2+1,none⟩) hb).trans (hc j hj).2⟩⟩
theorem Held.mono {n₁:Nat} {W:World} (h:Held n₀ W sv l) (hn:n₀<=n₁):Held n₁ W sv l:=
 h.elim .inl λ⟨b,off,cap,e,hb,hc⟩=>.inr ⟨b,off,cap,e,by omega,hc⟩
theorem ZPu (F:Fence) (n:Nat) (h8:F.fn 382) (hro:F.round=none) (hn:1<=n) (Bs n₀:Nat) (sv:Value) (l:List Cell) (hreach:l.length<=1073741824) (w:World) (hBs:Bs<n₀) (hn₀:n₀<=w.heap.size)
  (hc:w.cell? ⟨Bs,0,none⟩=some sv) (hI:Held n₀ w sv l):
  SeqStopsK F n prog 382 #[.pointer (some ⟨Bs,0,none⟩)] ZHG (Below n₀) (λys=>ys=bwL l l.length)
   (λpre=>∃k,k<=l.length/\pre=bwL l k) l.length w:=λy J Jx W hW _ _ hY h0=>by
 have hc':=(hW.cell (p:=⟨Bs,0,none⟩) (by show Bs<_;omega)).trans hc;rcases hI.below (hW.mono hn₀) with ⟨a,cap,rfl,rfl⟩|⟨b,off,cap,rfl,hb,hcs⟩
 ·exact (ZCz F n h8 hro y Bs cap a J W hc' h0).mono λe W' ⟨he,hj⟩=>⟨he,.inl ⟨_,rfl,hj⟩⟩
 ·exact Z02 F n h8 hro hn y Bs n₀ b off cap l hreach hb hBs J Jx hY W hc' hcs h0
end
end Go.Proofs.YtpnjbfjomebppaaGreat
open Go.IntKind (u8 u16 i64)
namespace Go.Proofs.YtpnjbfjomebppaaGreat
open Go Go.S3 Go.Proofs Go.Proofs.Cells Go.RowKit Go.Shelf
attribute [local go_sem] Oper.semAt_some
noncomputable section
set_option maxRecDepth 100000 in
set_option maxHeartbeats 2000000 in
theorem Z7K (F:Fence) (n:Nat) (h4:F.fn 270) (h6:F.fn 345) (h8:F.fn 382) (hro:F.round=none) (hn:3<=n) (a:Option Addr) (len cap:Nat) (l:List Cell) (t:Int) (hreach:l.length<=1073741824)
  (w:World) (hI:Held w.heap.size w (.slice a len cap) l):
  CallsIn F n Tryz.prog 270 #[.slice a len cap,.int .u16 t] w λe W'=>e=.returned (.int .u8 (getX l t))/\Below w.heap.size w W':=by
 have h1:1<=n:=by omega
 refine callsIn_of_wp_marks Tryz.func270 rfl h4 ?_ hro;simp only[Tryz.ntmps270,Yah,List.length_cons,List.length_nil,Nat.reduceAdd,Nat.reduceSub,Array.replicate_succ,Array.replicate_zero,List.push_toArray,List.append_toArray,List.nil_append,List.cons_append]
 gi_wp2_with (gi_at_call 345;refine (Z6h F (n-1) h6 hro _ _ _ _).mono ?_;rintro e w' ⟨rfl,rfl⟩)
 have bT:=Boxed.new w 34 (.int .u16 t);have bR:=Boxed.new (w.alloc (.cells #[.int .u16 t] 34)) 5 (.int .u8 0);have bN:=Boxed.new ((w.alloc (.cells #[.int .u16 t] 34)).alloc (.cells #[.int .u8 0] 5)) 26 (.slice a len cap);rw[World.size_alloc] at bR bN;rw[World.size_alloc] at bN;have hB0:Below w.heap.size w (((w.alloc (.cells #[.int .u16 t] 34)).alloc (.cells #[.int .u8 0] 5)).alloc (.cells #[.slice a len cap] 26)):=(((Below.refl _ w).alloc (Ye _) _).alloc (by simp) _).alloc (by simp;omega) _;refine wpIn_rangeFunc_ownH hro h1 (gf:=382) (lb:= #[.pointer (some ⟨w.heap.size+2,0,none⟩)]) rfl h8 (enters_of Tryz.func382 (by kernel_rfl) rfl)
  (ZPu F (n-1) h8 hro (by omega) (w.heap.size+2) (w.heap.size+3) _ l hreach _ (by omega) (by simp) bN.cell ?held) belowK_t (belowK_b (by simp)) (Below.refl _ _) (λ_=>rfl)
  (λpre W=>((∀p∈pre,p.2.1≠t)/\W.cell? ⟨w.heap.size,0,none⟩=some (.int .u16 t)/\W.cell? ⟨w.heap.size+1,0,none⟩=some (.int .u8 0)/\W.frozen? ⟨w.heap.size+1,0,none⟩=false/\w.heap.size+3<=W.heap.size)/\Below w.heap.size w W)
  (λc pre W=>(c=.ret/\∃ini last,pre=ini++[last]/\(∀p∈ini,p.2.1≠t)/\last.2.1=t/\W.cell? ⟨w.heap.size+1,0,none⟩=some (.int .u8 last.2.2))/\Below w.heap.size w W)
  (OwnFrom.and (Own.from (λs A B row hs hg hr=>⟨hs.1,cell_kept hs.2.1 hg hr,cell_kept hs.2.2.1 hg hr,(frozen_kept hs.2.2.1 hg hr).trans hs.2.2.2.1,YS hs.2.2.2.2 hg.size⟩) _) (ownFrom_below (Ye _) (by simp;omega)))
  (λc=>OwnFrom.and (Own.from (λs A B row hs hg hr=>by obtain⟨hc,ini,last,e1,e2,e3,e4⟩:=hs;exact⟨hc,ini,last,e1,e2,e3,cell_kept e4 hg hr⟩) _) (ownFrom_below (Ye _) (by simp;omega)))
  ⟨⟨by simp,((bT.alloc _).alloc _).cell,(bR.alloc _).cell,(bR.alloc _).frozen,by simp⟩,hB0⟩
  (λx a' W=>∃B,W.cell? ⟨B,0,none⟩=some (.int .u16 x.2.1)/\W.cell? ⟨B,1,none⟩=some (.int .u8 x.2.2)/\
   a'={tmps:= #[.slice a len cap,.int .u16 t,undef,.pointer (some ⟨w.heap.size,0,none⟩),.pointer (some ⟨w.heap.size+1,0,none⟩),undef,.pointer (some ⟨B,0,none⟩),.slice a len cap,.func (.func 382) #[] #[.pointer (some ⟨w.heap.size+2,0,none⟩)],.int .i64 (x.1:Int),.agg #[.int .u16 x.2.1,.int .u8 x.2.2],undef,undef,undef,undef,undef,undef],defers:=[]})
  (λx a'=>Own.from (λs A B row hs hg hr=>by obtain⟨b,e2,e3,e4⟩:=hs;exact⟨b,cell_kept e2 hg hr,cell_kept e3 hg hr,e4⟩) _)
  ?assign ?body ?done ?stop
 case held=>exact (hI.below hB0).mono (by omega)
 case assign=>
  rintro y pre x W K ⟨⟨hp,hct,hcr,hfr,hsz⟩,hB⟩ hK;gi_wp2
  have hn1:∀o:Obj,(W.alloc o).heap[W.heap.size]? =some o:=λo=>World.alloc_heap_new W o
  refine hK _ _ ((KeepsOthers.alloc W _).from _) ((Below.refl _ W).alloc hsz _) ⟨⟨hp,?_,?_,?_,by simp;omega⟩,hB.alloc (by omega) _⟩ ⟨W.heap.size,?_,?_,rfl⟩
  ·exact cell_kept hct (World.grownBy_alloc W _ none) (λr e=>by cases e)
  ·exact cell_kept hcr (World.grownBy_alloc W _ none) (λr e=>by cases e)
  ·exact (frozen_kept hcr (World.grownBy_alloc W _ none) (λr e=>by cases e)).trans hfr
  ·simp only[World.cell?];rw[hn1];rfl
  ·simp only[World.cell?];rw[hn1];rfl
 case body=>
  rintro y pre x a' W hy hl ⟨⟨hp,hct,hcr,hfr,hsz⟩,hB⟩ ⟨B,hB2,hB3,rfl⟩ _;gi_wp2
  ·have hx:x.2.1=t:=by simpa using (by assumption:(x.2.1==t)=true)
   exact⟨(KeepsOthers.setCell _ _ _).from _,⟨rfl,pre,x,rfl,hp,hx,World.cell?_setCell_same' _ _ _ (by rw[hcr];rfl)⟩,hB.setCell (p:=⟨w.heap.size+1,0,none⟩) (by simp) _⟩
  ·have hx:x.2.1≠t:=by simpa using (by assumption:(x.2.1==t)=false)
   exact⟨KeepsFrom.refl _ _,Below.refl _ _,⟨λp hp'=>(Yan.1 hp').elim (hp p) (λe=>by simp at e;subst e;exact hx),hct,hcr,hfr,hsz⟩,hB⟩
 case done=>
  rintro D ys W hD rfl ⟨⟨hne,hct,hcr,hfr,hsz⟩,hB⟩ hK;gi_wp2
  have hK':=(KeepsOthers.setCell W ⟨w.heap.size+1,0,none⟩ (.int .u8 0)).same D _ hK rfl;refine⟨by simp,.inl ⟨_,_,rfl,run_takeDeferred hK',?_⟩⟩;have hc5:=cell_kept (World.cell?_setCell_same' W ⟨w.heap.size+1,0,none⟩ (.int .u8 0) (by rw[hcr];rfl)) (grownBy_putObj' _ D (.deferred none)) (λr e=>by cases e;exact⟨_,hK',rfl⟩);have h0:getX l t=0:=Zkj λc hc=>by obtain⟨i,hi,rfl⟩:=YaH.1 hc;have e1:=Zc4 l i hi;rw[Yk hi,oinj] at e1;rw[e1];refine hne (i,el l i) ?_;simp only[bwL,List.mem_map,YaF];exact⟨l.length-1-i,by omega,by rw[show l.length-1-(l.length-1-i)=i by omega]⟩
  refine⟨.int .u8 0,?_,by rw[h0],(hB.setCell (p:=⟨w.heap.size+1,0,none⟩) (by simp) _).trans (belowK_b (w:=w) (Ye _) _ D _ _ (by simp at hD;omega) hK' rfl rfl)⟩;simp[results,Tryz.f270,go_sem,hc5]
 case stop=>
  rintro D c pre W hD ⟨k,hk,rfl⟩ ⟨⟨rfl,ini,last,e1,e2,e3,hcr⟩,hB⟩ hK;gi_wp2
  refine⟨by simp,.inl ⟨_,_,rfl,run_takeDeferred hK,?_⟩⟩;have hc5:=cell_kept hcr (grownBy_putObj' _ D (.deferred none)) (λr e=>by cases e;exact⟨_,hK,rfl⟩);obtain⟨k',rfl⟩:∃k',k=k'+1:=by
   cases k with
   |zero=>simp[bwL] at e1
   |succ k'=>exact⟨k',rfl⟩
  rw[ZLK] at e1;obtain⟨rfl,e5⟩:=List.append_inj' e1 rfl;simp only[List.cons.injEq,and_true] at e5;subst e5;have hg:getX l t=(el l (l.length-1-k')).2:=ZWP (i:=l.length-1-k') (by omega) e3 λq h1 h2=>by refine e2 (q,el l q) ?_;simp only[bwL,List.mem_map,YaF];exact⟨l.length-1-q,by omega,by rw[show l.length-1-(l.length-1-q)=q by omega]⟩
  refine⟨.int .u8 (el l (l.length-1-k')).2,?_,by rw[hg],hB.trans (belowK_b (w:=w) (Ye _) W D _ _ (by simp at hD;omega) hK rfl rfl)⟩;simp[results,Tryz.f270,go_sem,hc5]
def Z7w:List Sh:=[.one (.sl (R.Pq Kb Ka)),.one (.int u16)]
def Z7x:Rs:=.one (.one Ka)
def Z7y:En:=Zf Z7w Z7x (λa=>some (Nat.ble (Le (α:=Cell) a.1) most)) (λa=>getX a.1 a.2)
theorem Z5V (l:List Cell) (h:∀c∈l,inR .u8 c.2) (t:Int):inR .u8 (getX l t):=by
 by_cases hx:∃c∈l,c.1=t
 ·have hne:flt t l≠[]:=by
   obtain⟨c,hc,he⟩:=hx;intro h0;have:c∈flt t l:=by simp[flt,hc,he]
   rw[h0] at this;simp at this
  rw[getX];cases hq:(flt t l).getLast? with
  |none=>exact absurd (List.getLast?_eq_none_iff.1 hq) hne
  |some c=>
   have:=List.mem_of_getLast? hq;simp only[flt,List.mem_filter] at this;exact h c this.1
 ·rw[Zkj λc hc e=>hx ⟨c,hc,e⟩];exact⟨by decide,by decide⟩
theorem Z5D:Za Tryz.prog 270 Z7y:=by
 refine⟨Tryz.call270,λvs chk v hp hc x m w args hm hv=> ?_⟩;simp only at hp;split at hp
 ·rename_i a ha;simp only[oinj,pinj] at hp;obtain⟨rfl,rfl⟩:=hp;obtain⟨hargs,hin⟩:=Zb7 ha hv;obtain⟨l,t⟩:=a;have hle:List.length (α:=Cell) l<=most:=by
   cases hb:Nat.ble (List.length (α:=Cell) l) most with
   |true=>simpa [Yz] using hb
   |false=>rw[hb] at hc;exact absurd rfl hc
  have hmost:most<=1073741824:=by decide
  match args,hargs with
  |[v0,v1],hargs=>
   have hv0:RA x (.lst (R.Pq (R.int u16) (R.int u8)) false false false l) v0:=hargs.1;have hv1:RA x (.int false .u16 t) v1:=hargs.2.1;have hl8:∀c∈(l:List Cell),inR .u8 c.2:=λc hc=>((hin.1:rcCE.ok l).2 c hc).2
   cases hv1;obtain⟨aa,len,cap,rfl,hheld⟩:∃aa len cap,v0=.slice aa len cap/\Held w.heap.size w (.slice aa len cap) l:=by
    cases hv0 with
    |lst0 _ _ _ _ _ _ a cap h1 h2 h3 _=>exact⟨a,0,cap,rfl,.inl ⟨a,cap,rfl,h1⟩⟩
    |lst _ _ _ _ _ _ p o cap c h0 hf hcap hml hz hr=>
     refine⟨_,_,cap,rfl,.inr ⟨p,o,cap,rfl,?_,λj hj=> ?_⟩⟩
     ·have hpos:0<List.length (α:=Cell) l:=List.length_pos_iff.2 h0;exact hm.fz_lt (hz 0 0 _ hpos rfl)
     ·have q1:=hm.fz _ _ _ (hz j 0 _ hj rfl);have q2:=hm.fz _ _ _ (hz j 1 _ hj rfl);have r1:=hr j 0 _ hj rfl;have r2:=hr j 1 _ hj rfl;generalize c j 0=c0 at q1 r1;generalize c j 1=c1 at q2 r2;cases r1;cases r2;exact⟨q1,q2⟩
   have key:=Z7K {fn:=λ_=>True} 3 trivial trivial trivial rfl (Ye _) aa len cap l t (by omega) w hheld;refine (key.calls (λk d hd=>by simp at hd)).mono ?_;rintro e w' ⟨rfl,hb⟩;have hs:Zd8 w w':=⟨⟨hb.size,λk hk=>hb.block k hk⟩,hb.os,hb.tape,hb.output⟩;exact⟨_,x,rfl,.int _ _ _ _ (Z5V l hl8 t),hm.old hs.1,.refl x,hs⟩
  |[],hargs=>exact hargs.elim
  |[_],hargs=>exact hargs.2.elim
  |_::_::_::_,hargs=>exact hargs.2.2.elim
 ·simp at hp
end
end Go.Proofs.YtpnjbfjomebppaaGreat
open Go Go.S3 Go.Proofs
set_option maxRecDepth 100000
namespace Go.Proofs.YtpnjbfjomebppaaGreat
noncomputable section
abbrev Z6x:List Sh:=[Sh.agg (R.Pq Kb Ka),So Kb]
def uAtT (c:Int×Int) (t:Int):RT (Int):=
 .Lf (uCmp c.1 t)
def uAt (c:Int×Int) (t:Int):Int:=(uAtT c t).val
def uAtE:En:=Zf Z6x Z2v (λ_=>none) (λa=>uAt a.1 a.2)
theorem ZQ6:Za prog 277 uAtE:=
 pureQ 31 [(161,Z3D)] [] Z6x Z2v ⟨ZQ3,Tv⟩ Tryz.func277 Tryz.call277 trivial (t:=λa=>uAtT a.1 a.2)
abbrev ZC9:Rs:=Rs.tup [So Kc,So R.bool]
def ZYb:LS:={n:=49,Sl:=[(0,.code (So rcCE)),(1,.code (So Kb)),(2,.fix (A.clo 277 [])),(8,.code (So Kc)),(9,.code (So Kc)),(10,.code (So Kc))],Bx:=[],Sg:=[]}
def ZhU (a:List (Int×Int)×Int×Int×Int×Int×PUnit):RT (Option (Go1 (List (Int×Int)×Int×Int×Int×Int×PUnit))):=
 let x1:=i64.wrap (shrI IntKind.u64 (IntKind.u64.wrap (i64.wrap (a.2.2.2.1+a.2.2.2.2.1))) 1)
 let x2:=decide (uAt (R.get (R.Pq Kb Ka) a.1 x1) a.2.1<0)
 .br (decide (a.2.2.2.1<a.2.2.2.2.1)) (.br (Zg x1 (Le a.1)) (Ls (Go1.cont (a.1,a.2.1,a.2.2.1,bif x2 then i64.wrap (x1+1) else a.2.2.2.1,bif x2 then a.2.2.2.2.1 else x1,PUnit.unit))) Ln) (Ls (Go1.brk (a.1,a.2.1,a.2.2.1,a.2.2.2.1,a.2.2.2.2.1,PUnit.unit)))
def ZIw:Ora:=Zbn false ZYb ZhU (λa=>(a.2.2.2.2.1-a.2.2.2.1).toNat+1)
theorem ZMa:ZaU (envX prog [(277,uAtE)] [] 4095 8) (.block 0 (.loop (Z7 Tryz.f276.body 0))) ZIw:=
 loopP ⟨ZQ6,Tv⟩
def Zsx (x:List (Int×Int)) (t:Int):RT (Option (Int×Bool)):=
 let x1:List (Int×Int)×Int×Int×Int×Int×PUnit:=(x,t,iN (Le x),0,iN (Le x),())
 let x2:=runF false ZhU (λa=>Int.toNat (a.2.2.2.2.1-a.2.2.2.1)+1) x1
 let x3:List (Int×Int)×Int×Int×Int×Int×PUnit:=(getO (false,x1) x2).2
 let x4:=x3.2
 let x5:=x4.2
 let x6:=x5.2.1
 let x7:=decide (x6<x5.1)
 let x8:=x3.1
 .br (okB x2) (.br (!x7||Zg x6 (Le x8)) (Ls ((bif x7 then x6 else x6,x7&&uAt (R.get (R.Pq Kb Ka) x8 x6) x4.1==0))) Ln) Ln
def ZeC (x:List (Int×Int)) (t:Int):Int×Bool:=getO ZC9.Df (Zsx x t).val
def ZIx (x:List (Int×Int)) (t:Int):Bool:=okB (Zsx x t).val
def Z1r:En:=ZTk 277 ZSD ZC9 (λa=>some (ZIx a.1 a.2)) (λa=>ZeC a.1 a.2)
theorem ZYa:Za prog 276 Z1r:=
 ZNx (P:=prog) (n:=4095) (k:=8) (l:=[(277,uAtE)]) (ol:=[(0,ZIw)]) ⟨ZQ6,Tv⟩ Tryz.func276 rfl (by kernel_rfl) Tryz.call276 ⟨ZMa,Tv⟩ (g0:=277) (ts:=ZSD) (rs:=ZC9) (t:=λa=>Zsx a.1 a.2) (λa=>by kernel_rfl)
def ZO3 (m:List (Int×Int)) (t:Int) (v:Int):RT (Option (List (Int×Int))):=
 let x1:= !(v==0&& !(ZeC m t).2)||Nat.ble (Le m) most
 let x2:= !x1
 let x3:=v==0&& !(ZeC m t).2||(!v==0||(!Nat.ble (Le m) most||decide (0<=(ZeC m t).1)&&decide ((ZeC m t).1<iN (Le m))&&decide (i64.wrap ((ZeC m t).1+1)=(ZeC m t).1+1)))
 let x4:= !x3
 let x5:=v==0&& !(ZeC m t).2||(!v==0||Nat.ble (Le m) most)
 let x6:= !x5
 let x7:=v==0&& !(ZeC m t).2||(v==0||(!(ZeC m t).2||Nat.ble (Le m) most))
 .br (Zyi m) (.br (!!ZqZ m||(!Nat.ble (Le m) most||(!Nat.ble (Le (m++[(t,v)])) most||ZBU (m++[(t,v)])))) (.br (!!ZqZ m||(!Nat.ble (Le m) most||Nat.ble (Le (m++[(t,v)])) most)) (.br (!!ZqZ m||Nat.ble (Le m) most) (.br (!ZqZ m) (Ls (ZWl (m++[(t,v)]))) (.br (ZIx m t) (.br (x2||(x4||(x6||(!x7||(v==0&& !(ZeC m t).2||(v==0||(!(ZeC m t).2||Zg (ZeC m t).1 (Le m)))))))) (.br (x2||(x4||(x6||x7))) (.br (x2||(x4||x5)) (.br (x2||x3) (.br (x1) (.br (v==0&& !(ZeC m t).2) (Ls (m)) (.br (v==0) (Ls (delX m (Int.toNat (ZeC m t).1))) (.br (ZeC m t).2 (Ls (setI m (ZeC m t).1 ((R.get (R.Pq Kb Ka) m (ZeC m t).1).1,v))) (.br (!Nat.ble (Le m) most||decide (0<=(ZeC m t).1)&&decide ((ZeC m t).1<=iN (Le m))&&Nat.ble (Le m+1) most) (.br (Nat.ble (Le m) most) (Ls (insX m (Int.toNat (ZeC m t).1) (t,v))) Ln) Ln)))) Ln) Ln) Ln) Ln) Ln) Ln)) Ln) Ln) Ln) Ln
def mPut (m:List (Int×Int)) (t:Int) (v:Int):List (Int×Int):=getO ZHd.Df (ZO3 m t v).val
def Z0h (m:List (Int×Int)) (t:Int) (v:Int):Bool:=okB (ZO3 m t v).val
def Z7v:En:=Zf ZR4 ZHd (λa=>some (Z0h a.1 a.2.1 a.2.2)) (λa=>mPut a.1 a.2.1 a.2.2)
theorem Z5B:Za prog 210 Z7v:=
 Zpg (P:=prog) (n:=35253225784319) (k:=108) (l:=[(90,ZWk),(98,ZyN),(103,ZWd),(276,Z1r),(277,uAtE),(278,delE),(279,insE)]) (ol:=[]) ⟨ZLb,ZrF,ZBR,ZYa,ZQ6,Z7P,Z7J,Tv⟩ Tryz.func210 rfl (by kernel_rfl) Tryz.call210 trivial (ts:=ZR4) (rs:=ZHd) (t:=λa=>ZO3 a.1 a.2.1 a.2.2) (λa=>by kernel_rfl)
end
end Go.Proofs.YtpnjbfjomebppaaGreat
open Go Go.S3 Go.Proofs Go.Proofs.Cells
namespace Go.Proofs.YtpnjbfjomebppaaGreat
noncomputable section
theorem ZQ4 (x y:Int):decide (uCmp x y<0)=decide (x<y):=by
 simp only[uCmp,ZQ5,RT.val,bne_self_eq_false,Yc];by_cases h:x<y
 ·simp[h]
 ·by_cases h2:x>y<;>simp[h,h2]
theorem Z3C (x y:Int):(uCmp x y==0)=(x==y):=by
 simp only[uCmp,ZQ5,RT.val,bne_self_eq_false,Yc];by_cases h:x<y
 ·have:x≠y:=by omega
  simp[h,this]
 ·by_cases h2:x>y
  ·have:x≠y:=by omega
   simp[h,h2,this]
  ·have:x=y:=by omega
   simp[h,h2,this]
theorem ZQ7 (c:Cell) (t:Int):uAt c t=uCmp c.1 t:=rfl
def At (m:List Cell) (t:Int) (i:Nat):Prop:=i<=m.length/\(∀k,k<i->(el m k).1<t)/\∀k,i<=k->k<m.length->t<=(el m k).1
theorem ZQC (m:List Cell) (t:Int) (hv:Vld m) (hm:m.length<=most):ZIx m t=true/\∃i,At m t i/\ZeC m t=((i:Int),decide (i<m.length)&&((el m i).1==t)):=by
 have hms:=mst;obtain⟨r,hr,h1,i,hi,hR⟩:=ZS (fl:=false) (t:=ZhU) (fuel:=λa=>Int.toNat (a.2.2.2.2.1-a.2.2.2.1)+1)
  (λa=>∃lo hi:Nat,lo<=hi/\hi<=m.length/\(∀k,k<lo->(el m k).1<t)/\(∀k,hi<=k->k<m.length->t<=(el m k).1)/\a=(m,t,(m.length:Int),(lo:Int),(hi:Int),()))
  (λa=>Int.toNat (a.2.2.2.2.1-a.2.2.2.1)) (λr=>r.1=false/\∃i:Nat,At m t i/\r.2=(m,t,(m.length:Int),(i:Int),(i:Int),()))
  (by
   rintro a ⟨lo,hi,h1,h2,h3,h4,rfl⟩;by_cases hlt:lo<hi
   ·left;have d:decide ((lo:Int)<(hi:Int))=true:=by simpa using hlt
    have hmid:=Zrk lo hi (by omega);obtain⟨M,hM⟩:∃M,M=(lo+hi)/2:=⟨_,rfl⟩;rw[<-hM] at hmid;have r1:=Zay m M (by omega);have g:=ZcM m M;have w:=Zio M (by omega);by_cases hc:(el m M).1<t
    ·have dc:decide (uAt (el m M) t<0)=true:=by rw[ZQ7,ZQ4];simpa using hc
     refine⟨(m,t,(m.length:Int),((M+1:Nat):Int),(hi:Int),()),?_,⟨M+1,hi,by omega,h2,λk hk=> ?_,h4,rfl⟩,by simp only;omega⟩
     ·simp only[ZhU,RT.val,d,hmid,r1,g,dc,w,Yb]
     ·by_cases e:k=M
      ·subst e;exact hc
      ·by_cases e2:k<lo
       ·exact h3 k e2
       ·have:=Yaz.1 hv.1 k M (by omega) (by omega) (by omega);have e1:=Zc4 m k (by omega);have e3:=Zc4 m M (by omega);rw[Yk (by omega),oinj] at e1 e3;rw[e1,e3] at this;omega
    ·have dc:decide (uAt (el m M) t<0)=false:=by rw[ZQ7,ZQ4];simpa using hc
     refine⟨(m,t,(m.length:Int),(lo:Int),(M:Int),()),?_,⟨lo,M,by omega,by omega,h3,λk hk hk2=> ?_,rfl⟩,by simp only;omega⟩
     ·simp only[ZhU,RT.val,d,hmid,r1,g,dc,Yb,Yc]
     ·by_cases e:k=M
      ·subst e;omega
      ·have:=Yaz.1 hv.1 M k (by omega) (by omega) (by omega);have e1:=Zc4 m k (by omega);have e3:=Zc4 m M (by omega);rw[Yk (by omega),oinj] at e1 e3;rw[e1,e3] at this;omega
   ·right;left;have d:decide ((lo:Int)<(hi:Int))=false:=by simpa using hlt
    have:hi=lo:=by omega
    subst this
    exact⟨_,by simp only[ZhU,RT.val,d,Yc],rfl,hi,⟨h2,h3,h4⟩,rfl⟩)
  (m,t,iN m.length,0,iN m.length,()) ⟨0,m.length,YA _,Ye _,λk h=>by omega,λk h1 h2=>by omega,rfl⟩ (by simp only[iN];omega)
 obtain⟨r1,r2⟩:=r;simp only at h1 hR;subst h1 hR;have hd:decide ((i:Int)<(m.length:Int))=decide (i<m.length):=by simp
 have hv:(Zsx m t).val=some ((i:Int),decide (i<m.length)&&((el m i).1==t)):=by
  have g:=ZcM m i;by_cases hlt:i<m.length
  ·have r1:=Zay m i hlt;have hd:decide ((i:Int)<(m.length:Int))=true:=by simpa using hlt
   simp only[Zsx,RT.val,hr,okB,getO,Yb,hd,r1,Yf,Yj,g,ZQ7,Z3C,hlt,decide_true,YP]
  ·have hd:decide ((i:Int)<(m.length:Int))=false:=by simpa using hlt
   simp only[Zsx,RT.val,hr,okB,getO,Yb,Yc,hd,Ym,Yt,hlt,decide_false,YT]
 exact⟨by simp only[ZIx,hv];rfl,i,hi,by simp only[ZeC,hv,getO]⟩
theorem ZTi:∀(i:Nat) (m:List Cell) (c:Cell),i<=m.length->(∀k,k<i->(el m k).1<c.1)->putX m c=m.take i++putX (m.drop i) c
 |0,m,c,_,_=>by simp
 |i+1,[],c,h,_=>by simp at h
 |i+1,x::m,c,h,hk=>by have h0:x.1<c.1:=hk 0 (by omega);rw[putX,YW h0,ZTi i m c (by simpa using h) (λk h'=>hk (k+1) (by omega))];simp
theorem ZTh (m:List Cell) (t v:Int) (i:Nat) (h:At m t i):
  (v=0->(decide (i<m.length)&&((el m i).1==t))=false->putX m (t,v)=m)/\
  (v=0->(decide (i<m.length)&&((el m i).1==t))=true->putX m (t,v)=delX m i)/\
  (v≠0->(decide (i<m.length)&&((el m i).1==t))=true->putX m (t,v)=setI m (i:Int) ((el m i).1,v))/\
  (v≠0->(decide (i<m.length)&&((el m i).1==t))=false->putX m (t,v)=insX m i (t,v)):=by
 obtain⟨h1,h2,h3⟩:=h;have hp:=ZTi i m (t,v) h1 h2;by_cases hlt:i<m.length
 ·have hd:=ZyG m i hlt;have hge:=h3 i (Ye _) hlt;have hn:¬(el m i).1<t:=by omega
  rw[hd] at hp;simp only[putX,Y1 hn] at hp;simp only[hlt,decide_true,YP];refine⟨λhz he=> ?_,λhz he=> ?_,λhz he=> ?_,λhz he=> ?_⟩
  ·have he:(el m i).1≠t:=by simpa using he
   rw[hp,YW hz,Y1 he,<-hd,Yal]
  ·have he:(el m i).1=t:=by simpa using he
   rw[hp,YW hz,YW he,delX]
  ·have he:(el m i).1=t:=by simpa using he
   rw[hp,Y1 hz,YW he,setI,Int.toNat_natCast,he,List.set_eq_take_append_cons_drop,YW hlt]
  ·have he:(el m i).1≠t:=by simpa using he
   rw[hp,Y1 hz,Y1 he,insX,<-hd];simp
 ·have he:i=m.length:=by omega
  subst he;simp only[List.drop_length,putX] at hp;simp only[Nat.lt_irrefl,decide_false,YT];refine⟨λhz _=> ?_,λhz he=>by simp at he,λhz he=>by simp at he,λhz _=> ?_⟩
  ·rw[hp,YW hz];simp
  ·rw[hp,Y1 hz,insX];simp
theorem Z0f (m:List Cell) (t v:Int) (hm:m.length+1<=most):Z0h m t v=true/\mPut m t v=putX (normX m) (t,v):=by
 have hms:=mst;have hv1:=ZBG m (by omega);have hb1:Nat.ble m.length most=true:=by rw[Yz];omega
 have hv:(ZO3 m t v).val=some (putX (normX m) (t,v)):=by
  cases hval:vldB m with
  |false=>
   have hl:(m++[(t,v)]).length<=most:=by simp;omega
   have hb2:Nat.ble (m++[(t,v)]).length most=true:=by rw[Yz];exact hl
   obtain⟨n1,n2⟩:=ZBJ (m++[(t,v)]) hl;simp only[ZO3,RT.val,hv1.1,hv1.2,hval,hb1,hb2,n1,n2,Zlq,Ym,Yf,Yh,Yaa,Yb]
  |true=>
   have hV:=Zug.1 hval;obtain⟨f1,i,hi,f2⟩:=ZQC m t hV (by omega);obtain⟨q1,q2,q3,q4⟩:=ZTh m t v i hi;have hile:decide ((i:Int)<=iN m.length)=true:=by simpa [iN] using hi.1
   have hi0:decide ((0:Int)<=(i:Int))=true:=by simp
   have hb3:Nat.ble (m.length+1) most=true:=by rw[Yz];omega
   have w:=Zio i (by have:=hi.1;omega);have g:=ZcM m i;rw[Zlr hV];simp only[ZO3,RT.val,hv1.1,hv1.2,hval,hb1,f1,f2,hile,hi0,hb3,w,g,Yf,Ym,Yt,Yh,Yu,Yj,YY,YP,Yb,Yc,Int.toNat_natCast];cases hfd:(decide (i<m.length)&&((el m i).1==t)) with
   |true=>
    have hlt:i<m.length:=by rw[Ya,Yi] at hfd;exact hfd.1
    have r1:=Zay m i hlt;have hd:decide ((i:Int)<iN m.length)=true:=by simpa [iN] using hlt
    have hw:decide (((i+1:Nat):Int)=(i:Int)+1)=true:=by simp
    by_cases hz:v=0
    ·have hz1:(v==0)=true:=by simpa using hz
     simp only[hz1,r1,hd,hw,q2 hz hfd,Yf,Ym,Y3,YV,Yt,Yh,Yu,Yj,YY,Yb,Yc]
    ·have hz1:(v==0)=false:=by simpa using hz
     simp only[hz1,r1,hd,hw,q3 hz hfd,Yf,Ym,YT,Y3,YV,Yt,Yh,Yu,Yj,YY,Yb,Yc]
   |false=>
    by_cases hz:v=0
    ·have hz1:(v==0)=true:=by simpa using hz
     simp only[hz1,q1 hz hfd,Yf,Ym,Y3,YV,Yt,Yh,Yu,Yj,YY,Yb,Yc]
    ·have hz1:(v==0)=false:=by simpa using hz
     simp only[hz1,q4 hz hfd,Yf,Ym,YT,Y3,YV,Yt,Yh,Yu,Yj,YY,Yb,Yc]
 exact⟨by simp only[Z0h,hv];rfl,by simp only[mPut,hv,getO]⟩
abbrev ZpB:List Sh:=[So rcRG]
def ZNM:LS:={n:=30,Sl:=[(2,.code (So Kc)),(8,.code (So rcRG)),(9,.code (So Kc)),(10,.code (So Kc))],Bx:=[],Sg:=[]}
def Ztq (a:QT17):RT (Option (Go1 (QT17))):=
 let x1:QT6:=R.get (R.Pq Kb (R.Pq Kb (R.Pq R.bool Kc))) a.2.1 a.2.2.2.1
 let x2:=x1.2
 let x3:=x2.2.2
 let x4:List (QT6)×Int×Int×PUnit:=(a.2.1,a.2.2.1,a.2.2.2.1,PUnit.unit)
 .br (decide (a.2.2.2.1<a.2.2.1)) (.br (Zg a.2.2.2.1 (Le a.2.1)) (.br (decide (x2.1<x1.1)||(decide (x3<0)||decide (x3>100))) (Ls (Go1.ret (1,x4))) (Ls (Go1.cont (a.1,a.2.1,a.2.2.1,i64.wrap (a.2.2.2.1+1),PUnit.unit)))) Ln) (Ls (Go1.brk (a.1,x4)))
def Ztr:Ora:=Zbn true ZNM Ztq (λa=>1000000000000)
theorem ZAZ:ZaU (envX prog [] [] 31 8) (.block 0 (.loop (Z7 Tryz.f102.body 0))) Ztr:=
 loopP trivial
def Zm3 (l:List (QT6)):RT (Option (Int)):=
 let x1:=runF true Ztq (λa=>1000000000000) (0,l,iN (Le l),0,())
 let x2:=getO (false,0,l,iN (Le l),0,()) x1
 .br (decide (iN (Le l)>16)) (Ls (3)) (.br (okB x1) (.br x2.1 (Ls x2.2.1) (Ls (0))) Ln)
def ZTW (l:List (QT6)):Int:=getO Z2v.Df (Zm3 l).val
def ZKc (l:List (QT6)):Bool:=okB (Zm3 l).val
def ZZu:En:=Zf ZpB Z2v (λa=>some (ZKc a)) (λa=>ZTW a)
theorem ZNL:Za prog 102 ZZu:=
 pureP 31 [] [(0,Ztr)] ZpB Z2v trivial Tryz.func102 Tryz.call102 ⟨ZAZ,Tv⟩ (t:=λa=>Zm3 a)
def ZpM (l:List (QT6)) (m:List (Int×Int)) (t:Int):RT (Option (Int)):=
 .br (ZBh l t) (.br (decide (ZrY l t<0)) (Ls (255)) (.br (Nat.ble (Le m) most) (Ls (Cells.getX m t)) Ln)) Ln
def ZUg (l:List (QT6)) (m:List (Int×Int)) (t:Int):Int:=getO ZVv.Df (ZpM l m t).val
def ZFz (l:List (QT6)) (m:List (Int×Int)) (t:Int):Bool:=okB (ZpM l m t).val
def Z4O:En:=Zf Zu9 ZVv (λa=>some (ZFz a.1 a.2.1 a.2.2)) (λa=>ZUg a.1 a.2.1 a.2.2)
theorem ZUf:Za prog 202 Z4O:=
 pureP 127 [(209,ZKG),(270,Z7y)] [] Zu9 ZVv ⟨Zxm,Z5D,Tv⟩ Tryz.func202 Tryz.call202 trivial (t:=λa=>ZpM a.1 a.2.1 a.2.2)
def ZjR (l:List (QT6)) (m:List (Int×Int)) (t:Int) (v:Int):RT (Option (List (Int×Int))):=
 let x1:=decide (ZrY l t>=0)&&(R.get (R.Pq Kb (R.Pq Kb (R.Pq R.bool Kc))) l (ZrY l t)).2.2.1
 .br (ZBh l t) (.br (!decide (ZrY l t>=0)||Zg (ZrY l t) (Le l)) (.br (!x1||Z0h m t v) (.br (x1) (Ls (mPut m t v)) (.br (ZBU m) (Ls (ZWl m)) Ln)) Ln) Ln) Ln
def ZFk (l:List (QT6)) (m:List (Int×Int)) (t:Int) (v:Int):List (Int×Int):=getO ZHd.Df (ZjR l m t v).val
def ZwH (l:List (QT6)) (m:List (Int×Int)) (t:Int) (v:Int):Bool:=okB (ZjR l m t v).val
def ZZr:En:=Zf Zn6 ZHd (λa=>some (ZwH a.1 a.2.1 a.2.2.1 a.2.2.2)) (λa=>ZFk a.1 a.2.1 a.2.2.1 a.2.2.2)
theorem ZNI:Za prog 143 ZZr:=
 pureP 1023 [(90,ZWk),(209,ZKG),(210,Z7v)] [] Zn6 ZHd ⟨ZLb,Zxm,Z5B,Tv⟩ Tryz.func143 Tryz.call143 trivial (t:=λa=>ZjR a.1 a.2.1 a.2.2.1 a.2.2.2)
def ZjT (l:List (QT6)) (t:Int):RT (Option (Int)):=
 let x1:Int:=(R.get (R.Pq Kb (R.Pq Kb (R.Pq R.bool Kc))) l (ZrY l t)).2.2.2
 let x2:Int:=if 100<x1 then 100 else x1
 .br (ZBh l t) (.br (decide (ZrY l t<0)) (Ls (0)) (.br (Zg (ZrY l t) (Le l)) (Ls (if x2>0 then x2 else 0)) Ln)) Ln
def ZFl (l:List (QT6)) (t:Int):Int:=getO Z2v.Df (ZjT l t).val
def ZwI (l:List (QT6)) (t:Int):Bool:=okB (ZjT l t).val
def ZZs:En:=Zf ZSE Z2v (λa=>some (ZwI a.1 a.2)) (λa=>ZFl a.1 a.2)
theorem ZNJ:Za prog 269 ZZs:=
 pureP 63 [(209,ZKG)] [] ZSE Z2v ⟨Zxm,Tv⟩ Tryz.func269 Tryz.call269 trivial (t:=λa=>ZjT a.1 a.2)
def ZED (n:Int):RT (Int):=
 .Lf (if (if 100<n then 100 else n)>0 then if 100<n then 100 else n else 0)
def ZjB (n:Int):Int:=(ZED n).val
def ZEE:En:=Zf ZA3 Z2v (λ_=>none) (λa=>ZjB a)
theorem ZAu:Za prog 335 ZEE:=
 pureQ 7 [] [] ZA3 Z2v trivial Tryz.func335 Tryz.call335 trivial (t:=λa=>ZED a)
def Zn9 (l:List (QT6)) (t:Int):RT (Option (Int)):=
 .br (Zo7 l t) (.br (!decide (Zk7 l t>=0)||Zg (Zk7 l t) (Le l)) (.br (decide (Zk7 l t>=0)) (Ls (ZjB (R.get (R.Pq Kb (R.Pq Kb (R.Pq R.bool Kc))) l (Zk7 l t)).2.2.2)) (Ls (0))) Ln) Ln
def ZRG (l:List (QT6)) (t:Int):Int:=getO Z2v.Df (Zn9 l t).val
def ZDx (l:List (QT6)) (t:Int):Bool:=okB (Zn9 l t).val
def Z3U:En:=Zf ZSE Z2v (λa=>some (ZDx a.1 a.2)) (λa=>ZRG a.1 a.2)
theorem ZRF:Za prog 334 Z3U:=
 pureP 63 [(169,ZJz),(335,ZEE)] [] ZSE Z2v ⟨Zvz,ZAu,Tv⟩ Tryz.func334 Tryz.call334 trivial (t:=λa=>Zn9 a.1 a.2)
def ZMo:LS:={n:=30,Sl:=[(2,.code (So Kc)),(8,.code (So rcRG)),(9,.code (So Kc)),(10,.code (So Kc))],Bx:=[],Sg:=[]}
def Zer (a:QT17):RT (Option (Go1 (QT17))):=
 let x1:QT6:=R.get (R.Pq Kb (R.Pq Kb (R.Pq R.bool Kc))) a.2.1 a.2.2.2.1
 let x2:=x1.2
 let x3:=x2.2.2
 let x4:List (QT6)×Int×Int×PUnit:=(a.2.1,a.2.2.1,a.2.2.2.1,PUnit.unit)
 .br (decide (a.2.2.2.1<a.2.2.1)) (.br (Zg a.2.2.2.1 (Le a.2.1)) (.br (decide (x2.1<x1.1)||(decide (x3<0)||decide (x3>100))) (Ls (Go1.ret (1,x4))) (Ls (Go1.cont (a.1,a.2.1,a.2.2.1,i64.wrap (a.2.2.2.1+1),PUnit.unit)))) Ln) (Ls (Go1.brk (a.1,x4)))
def ZsS:Ora:=Zbn true ZMo Zer (λa=>1000000000000)
theorem Zz1:ZaU (envX prog [] [] 31 8) (.block 0 (.loop (Z7 Tryz.f104.body 0))) ZsS:=
 loopP trivial
def Zfo (l:List (QT6)):RT (Option (Int)):=
 let x1:=runF true Zer (λa=>1000000000000) (0,l,iN (Le l),0,())
 let x2:=getO (false,0,l,iN (Le l),0,()) x1
 .br (decide (iN (Le l)>16)) (Ls (3)) (.br (okB x1) (.br x2.1 (Ls x2.2.1) (Ls (0))) Ln)
def Zu0 (l:List (QT6)):Int:=getO Z2v.Df (Zfo l).val
def ZmO (l:List (QT6)):Bool:=okB (Zfo l).val
def ZYD:En:=Zf ZpB Z2v (λa=>some (ZmO a)) (λa=>Zu0 a)
theorem ZMn:Za prog 104 ZYD:=
 pureP 31 [] [(0,ZsS)] ZpB Z2v trivial Tryz.func104 Tryz.call104 ⟨Zz1,Tv⟩ (t:=λa=>Zfo a)
def sm {α:Type} (l:List α):Bool:=Nat.ble (l.length+1) most
def smC (l:List (Int×Int)):Bool:=sm l
def smB (l:List Int):Bool:=sm l
def smG (l:List Z5):Bool:=sm l
variable {α:Type}
theorem ZsF {l:List α}:sm l=true↔l.length+1<=most:=by simp[sm]
theorem ZkS {l:List α} (h:sm l=true):l.length<=most:=by have:=ZsF.1 h;omega
theorem Z0G (l:List Z5) (t:Int): -1<=Zbl l t/\(Zbl l t<0\/∃i:Nat,i<l.length/\Zbl l t=i):=by
 unfold Zbl;split
 ·rename_i h;exact⟨by omega,.inr ⟨_,h,rfl⟩⟩
 ·exact⟨by omega,.inl (by omega)⟩
theorem Zkn (l:List Z5) (t:Int) (h:0<=Zbl l t):Zg (Zbl l t) l.length=true:=by
 rcases (Z0G l t).2 with h1|⟨i,hi,e⟩
 ·omega
 ·rw[e];exact Zay l i hi
def ZaV (l:List Z5) (m:List Cell) (t v:Int):List Cell:=bif decide (Zbl l t>=0)&&(R.get GR l (Zbl l t)).2.2.1 then putX (normX m) (t,v) else normX m
def limX (n:Int):Int:=if (if 100<n then 100 else n)>0 then if 100<n then 100 else n else 0
def Zey (l:List Z5) (t:Int):Int:=bif decide (Zbl l t>=0) then limX (R.get GR l (Zbl l t)).2.2.2 else 0
theorem ge_lt (x:Int):decide (x>=0)= !decide (x<0):=by by_cases h:x<0<;>simp[h]<;>omega
theorem ZTp (l:List Z5) (m:List Cell) (t:Int) (hl:l.length<=most) (hm:m.length<=most):ZFz l m t=true/\ZUg l m t=Zfn l m t:=by
 have h1:=Zps l t hl;have hb:Nat.ble m.length most=true:=by rw[Yz];exact hm
 have hv:(ZpM l m t).val=some (Zfn l m t):=by simp only[ZpM,RT.val,h1.1,h1.2,hb,Yb,Zfn];cases decide (Zbl l t<0)<;>rfl
 exact⟨by simp only[ZFz,hv];rfl,by simp only[ZUg,hv,getO]⟩
theorem ZNu (l:List Z5) (m:List Cell) (t v:Int) (hl:l.length<=most) (hm:m.length+1<=most):ZwH l m t v=true/\ZFk l m t v=ZaV l m t v:=by
 have h1:=Zps l t hl;have h2:=Z0f m t v hm;have h3:=ZBJ m (by omega);have hv:(ZjR l m t v).val=some (ZaV l m t v):=by
  have hr:(!decide (Zbl l t>=0)||Zg (Zbl l t) l.length)=true:=by
   by_cases h:0<=Zbl l t
   ·rw[Zkn l t h];simp
   ·have:decide (Zbl l t>=0)=false:=by simp;omega
    rw[this];rfl
  simp only[ZjR,RT.val,h1.1,h1.2,h2.1,h2.2,h3.1,h3.2,hr,Yh,Yb,ZaV];cases decide (Zbl l t>=0)&&(R.get GR l (Zbl l t)).2.2.1<;>rfl
 exact⟨by simp only[ZwH,hv];rfl,by simp only[ZFk,hv,getO]⟩
theorem ZMd (l:List Z5) (m:List Cell) (t v:Int) (hl:l.length<=most) (hm:m.length+1<=most):ZuW l m t v=true/\ZDw l m t v=ZaV l m t v:=by
 have h1:=Zjn l t hl;have h2:=ZYt m t v hm;have h3:=Zn3 m hm;have hv:(Zjq l m t v).val=some (ZaV l m t v):=by
  have hr:(!decide (Zbl l t>=0)||Zg (Zbl l t) l.length)=true:=by
   by_cases h:0<=Zbl l t
   ·rw[Zkn l t h];simp
   ·have:decide (Zbl l t>=0)=false:=by simp;omega
    rw[this];rfl
  simp only[Zjq,RT.val,h1.1,h1.2,h2.1,h2.2,h3.1,h3.2,hr,Yh,Yb,ZaV];cases decide (Zbl l t>=0)&&(R.get GR l (Zbl l t)).2.2.1<;>rfl
 exact⟨by simp only[ZuW,hv];rfl,by simp only[ZDw,hv,getO]⟩
theorem ZNv (l:List Z5) (t:Int) (hl:l.length<=most):ZwI l t=true/\ZFl l t=Zey l t:=by
 have h1:=Zps l t hl;have hv:(ZjT l t).val=some (Zey l t):=by
  simp only[ZjT,RT.val,h1.1,h1.2,Yb,Zey,limX,ge_lt];by_cases h:Zbl l t<0
  ·have hd:decide (Zbl l t<0)=true:=by simpa using h
   simp only[hd,Yf,Yb,Yc]
  ·have hd:decide (Zbl l t<0)=false:=by simpa using h
   have hr:=Zkn l t (by omega);simp only[hd,hr,Ym,Yb,Yc]
 exact⟨by simp only[ZwI,hv];rfl,by simp only[ZFl,hv,getO]⟩
theorem ZMe (l:List Z5) (t:Int) (hl:l.length<=most):ZDx l t=true/\ZRG l t=Zey l t:=by
 have h1:=Zjn l t hl;have hv:(Zn9 l t).val=some (Zey l t):=by
  have hr:(!decide (Zbl l t>=0)||Zg (Zbl l t) l.length)=true:=by
   by_cases h:0<=Zbl l t
   ·rw[Zkn l t h];simp
   ·have:decide (Zbl l t>=0)=false:=by simp;omega
    rw[this];rfl
  simp only[Zn9,RT.val,h1.1,h1.2,hr,Yb,Zey];cases decide (Zbl l t>=0)<;>rfl
 exact⟨by simp only[ZDx,hv];rfl,by simp only[ZRG,hv,getO]⟩
def badR (r:Z5):Bool:=decide (r.2.1<r.1)||(decide (r.2.2.2<0)||decide (r.2.2.2>100))
def Zdx (l:List Z5):Int:=bif decide (iN l.length>16) then 3 else bif l.any badR then 1 else 0
theorem ZnX (l:List Z5) (hl:l.length<=most):ZmO l=true/\Zu0 l=Zdx l:=by
 have hms:=mst;obtain⟨r,hr,hR⟩:=ZS (fl:=true) (t:=Zer) (fuel:=λ_=>1000000000000)
  (λx=>∃i:Nat,i<=l.length/\(∀k,k<i->badR (rg l k)=false)/\x=(0,l,(l.length:Int),(i:Int),()))
  (λx=>Int.toNat (x.2.2.1-x.2.2.2.1)) (λr=>(r.1=false/\l.any badR=false)\/(r.1=true/\l.any badR=true/\r.2.1=1))
  (by
   rintro x ⟨i,hi,hk,rfl⟩;by_cases hlt:i<l.length
   ·have d:decide ((i:Int)<(l.length:Int))=true:=by simpa using hlt
    have r1:=Zay l i hlt;have g1:=Z2T l i;cases hh:badR (rg l i) with
    |false=>
     left;refine⟨(0,l,(l.length:Int),((i+1:Nat):Int),()),?_,⟨i+1,hlt,λk hk'=> ?_,rfl⟩,by simp only;omega⟩
     ·simp only[badR] at hh;simp only[Zer,RT.val,d,r1,g1,hh,Yb,Yc,Zio i (by omega)]
     ·by_cases e:k=i
      ·subst e;exact hh
      ·exact hk k (by omega)
    |true=>
     right;right;refine⟨(1,l,(l.length:Int),(i:Int),()),rfl,?_,.inr ⟨rfl,List.any_eq_true.2 ⟨rg l i,?_,hh⟩,rfl⟩⟩
     ·simp only[badR] at hh;simp only[Zer,RT.val,d,r1,g1,hh,Yb]
     ·rw[<-ZzR l i hlt];exact List.getElem_mem hlt
   ·right;left;have d:decide ((i:Int)<(l.length:Int))=false:=by simpa using hlt
    refine⟨_,by simp only[Zer,RT.val,d,Yc];rfl,.inl ⟨rfl,?_⟩⟩;rw[List.any_eq_false];intro q hq;obtain⟨k,hk',rfl⟩:=YaH.1 hq
    rw[ZzR l k hk',hk k (by omega)];simp)
  (0,l,iN l.length,0,()) ⟨0,YA _,λk h=>by omega,rfl⟩ (by simp only[iN];omega)
 have hv:(Zfo l).val=some (Zdx l):=by
  cases hd:decide (iN l.length>16) with
  |true=>simp only[Zfo,RT.val,hd,Yb,Zdx]
  |false=>
   rcases hR with ⟨h1,h2⟩|⟨h1,h2,h3⟩
   ·simp only[Zfo,RT.val,hd,hr,okB,getO,Yb,Yc,h1,h2,Zdx]
   ·simp only[Zfo,RT.val,hd,hr,okB,getO,Yb,Yc,h1,h2,h3,Zdx]
 exact⟨by simp only[ZmO,hv];rfl,by simp only[Zu0,hv,getO]⟩
theorem ZE2 (l:List Z5) (hl:l.length<=most):ZKc l=true/\ZTW l=Zdx l:=by have h:=ZnX l hl;have e:Zm3 l=Zfo l:=rfl;simp only[ZmO,Zu0,<-e] at h;exact h
theorem Zmq {P:Program} {f:FuncId} {ts:List Sh} {rs:Rs} {C:HL ts->Bool} {F G:HL ts->rs.den} (h:Za P f (Zf ts rs (λa=>some (C a)) F)) {pre:HL ts->Bool} (hp:∀a,pre a=true->C a=true/\F a=G a):
  Za P f (Zf ts rs (λa=>some (pre a)) G):=by
 have key:∀a,some (pre a)≠some false->pre a=true:=λa h=>by cases hq:pre a with
  |true=>rfl
  |false=>rw[hq] at h;exact absurd rfl h
 exact h.pure_congr (λa _ hq=>by rw[(hp a (key a hq)).1];simp) (λa _ hq=>(hp a (key a hq)).2)
def ZK5:En:=Zf ZWj Znf (λa=>some (smC a)) (λa=>vldB a)
theorem ZO2:Za prog 103 ZK5:=Zmq ZBR λa h=>ZBG a (ZkS h)
def ZmP:En:=Zf ZWj Znf (λa=>some (smC a)) (λa=>vldB a)
theorem Zk2:Za prog 105 ZmP:=Zmq Zoa λa h=>ZRq a (ZkS h)
def Zvk:En:=Zf ZWj ZHd (λa=>some (smC a)) (λa=>normX a)
theorem Zol:Za prog 93 Zvk:=Zmq Zvh λa h=>Zn3 a (ZsF.1 h)
def ZIX:En:=Zf Zu7 Znf (λa=>some (smC a.1)) (λa=>decide ((a.1:List Cell)=a.2))
theorem ZMt:Za prog 34 ZIX:=Zmq ZRO λa h=>ZRt a.1 a.2 (ZkS h)
def ZjY:En:=Zf Zu9 ZVv (λa=>some (smG a.1&&smC a.2.1)) (λa=>Zfn a.1 a.2.1 a.2.2)
theorem Ztv:Za prog 202 ZjY:=Zmq ZUf λa h=>by rw[Ya] at h;exact ZTp a.1 a.2.1 a.2.2 (ZkS h.1) (ZkS h.2)
def ZI5:En:=Zf Zu9 ZEI (λa=>some (smG a.1&&smC a.2.1)) (λa=>Zfn a.1 a.2.1 a.2.2)
theorem ZMu:Za prog 255 ZI5:=Zmq ZRX λa h=>by rw[Ya] at h;exact ZRu a.1 a.2.1 a.2.2 (ZkS h.1) (ZkS h.2)
def Zdc:En:=Zf Zn6 ZHd (λa=>some (smG a.1&&smC a.2.1)) (λa=>ZaV a.1 a.2.1 a.2.2.1 a.2.2.2)
theorem Zgl:Za prog 143 Zdc:=Zmq ZNI λa h=>by rw[Ya] at h;exact ZNu a.1 a.2.1 a.2.2.1 a.2.2.2 (ZkS h.1) (ZsF.1 h.2)
def Zn8:En:=Zf Zn6 ZHd (λa=>some (smG a.1&&smC a.2.1)) (λa=>ZaV a.1 a.2.1 a.2.2.1 a.2.2.2)
theorem Zn7:Za prog 95 Zn8:=Zmq ZMk λa h=>by rw[Ya] at h;exact ZMd a.1 a.2.1 a.2.2.1 a.2.2.2 (ZkS h.1) (ZsF.1 h.2)
def Zhs:En:=Zf ZSE Z2v (λa=>some (smG a.1)) (λa=>Zey a.1 a.2)
theorem Zpx:Za prog 269 Zhs:=Zmq ZNJ λa h=>ZNv a.1 a.2 (ZkS h)
def ZIO:En:=Zf ZSE Z2v (λa=>some (smG a.1)) (λa=>Zey a.1 a.2)
theorem ZMl:Za prog 334 ZIO:=Zmq ZRF λa h=>ZMe a.1 a.2 (ZkS h)
def ZA0:En:=Zf ZpB Z2v (λa=>some (smG a)) (λa=>Zdx a)
theorem ZFp:Za prog 102 ZA0:=Zmq ZNL λa h=>ZE2 a (ZkS h)
def Zz2:En:=Zf ZpB Z2v (λa=>some (smG a)) (λa=>Zdx a)
theorem ZDy:Za prog 104 Zz2:=Zmq ZMn λa h=>ZnX a (ZkS h)
abbrev ZH2:List Sh:=[So Ka,So Ka,So Ka]
def ZP2 (a:Int) (b:Int) (c:Int):RT (Int):=
 .Lf (xorI u8 (xorI u8 (xorI u8 a b) c) 165)
def ZgE (a:Int) (b:Int) (c:Int):Int:=(ZP2 a b c).val
def ZiI:En:=Zf ZH2 ZVv (λ_=>none) (λa=>ZgE a.1 a.2.1 a.2.2)
theorem ZfK:Za prog 117 ZiI:=
 pureQ 127 [] [] ZH2 ZVv trivial Tryz.func117 Tryz.call117 trivial (t:=λa=>ZP2 a.1 a.2.1 a.2.2)
def ZXV (o:Bool) (n:Int):RT (Option (Int)):=
 .br (!o||decide (0<=n)) (.br (o) (Ls (shlI u8 1 n)) (Ls (0))) Ln
def wBit (o:Bool) (n:Int):Int:=getO ZVv.Df (ZXV o n).val
def Zgb (o:Bool) (n:Int):Bool:=okB (ZXV o n).val
def ZP8:En:=Zf Z2F ZVv (λa=>some (Zgb a.1 a.2)) (λa=>wBit a.1 a.2)
theorem Zuf:Za prog 116 ZP8:=
 pureP 31 [] [] Z2F ZVv trivial Tryz.func116 Tryz.call116 trivial (t:=λa=>ZXV a.1 a.2)
abbrev ZP0:Rs:=Rs.one (Sh.agg Zb8)
def Z09:RT INPT:=
 .Lf ((true,false,false,false,false,false,false,false,0,0))
def ZP:INPT:=(Z09).val
def ZHZ:En:=Zf ZAG ZP0 (λ_=>none) (λa=>ZP)
theorem Zt8:Za prog 118 ZHZ:=
 pureQ 1 [] [] ZAG ZP0 trivial Tryz.func118 Tryz.call118 trivial (t:=λa=>Z09)
abbrev Zzc:List Sh:=[So (R.sl Ka)]
abbrev Znv:Rs:=Rs.one (So (R.sl Zb8))
def ZLZ:LS:={n:=83,Sl:=[(0,.code (So (R.sl Ka))),(3,.tip 0),(4,.code (So Kc))],Bx:=[],Sg:=[⟨Zb8,122,true⟩]}
def Zdw (a:List Int×Int×List INPT×PUnit):RT (Option (Go1 (List Int×Int×List INPT×PUnit))):=
 let x1:= !Zg (i64.wrap (a.2.1+1)) (Le a.1)||Zg (i64.wrap (a.2.1+2)) (Le a.1)
 let x2:= !Zg (i64.wrap (a.2.1+3)) (Le a.1)||x1
 let x3:= !x2
 let x4:= !Zg (i64.wrap (a.2.1+3)) (Le a.1)||Zg (i64.wrap (a.2.1+1)) (Le a.1)
 let x5:= !x4
 let p1:=(!Zg (i64.wrap (a.2.1+3)) (Le a.1))::x5::x3::(!Zg a.2.1 (Le a.1))::[]
 let x6:=R.get Ka a.1 (i64.wrap (a.2.1+3)) !=ZgE (R.get Ka a.1 a.2.1) (R.get Ka a.1 (i64.wrap (a.2.1+1))) (R.get Ka a.1 (i64.wrap (a.2.1+2)))
 let x7:= !x6||Nat.ble (Le (a.2.2.1++[ZP])) most
 let x8:= !x7
 let p2:=x6::x8::p1
 let x9:List INPT:=a.2.2.1++[(andI u8 (R.get Ka a.1 a.2.1) 1==0,andI u8 (R.get Ka a.1 a.2.1) 2 !=0,andI u8 (R.get Ka a.1 a.2.1) 4 !=0,andI u8 (R.get Ka a.1 a.2.1) 8 !=0,andI u8 (R.get Ka a.1 a.2.1) 16 !=0,andI u8 (R.get Ka a.1 a.2.1) 32 !=0,andI u8 (R.get Ka a.1 a.2.1) 64 !=0,andI u8 (R.get Ka a.1 a.2.1) 128 !=0,R.get Ka a.1 (i64.wrap (a.2.1+1)),R.get Ka a.1 (i64.wrap (a.2.1+2)))]
 let x10:= !Zg (i64.wrap (a.2.1+1)) (Le a.1)||(!Zg (i64.wrap (a.2.1+2)) (Le a.1)||Nat.ble (Le x9) most)
 let x11:= !x10
 let p3:=x11::p2
 let p4:=(!x1)::p3
 .br (decide (i64.wrap (a.2.1+4)<=iN (Le a.1))&&decide (iN (Le a.2.2.1)<65536)) (.br (orR p4 (Zg (i64.wrap (a.2.1+1)) (Le a.1))) (.br (orR p3 x1) (.br (orR p2 x10) (.br (orR p1 x7) (.br (!Zg a.2.1 (Le a.1)||(x3||(x5||Zg (i64.wrap (a.2.1+3)) (Le a.1)))) (.br (!Zg a.2.1 (Le a.1)||(x3||x4)) (.br (!Zg a.2.1 (Le a.1)||x2) (.br (Zg a.2.1 (Le a.1)) (Ls (Go1.cont (a.1,i64.wrap (a.2.1+4),bif x6 then a.2.2.1++[ZP] else x9,PUnit.unit))) Ln) Ln) Ln) Ln) Ln) Ln) Ln) Ln) (Ls (Go1.brk (a.1,a.2.1,a.2.2.1,PUnit.unit)))
def Zsc:Ora:=Zbn false ZLZ Zdw (λa=>1000000000000)
theorem Zzd:ZaU (envX prog [(117,ZiI),(118,ZHZ)] [] 63 8) (.block 0 (.loop (Z7 Tryz.f65.body 0))) Zsc:=
 loopP ⟨ZfK,Zt8,Tv⟩
def Zjd (l:List Int):RT (Option (List INPT)):=
 .br (okB (runF false Zdw (λa=>1000000000000) (l,0,[],()))) (Ls (getO (false,l,0,[],()) (runF false Zdw (λa=>1000000000000) (l,0,[],()))).2.2.2.1) Ln
def Zbm (l:List Int):List INPT:=getO Znv.Df (Zjd l).val
def ZmE (l:List Int):Bool:=okB (Zjd l).val
def Zua:En:=Zf Zzc Znv (λa=>some (ZmE a)) (λa=>Zbm a)
theorem Zsa:Za prog 65 Zua:=
 pureP 63 [(117,ZiI),(118,ZHZ)] [(0,Zsc)] Zzc Znv ⟨ZfK,Zt8,Tv⟩ Tryz.func65 Tryz.call65 ⟨Zzd,Tv⟩ (t:=λa=>Zjd a)
abbrev Zy8:List Sh:=[So (R.sl Zb8)]
abbrev Znt:Rs:=Rs.one (So (R.sl Ka))
def ZLY:LS:={n:=64,Sl:=[(3,.tip 0),(7,.code (So (R.sl Zb8))),(8,.code (So Kc)),(9,.code (So Kc))],Bx:=[],Sg:=[⟨Ka,5,true⟩]}
def Zdv (a:List INPT×Int×Int×List Int×PUnit):RT (Option (Go1 (List INPT×Int×Int×List Int×PUnit))):=
 let x1:INPT:=R.get Zb8 a.1 a.2.2.1
 let x2:= !x1.1
 let x3:=Zgb x2 0
 let x4:= !x3
 let x5:=x1.2
 let x6:=x5.1
 let x7:=Zgb x6 1
 let x8:= !x7
 let x9:=x5.2
 let x10:=x9.1
 let x11:=Zgb x10 2
 let x12:= !x11
 let x13:=x9.2
 let x14:=x13.1
 let x15:=Zgb x14 3
 let x16:= !x15
 let p1:=x16::x12::x8::x4::[]
 let x17:=x13.2
 let x18:=x17.1
 let x19:=Zgb x18 4
 let x20:= !x19
 let p4:=x20::p1
 let x21:=x17.2
 let x22:=x21.1
 let x23:=Zgb x22 5
 let x24:= !x23
 let p5:=x24::p4
 let x25:=x21.2
 let x26:=x25.1
 let x27:=Zgb x26 6
 let p8:=(!x27)::p5
 let x28:=x25.2
 let x29:=x28.1
 let x30:=orR p8 (Zgb x29 7)
 let x31:= !x30
 let x32:=orR p5 x27
 let x33:= !x32
 let p2:=x33::x31::(decide (a.2.2.1>=65536))::(!Zg a.2.2.1 (Le a.1))::[]
 let x34:=orR p4 x23
 let x35:= !x34
 let p3:=x35::p2
 let x36:=orR p1 x19
 let x37:= !x36
 let p6:=x37::p3
 let x38:=x4||(x8||(x12||x15))
 let x39:= !x38
 let p7:=x39::p6
 let x40:=x4||(x8||x11)
 let x41:= !x40
 let p9:=x41::p7
 let x42:=x4||x7
 let x43:= !x42
 let p10:=x43::p9
 let p11:=x4::p10
 let x44:=orI u8 (orI u8 (orI u8 (orI u8 (orI u8 (orI u8 (orI u8 (wBit x2 0) (wBit x6 1)) (wBit x10 2)) (wBit x14 3)) (wBit x18 4)) (wBit x22 5)) (wBit x26 6)) (wBit x29 7)
 let x45:=x28.2
 let x46:=x45.1
 let x47:=x45.2
 let x48:List Int:=a.2.2.2.1++[x44,x46,x47,ZgE x44 x46 x47]
 .br (decide (a.2.2.1<a.2.1)) (.br (orR p11 (Nat.ble (Le x48) most)) (.br (orR p10 x3) (.br (orR p9 x42) (.br (orR p7 x40) (.br (orR p6 x38) (.br (orR p3 x36) (.br (orR p2 x34) (.br (!Zg a.2.2.1 (Le a.1)||(decide (a.2.2.1>=65536)||(x31||x32))) (.br (!Zg a.2.2.1 (Le a.1)||(decide (a.2.2.1>=65536)||x30)) (.br (Zg a.2.2.1 (Le a.1)) (.br (decide (a.2.2.1>=65536)) (Ls (Go1.brk (a.1,a.2.1,a.2.2.1,a.2.2.2.1,PUnit.unit))) (Ls (Go1.cont (a.1,a.2.1,i64.wrap (a.2.2.1+1),x48,PUnit.unit)))) Ln) Ln) Ln) Ln) Ln) Ln) Ln) Ln) Ln) Ln) (Ls (Go1.brk (a.1,a.2.1,a.2.2.1,a.2.2.2.1,PUnit.unit)))
def Zr9:Ora:=Zbn false ZLY Zdv (λa=>1000000000000)
theorem Zzb:ZaU (envX prog [(116,ZP8),(117,ZiI)] [] 127 8) (.block 0 (.loop (Z7 Tryz.f56.body 0))) Zr9:=
 loopP ⟨Zuf,ZfK,Tv⟩
def Zga (l:List INPT):RT (Option (List Int)):=
 let x1:=runF false Zdv (λa=>1000000000000) (l,iN (Le l),0,[],())
 .br (okB x1) (Ls (getO (false,l,iN (Le l),0,[],()) x1).2.2.2.2.1) Ln
def ZiG (l:List INPT):List Int:=getO Znt.Df (Zga l).val
def ZmD (l:List INPT):Bool:=okB (Zga l).val
def ZH0:En:=Zf Zy8 Znt (λa=>some (ZmD a)) (λa=>ZiG a)
theorem ZLW:Za prog 56 ZH0:=
 pureP 127 [(116,ZP8),(117,ZiI)] [(0,Zr9)] Zy8 Znt ⟨Zuf,ZfK,Tv⟩ Tryz.func56 Tryz.call56 ⟨Zzb,Tv⟩ (t:=λa=>Zga a)
abbrev ZHP:List Sh:=[Sh.agg (R.Pq Kc (R.Pq rcRG (R.Pq Kc (R.Pq Ka (R.Pq Ka (R.Pq R.bool rcCE))))))]
def Zt2 (l:BRDT):RT (Option (Int)):=
 .br (l.1 !=1&&l.1 !=2) (Ls (1)) (.br (smG l.2.1) (.br (Zdx l.2.1 !=0) (Ls (Zdx l.2.1)) (.br (decide (l.2.2.1<0)||(decide (l.2.2.1>100)||smC l.2.2.2.2.2.2)) (.br (decide (l.2.2.1<0)||(decide (l.2.2.1>100)|| !vldB l.2.2.2.2.2.2)) (Ls (1)) (Ls (0))) Ln)) Ln)
def Zir (l:BRDT):Int:=getO Z2v.Df (Zt2 l).val
def Zt4 (l:BRDT):Bool:=okB (Zt2 l).val
def ZPI:En:=Zf ZHP Z2v (λa=>some (Zt4 a)) (λa=>Zir a)
theorem ZPG:Za prog 51 ZPI:=
 pureP 15 [(104,Zz2),(105,ZmP)] [] ZHP Z2v ⟨ZDy,Zk2,Tv⟩ Tryz.func51 Tryz.call51 trivial (t:=λa=>Zt2 a)
abbrev ZPU:Rs:=Rs.tup [Sh.agg (R.Pq (R.Pq Zu (R.Pq Kc (R.Pq (R.sl Ka) (R.Pq (RY) (R.Pq Kc R.bool))))) (R.Pq rcCE (R.Pq ZY (R.Pq (R.Pq Kb (R.Pq Ka Kc)) (R.Pq Kc (R.sl (R.Pq Ka Ka))))))),So Kc]
def ZPT (l:BRDT):RT (Option (SYST×Int)):=
 let x1:TR:=(0,0,0,0,0,0,0,(false,false,false,false,false,false,false),0,0)
 .br (Zt4 l) (.br (Zir l !=0) (Ls (((((0,x1,false,false,false,0,false,false,false,false,false,false,false),0,[],(0,0,0,0),0,false),[],(0,false,false,false,false,0,0,false,false,false,false,false,0,0,0,0,0,0,0,false),(0,0,0),0,[]),Zir l))) (.br (smC l.2.2.2.2.2.2) (Ls ((((((newX l.1).1.1,x1,false,false,false,(newX l.1).1.2.2.2.2.2.1,false,false,false,false,false,false,false),0,[],(1,0,0,4),1,false),Cells.normX l.2.2.2.2.2.2,(0,false,false,false,false,0,0,false,false,false,false,false,0,0,0,0,7,0,0,false),(0,0,0),0,[]),0))) Ln)) Ln
def wNew (l:BRDT):SYST×Int:=getO ZPU.Df (ZPT l).val
def ZXO (l:BRDT):Bool:=okB (ZPT l).val
def Z3c:En:=Zf ZHP ZPU (λa=>some (ZXO a)) (λa=>wNew a)
theorem ZPR:Za prog 49 Z3c:=
 pureP 31 [(51,ZPI),(93,Zvk),(100,Z1S),(101,Z3n)] [] ZHP ZPU ⟨ZPG,Zol,ZYZ,ZQp,Tv⟩ Tryz.func49 Tryz.call49 trivial (t:=λa=>ZPT a)
def Zba:En:=.tree (Zq (envX prog [] [] 7 8) Tryz.f254)
theorem Zb3:Za prog 254 Zba:=ZD trivial Tryz.func254 rfl (by kernel_rfl) Tryz.call254 trivial
abbrev ZPV:List Sh:=[Sh.agg (R.Pq Kc (R.Pq rcRG (R.Pq Kc (R.Pq Ka (R.Pq Ka (R.Pq R.bool rcCE)))))),Sh.agg (RY)]
def Zr8 (l:BRDT) (x:QT12):RT (Option (Int)):=
 .br (!(decide (x.1>=1)&&decide (x.1<=5))||smG l.2.1) (.br (decide (x.1>=1)&&decide (x.1<=5)) (Ls (Zey l.2.1 x.2.1)) (.br (x.1==6||x.1==7) (Ls (ZjB l.2.2.1)) (Ls (0)))) Ln
def ZLT (l:BRDT) (x:QT12):Int:=getO Z2v.Df (Zr8 l x).val
def ZHT (l:BRDT) (x:QT12):Bool:=okB (Zr8 l x).val
def Z07:En:=Zf ZPV Z2v (λa=>some (ZHT a.1 a.2)) (λa=>ZLT a.1 a.2)
theorem ZXP:Za prog 250 Z07:=
 pureP 16447 [(254,Zba),(334,ZIO),(335,ZEE)] [] ZPV Z2v ⟨Zb3,ZMl,ZAu,Tv⟩ Tryz.func250 Tryz.call250 trivial (t:=λa=>Zr8 a.1 a.2)
abbrev Zy1:List Sh:=[Sh.agg (R.Pq (R.Pq Zu (R.Pq Kc (R.Pq (R.sl Ka) (R.Pq (RY) (R.Pq Kc R.bool))))) (R.Pq rcCE (R.Pq ZY (R.Pq (R.Pq Kb (R.Pq Ka Kc)) (R.Pq Kc (R.sl (R.Pq Ka Ka)))))))]
def Zt0 (s:SYST):RT (Int):=
 .br (Zad s.1 !=7) (.Lf (0)) (.Lf (i64.wrap (s.2.2.2.2.1+1)))
def ZbN (s:SYST):Int:=(Zt0 s).val
def Zt1:En:=Zf Zy1 Z2v (λ_=>none) (λa=>ZbN a)
theorem Zr7:Za prog 176 Zt1:=
 pureQ 7 [(109,Zgi)] [] Zy1 Z2v ⟨ZeH,Tv⟩ Tryz.func176 Tryz.call176 trivial (t:=λa=>Zt0 a)
abbrev Zy4:List Sh:=[Sh.agg (R.Pq Kc (R.Pq rcRG (R.Pq Kc (R.Pq Ka (R.Pq Ka (R.Pq R.bool rcCE)))))),Sh.agg (R.Pq (R.Pq Zu (R.Pq Kc (R.Pq (R.sl Ka) (R.Pq (RY) (R.Pq Kc R.bool))))) (R.Pq rcCE (R.Pq ZY (R.Pq (R.Pq Kb (R.Pq Ka Kc)) (R.Pq Kc (R.sl (R.Pq Ka Ka))))))),Sh.agg Zb8]
abbrev Znr:Rs:=Rs.one (Sh.agg ZuS)
def Zjb (l:BRDT) (s:SYST) (i:INPT):RT (Option LINT):=
 let x1:=bif i.2.1 then i.2.2.2.1 else i.2.2.2.1
 let x2:=bif i.2.1 then i.2.2.2.2.1 else i.2.2.2.2.1
 let x3:=bif i.2.1 then i.2.2.2.2.2.1 else i.2.2.2.2.2.1
 let x4:=bif i.2.1 then i.2.2.2.2.2.2.1 else i.2.2.2.2.2.2.1
 let x5:=bif i.2.1 then i.2.2.2.2.2.2.2.1 else i.2.2.2.2.2.2.2.1
 let x6:=bif l.2.2.2.2.2.1 then andI u8 i.2.2.2.2.2.2.2.2.1 1==1 else vInt s.2.2.1
 let x7:=bif i.2.1 then x6 else x6
 .br (ZL2 s.2.2.1) (.br (!i.1||ZHT l s.1.2.2.2.1) (Ls ((i.1&&bif i.2.1 then decide (ZbN s>=ZLT l s.1.2.2.2.1) else decide (ZbN s>=ZLT l s.1.2.2.2.1),bif i.1 then i.2.1||ZM s.2.2.2.1 else i.2.1||ZM s.2.2.2.1,bif i.1 then bif i.2.1 then i.2.2.1 else i.2.2.1 else bif i.2.1 then i.2.2.1 else i.2.2.1,bif i.1 then x1 else x1,bif i.1 then x2 else x2,bif i.1 then x3 else x3,bif i.1 then x4 else x4,bif i.1 then x5 else x5,bif i.1 then x7 else x7))) Ln) Ln
def Zt7 (l:BRDT) (s:SYST) (i:INPT):LINT:=getO Znr.Df (Zjb l s i).val
def ZmC (l:BRDT) (s:SYST) (i:INPT):Bool:=okB (Zjb l s i).val
def ZHU:En:=Zf Zy4 Znr (λa=>some (ZmC a.1 a.2.1 a.2.2)) (λa=>Zt7 a.1 a.2.1 a.2.2)
theorem ZLU:Za prog 175 ZHU:=
 pureP 255 [(176,Zt1),(249,Z6o),(250,Z07),(251,ZnF)] [] Zy4 Znr ⟨Zr7,Z3o,ZXP,ZnD,Tv⟩ Tryz.func175 Tryz.call175 trivial (t:=λa=>Zjb a.1 a.2.1 a.2.2)
abbrev ZHV:List Sh:=[Sh.agg (R.Pq Kc (R.Pq rcRG (R.Pq Kc (R.Pq Ka (R.Pq Ka (R.Pq R.bool rcCE)))))),So Ka]
abbrev ZHW:Rs:=Rs.tup [So R.bool,So R.bool]
def ZCK (l:BRDT) (p:Int):RT (Bool×Bool):=
 .Lf ((bif !l.2.2.2.2.2.1 then bif p==l.2.2.2.1 then p==u8.wrap (l.2.2.2.1+1) else p==u8.wrap (l.2.2.2.1+1) else p==u8.wrap (l.2.2.2.1+1),!l.2.2.2.2.2.1&&(p==l.2.2.2.1||p==u8.wrap (l.2.2.2.1+1))))
def Z8 (l:BRDT) (p:Int):Bool×Bool:=(ZCK l p).val
def ZCL:En:=Zf ZHV ZHW (λ_=>none) (λa=>Z8 a.1 a.2)
theorem Zy5:Za prog 252 ZCL:=
 pureQ 63 [] [] ZHV ZHW trivial Tryz.func252 Tryz.call252 trivial (t:=λa=>ZCK a.1 a.2)
def ZCM (l:BRDT) (p:Int):RT (Int×Bool):=
 .Lf ((i64.wrap (u8.wrap (p-l.2.2.2.2.1)),decide (u8.wrap (p-l.2.2.2.2.1)<4)))
def Zca (l:BRDT) (p:Int):Int×Bool:=(ZCM l p).val
def ZCN:En:=Zf ZHV ZC9 (λ_=>none) (λa=>Zca a.1 a.2)
theorem Zy6:Za prog 253 ZCN:=
 pureQ 127 [] [] ZHV ZC9 trivial Tryz.func253 Tryz.call253 trivial (t:=λa=>ZCM a.1 a.2)
abbrev ZP6:Rs:=Rs.tup [Sh.agg (R.Pq (R.Pq Zu (R.Pq Kc (R.Pq (R.sl Ka) (R.Pq (RY) (R.Pq Kc R.bool))))) (R.Pq rcCE (R.Pq ZY (R.Pq (R.Pq Kb (R.Pq Ka Kc)) (R.Pq Kc (R.sl (R.Pq Ka Ka))))))),So Ka]
def ZP5 (l:BRDT) (s:SYST) (i:INPT):RT (Option (SYST×Int)):=
 let x1:=decide (s.1.2.2.2.1.1>=1)&&decide (s.1.2.2.2.1.1<=5)
 let x2:= !x1||smG l.2.1&&smC s.2.1
 let x3:= !x2
 let x4:=s.1.2.2.2.1.1 !=6&&l.2.2.2.2.2.1
 let p1:=(!(Z8 l (u8.wrap s.1.2.2.2.1.2.1)).2)::(s.1.2.2.2.1.1 !=6)::x4::x1::[]
 let x5:=x1||(x4||(!s.1.2.2.2.1.1 !=6||ZL6 s.2.2.1))
 let x6:= !x5
 let x7:=orR p1 (Zsl s.2.2.1 (Z8 l (u8.wrap s.1.2.2.2.1.2.1)).1)
 let p2:=(!(Zca l (u8.wrap s.1.2.2.2.1.2.1)).2)::((Z8 l (u8.wrap s.1.2.2.2.1.2.1)).2)::(s.1.2.2.2.1.1 !=6)::x4::x1::(!x7)::x6::x3::[]
 let x8:=ZkJ s.2.2.1 (Z8 l (u8.wrap s.1.2.2.2.1.2.1)).1
 let x9:=x8.1
 .br (i.2.2.1||(Zad s.1 !=3|| !Zbi s.1.2.2.2.1.1)) (Ls ((s,0))) (.br (orR p2 (ZkI s.2.2.2.1 (Zca l (u8.wrap s.1.2.2.2.1.2.1)).1)) (.br (x3||(x6||x7)) (.br (x3||x5) (.br (x2) (Ls (((s.1,s.2.1,(R.sel ZY x1 s.2.2.1 (R.sel ZY x4 s.2.2.1 (R.sel ZY (s.1.2.2.2.1.1 !=6) (vAck s.2.2.1).1 (R.sel ZY ((Z8 l (u8.wrap s.1.2.2.2.1.2.1)).2) x9 s.2.2.1)))),s.2.2.2),bif x1 then Zfn l.2.1 s.2.1 s.1.2.2.2.1.2.1 else bif x4 then i.2.2.2.2.2.2.2.2.2 else bif s.1.2.2.2.1.1 !=6 then (vAck s.2.2.1).2 else bif (Z8 l (u8.wrap s.1.2.2.2.1.2.1)).2 then x8.2 else bif (Zca l (u8.wrap s.1.2.2.2.1.2.1)).2 then Zis s.2.2.2.1 (Zca l (u8.wrap s.1.2.2.2.1.2.1)).1 else i.2.2.2.2.2.2.2.2.2))) Ln) Ln) Ln) Ln)
def wBus (l:BRDT) (s:SYST) (i:INPT):SYST×Int:=getO ZP6.Df (ZP5 l s i).val
def ZXU (l:BRDT) (s:SYST) (i:INPT):Bool:=okB (ZP5 l s i).val
def Z6l:En:=Zf Zy4 ZP6 (λa=>some (ZXU a.1 a.2.1 a.2.2)) (λa=>wBus a.1 a.2.1 a.2.2)
theorem Z3f:Za prog 177 Z6l:=
 pureP 4956598223910189960238497791 [(109,Zgi),(167,Zoh),(252,ZCL),(253,ZCN),(254,Zba),(255,ZI5),(256,Z6p),(257,Z1f),(258,ZQh)] [] Zy4 ZP6 ⟨ZeH,Zjv,Zy5,Zy6,Zb3,ZMu,Z3r,ZXW,ZQf,Tv⟩ Tryz.func177 Tryz.call177 trivial (t:=λa=>ZP5 a.1 a.2.1 a.2.2)
abbrev ZHQ:List Sh:=[Sh.agg (R.Pq Kc (R.Pq rcRG (R.Pq Kc (R.Pq Ka (R.Pq Ka (R.Pq R.bool rcCE)))))),Sh.agg (R.Pq (R.Pq Zu (R.Pq Kc (R.Pq (R.sl Ka) (R.Pq (RY) (R.Pq Kc R.bool))))) (R.Pq rcCE (R.Pq ZY (R.Pq (R.Pq Kb (R.Pq Ka Kc)) (R.Pq Kc (R.sl (R.Pq Ka Ka))))))),Sh.agg (RY)]
abbrev Zt5:Rs:=Rs.one (Sh.agg (R.Pq (R.Pq Zu (R.Pq Kc (R.Pq (R.sl Ka) (R.Pq (RY) (R.Pq Kc R.bool))))) (R.Pq rcCE (R.Pq ZY (R.Pq (R.Pq Kb (R.Pq Ka Kc)) (R.Pq Kc (R.sl (R.Pq Ka Ka))))))))
def Znp (l:BRDT) (s:SYST) (x:QT12):RT (Option SYST):=
 let x1:List (Int×Int):=[]++s.2.2.2.2.2++[(u8.wrap x.2.1,x.2.2.1)]
 let x2:=Zby s.2.2.1 (Z8 l (u8.wrap x.2.1)).1 x.2.2.1
 let x30:=ZeA s.2.2.2.1 (Zca l (u8.wrap x.2.1)).1 x.2.2.1
 .br (!x.1 !=7||smG l.2.1&&smC s.2.1) (.br (x.1 !=7) (Ls ((s.1,ZaV l.2.1 s.2.1 x.2.1 x.2.2.1,s.2.2))) (.br (!Nat.ble (Le ([]++s.2.2.2.2.2)) most||Nat.ble (Le x1) most) (.br (Nat.ble (Le ([]++s.2.2.2.2.2)) most) (.br (!(Z8 l (u8.wrap x.2.1)).2||ZkG s.2.2.1 (Z8 l (u8.wrap x.2.1)).1 x.2.2.1) (Ls ((s.1,s.2.1,(R.sel ZY ((Z8 l (u8.wrap x.2.1)).2) x2 s.2.2.1),(R.sel ZYA ((Z8 l (u8.wrap x.2.1)).2) s.2.2.2.1 (R.sel ZYA ((Zca l (u8.wrap x.2.1)).2) x30 s.2.2.2.1)),s.2.2.2.2.1,x1))) Ln) Ln) Ln)) Ln
def ZHR (l:BRDT) (s:SYST) (x:QT12):SYST:=getO Zt5.Df (Znp l s x).val
def Zt6 (l:BRDT) (s:SYST) (x:QT12):Bool:=okB (Znp l s x).val
def ZPL:En:=Zf ZHQ Zt5 (λa=>some (Zt6 a.1 a.2.1 a.2.2)) (λa=>ZHR a.1 a.2.1 a.2.2)
theorem ZPJ:Za prog 180 ZPL:=
 pureP 4095 [(95,Zn8),(252,ZCL),(253,ZCN),(266,ZQa),(267,ZH7)] [] ZHQ Zt5 ⟨Zn7,Zy5,Zy6,ZP9,ZL0,Tv⟩ Tryz.func180 Tryz.call180 trivial (t:=λa=>Znp a.1 a.2.1 a.2.2)
abbrev Zub:Rs:=Rs.tup [Sh.agg (R.Pq (R.Pq Zu (R.Pq Kc (R.Pq (R.sl Ka) (R.Pq (RY) (R.Pq Kc R.bool))))) (R.Pq rcCE (R.Pq ZY (R.Pq (R.Pq Kb (R.Pq Ka Kc)) (R.Pq Kc (R.sl (R.Pq Ka Ka))))))),Sh.agg ZkZ,Sh.agg (R.Pq ZuS (R.Pq Ka (R.Pq (R.Pq Kb Ka) R.bool)))]
def Znx (l:BRDT) (s:SYST) (i:INPT):RT (Option (QT33)):=
 let x1:=ZaL s.2.2.1 i.2.2.2.2.2.2.2.2.1
 let x29:SYST:=(s.1,s.2.1,(R.sel ZY (!l.2.2.2.2.2.1) x1 s.2.2.1),s.2.2.2)
 let x30:=wBus l x29 i
 let x31:=x30.1
 let x32:=x31.1
 let x33:= !i.2.2.1&&(Zad s.1==3&&ZcW s.1.2.2.2.1.1)
 let x34:=Zt7 l x29 i
 let x35:=x30.2
 let x36:=clkX x32 x34 x35
 let x37:=x36.1
 let x38:=x31.2
 let x39:=x38.1
 let x40:=x38.2
 let x41:=x40.1
 let x42:=x40.2
 let x43:=x42.1
 let x44:=ZbN x29
 let x45:=x42.2.2
 let x46:SYST:=(x37,x39,x41,x43,x44,x45)
 let x47:=x36.2
 let x48:=x47.2.2.2.2.2.2.2.2.2.2.2.2.2.2.2.1
 let x49:=ZHR l x46 s.1.2.2.2.1
 let x50:=x49.2
 let x51:=x50.2
 let x52:=x51.2
 let x53:=x52.1
 let x54:Int:=bif x33 then x53.1 else x43.1
 let x55:=x53.2
 let x56:=x43.2
 let x57:Int:=bif x33 then x55.1 else x56.1
 let x58:Int:=bif x33 then x55.2 else x56.2
 let x59:=Zcb (x54,x57,x58)
 let x60:=x59.2
 let x61:=x60.2
 let x62:List (Int×Int):=bif x33 then x50.1 else x39
 let x63:=x49.1
 let x64:=x63.1
 let x65:=x37.1
 let x118:=x63.2
 let x119:=x37.2
 let x120:=x118.2
 let x121:=x119.2
 let x122:=x120.2
 let x123:=x122.1
 let x124:=x121.2
 let x125:=x124.1
 let x130:=x122.2
 let x131:=x124.2
 let x132:=x60.1
 let x133:=x132.1
 let x134:=x132.2
 let x135:=x51.1
 let x136:=x135.2
 let x137:=x41.2
 let x138:=x136.2
 let x139:=x137.2
 let x140:=x138.2
 let x141:=x139.2
 let x142:=x140.2
 let x143:=x141.2
 let x144:=x142.2
 let x145:=x143.2
 let x146:=x144.2
 let x147:=x145.2
 let x148:=x146.2
 let x149:=x147.2
 let x150:=x148.2
 let x151:=x149.2
 let x152:=x150.2
 let x153:=x151.2
 let x154:=x152.2
 let x155:=x153.2
 let x156:=x154.2
 let x157:=x155.2
 let x158:=x156.2
 let x159:=x157.2
 let x160:=x158.2
 let x161:=x159.2
 let x162:=x160.2
 let x163:=x161.2
 let x164:=x162.2
 let x165:=x163.2
 let x166:=x164.2
 let x167:=x165.2
 let x168:=x166.2
 let x169:=x167.2
 let x170:=x168.2
 let x171:=x169.2
 let x172:=x59.1
 let x173:=x172.2
 let x174:=x52.2
 .br (ZmC l x29 i) (.br (ZXU l x29 i) (.br (Zms x32) (.br (!x33||Zt6 l x46 s.1.2.2.2.1) (.br (!x48||(!x61||smG l.2.1&&smC x62)) (Ls (((((R.sel Zu x33 x64 x65),bif x33 then x118.1 else x119.1,bif x33 then x120.1 else x121.1,(R.sel RY x33 x123 x125),bif x33 then x130.1 else x131.1,bif x33 then x130.2 else x131.2),bif x48 then bif x61 then ZaV l.2.1 x62 x133 x134 else x62 else x62,(bif x33 then x135.1 else x41.1,bif x33 then x136.1 else x137.1,bif x33 then x138.1 else x139.1,bif x33 then x140.1 else x141.1,bif x33 then x142.1 else x143.1,bif x33 then x144.1 else x145.1,bif x33 then x146.1 else x147.1,bif x33 then x148.1 else x149.1,bif x33 then x150.1 else x151.1,bif x33 then x152.1 else x153.1,bif x33 then x154.1 else x155.1,bif x33 then x156.1 else x157.1,bif x33 then x158.1 else x159.1,bif x33 then x160.1 else x161.1,bif x33 then x162.1 else x163.1,bif x33 then x164.1 else x165.1,bif x33 then x166.1 else x167.1,bif i.2.2.1 then 0 else bif x33 then x168.1 else x169.1,bif x33 then x170.1 else x171.1,bif x33 then x170.2 else x171.2),(bif x48 then bif x61 then x172.1 else x54 else x54,bif x48 then bif x61 then x173.1 else x57 else x57,bif i.2.2.1 then 0 else bif x48 then bif x61 then x173.2 else x58 else x58),bif x33 then x174.1 else x44,bif x33 then x174.2 else x45),x47,x34,x35,(bif x48 then bif x61 then x133 else 0 else 0,bif x48 then bif x61 then x134 else 0 else 0),x48&&x61))) Ln) Ln) Ln) Ln) Ln
def Zzg (l:BRDT) (s:SYST) (i:INPT):QT33:=getO Zub.Df (Znx l s i).val
def Zny (l:BRDT) (s:SYST) (i:INPT):Bool:=okB (Znx l s i).val
def Zuc:En:=Zf Zy4 Zub (λa=>some (Zny a.1 a.2.1 a.2.2)) (λa=>Zzg a.1 a.2.1 a.2.2)
theorem Znw:Za prog 108 Zuc:=
 pureP 131071 [(95,Zn8),(109,Zgi),(174,ZQl),(175,ZHU),(176,Zt1),(177,Z6l),(178,ZJE),(179,ZuV),(180,ZPL),(181,Zsg)] [] Zy4 Zub ⟨Zn7,ZeH,ZQk,ZLU,Zr7,Z3f,ZNs,ZsR,ZPJ,Zzn,Tv⟩ Tryz.func108 Tryz.call108 trivial (t:=λa=>Znx a.1 a.2.1 a.2.2)
def Zze (c:CORT) (s:Int) (d:Int):RT TY:=
 let x1:Int:=bif Zbi c.2.2.2.1.1 then d else c.2.2.2.1.2.2.1
 .Lf ((c.2.2.2.1.1,c.2.2.2.1.2.1,bif s==3 then x1 else c.2.2.2.1.2.2.1,bif s==3 then bif c.2.2.2.1.1==1||c.2.2.2.1.1==8 then Zhi c.1.1 x1 else c.2.2.2.1.2.2.2 else c.2.2.2.1.2.2.2))
def ZhP (c:CORT) (s:Int) (d:Int):QT12:=(Zze c s d).val
def Zje:En:=Zf ZRW ZJH (λ_=>none) (λa=>ZhP a.1 a.2.1 a.2.2)
theorem ZiH:Za prog 111 Zje:=
 pureQ 255 [(167,Zoh),(168,ZEL)] [] ZRW ZJH ⟨Zjv,ZAx,Tv⟩ Tryz.func111 Tryz.call111 trivial (t:=λa=>Zze a.1 a.2.1 a.2.2)
def Z08 (s:Int):RT (Int):=
 .br (Zc s) (.Lf (3)) (.br (s==5) (.Lf (2)) (.Lf (1)))
def Z3d (s:Int):Int:=(Z08 s).val
def ZPY:En:=Zf ZA3 Z2v (λ_=>none) (λa=>Z3d a)
theorem ZXR:Za prog 185 ZPY:=
 pureQ 79 [(236,Zh5)] [] ZA3 Z2v ⟨Zhh,Tv⟩ Tryz.func185 Tryz.call185 trivial (t:=λa=>Z08 a)
abbrev ZPD:List Sh:=[Sh.agg ZMj,Sh.agg Zu,Sh.agg ZuS]
abbrev ZPE:Rs:=Rs.one (Sh.agg ZMj)
def Z04 (e:EVTT) (c:TC) (l:LINT):RT EVTT:=
 .Lf ((e.1,e.2.1,e.2.2.1,l,c.2.2.2.2.2.2.2.1,c.2.2.2.2.2.2.1,c.2.2.2.2.2.2.2.2.2.1,c.2.2.2.2.2.2.2.2.1,e.2.2.2.2.2.2.2.2))
def ZCI (e:EVTT) (c:TC) (l:LINT):EVTT:=(Z04 e c l).val
def ZPF:En:=Zf ZPD ZPE (λ_=>none) (λa=>ZCI a.1 a.2.1 a.2.2)
theorem ZXN:Za prog 183 ZPF:=
 pureQ 127 [] [] ZPD ZPE trivial Tryz.func183 Tryz.call183 trivial (t:=λa=>Z04 a.1 a.2.1 a.2.2)
def Znz (c:CORT) (s:Int) (d:Int):RT (Option (List Int)):=
 let x1:List Int:=[]++c.2.2.1++[(ZhP c s d).2.2.1]
 .br (Nat.ble (Le ([]++c.2.2.1)) most) (.br (!s==3||Nat.ble (Le x1) most) (Ls (bif s==3 then x1 else []++c.2.2.1)) Ln) Ln
def ZH5 (c:CORT) (s:Int) (d:Int):List Int:=getO Znt.Df (Znz c s d).val
def Zue (c:CORT) (s:Int) (d:Int):Bool:=okB (Znz c s d).val
def ZCR:En:=Zf ZRW Znt (λa=>some (Zue a.1 a.2.1 a.2.2)) (λa=>ZH5 a.1 a.2.1 a.2.2)
theorem ZP3:Za prog 186 ZCR:=
 pureP 255 [(111,Zje)] [] ZRW Znt ⟨ZiH,Tv⟩ Tryz.func186 Tryz.call186 trivial (t:=λa=>Znz a.1 a.2.1 a.2.2)
abbrev Zns:List Sh:=[Sh.agg (R.Pq Zu (R.Pq Kc (R.Pq (R.sl Ka) (R.Pq (RY) (R.Pq Kc R.bool))))),Sh.agg ZuS,So Ka]
abbrev ZiE:Rs:=Rs.tup [Sh.agg Zu,So R.bool]
def ZfI (c:CORT) (l:LINT) (d:Int):RT (Option (TC×Bool)):=
 let x1:TC×Bool:=((0,(0,0,0,0,0,0,0,(false,false,false,false,false,false,false),0,0),false,false,false,0,false,false,false,false,false,false,false),false)
 .br l.2.2.1 (Ls (x1)) (.br (ZfU c c.2.2.2.2.1 d) (.br (!Zwc c.2.2.2.2.1 (ZiR c c.2.2.2.2.1 d).1) (Ls (x1)) (.br (Zi (Zk c.1 l) c.2.1 (ZiR c c.2.2.2.2.1 d).2).2 (Ls (x1)) (Ls ((finX (Zk c.1 l) c.2.1 (ZiR c c.2.2.2.2.1 d).2 l,true))))) Ln)
def Zjc (c:CORT) (l:LINT) (d:Int):TC×Bool:=getO ZiE.Df (ZfI c l d).val
def ZhO (c:CORT) (l:LINT) (d:Int):Bool:=okB (ZfI c l d).val
def ZkD:En:=Zf Zns ZiE (λa=>some (ZhO a.1 a.2.1 a.2.2)) (λa=>Zjc a.1 a.2.1 a.2.2)
theorem Zy7:Za prog 184 ZkD:=
 pureP 16383 [(164,Z4d),(166,ZJl),(187,Zo1),(263,ZRZ),(264,ZSS)] [] Zns ZiE ⟨ZSF,Zvl,Zo0,ZI4,ZJA,Tv⟩ Tryz.func184 Tryz.call184 trivial (t:=λa=>ZfI a.1 a.2.1 a.2.2)
