import Derived.Test.YtpnjbfjomebppaaGreatMemD
import Derived.RangeFuncNested
import Derived.RangeFuncLeaves
import Derived.Shelf.Abstract
import Derived.OwnWalkIn
import Derived.TacticsInMore
import Derived.LoopNIn
import Derived.LoopIn
import Derived.Test.YtpnjbfjomebppaaGreatS3Clo
import Derived.Test.YtpnjbfjomebppaaGreatMakeOk5
import Derived.Test.YtpnjbfjomebppaaGreatPicL
open Go.Proofs.Tryz (prog)
set_option linter.unusedVariables false
set_option linter.unusedSimpArgs false
namespace Go.Proofs.YtpnjbfjomebppaaGreat
open Go Go.S3 Go.Proofs Go.Proofs.Cells Go.RowKit Go.Shelf
attribute [local go_sem] Oper.semAt_some
noncomputable section
def bwL (l:List Cell) (k:Nat):List (Nat×Cell):=(List.range k).map λj=>(l.length-1-j,el l (l.length-1-j))
theorem ZMu (l:List Cell) (k:Nat):bwL l (k+1)=bwL l k++[(l.length-1-k,el l (l.length-1-k))]:=by simp[bwL,List.range_succ]
theorem Z7l (l:List Cell) (k:Nat):(bwL l k).length=k:=by simp[bwL]
theorem ZMv (l:List Cell) (m:Nat) (h:m+1<=l.length):bwL l (l.length-m)=bwL l (l.length-(m+1))++[(m,el l m)]:=by
 have e:l.length-m=(l.length-(m+1))+1:=by omega
 have e2:l.length-1-(l.length-(m+1))=m:=by omega
 rw[e,ZMu,e2]
abbrev ZIq (x:Nat×Cell):Array Value:= #[.int .i64 (x.1:Int),.agg #[.int .u16 x.2.1,.int .u8 x.2.2]]
set_option maxRecDepth 100000 in
set_option maxHeartbeats 2000000 in
theorem Z11 (F:Fence) (n:Nat) (h8:F.fn 382) (hro:F.round=none) (hn:1<=n) (y Bs n₀ b off cap:Nat) (l:List Cell) (hreach:l.length<=1073741824) (hb:b<n₀) (hB:Bs<n₀) (J Jx:List (Nat×Cell)->World->Prop)
  (hY:∀pre x W,J pre W->pre.length<l.length->YieldAt F (n-1) prog y (ZIq x) W λe W'=>
   (e=.returned (.bool true)/\J (pre++[x]) W'/\Below n₀ W W')\/(e=.returned (.bool false)/\Jx (pre++[x]) W'))
  (W:World) (hBs:W.cell? ⟨Bs,0,none⟩=some (.slice (some ⟨b,off,none⟩) l.length cap))
  (hc:∀j,j<l.length->W.cell? ⟨b,off+j*2,none⟩=some (.int .u16 (el l j).1)/\W.cell? ⟨b,off+j*2+1,none⟩=some (.int .u8 (el l j).2)) (h0:J [] W):
  CallsIn F n prog 382 #[.func (.yield y) #[] #[],.pointer (some ⟨Bs,0,none⟩)] W λe W'=>(∃v,e=.returned v)/\
   ((∃ys,ys=bwL l l.length/\J ys W')\/(∃pre,(∃k,k<=l.length/\pre=bwL l k)/\Jx pre W')):=by
 refine callsIn_of_wp Tryz.func382 rfl h8 ?_ hro;simp only[Tryz.ntmps382,Yaj,List.length_cons,List.length_nil,Nat.reduceAdd,Nat.reduceSub,Array.replicate_succ,Array.replicate_zero,List.push_toArray,List.append_toArray,List.nil_append,List.cons_append];gi_wp2
 gi_loopw [3] (λi wr=>∃m:Nat,m<=l.length/\i=.int .i64 ((m:Int)-1)/\J (bwL l (l.length-m)) wr/\Below n₀ W wr)
  (λi _=>(intOf i+1).toNat)
 case atStart=>exact⟨l.length,Yg _,rfl,by simpa [bwL] using h0,Below.refl _ _⟩
 case round=>
  obtain⟨m,hm,rfl,hJs,hnx⟩:=hrel;have hbx:wr.cell? ⟨Bs,0,none⟩=some (.slice (some ⟨b,off,none⟩) l.length cap):=(hnx.cell (p:=⟨Bs,0,none⟩) hB).trans hBs;cases m with
  |zero=>
   gi_wp2
   go_end0
   exact⟨⟨_,rfl⟩,.inl ⟨_,rfl,by simpa using hJs⟩⟩
  |succ m=>
   have e1:((m+1:Nat):Int)-1=(m:Int):=by omega
   rw[e1];have hlt:m<l.length:=by omega
   obtain⟨q1,q2⟩:=hc m hlt;have hcx1:wr.cell? ⟨b,off+m*2,none⟩=some (.int .u16 (el l m).1):=(hnx.cell (p:=⟨b,off+m*2,none⟩) hb).trans q1;have hcx2:wr.cell? ⟨b,off+m*2+1,none⟩=some (.int .u8 (el l m).2):=(hnx.cell (p:=⟨b,off+m*2+1,none⟩) hb).trans q2;obtain⟨fn,tmps,assign,body,hy,hR⟩:=hY _ (m,el l m) wr hJs (by rw[Z7l];omega);dsimp only[ZIq] at hy;clear hc hBs q1 q2;gi_wp2
   refine hR.mono ?_;rintro e W3 (⟨rfl,hJ3,hk3⟩|⟨rfl,hJx3⟩)
   ·gi_wp2
    go_roundw
    case rel=>exact⟨m,by omega,rfl,by rw[ZMv l m hlt];exact hJ3,hnx.trans hk3⟩
    case measure=>simp[intOf]
   ·gi_wp2
    refine bodyPost_ret (results_none rfl _ _ _) rfl ?_;exact⟨⟨_,rfl⟩,.inr ⟨_,⟨l.length-m,by omega,(ZMv l m hlt).symm⟩,hJx3⟩⟩
set_option maxRecDepth 100000 in
set_option maxHeartbeats 1000000 in
theorem ZC9 (F:Fence) (n:Nat) (h8:F.fn 382) (hro:F.round=none) (y Bs cap:Nat) (a:Option Addr) (J:List (Nat×Cell)->World->Prop) (W:World) (hBs:W.cell? ⟨Bs,0,none⟩=some (.slice a 0 cap)) (h0:J [] W):
  CallsIn F n prog 382 #[.func (.yield y) #[] #[],.pointer (some ⟨Bs,0,none⟩)] W λe W'=>(∃v,e=.returned v)/\J [] W':=by
 refine callsIn_of_wp Tryz.func382 rfl h8 ?_ hro;simp only[Tryz.ntmps382,Yaj,List.length_cons,List.length_nil,Nat.reduceAdd,Nat.reduceSub,Array.replicate_succ,Array.replicate_zero,List.push_toArray,List.append_toArray,List.nil_append,List.cons_append];gi_wp2
 gi_loopw [3] (λi wr=>i=.int .i64 (-1)/\J [] wr) (λ_ _=>0)
 case atStart=>exact⟨rfl,h0⟩
 case round=>
  obtain⟨rfl,hJs⟩:=hrel;gi_wp2
  go_end0
  exact⟨⟨_,rfl⟩,hJs⟩
set_option maxHeartbeats 1000000 in
theorem Z7o (F:Fence) (n:Nat) (h6:F.fn 345) (hro:F.round=none) (a:Option Addr) (len cap:Nat) (w:World):
  CallsIn F n prog 345 #[.slice a len cap] w λe w'=>e=.returned (.func (.func 382) #[] #[.pointer (some ⟨w.heap.size,0,none⟩)])/\w'=w.alloc (.cells #[.slice a len cap] 26):=by
 refine callsIn_of_wp Tryz.func345 rfl h6 ?_ hro;simp only[Tryz.ntmps345,Yaj,List.length_cons,List.length_nil,Nat.reduceAdd,Nat.reduceSub,Array.replicate_succ,Array.replicate_zero,List.push_toArray,List.append_toArray,List.nil_append,List.cons_append];gi_wp2
 go_ret
 exact⟨rfl,rfl⟩
def Held (n₀:Nat) (W:World) (sv:Value) (l:List Cell):Prop:=
 (∃a cap,sv=.slice a 0 cap/\l=[])\/∃b off cap,sv=.slice (some ⟨b,off,none⟩) l.length cap/\b<n₀/\
  ∀j,j<l.length->W.cell? ⟨b,off+j*2,none⟩=some (.int .u16 (el l j).1)/\W.cell? ⟨b,off+j*2+1,none⟩=some (.int .u8 (el l j).2)
variable {n₀:Nat} {sv:Value} {l:List Cell}
theorem Held.below {A B:World} (h:Below n₀ A B):Held n₀ A sv l->Held n₀ B sv l
 | .inl e=>.inl e
 | .inr ⟨b,off,cap,e,hb,hc⟩=>.inr ⟨b,off,cap,e,hb,λj hj=>⟨(h.cell (p:=⟨b,off+j*2,none⟩) hb).trans (hc j hj).1,(h.cell (p:=⟨b,off+j*2+1,none⟩) hb).trans (hc j hj).2⟩⟩
theorem Held.mono {n₁:Nat} {W:World} (h:Held n₀ W sv l) (hn:n₀<=n₁):Held n₁ W sv l:=
 h.elim .inl λ⟨b,off,cap,e,hb,hc⟩=>.inr ⟨b,off,cap,e,by omega,hc⟩
theorem ZQo (F:Fence) (n:Nat) (h8:F.fn 382) (hro:F.round=none) (hn:1<=n) (Bs n₀:Nat) (sv:Value) (l:List Cell) (hreach:l.length<=1073741824) (w:World) (hBs:Bs<n₀) (hn₀:n₀<=w.heap.size)
  (hc:w.cell? ⟨Bs,0,none⟩=some sv) (hI:Held n₀ w sv l):
  SeqStopsK F n prog 382 #[.pointer (some ⟨Bs,0,none⟩)] ZIq (Below n₀) (λys=>ys=bwL l l.length)
   (λpre=>∃k,k<=l.length/\pre=bwL l k) l.length w:=λy J Jx W hW _ _ hY h0=>by
 have hc':=(hW.cell (p:=⟨Bs,0,none⟩) (by show Bs<_;omega)).trans hc;rcases hI.below (hW.mono hn₀) with ⟨a,cap,rfl,rfl⟩|⟨b,off,cap,rfl,hb,hcs⟩
 ·exact (ZC9 F n h8 hro y Bs cap a J W hc' h0).mono λe W' ⟨he,hj⟩=>⟨he,.inl ⟨_,rfl,hj⟩⟩
 ·exact Z11 F n h8 hro hn y Bs n₀ b off cap l hreach hb hBs J Jx hY W hc' hcs h0
end
end Go.Proofs.YtpnjbfjomebppaaGreat
open Go.IntKind (u8 u16 i64)
namespace Go.Proofs.YtpnjbfjomebppaaGreat
open Go Go.S3 Go.Proofs Go.Proofs.Cells Go.RowKit Go.Shelf
attribute [local go_sem] Oper.semAt_some
noncomputable section
set_option maxRecDepth 100000 in
set_option maxHeartbeats 2000000 in
theorem Z8S (F:Fence) (n:Nat) (h4:F.fn 270) (h6:F.fn 345) (h8:F.fn 382) (hro:F.round=none) (hn:3<=n) (a:Option Addr) (len cap:Nat) (l:List Cell) (t:Int) (hreach:l.length<=1073741824)
  (w:World) (hI:Held w.heap.size w (.slice a len cap) l):
  CallsIn F n Tryz.prog 270 #[.slice a len cap,.int .u16 t] w λe W'=>e=.returned (.int .u8 (getX l t))/\Below w.heap.size w W':=by
 have h1:1<=n:=by omega
 refine callsIn_of_wp_marks Tryz.func270 rfl h4 ?_ hro;simp only[Tryz.ntmps270,Yaj,List.length_cons,List.length_nil,Nat.reduceAdd,Nat.reduceSub,Array.replicate_succ,Array.replicate_zero,List.push_toArray,List.append_toArray,List.nil_append,List.cons_append]
 gi_wp2_with (gi_at_call 345;refine (Z7o F (n-1) h6 hro _ _ _ _).mono ?_;rintro e w' ⟨rfl,rfl⟩)
 have bT:=Boxed.new w 34 (.int .u16 t);have bR:=Boxed.new (w.alloc (.cells #[.int .u16 t] 34)) 5 (.int .u8 0);have bN:=Boxed.new ((w.alloc (.cells #[.int .u16 t] 34)).alloc (.cells #[.int .u8 0] 5)) 26 (.slice a len cap);rw[World.size_alloc] at bR bN;rw[World.size_alloc] at bN;have hB0:Below w.heap.size w (((w.alloc (.cells #[.int .u16 t] 34)).alloc (.cells #[.int .u8 0] 5)).alloc (.cells #[.slice a len cap] 26)):=(((Below.refl _ w).alloc (Yg _) _).alloc (by simp) _).alloc (by simp;omega) _;refine wpIn_rangeFunc_ownH hro h1 (gf:=382) (lb:= #[.pointer (some ⟨w.heap.size+2,0,none⟩)]) rfl h8 (enters_of Tryz.func382 (by kernel_rfl) rfl)
  (ZQo F (n-1) h8 hro (by omega) (w.heap.size+2) (w.heap.size+3) _ l hreach _ (by omega) (by simp) bN.cell ?held) belowK_t (belowK_b (by simp)) (Below.refl _ _) (λ_=>rfl)
  (λpre W=>((∀p∈pre,p.2.1≠t)/\W.cell? ⟨w.heap.size,0,none⟩=some (.int .u16 t)/\W.cell? ⟨w.heap.size+1,0,none⟩=some (.int .u8 0)/\W.frozen? ⟨w.heap.size+1,0,none⟩=false/\w.heap.size+3<=W.heap.size)/\Below w.heap.size w W)
  (λc pre W=>(c=.ret/\∃ini last,pre=ini++[last]/\(∀p∈ini,p.2.1≠t)/\last.2.1=t/\W.cell? ⟨w.heap.size+1,0,none⟩=some (.int .u8 last.2.2))/\Below w.heap.size w W)
  (OwnFrom.and (Own.from (λs A B row hs hg hr=>⟨hs.1,cell_kept hs.2.1 hg hr,cell_kept hs.2.2.1 hg hr,(frozen_kept hs.2.2.1 hg hr).trans hs.2.2.2.1,YO hs.2.2.2.2 hg.size⟩) _) (ownFrom_below (Yg _) (by simp;omega)))
  (λc=>OwnFrom.and (Own.from (λs A B row hs hg hr=>by obtain⟨hc,ini,last,e1,e2,e3,e4⟩:=hs;exact⟨hc,ini,last,e1,e2,e3,cell_kept e4 hg hr⟩) _) (ownFrom_below (Yg _) (by simp;omega)))
  ⟨⟨by simp,((bT.alloc _).alloc _).cell,(bR.alloc _).cell,(bR.alloc _).frozen,by simp⟩,hB0⟩
  (λx a' W=>∃B,W.cell? ⟨B,0,none⟩=some (.int .u16 x.2.1)/\W.cell? ⟨B,1,none⟩=some (.int .u8 x.2.2)/\
   a'={tmps:= #[.slice a len cap,.int .u16 t,undef,.pointer (some ⟨w.heap.size,0,none⟩),.pointer (some ⟨w.heap.size+1,0,none⟩),undef,.pointer (some ⟨B,0,none⟩),.slice a len cap,.func (.func 382) #[] #[.pointer (some ⟨w.heap.size+2,0,none⟩)],.int .i64 (x.1:Int),.agg #[.int .u16 x.2.1,.int .u8 x.2.2],undef,undef,undef,undef,undef,undef],defers:=[]})
  (λx a'=>Own.from (λs A B row hs hg hr=>by obtain⟨b,e2,e3,e4⟩:=hs;exact⟨b,cell_kept e2 hg hr,cell_kept e3 hg hr,e4⟩) _)
  ?assign ?body ?done ?stop
 case held=>exact (hI.below hB0).mono (by omega)
 case assign=>
  rintro y pre x W K ⟨⟨hp,hct,hcr,hfr,hsz⟩,hB⟩ hK;gi_wp2
  have hn1:∀o:Obj,(W.alloc o).heap[W.heap.size]? =some o:=λo=>World.alloc_heap_new W o
  refine hK _ _ ((KeepsOthers.alloc W _).from _) ((Below.refl _ W).alloc hsz _) ⟨⟨hp,?_,?_,?_,by simp;omega⟩,hB.alloc (by omega) _⟩ ⟨W.heap.size,?_,?_,rfl⟩
  ·exact cell_kept hct (World.grownBy_alloc W _ none) (λr e=>by cases e)
  ·exact cell_kept hcr (World.grownBy_alloc W _ none) (λr e=>by cases e)
  ·exact (frozen_kept hcr (World.grownBy_alloc W _ none) (λr e=>by cases e)).trans hfr
  ·simp only[World.cell?];rw[hn1];rfl
  ·simp only[World.cell?];rw[hn1];rfl
 case body=>
  rintro y pre x a' W hy hl ⟨⟨hp,hct,hcr,hfr,hsz⟩,hB⟩ ⟨B,hB2,hB3,rfl⟩ _;gi_wp2
  ·have hx:x.2.1=t:=by simpa using (by assumption:(x.2.1==t)=true)
   exact⟨(KeepsOthers.setCell _ _ _).from _,⟨rfl,pre,x,rfl,hp,hx,World.cell?_setCell_same' _ _ _ (by rw[hcr];rfl)⟩,hB.setCell (p:=⟨w.heap.size+1,0,none⟩) (by simp) _⟩
  ·have hx:x.2.1≠t:=by simpa using (by assumption:(x.2.1==t)=false)
   exact⟨KeepsFrom.refl _ _,Below.refl _ _,⟨λp hp'=>(Yal.1 hp').elim (hp p) (λe=>by simp at e;subst e;exact hx),hct,hcr,hfr,hsz⟩,hB⟩
 case done=>
  rintro D ys W hD rfl ⟨⟨hne,hct,hcr,hfr,hsz⟩,hB⟩ hK;gi_wp2
  have hK':=(KeepsOthers.setCell W ⟨w.heap.size+1,0,none⟩ (.int .u8 0)).same D _ hK rfl;refine⟨by simp,.inl ⟨_,_,rfl,run_takeDeferred hK',?_⟩⟩;have hc5:=cell_kept (World.cell?_setCell_same' W ⟨w.heap.size+1,0,none⟩ (.int .u8 0) (by rw[hcr];rfl)) (grownBy_putObj' _ D (.deferred none)) (λr e=>by cases e;exact⟨_,hK',rfl⟩);have h0:getX l t=0:=Zko λc hc=>by obtain⟨i,hi,rfl⟩:=YaJ.1 hc;have e1:=Zc1 l i hi;rw[Yk hi,oinj] at e1;rw[e1];refine hne (i,el l i) ?_;simp only[bwL,List.mem_map,YaH];exact⟨l.length-1-i,by omega,by rw[show l.length-1-(l.length-1-i)=i by omega]⟩
  refine⟨.int .u8 0,?_,by rw[h0],(hB.setCell (p:=⟨w.heap.size+1,0,none⟩) (by simp) _).trans (belowK_b (w:=w) (Yg _) _ D _ _ (by simp at hD;omega) hK' rfl rfl)⟩;simp[results,Tryz.f270,go_sem,hc5]
 case stop=>
  rintro D c pre W hD ⟨k,hk,rfl⟩ ⟨⟨rfl,ini,last,e1,e2,e3,hcr⟩,hB⟩ hK;gi_wp2
  refine⟨by simp,.inl ⟨_,_,rfl,run_takeDeferred hK,?_⟩⟩;have hc5:=cell_kept hcr (grownBy_putObj' _ D (.deferred none)) (λr e=>by cases e;exact⟨_,hK,rfl⟩);obtain⟨k',rfl⟩:∃k',k=k'+1:=by
   cases k with
   |zero=>simp[bwL] at e1
   |succ k'=>exact⟨k',rfl⟩
  rw[ZMu] at e1;obtain⟨rfl,e5⟩:=List.append_inj' e1 rfl;simp only[List.cons.injEq,and_true] at e5;subst e5;have hg:getX l t=(el l (l.length-1-k')).2:=ZXQ (i:=l.length-1-k') (by omega) e3 λq h1 h2=>by refine e2 (q,el l q) ?_;simp only[bwL,List.mem_map,YaH];exact⟨l.length-1-q,by omega,by rw[show l.length-1-(l.length-1-q)=q by omega]⟩
  refine⟨.int .u8 (el l (l.length-1-k')).2,?_,by rw[hg],hB.trans (belowK_b (w:=w) (Yg _) W D _ _ (by simp at hD;omega) hK rfl rfl)⟩;simp[results,Tryz.f270,go_sem,hc5]
def Z8E:List Sh:=[.one (.sl (R.Pq Kb Ka)),.one (.int u16)]
def Z8F:Rs:=.one (.one Ka)
def Z8G:En:=Zg Z8E Z8F (λa=>some (Nat.ble (Le (α:=Cell) a.1) most)) (λa=>getX a.1 a.2)
theorem Z62 (l:List Cell) (h:∀c∈l,inR .u8 c.2) (t:Int):inR .u8 (getX l t):=by
 by_cases hx:∃c∈l,c.1=t
 ·have hne:flt t l≠[]:=by
   obtain⟨c,hc,he⟩:=hx;intro h0;have:c∈flt t l:=by simp[flt,hc,he]
   rw[h0] at this;simp at this
  rw[getX];cases hq:(flt t l).getLast? with
  |none=>exact absurd (List.getLast?_eq_none_iff.1 hq) hne
  |some c=>
   have:=List.mem_of_getLast? hq;simp only[flt,List.mem_filter] at this;exact h c this.1
 ·rw[Zko λc hc e=>hx ⟨c,hc,e⟩];exact⟨by decide,by decide⟩
theorem Z6I:Za Tryz.prog 270 Z8G:=by
 refine⟨Tryz.call270,λvs chk v hp hc x m w args hm hv=> ?_⟩;simp only at hp;split at hp
 ·rename_i a ha;simp only[oinj,pinj] at hp;obtain⟨rfl,rfl⟩:=hp;obtain⟨hargs,hin⟩:=Zb6 ha hv;obtain⟨l,t⟩:=a;have hle:List.length (α:=Cell) l<=most:=by
   cases hb:Nat.ble (List.length (α:=Cell) l) most with
   |true=>simpa [YF] using hb
   |false=>rw[hb] at hc;exact absurd rfl hc
  have hmost:most<=1073741824:=by decide
  match args,hargs with
  |[v0,v1],hargs=>
   have hv0:RA x (.lst (R.Pq (R.int u16) (R.int u8)) false false false l) v0:=hargs.1;have hv1:RA x (.int false .u16 t) v1:=hargs.2.1;have hl8:∀c∈(l:List Cell),inR .u8 c.2:=λc hc=>((hin.1:rcCE.ok l).2 c hc).2
   cases hv1;obtain⟨aa,len,cap,rfl,hheld⟩:∃aa len cap,v0=.slice aa len cap/\Held w.heap.size w (.slice aa len cap) l:=by
    cases hv0 with
    |lst0 _ _ _ _ _ _ a cap h1 h2 h3 _=>exact⟨a,0,cap,rfl,.inl ⟨a,cap,rfl,h1⟩⟩
    |lst _ _ _ _ _ _ p o cap c h0 hf hcap hml hz hr=>
     refine⟨_,_,cap,rfl,.inr ⟨p,o,cap,rfl,?_,λj hj=> ?_⟩⟩
     ·have hpos:0<List.length (α:=Cell) l:=List.length_pos_iff.2 h0;exact hm.fz_lt (hz 0 0 _ hpos rfl)
     ·have q1:=hm.fz _ _ _ (hz j 0 _ hj rfl);have q2:=hm.fz _ _ _ (hz j 1 _ hj rfl);have r1:=hr j 0 _ hj rfl;have r2:=hr j 1 _ hj rfl;generalize c j 0=c0 at q1 r1;generalize c j 1=c1 at q2 r2;cases r1;cases r2;exact⟨q1,q2⟩
   have key:=Z8S {fn:=λ_=>True} 3 trivial trivial trivial rfl (Yg _) aa len cap l t (by omega) w hheld;refine (key.calls (λk d hd=>by simp at hd)).mono ?_;rintro e w' ⟨rfl,hb⟩;have hs:Zd9 w w':=⟨⟨hb.size,λk hk=>hb.block k hk⟩,hb.os,hb.tape,hb.output⟩;exact⟨_,x,rfl,.int _ _ _ _ (Z62 l hl8 t),hm.old hs.1,.refl x,hs⟩
  |[],hargs=>exact hargs.elim
  |[_],hargs=>exact hargs.2.elim
  |_::_::_::_,hargs=>exact hargs.2.2.elim
 ·simp at hp
end
end Go.Proofs.YtpnjbfjomebppaaGreat
open Go Go.S3 Go.Proofs
set_option maxRecDepth 100000
namespace Go.Proofs.YtpnjbfjomebppaaGreat
noncomputable section
abbrev Z7E:List Sh:=[Sh.agg (R.Pq Kb Ka),So Kb]
def uAtT (c:Int×Int) (t:Int):RT (Int):=
 .Lf (uCmp c.1 t)
def uAt (c:Int×Int) (t:Int):Int:=(uAtT c t).val
def uAtE:En:=Zg Z7E Z3u (λ_=>none) (λa=>uAt a.1 a.2)
theorem ZR0:Za prog 277 uAtE:=
 pureQ 31 [(161,Z4C)] [] _ _ ⟨ZRX,Tv⟩ Tryz.func277 Tryz.call277 trivial
abbrev ZDP:Rs:=Rs.tup [So Kc,So R.bool]
def ZY9:LS:={n:=49,Sl:=[(0,.code (So rcCE)),(1,.code (So Kb)),(2,.fix (A.clo 277 [])),(8,.code (So Kc)),(9,.code (So Kc)),(10,.code (So Kc))],Bx:=[],Sg:=[]}
def ZhR (a:List (Int×Int)×Int×Int×Int×Int×PUnit):RT (Option (Go1 (List (Int×Int)×Int×Int×Int×Int×PUnit))):=
 let x1:=i64.wrap (shrI IntKind.u64 (IntKind.u64.wrap (i64.wrap (a.2.2.2.1+a.2.2.2.2.1))) 1)
 let x2:=decide (uAt (R.get (R.Pq Kb Ka) a.1 x1) a.2.1<0)
 .br (decide (a.2.2.2.1<a.2.2.2.2.1)) (.br (Ze x1 (Le a.1)) (Ls (Go1.cont (a.1,a.2.1,a.2.2.1,bif x2 then i64.wrap (x1+1) else a.2.2.2.1,bif x2 then a.2.2.2.2.1 else x1,PUnit.unit))) Ln) (Ls (Go1.brk (a.1,a.2.1,a.2.2.1,a.2.2.2.1,a.2.2.2.2.1,PUnit.unit)))
def ZJh:Ora:=ZaX false ZY9 ZhR (λa=>(a.2.2.2.2.1-a.2.2.2.1).toNat+1)
theorem ZM0:ZaF (envX prog [(277,uAtE)] [] 4095 8) (.block 0 (.loop (Z4 Tryz.f276.body 0))) ZJh:=
 loopP ⟨ZR0,Tv⟩
def ZsZ (x:List (Int×Int)) (t:Int):RT (Option (Int×Bool)):=
 let x1:List (Int×Int)×Int×Int×Int×Int×PUnit:=(x,t,iN (Le x),0,iN (Le x),())
 let x2:=runF false ZhR (λa=>Int.toNat (a.2.2.2.2.1-a.2.2.2.1)+1) x1
 let x3:List (Int×Int)×Int×Int×Int×Int×PUnit:=(getO (false,x1) x2).2
 let x4:=x3.2
 let x5:=x4.2
 let x6:=x5.2.1
 let x7:=decide (x6<x5.1)
 let x8:=x3.1
 .br (okB x2) (.br (!x7||Ze x6 (Le x8)) (Ls ((bif x7 then x6 else x6,x7&&uAt (R.get (R.Pq Kb Ka) x8 x6) x4.1==0))) Ln) Ln
def ZeB (x:List (Int×Int)) (t:Int):Int×Bool:=getO ZDP.Df (ZsZ x t).val
def ZJi (x:List (Int×Int)) (t:Int):Bool:=okB (ZsZ x t).val
def Z2p:En:=ZUi 277 ZTB ZDP (λa=>some (ZJi a.1 a.2)) (λa=>ZeB a.1 a.2)
theorem ZY8:Za prog 276 Z2p:=
 ZOp (P:=prog) (n:=4095) (k:=8) (l:=[(277,uAtE)]) (ol:=[(0,ZJh)]) ⟨ZR0,Tv⟩ Tryz.func276 rfl (by kernel_rfl) Tryz.call276 ⟨ZM0,Tv⟩ (g0:=277) (ts:=ZTB) (rs:=ZDP) (t:=λa=>ZsZ a.1 a.2) (λa=>by kernel_rfl)
def ZPY (m:List (Int×Int)) (t:Int) (v:Int):RT (Option (List (Int×Int))):=
 let x1:= !(v==0&& !(ZeB m t).2)||Nat.ble (Le m) most
 let x2:= !x1
 let x3:=v==0&& !(ZeB m t).2||(!v==0||(!Nat.ble (Le m) most||decide (0<=(ZeB m t).1)&&decide ((ZeB m t).1<iN (Le m))&&decide (i64.wrap ((ZeB m t).1+1)=(ZeB m t).1+1)))
 let x4:= !x3
 let x5:=v==0&& !(ZeB m t).2||(!v==0||Nat.ble (Le m) most)
 let x6:= !x5
 let x7:=v==0&& !(ZeB m t).2||(v==0||(!(ZeB m t).2||Nat.ble (Le m) most))
 .br (ZyO m) (.br (!!Zrr m||(!Nat.ble (Le m) most||(!Nat.ble (Le (m++[(t,v)])) most||ZCs (m++[(t,v)])))) (.br (!!Zrr m||(!Nat.ble (Le m) most||Nat.ble (Le (m++[(t,v)])) most)) (.br (!!Zrr m||Nat.ble (Le m) most) (.br (!Zrr m) (Ls (ZXj (m++[(t,v)]))) (.br (ZJi m t) (.br (x2||(x4||(x6||(!x7||(v==0&& !(ZeB m t).2||(v==0||(!(ZeB m t).2||Ze (ZeB m t).1 (Le m)))))))) (.br (x2||(x4||(x6||x7))) (.br (x2||(x4||x5)) (.br (x2||x3) (.br (x1) (.br (v==0&& !(ZeB m t).2) (Ls (m)) (.br (v==0) (Ls (delX m (Int.toNat (ZeB m t).1))) (.br (ZeB m t).2 (Ls (setI m (ZeB m t).1 ((R.get (R.Pq Kb Ka) m (ZeB m t).1).1,v))) (.br (!Nat.ble (Le m) most||decide (0<=(ZeB m t).1)&&decide ((ZeB m t).1<=iN (Le m))&&Nat.ble (Le m+1) most) (.br (Nat.ble (Le m) most) (Ls (insX m (Int.toNat (ZeB m t).1) (t,v))) Ln) Ln)))) Ln) Ln) Ln) Ln) Ln) Ln)) Ln) Ln) Ln) Ln
def mPut (m:List (Int×Int)) (t:Int) (v:Int):List (Int×Int):=getO ZHX.Df (ZPY m t v).val
def Z1g (m:List (Int×Int)) (t:Int) (v:Int):Bool:=okB (ZPY m t v).val
def Z8D:En:=Zg ZS3 ZHX (λa=>some (Z1g a.1 a.2.1 a.2.2)) (λa=>mPut a.1 a.2.1 a.2.2)
theorem Z6G:Za prog 210 Z8D:=
 ZpE (P:=prog) (n:=35253225784319) (k:=108) (l:=[(90,ZXi),(98,Zzj),(103,ZXb),(276,Z2p),(277,uAtE),(278,delE),(279,insE)]) (ol:=[]) ⟨ZLX,Zr6,ZCp,ZY8,ZR0,Z8Z,Z8Q,Tv⟩ Tryz.func210 rfl (by kernel_rfl) Tryz.call210 trivial (ts:=ZS3) (rs:=ZHX) (t:=λa=>ZPY a.1 a.2.1 a.2.2) (λa=>by kernel_rfl)
end
end Go.Proofs.YtpnjbfjomebppaaGreat
open Go Go.S3 Go.Proofs Go.Proofs.Cells
namespace Go.Proofs.YtpnjbfjomebppaaGreat
noncomputable section
theorem ZRY (x y:Int):decide (uCmp x y<0)=decide (x<y):=by
 simp only[uCmp,ZRZ,RT.val,Yai,Yc];by_cases h:x<y
 ·simp[h]
 ·by_cases h2:x>y<;>simp[h,h2]
theorem Z4B (x y:Int):(uCmp x y==0)=(x==y):=by
 simp only[uCmp,ZRZ,RT.val,Yai,Yc];by_cases h:x<y
 ·have:x≠y:=by omega
  simp[h,this]
 ·by_cases h2:x>y
  ·have:x≠y:=by omega
   simp[h,h2,this]
  ·have:x=y:=by omega
   simp[h,h2,this]
theorem ZR1 (c:Cell) (t:Int):uAt c t=uCmp c.1 t:=rfl
def At (m:List Cell) (t:Int) (i:Nat):Prop:=i<=m.length/\(∀k,k<i->(el m k).1<t)/\∀k,i<=k->k<m.length->t<=(el m k).1
theorem ZRw (m:List Cell) (t:Int) (hv:Vld m) (hm:m.length<=most):ZJi m t=true/\∃i,At m t i/\ZeB m t=((i:Int),decide (i<m.length)&&((el m i).1==t)):=by
 have hms:=mst;obtain⟨r,hr,h1,i,hi,hR⟩:=ZM (fl:=false) (t:=ZhR) (fuel:=λa=>Int.toNat (a.2.2.2.2.1-a.2.2.2.1)+1)
  (λa=>∃lo hi:Nat,lo<=hi/\hi<=m.length/\(∀k,k<lo->(el m k).1<t)/\(∀k,hi<=k->k<m.length->t<=(el m k).1)/\a=(m,t,(m.length:Int),(lo:Int),(hi:Int),()))
  (λa=>Int.toNat (a.2.2.2.2.1-a.2.2.2.1)) (λr=>r.1=false/\∃i:Nat,At m t i/\r.2=(m,t,(m.length:Int),(i:Int),(i:Int),()))
  (by
   rintro a ⟨lo,hi,h1,h2,h3,h4,rfl⟩;by_cases hlt:lo<hi
   ·left;have d:decide ((lo:Int)<(hi:Int))=true:=by simpa using hlt
    have hmid:=ZrM lo hi (by omega);obtain⟨M,hM⟩:∃M,M=(lo+hi)/2:=⟨_,rfl⟩;rw[<-hM] at hmid;have r1:=Zax m M (by omega);have g:=ZcL m M;have w:=Zim M (by omega);by_cases hc:(el m M).1<t
    ·have dc:decide (uAt (el m M) t<0)=true:=by rw[ZR1,ZRY];simpa using hc
     refine⟨(m,t,(m.length:Int),((M+1:Nat):Int),(hi:Int),()),?_,⟨M+1,hi,by omega,h2,λk hk=> ?_,h4,rfl⟩,by simp only;omega⟩
     ·simp only[ZhR,RT.val,d,hmid,r1,g,dc,w,Ya]
     ·by_cases e:k=M
      ·subst e;exact hc
      ·by_cases e2:k<lo
       ·exact h3 k e2
       ·have:=YaB.1 hv.1 k M (by omega) (by omega) (by omega);have e1:=Zc1 m k (by omega);have e3:=Zc1 m M (by omega);rw[Yk (by omega),oinj] at e1 e3;rw[e1,e3] at this;omega
    ·have dc:decide (uAt (el m M) t<0)=false:=by rw[ZR1,ZRY];simpa using hc
     refine⟨(m,t,(m.length:Int),(lo:Int),(M:Int),()),?_,⟨lo,M,by omega,by omega,h3,λk hk hk2=> ?_,rfl⟩,by simp only;omega⟩
     ·simp only[ZhR,RT.val,d,hmid,r1,g,dc,Ya,Yc]
     ·by_cases e:k=M
      ·subst e;omega
      ·have:=YaB.1 hv.1 M k (by omega) (by omega) (by omega);have e1:=Zc1 m k (by omega);have e3:=Zc1 m M (by omega);rw[Yk (by omega),oinj] at e1 e3;rw[e1,e3] at this;omega
   ·right;left;have d:decide ((lo:Int)<(hi:Int))=false:=by simpa using hlt
    have:hi=lo:=by omega
    subst this
    exact⟨_,by simp only[ZhR,RT.val,d,Yc],rfl,hi,⟨h2,h3,h4⟩,rfl⟩)
  (m,t,iN m.length,0,iN m.length,()) ⟨0,m.length,Yt _,Yg _,λk h=>by omega,λk h1 h2=>by omega,rfl⟩ (by simp only[iN,Le];omega)
 obtain⟨r1,r2⟩:=r;simp only at h1 hR;subst h1 hR;have hd:decide ((i:Int)<(m.length:Int))=decide (i<m.length):=by simp
 have hv:(ZsZ m t).val=some ((i:Int),decide (i<m.length)&&((el m i).1==t)):=by
  have g:=ZcL m i;by_cases hlt:i<m.length
  ·have r1:=Zax m i hlt;have hd:decide ((i:Int)<(m.length:Int))=true:=by simpa using hlt
   simp only[ZsZ,RT.val,hr,okB,getO,Ya,hd,r1,Ye,Yi,g,ZR1,Z4B,hlt,decide_true,YH]
  ·have hd:decide ((i:Int)<(m.length:Int))=false:=by simpa using hlt
   simp only[ZsZ,RT.val,hr,okB,getO,Ya,Yc,hd,Yl,Ys,hlt,decide_false,YL]
 exact⟨by simp only[ZJi,hv];rfl,i,hi,by simp only[ZeB,hv,getO]⟩
theorem ZUg:∀(i:Nat) (m:List Cell) (c:Cell),i<=m.length->(∀k,k<i->(el m k).1<c.1)->putX m c=m.take i++putX (m.drop i) c
 |0,m,c,_,_=>by simp
 |i+1,[],c,h,_=>by simp at h
 |i+1,x::m,c,h,hk=>by have h0:x.1<c.1:=hk 0 (by omega);rw[putX,YX h0,ZUg i m c (by simpa using h) (λk h'=>hk (k+1) (by omega))];simp
theorem ZUf (m:List Cell) (t v:Int) (i:Nat) (h:At m t i):
  (v=0->(decide (i<m.length)&&((el m i).1==t))=false->putX m (t,v)=m)/\
  (v=0->(decide (i<m.length)&&((el m i).1==t))=true->putX m (t,v)=delX m i)/\
  (v≠0->(decide (i<m.length)&&((el m i).1==t))=true->putX m (t,v)=setI m (i:Int) ((el m i).1,v))/\
  (v≠0->(decide (i<m.length)&&((el m i).1==t))=false->putX m (t,v)=insX m i (t,v)):=by
 obtain⟨h1,h2,h3⟩:=h;have hp:=ZUg i m (t,v) h1 h2;by_cases hlt:i<m.length
 ·have hd:=Zza m i hlt;have hge:=h3 i (Yg _) hlt;have hn:¬(el m i).1<t:=by omega
  rw[hd] at hp;simp only[putX,Y2 hn] at hp;simp only[hlt,decide_true,YH];refine⟨λhz he=> ?_,λhz he=> ?_,λhz he=> ?_,λhz he=> ?_⟩
  ·have he:(el m i).1≠t:=by simpa using he
   rw[hp,YX hz,Y2 he,<-hd,Yaq]
  ·have he:(el m i).1=t:=by simpa using he
   rw[hp,YX hz,YX he,delX]
  ·have he:(el m i).1=t:=by simpa using he
   rw[hp,Y2 hz,YX he,setI,Int.toNat_natCast,he,List.set_eq_take_append_cons_drop,YX hlt]
  ·have he:(el m i).1≠t:=by simpa using he
   rw[hp,Y2 hz,Y2 he,insX,<-hd];simp
 ·have he:i=m.length:=by omega
  subst he;simp only[List.drop_length,putX] at hp;simp only[Nat.lt_irrefl,decide_false,YL];refine⟨λhz _=> ?_,λhz he=>by simp at he,λhz he=>by simp at he,λhz _=> ?_⟩
  ·rw[hp,YX hz];simp
  ·rw[hp,Y2 hz,insX];simp
theorem Z1d (m:List Cell) (t v:Int) (hm:m.length+1<=most):Z1g m t v=true/\mPut m t v=putX (normX m) (t,v):=by
 have hms:=mst;have hv1:=ZCg m (by omega);have hb1:Nat.ble m.length most=true:=by rw[YF];omega
 have hv:(ZPY m t v).val=some (putX (normX m) (t,v)):=by
  cases hval:vldB m with
  |false=>
   have hl:(m++[(t,v)]).length<=most:=by simp;omega
   have hb2:Nat.ble (m++[(t,v)]).length most=true:=by rw[YF];exact hl
   obtain⟨n1,n2⟩:=ZCh (m++[(t,v)]) hl;simp only[ZPY,RT.val,hv1.1,hv1.2,hval,hb1,hb2,n1,n2,Zlu,Yl,Ye,Yh,Y8,Ya]
  |true=>
   have hV:=ZmM.1 hval;obtain⟨f1,i,hi,f2⟩:=ZRw m t hV (by omega);obtain⟨q1,q2,q3,q4⟩:=ZUf m t v i hi;have hile:decide ((i:Int)<=iN m.length)=true:=by simpa [iN,Le] using hi.1
   have hi0:decide ((0:Int)<=(i:Int))=true:=by simp
   have hb3:Nat.ble (m.length+1) most=true:=by rw[YF];omega
   have w:=Zim i (by have:=hi.1;omega);have g:=ZcL m i;rw[Zh8 hV];simp only[ZPY,RT.val,hv1.1,hv1.2,hval,hb1,f1,f2,hile,hi0,hb3,w,g,Ye,Yl,Ys,Yh,Yu,Yi,YV,YH,Ya,Yc,Int.toNat_natCast];cases hfd:(decide (i<m.length)&&((el m i).1==t)) with
   |true=>
    have hlt:i<m.length:=by rw[Yb,Yj] at hfd;exact hfd.1
    have r1:=Zax m i hlt;have hd:decide ((i:Int)<iN m.length)=true:=by simpa [iN,Le] using hlt
    have hw:decide (((i+1:Nat):Int)=(i:Int)+1)=true:=by simp
    by_cases hz:v=0
    ·have hz1:(v==0)=true:=by simpa using hz
     simp only[hz1,r1,hd,hw,q2 hz hfd,Ye,Yl,Y3,YT,Ys,Yh,Yu,Yi,YV,Ya,Yc]
    ·have hz1:(v==0)=false:=by simpa using hz
     simp only[hz1,r1,hd,hw,q3 hz hfd,Ye,Yl,YL,Y3,YT,Ys,Yh,Yu,Yi,YV,Ya,Yc]
   |false=>
    by_cases hz:v=0
    ·have hz1:(v==0)=true:=by simpa using hz
     simp only[hz1,q1 hz hfd,Ye,Yl,Y3,YT,Ys,Yh,Yu,Yi,YV,Ya,Yc]
    ·have hz1:(v==0)=false:=by simpa using hz
     simp only[hz1,q4 hz hfd,Ye,Yl,YL,Y3,YT,Ys,Yh,Yu,Yi,YV,Ya,Yc]
 exact⟨by simp only[Z1g,hv];rfl,by simp only[mPut,hv,getO]⟩
abbrev ZpZ:List Sh:=[So rcRG]
def ZOF:LS:={n:=30,Sl:=[(2,.code (So Kc)),(8,.code (So rcRG)),(9,.code (So Kc)),(10,.code (So Kc))],Bx:=[],Sg:=[]}
def ZtU (a:QT17):RT (Option (Go1 (QT17))):=
 let x1:QT6:=R.get (R.Pq Kb (R.Pq Kb (R.Pq R.bool Kc))) a.2.1 a.2.2.2.1
 let x2:=x1.2
 let x3:=x2.2.2
 let x4:List (QT6)×Int×Int×PUnit:=(a.2.1,a.2.2.1,a.2.2.2.1,PUnit.unit)
 .br (decide (a.2.2.2.1<a.2.2.1)) (.br (Ze a.2.2.2.1 (Le a.2.1)) (.br (decide (x2.1<x1.1)||(decide (x3<0)||decide (x3>100))) (Ls (Go1.ret (1,x4))) (Ls (Go1.cont (a.1,a.2.1,a.2.2.1,i64.wrap (a.2.2.2.1+1),PUnit.unit)))) Ln) (Ls (Go1.brk (a.1,x4)))
def ZtV:Ora:=ZaX true ZOF ZtU (λa=>1000000000000)
theorem ZBy:ZaF (envX prog [] [] 31 8) (.block 0 (.loop (Z4 Tryz.f102.body 0))) ZtV:=
 loopP trivial
def Zne (l:List (QT6)):RT (Option (Int)):=
 let x1:=runF true ZtU (λa=>1000000000000) (0,l,iN (Le l),0,())
 let x2:=getO (false,0,l,iN (Le l),0,()) x1
 .br (decide (iN (Le l)>16)) (Ls (3)) (.br (okB x1) (.br x2.1 (Ls x2.2.1) (Ls (0))) Ln)
def ZUX (l:List (QT6)):Int:=getO Z3u.Df (Zne l).val
def ZKZ (l:List (QT6)):Bool:=okB (Zne l).val
def Z0t:En:=Zg ZpZ Z3u (λa=>some (ZKZ a)) (λa=>ZUX a)
theorem ZOE:Za prog 102 Z0t:=
 pureP 31 [] [(0,ZtV)] _ _ trivial Tryz.func102 Tryz.call102 ⟨ZBy,Tv⟩
def Zqc (l:List (QT6)) (m:List (Int×Int)) (t:Int):RT (Option (Int)):=
 .br (ZBQ l t) (.br (decide (Zso l t<0)) (Ls (255)) (.br (Nat.ble (Le m) most) (Ls (Cells.getX m t)) Ln)) Ln
def ZVh (l:List (QT6)) (m:List (Int×Int)) (t:Int):Int:=getO ZWw.Df (Zqc l m t).val
def ZGj (l:List (QT6)) (m:List (Int×Int)) (t:Int):Bool:=okB (Zqc l m t).val
def Z5V:En:=Zg ZvB ZWw (λa=>some (ZGj a.1 a.2.1 a.2.2)) (λa=>ZVh a.1 a.2.1 a.2.2)
theorem ZVg:Za prog 202 Z5V:=
 pureP 127 [(209,ZLt),(270,Z8G)] [] _ _ ⟨ZxQ,Z6I,Tv⟩ Tryz.func202 Tryz.call202 trivial
def ZjY (l:List (QT6)) (m:List (Int×Int)) (t:Int) (v:Int):RT (Option (List (Int×Int))):=
 let x1:=decide (Zso l t>=0)&&(R.get (R.Pq Kb (R.Pq Kb (R.Pq R.bool Kc))) l (Zso l t)).2.2.1
 .br (ZBQ l t) (.br (!decide (Zso l t>=0)||Ze (Zso l t) (Le l)) (.br (!x1||Z1g m t v) (.br (x1) (Ls (mPut m t v)) (.br (ZCs m) (Ls (ZXj m)) Ln)) Ln) Ln) Ln
def ZF3 (l:List (QT6)) (m:List (Int×Int)) (t:Int) (v:Int):List (Int×Int):=getO ZHX.Df (ZjY l m t v).val
def Zxa (l:List (QT6)) (m:List (Int×Int)) (t:Int) (v:Int):Bool:=okB (ZjY l m t v).val
def Z0q:En:=Zg Zor ZHX (λa=>some (Zxa a.1 a.2.1 a.2.2.1 a.2.2.2)) (λa=>ZF3 a.1 a.2.1 a.2.2.1 a.2.2.2)
theorem ZOB:Za prog 143 Z0q:=
 pureP 1023 [(90,ZXi),(209,ZLt),(210,Z8D)] [] _ _ ⟨ZLX,ZxQ,Z6G,Tv⟩ Tryz.func143 Tryz.call143 trivial
def Zj0 (l:List (QT6)) (t:Int):RT (Option (Int)):=
 let x1:Int:=(R.get (R.Pq Kb (R.Pq Kb (R.Pq R.bool Kc))) l (Zso l t)).2.2.2
 let x2:Int:=if 100<x1 then 100 else x1
 .br (ZBQ l t) (.br (decide (Zso l t<0)) (Ls (0)) (.br (Ze (Zso l t) (Le l)) (Ls (if x2>0 then x2 else 0)) Ln)) Ln
def ZF5 (l:List (QT6)) (t:Int):Int:=getO Z3u.Df (Zj0 l t).val
def Zxb (l:List (QT6)) (t:Int):Bool:=okB (Zj0 l t).val
def Z0r:En:=Zg ZTC Z3u (λa=>some (Zxb a.1 a.2)) (λa=>ZF5 a.1 a.2)
theorem ZOC:Za prog 269 Z0r:=
 pureP 63 [(209,ZLt)] [] _ _ ⟨ZxQ,Tv⟩ Tryz.func269 Tryz.call269 trivial
def ZFj (n:Int):RT (Int):=
 .Lf (if (if 100<n then 100 else n)>0 then if 100<n then 100 else n else 0)
def Zmb (n:Int):Int:=(ZFj n).val
def ZFk:En:=Zg ZBC Z3u (λ_=>none) (λa=>Zmb a)
theorem ZA5:Za prog 335 ZFk:=
 pureQ 7 [] [] _ _ trivial Tryz.func335 Tryz.call335 trivial
def Zou (l:List (QT6)) (t:Int):RT (Option (Int)):=
 .br (Zpv l t) (.br (!decide (Zlc l t>=0)||Ze (Zlc l t) (Le l)) (.br (decide (Zlc l t>=0)) (Ls (Zmb (R.get (R.Pq Kb (R.Pq Kb (R.Pq R.bool Kc))) l (Zlc l t)).2.2.2)) (Ls (0))) Ln) Ln
def ZSF (l:List (QT6)) (t:Int):Int:=getO Z3u.Df (Zou l t).val
def ZEd (l:List (QT6)) (t:Int):Bool:=okB (Zou l t).val
def Z40:En:=Zg ZTC Z3u (λa=>some (ZEd a.1 a.2)) (λa=>ZSF a.1 a.2)
theorem ZSE:Za prog 334 Z40:=
 pureP 63 [(169,ZKm),(335,ZFk)] [] _ _ ⟨Zv2,ZA5,Tv⟩ Tryz.func334 Tryz.call334 trivial
def ZNe:LS:={n:=30,Sl:=[(2,.code (So Kc)),(8,.code (So rcRG)),(9,.code (So Kc)),(10,.code (So Kc))],Bx:=[],Sg:=[]}
def Zet (a:QT17):RT (Option (Go1 (QT17))):=
 let x1:QT6:=R.get (R.Pq Kb (R.Pq Kb (R.Pq R.bool Kc))) a.2.1 a.2.2.2.1
 let x2:=x1.2
 let x3:=x2.2.2
 let x4:List (QT6)×Int×Int×PUnit:=(a.2.1,a.2.2.1,a.2.2.2.1,PUnit.unit)
 .br (decide (a.2.2.2.1<a.2.2.1)) (.br (Ze a.2.2.2.1 (Le a.2.1)) (.br (decide (x2.1<x1.1)||(decide (x3<0)||decide (x3>100))) (Ls (Go1.ret (1,x4))) (Ls (Go1.cont (a.1,a.2.1,a.2.2.1,i64.wrap (a.2.2.2.1+1),PUnit.unit)))) Ln) (Ls (Go1.brk (a.1,x4)))
def Ztl:Ora:=ZaX true ZNe Zet (λa=>1000000000000)
theorem ZAy:ZaF (envX prog [] [] 31 8) (.block 0 (.loop (Z4 Tryz.f104.body 0))) Ztl:=
 loopP trivial
def Zfd (l:List (QT6)):RT (Option (Int)):=
 let x1:=runF true Zet (λa=>1000000000000) (0,l,iN (Le l),0,())
 let x2:=getO (false,0,l,iN (Le l),0,()) x1
 .br (decide (iN (Le l)>16)) (Ls (3)) (.br (okB x1) (.br x2.1 (Ls x2.2.1) (Ls (0))) Ln)
def Zvs (l:List (QT6)):Int:=getO Z3u.Df (Zfd l).val
def ZmX (l:List (QT6)):Bool:=okB (Zfd l).val
def ZZC:En:=Zg ZpZ Z3u (λa=>some (ZmX a)) (λa=>Zvs a)
theorem ZNd:Za prog 104 ZZC:=
 pureP 31 [] [(0,Ztl)] _ _ trivial Tryz.func104 Tryz.call104 ⟨ZAy,Tv⟩
def sm {α:Type} (l:List α):Bool:=Nat.ble (l.length+1) most
def smC (l:List (Int×Int)):Bool:=sm l
def smB (l:List Int):Bool:=sm l
def smG (l:List Z9):Bool:=sm l
variable {α:Type}
theorem Zs7 {l:List α}:sm l=true↔l.length+1<=most:=by simp[sm]
theorem ZkX {l:List α} (h:sm l=true):l.length<=most:=by have:=Zs7.1 h;omega
theorem Z1F (l:List Z9) (t:Int): -1<=Zbm l t/\(Zbm l t<0\/∃i:Nat,i<l.length/\Zbm l t=i):=by
 unfold Zbm;split
 ·rename_i h;exact⟨by omega,.inr ⟨_,h,rfl⟩⟩
 ·exact⟨by omega,.inl (by omega)⟩
theorem Zks (l:List Z9) (t:Int) (h:0<=Zbm l t):Ze (Zbm l t) l.length=true:=by
 rcases (Z1F l t).2 with h1|⟨i,hi,e⟩
 ·omega
 ·rw[e];exact Zax l i hi
def Zbn (l:List Z9) (m:List Cell) (t v:Int):List Cell:=bif decide (Zbm l t>=0)&&(R.get GR l (Zbm l t)).2.2.1 then putX (normX m) (t,v) else normX m
def limX (n:Int):Int:=if (if 100<n then 100 else n)>0 then if 100<n then 100 else n else 0
def Zfx (l:List Z9) (t:Int):Int:=bif decide (Zbm l t>=0) then limX (R.get GR l (Zbm l t)).2.2.2 else 0
theorem ge_lt (x:Int):decide (x>=0)= !decide (x<0):=by by_cases h:x<0<;>simp[h]<;>omega
theorem ZUn (l:List Z9) (m:List Cell) (t:Int) (hl:l.length<=most) (hm:m.length<=most):ZGj l m t=true/\ZVh l m t=ZfM l m t:=by
 have h1:=ZpP l t hl;have hb:Nat.ble m.length most=true:=by rw[YF];exact hm
 have hv:(Zqc l m t).val=some (ZfM l m t):=by simp only[Zqc,RT.val,h1.1,h1.2,hb,Ya,ZfM];cases decide (Zbm l t<0)<;>rfl
 exact⟨by simp only[ZGj,hv];rfl,by simp only[ZVh,hv,getO]⟩
theorem ZOm (l:List Z9) (m:List Cell) (t v:Int) (hl:l.length<=most) (hm:m.length+1<=most):Zxa l m t v=true/\ZF3 l m t v=Zbn l m t v:=by
 have h1:=ZpP l t hl;have h2:=Z1d m t v hm;have h3:=ZCh m (by omega);have hv:(ZjY l m t v).val=some (Zbn l m t v):=by
  have hr:(!decide (Zbm l t>=0)||Ze (Zbm l t) l.length)=true:=by
   by_cases h:0<=Zbm l t
   ·rw[Zks l t h];simp
   ·have:decide (Zbm l t>=0)=false:=by simp;omega
    rw[this];rfl
  simp only[ZjY,RT.val,h1.1,h1.2,h2.1,h2.2,h3.1,h3.2,hr,Yh,Ya,Zbn];cases decide (Zbm l t>=0)&&(R.get GR l (Zbm l t)).2.2.1<;>rfl
 exact⟨by simp only[Zxa,hv];rfl,by simp only[ZF3,hv,getO]⟩
theorem ZM3 (l:List Z9) (m:List Cell) (t v:Int) (hl:l.length<=most) (hm:m.length+1<=most):Zvo l m t v=true/\ZEc l m t v=Zbn l m t v:=by
 have h1:=Zju l t hl;have h2:=ZZq m t v hm;have h3:=Zoo m hm;have hv:(Zjy l m t v).val=some (Zbn l m t v):=by
  have hr:(!decide (Zbm l t>=0)||Ze (Zbm l t) l.length)=true:=by
   by_cases h:0<=Zbm l t
   ·rw[Zks l t h];simp
   ·have:decide (Zbm l t>=0)=false:=by simp;omega
    rw[this];rfl
  simp only[Zjy,RT.val,h1.1,h1.2,h2.1,h2.2,h3.1,h3.2,hr,Yh,Ya,Zbn];cases decide (Zbm l t>=0)&&(R.get GR l (Zbm l t)).2.2.1<;>rfl
 exact⟨by simp only[Zvo,hv];rfl,by simp only[ZEc,hv,getO]⟩
theorem ZOn (l:List Z9) (t:Int) (hl:l.length<=most):Zxb l t=true/\ZF5 l t=Zfx l t:=by
 have h1:=ZpP l t hl;have hv:(Zj0 l t).val=some (Zfx l t):=by
  simp only[Zj0,RT.val,h1.1,h1.2,Ya,Zfx,limX,ge_lt];by_cases h:Zbm l t<0
  ·have hd:decide (Zbm l t<0)=true:=by simpa using h
   simp only[hd,Ye,Ya,Yc]
  ·have hd:decide (Zbm l t<0)=false:=by simpa using h
   have hr:=Zks l t (by omega);simp only[hd,hr,Yl,Ya,Yc]
 exact⟨by simp only[Zxb,hv];rfl,by simp only[ZF5,hv,getO]⟩
theorem ZM4 (l:List Z9) (t:Int) (hl:l.length<=most):ZEd l t=true/\ZSF l t=Zfx l t:=by
 have h1:=Zju l t hl;have hv:(Zou l t).val=some (Zfx l t):=by
  have hr:(!decide (Zbm l t>=0)||Ze (Zbm l t) l.length)=true:=by
   by_cases h:0<=Zbm l t
   ·rw[Zks l t h];simp
   ·have:decide (Zbm l t>=0)=false:=by simp;omega
    rw[this];rfl
  simp only[Zou,RT.val,h1.1,h1.2,hr,Ya,Zfx];cases decide (Zbm l t>=0)<;>rfl
 exact⟨by simp only[ZEd,hv];rfl,by simp only[ZSF,hv,getO]⟩
def badR (r:Z9):Bool:=decide (r.2.1<r.1)||(decide (r.2.2.2<0)||decide (r.2.2.2>100))
def Zb9 (l:List Z9):Int:=bif decide (iN l.length>16) then 3 else bif l.any badR then 1 else 0
theorem Zoh (l:List Z9) (hl:l.length<=most):ZmX l=true/\Zvs l=Zb9 l:=by
 have hms:=mst;obtain⟨r,hr,hR⟩:=ZM (fl:=true) (t:=Zet) (fuel:=λ_=>1000000000000)
  (λx=>∃i:Nat,i<=l.length/\(∀k,k<i->badR (rg l k)=false)/\x=(0,l,(l.length:Int),(i:Int),()))
  (λx=>Int.toNat (x.2.2.1-x.2.2.2.1)) (λr=>(r.1=false/\l.any badR=false)\/(r.1=true/\l.any badR=true/\r.2.1=1))
  (by
   rintro x ⟨i,hi,hk,rfl⟩;by_cases hlt:i<l.length
   ·have d:decide ((i:Int)<(l.length:Int))=true:=by simpa using hlt
    have r1:=Zax l i hlt;have g1:=Z3U l i;cases hh:badR (rg l i) with
    |false=>
     left;refine⟨(0,l,(l.length:Int),((i+1:Nat):Int),()),?_,⟨i+1,hlt,λk hk'=> ?_,rfl⟩,by simp only;omega⟩
     ·simp only[badR] at hh;simp only[Zet,RT.val,d,r1,g1,hh,Ya,Yc,Zim i (by omega)]
     ·by_cases e:k=i
      ·subst e;exact hh
      ·exact hk k (by omega)
    |true=>
     right;right;refine⟨(1,l,(l.length:Int),(i:Int),()),rfl,?_,.inr ⟨rfl,List.any_eq_true.2 ⟨rg l i,?_,hh⟩,rfl⟩⟩
     ·simp only[badR] at hh;simp only[Zet,RT.val,d,r1,g1,hh,Ya]
     ·rw[<-ZAo l i hlt];exact List.getElem_mem hlt
   ·right;left;have d:decide ((i:Int)<(l.length:Int))=false:=by simpa using hlt
    refine⟨_,by simp only[Zet,RT.val,d,Yc];rfl,.inl ⟨rfl,?_⟩⟩;rw[List.any_eq_false];intro q hq;obtain⟨k,hk',rfl⟩:=YaJ.1 hq
    rw[ZAo l k hk',hk k (by omega)];simp)
  (0,l,iN l.length,0,()) ⟨0,Yt _,λk h=>by omega,rfl⟩ (by simp only[iN,Le];omega)
 have hv:(Zfd l).val=some (Zb9 l):=by
  cases hd:decide (iN l.length>16) with
  |true=>simp only[Zfd,RT.val,hd,Ya,Zb9]
  |false=>
   rcases hR with ⟨h1,h2⟩|⟨h1,h2,h3⟩
   ·simp only[Zfd,RT.val,hd,hr,okB,getO,Ya,Yc,h1,h2,Zb9]
   ·simp only[Zfd,RT.val,hd,hr,okB,getO,Ya,Yc,h1,h2,h3,Zb9]
 exact⟨by simp only[ZmX,hv];rfl,by simp only[Zvs,hv,getO]⟩
theorem ZFH (l:List Z9) (hl:l.length<=most):ZKZ l=true/\ZUX l=Zb9 l:=by have h:=Zoh l hl;have e:Zne l=Zfd l:=rfl;simp only[ZmX,Zvs,<-e] at h;exact h
theorem ZkW {P:Program} {f:FuncId} {ts:List Sh} {rs:Rs} {C:HL ts->Bool} {F G:HL ts->rs.den} (h:Za P f (Zg ts rs (λa=>some (C a)) F)) {pre:HL ts->Bool} (hp:∀a,pre a=true->C a=true/\F a=G a):
  Za P f (Zg ts rs (λa=>some (pre a)) G):=by
 have key:∀a,some (pre a)≠some false->pre a=true:=λa h=>by cases hq:pre a with
  |true=>rfl
  |false=>rw[hq] at h;exact absurd rfl h
 exact h.pure_congr (λa _ hq=>by rw[(hp a (key a hq)).1];simp) (λa _ hq=>(hp a (key a hq)).2)
def ZLR:En:=Zg ZXh Zns (λa=>some (smC a)) (λa=>vldB a)
theorem ZPX:Za prog 103 ZLR:=ZkW ZCp λa h=>ZCg a (ZkX h)
def ZmY:En:=Zg ZXh Zns (λa=>some (smC a)) (λa=>vldB a)
theorem Zk7:Za prog 105 ZmY:=ZkW Zov λa h=>ZSo a (ZkX h)
def ZvM:En:=Zg ZXh ZHX (λa=>some (smC a)) (λa=>normX a)
theorem ZoJ:Za prog 93 ZvM:=ZkW ZvJ λa h=>Zoo a (Zs7.1 h)
def ZJJ:En:=Zg Zvz Zns (λa=>some (smC a.1)) (λa=>decide ((a.1:List Cell)=a.2))
theorem ZNj:Za prog 34 ZJJ:=ZkW ZSN λa h=>ZSs a.1 a.2 (ZkX h)
def Zxr:En:=Zg ZvB ZWw (λa=>some (smG a.1&&smC a.2.1)) (λa=>ZfM a.1 a.2.1 a.2.2)
theorem ZOJ:Za prog 202 Zxr:=ZkW ZVg λa h=>by rw[Yb] at h;exact ZUn a.1 a.2.1 a.2.2 (ZkX h.1) (ZkX h.2)
def ZJS:En:=Zg ZvB ZFn (λa=>some (smG a.1&&smC a.2.1)) (λa=>ZfM a.1 a.2.1 a.2.2)
theorem ZNm:Za prog 255 ZJS:=ZkW ZSW λa h=>by rw[Yb] at h;exact ZSt a.1 a.2.1 a.2.2 (ZkX h.1) (ZkX h.2)
def Zhp:En:=Zg Zor ZHX (λa=>some (smG a.1&&smC a.2.1)) (λa=>Zbn a.1 a.2.1 a.2.2.1 a.2.2.2)
theorem ZpT:Za prog 143 Zhp:=ZkW ZOB λa h=>by rw[Yb] at h;exact ZOm a.1 a.2.1 a.2.2.1 a.2.2.2 (ZkX h.1) (Zs7.1 h.2)
def Zot:En:=Zg Zor ZHX (λa=>some (smG a.1&&smC a.2.1)) (λa=>Zbn a.1 a.2.1 a.2.2.1 a.2.2.2)
theorem Zos:Za prog 95 Zot:=ZkW ZNa λa h=>by rw[Yb] at h;exact ZM3 a.1 a.2.1 a.2.2.1 a.2.2.2 (ZkX h.1) (Zs7.1 h.2)
def ZpV:En:=Zg ZTC Z3u (λa=>some (smG a.1)) (λa=>Zfx a.1 a.2)
theorem ZF4:Za prog 269 ZpV:=ZkW ZOC λa h=>ZOn a.1 a.2 (ZkX h)
def ZJA:En:=Zg ZTC Z3u (λa=>some (smG a.1)) (λa=>Zfx a.1 a.2)
theorem ZNb:Za prog 334 ZJA:=ZkW ZSE λa h=>ZM4 a.1 a.2 (ZkX h)
def ZBz:En:=Zg ZpZ Z3u (λa=>some (smG a)) (λa=>Zb9 a)
theorem ZF9:Za prog 102 ZBz:=ZkW ZOE λa h=>ZFH a (ZkX h)
def ZAz:En:=Zg ZpZ Z3u (λa=>some (smG a)) (λa=>Zb9 a)
theorem ZEe:Za prog 104 ZAz:=ZkW ZNd λa h=>Zoh a (ZkX h)
abbrev ZIN:List Sh:=[So Ka,So Ka,So Ka]
def ZQV (a:Int) (b:Int) (c:Int):RT (Int):=
 .Lf (xorI u8 (xorI u8 (xorI u8 a b) c) 165)
def ZfD (a:Int) (b:Int) (c:Int):Int:=(ZQV a b c).val
def ZiH:En:=Zg ZIN ZWw (λ_=>none) (λa=>ZfD a.1 a.2.1 a.2.2)
theorem ZfC:Za prog 117 ZiH:=
 pureQ 127 [] [] _ _ trivial Tryz.func117 Tryz.call117 trivial
def ZYT (o:Bool) (n:Int):RT (Option (Int)):=
 .br (!o||decide (0<=n)) (.br (o) (Ls (shlI u8 1 n)) (Ls (0))) Ln
def wBit (o:Bool) (n:Int):Int:=getO ZWw.Df (ZYT o n).val
def Zga (o:Bool) (n:Int):Bool:=okB (ZYT o n).val
def ZQ1:En:=Zg Z3E ZWw (λa=>some (Zga a.1 a.2)) (λa=>wBit a.1 a.2)
theorem ZuJ:Za prog 116 ZQ1:=
 pureP 31 [] [] _ _ trivial Tryz.func116 Tryz.call116 trivial
abbrev ZQS:Rs:=Rs.one (Sh.agg Zb7)
def Z18:RT INPT:=
 .Lf ((true,false,false,false,false,false,false,false,0,0))
def ZU:INPT:=(Z18).val
def ZIJ:En:=Zg ZBh ZQS (λ_=>none) (λa=>ZU)
theorem ZuC:Za prog 118 ZIJ:=
 pureQ 1 [] [] _ _ trivial Tryz.func118 Tryz.call118 trivial
abbrev ZzK:List Sh:=[So (R.sl Ka)]
abbrev ZnP:Rs:=Rs.one (So (R.sl Zb7))
def ZMP:LS:={n:=83,Sl:=[(0,.code (So (R.sl Ka))),(3,.tip 0),(4,.code (So Kc))],Bx:=[],Sg:=[⟨Zb7,122,true⟩]}
def ZbA (a:List Int×Int×List INPT×PUnit):RT (Option (Go1 (List Int×Int×List INPT×PUnit))):=
 let x1:= !Ze (i64.wrap (a.2.1+1)) (Le a.1)||Ze (i64.wrap (a.2.1+2)) (Le a.1)
 let x2:= !Ze (i64.wrap (a.2.1+3)) (Le a.1)||x1
 let x3:= !x2
 let x4:= !Ze (i64.wrap (a.2.1+3)) (Le a.1)||Ze (i64.wrap (a.2.1+1)) (Le a.1)
 let x5:= !x4
 let p1:=(!Ze (i64.wrap (a.2.1+3)) (Le a.1))::x5::x3::(!Ze a.2.1 (Le a.1))::[]
 let x6:=R.get Ka a.1 (i64.wrap (a.2.1+3)) !=ZfD (R.get Ka a.1 a.2.1) (R.get Ka a.1 (i64.wrap (a.2.1+1))) (R.get Ka a.1 (i64.wrap (a.2.1+2)))
 let x7:= !x6||Nat.ble (Le (a.2.2.1++[ZU])) most
 let x8:= !x7
 let p2:=x6::x8::p1
 let x9:List INPT:=a.2.2.1++[(andI u8 (R.get Ka a.1 a.2.1) 1==0,andI u8 (R.get Ka a.1 a.2.1) 2 !=0,andI u8 (R.get Ka a.1 a.2.1) 4 !=0,andI u8 (R.get Ka a.1 a.2.1) 8 !=0,andI u8 (R.get Ka a.1 a.2.1) 16 !=0,andI u8 (R.get Ka a.1 a.2.1) 32 !=0,andI u8 (R.get Ka a.1 a.2.1) 64 !=0,andI u8 (R.get Ka a.1 a.2.1) 128 !=0,R.get Ka a.1 (i64.wrap (a.2.1+1)),R.get Ka a.1 (i64.wrap (a.2.1+2)))]
 let x10:= !Ze (i64.wrap (a.2.1+1)) (Le a.1)||(!Ze (i64.wrap (a.2.1+2)) (Le a.1)||Nat.ble (Le x9) most)
 let x11:= !x10
 let p3:=x11::p2
 let p4:=(!x1)::p3
 .br (decide (i64.wrap (a.2.1+4)<=iN (Le a.1))&&decide (iN (Le a.2.2.1)<65536)) (.br (orR p4 (Ze (i64.wrap (a.2.1+1)) (Le a.1))) (.br (orR p3 x1) (.br (orR p2 x10) (.br (orR p1 x7) (.br (!Ze a.2.1 (Le a.1)||(x3||(x5||Ze (i64.wrap (a.2.1+3)) (Le a.1)))) (.br (!Ze a.2.1 (Le a.1)||(x3||x4)) (.br (!Ze a.2.1 (Le a.1)||x2) (.br (Ze a.2.1 (Le a.1)) (Ls (Go1.cont (a.1,i64.wrap (a.2.1+4),bif x6 then a.2.2.1++[ZU] else x9,PUnit.unit))) Ln) Ln) Ln) Ln) Ln) Ln) Ln) Ln) (Ls (Go1.brk (a.1,a.2.1,a.2.2.1,PUnit.unit)))
def ZsE:Ora:=ZaX false ZMP ZbA (λa=>1000000000000)
theorem ZzL:ZaF (envX prog [(117,ZiH),(118,ZIJ)] [] 63 8) (.block 0 (.loop (Z4 Tryz.f65.body 0))) ZsE:=
 loopP ⟨ZfC,ZuC,Tv⟩
def Zf9 (l:List Int):RT (Option (List INPT)):=
 .br (okB (runF false ZbA (λa=>1000000000000) (l,0,[],()))) (Ls (getO (false,l,0,[],()) (runF false ZbA (λa=>1000000000000) (l,0,[],()))).2.2.2.1) Ln
def Za9 (l:List Int):List INPT:=getO ZnP.Df (Zf9 l).val
def ZmL (l:List Int):Bool:=okB (Zf9 l).val
def ZuE:En:=Zg ZzK ZnP (λa=>some (ZmL a)) (λa=>Za9 a)
theorem ZsD:Za prog 65 ZuE:=
 pureP 63 [(117,ZiH),(118,ZIJ)] [(0,ZsE)] _ _ ⟨ZfC,ZuC,Tv⟩ Tryz.func65 Tryz.call65 ⟨ZzL,Tv⟩
abbrev ZzG:List Sh:=[So (R.sl Zb7)]
abbrev ZnN:Rs:=Rs.one (So (R.sl Ka))
def ZMN:LS:={n:=64,Sl:=[(3,.tip 0),(7,.code (So (R.sl Zb7))),(8,.code (So Kc)),(9,.code (So Kc))],Bx:=[],Sg:=[⟨Ka,5,true⟩]}
def Zdw (a:List INPT×Int×Int×List Int×PUnit):RT (Option (Go1 (List INPT×Int×Int×List Int×PUnit))):=
 let x1:INPT:=R.get Zb7 a.1 a.2.2.1
 let x2:= !x1.1
 let x3:=Zga x2 0
 let x4:= !x3
 let x5:=x1.2
 let x6:=x5.1
 let x7:=Zga x6 1
 let x8:= !x7
 let x9:=x5.2
 let x10:=x9.1
 let x11:=Zga x10 2
 let x12:= !x11
 let x13:=x9.2
 let x14:=x13.1
 let x15:=Zga x14 3
 let x16:= !x15
 let p2:=x16::x12::x8::x4::[]
 let x17:=x13.2
 let x18:=x17.1
 let x19:=Zga x18 4
 let x20:= !x19
 let p3:=x20::p2
 let x21:=x17.2
 let x22:=x21.1
 let x23:=Zga x22 5
 let x24:= !x23
 let p5:=x24::p3
 let x25:=x21.2
 let x26:=x25.1
 let x27:=Zga x26 6
 let p7:=(!x27)::p5
 let x28:=x25.2
 let x29:=x28.1
 let x30:=orR p7 (Zga x29 7)
 let x31:= !x30
 let x32:=orR p5 x27
 let x33:= !x32
 let p1:=x33::x31::(decide (a.2.2.1>=65536))::(!Ze a.2.2.1 (Le a.1))::[]
 let x34:=orR p3 x23
 let x35:= !x34
 let p4:=x35::p1
 let x36:=orR p2 x19
 let x37:= !x36
 let p6:=x37::p4
 let x38:=x4||(x8||(x12||x15))
 let x39:= !x38
 let p8:=x39::p6
 let x40:=x4||(x8||x11)
 let x41:= !x40
 let p9:=x41::p8
 let x42:=x4||x7
 let x43:= !x42
 let p10:=x43::p9
 let p11:=x4::p10
 let x44:=orI u8 (orI u8 (orI u8 (orI u8 (orI u8 (orI u8 (orI u8 (wBit x2 0) (wBit x6 1)) (wBit x10 2)) (wBit x14 3)) (wBit x18 4)) (wBit x22 5)) (wBit x26 6)) (wBit x29 7)
 let x45:=x28.2
 let x46:=x45.1
 let x47:=x45.2
 let x48:List Int:=a.2.2.2.1++[x44,x46,x47,ZfD x44 x46 x47]
 .br (decide (a.2.2.1<a.2.1)) (.br (orR p11 (Nat.ble (Le x48) most)) (.br (orR p10 x3) (.br (orR p9 x42) (.br (orR p8 x40) (.br (orR p6 x38) (.br (orR p4 x36) (.br (orR p1 x34) (.br (!Ze a.2.2.1 (Le a.1)||(decide (a.2.2.1>=65536)||(x31||x32))) (.br (!Ze a.2.2.1 (Le a.1)||(decide (a.2.2.1>=65536)||x30)) (.br (Ze a.2.2.1 (Le a.1)) (.br (decide (a.2.2.1>=65536)) (Ls (Go1.brk (a.1,a.2.1,a.2.2.1,a.2.2.2.1,PUnit.unit))) (Ls (Go1.cont (a.1,a.2.1,i64.wrap (a.2.2.1+1),x48,PUnit.unit)))) Ln) Ln) Ln) Ln) Ln) Ln) Ln) Ln) Ln) Ln) (Ls (Go1.brk (a.1,a.2.1,a.2.2.1,a.2.2.2.1,PUnit.unit)))
def ZsC:Ora:=ZaX false ZMN Zdw (λa=>1000000000000)
theorem ZzJ:ZaF (envX prog [(116,ZQ1),(117,ZiH)] [] 127 8) (.block 0 (.loop (Z4 Tryz.f56.body 0))) ZsC:=
 loopP ⟨ZuJ,ZfC,Tv⟩
def Zf8 (l:List INPT):RT (Option (List Int)):=
 let x1:=runF false Zdw (λa=>1000000000000) (l,iN (Le l),0,[],())
 .br (okB x1) (Ls (getO (false,l,iN (Le l),0,[],()) x1).2.2.2.2.1) Ln
def ZiF (l:List INPT):List Int:=getO ZnN.Df (Zf8 l).val
def ZmK (l:List INPT):Bool:=okB (Zf8 l).val
def ZIK:En:=Zg ZzG ZnN (λa=>some (ZmK a)) (λa=>ZiF a)
theorem ZML:Za prog 56 ZIK:=
 pureP 127 [(116,ZQ1),(117,ZiH)] [(0,ZsC)] _ _ ⟨ZuJ,ZfC,Tv⟩ Tryz.func56 Tryz.call56 ⟨ZzJ,Tv⟩
abbrev ZIy:List Sh:=[Sh.agg (R.Pq Kc (R.Pq rcRG (R.Pq Kc (R.Pq Ka (R.Pq Ka (R.Pq R.bool rcCE))))))]
def ZgR (l:BRDT):RT (Option (Int)):=
 .br (l.1 !=1&&l.1 !=2) (Ls (1)) (.br (smG l.2.1) (.br (Zb9 l.2.1 !=0) (Ls (Zb9 l.2.1)) (.br (decide (l.2.2.1<0)||(decide (l.2.2.1>100)||smC l.2.2.2.2.2.2)) (.br (decide (l.2.2.1<0)||(decide (l.2.2.1>100)|| !vldB l.2.2.2.2.2.2)) (Ls (1)) (Ls (0))) Ln)) Ln)
def ZcF (l:BRDT):Int:=getO Z3u.Df (ZgR l).val
def ZkF (l:BRDT):Bool:=okB (ZgR l).val
def ZQC:En:=Zg ZIy Z3u (λa=>some (ZkF a)) (λa=>ZcF a)
theorem ZQB:Za prog 51 ZQC:=
 pureP 15 [(104,ZAz),(105,ZmY)] [] _ _ ⟨ZEe,Zk7,Tv⟩ Tryz.func51 Tryz.call51 trivial
abbrev ZQL:Rs:=Rs.tup [Sh.agg (R.Pq (R.Pq Zq (R.Pq Kc (R.Pq (R.sl Ka) (R.Pq (RY) (R.Pq Kc R.bool))))) (R.Pq rcCE (R.Pq Zab (R.Pq (R.Pq Kb (R.Pq Ka Kc)) (R.Pq Kc (R.sl (R.Pq Ka Ka))))))),So Kc]
def ZDo (l:BRDT):RT (Option (SYST×Int)):=
 let x1:TR:=(0,0,0,0,0,0,0,(false,false,false,false,false,false,false),0,0)
 .br (ZkF l) (.br (ZcF l !=0) (Ls (((((0,x1,false,false,false,0,false,false,false,false,false,false,false),0,[],(0,0,0,0),0,false),[],(0,false,false,false,false,0,0,false,false,false,false,false,0,0,0,0,0,0,0,false),(0,0,0),0,[]),ZcF l))) (.br (smC l.2.2.2.2.2.2) (Ls ((((((newX l.1).1.1,x1,false,false,false,(newX l.1).1.2.2.2.2.2.1,false,false,false,false,false,false,false),0,[],(1,0,0,4),1,false),Cells.normX l.2.2.2.2.2.2,(0,false,false,false,false,0,0,false,false,false,false,false,0,0,0,0,7,0,0,false),(0,0,0),0,[]),0))) Ln)) Ln
def wNew (l:BRDT):SYST×Int:=getO ZQL.Df (ZDo l).val
def ZYN (l:BRDT):Bool:=okB (ZDo l).val
def Z4c:En:=Zg ZIy ZQL (λa=>some (ZYN a)) (λa=>wNew a)
theorem ZQK:Za prog 49 Z4c:=
 pureP 31 [(51,ZQC),(93,ZvM),(100,Z2Q),(101,Z4m)] [] _ _ ⟨ZQB,ZoJ,ZZY,ZRj,Tv⟩ Tryz.func49 Tryz.call49 trivial
def Zba:En:=.tree (Zt (envX prog [] [] 7 8) Tryz.f254)
theorem Zb2:Za prog 254 Zba:=ZL trivial Tryz.func254 rfl (by kernel_rfl) Tryz.call254 trivial
abbrev ZQM:List Sh:=[Sh.agg (R.Pq Kc (R.Pq rcRG (R.Pq Kc (R.Pq Ka (R.Pq Ka (R.Pq R.bool rcCE)))))),Sh.agg (RY)]
def ZsB (l:BRDT) (x:QT12):RT (Option (Int)):=
 .br (!(decide (x.1>=1)&&decide (x.1<=5))||smG l.2.1) (.br (decide (x.1>=1)&&decide (x.1<=5)) (Ls (Zfx l.2.1 x.2.1)) (.br (x.1==6||x.1==7) (Ls (Zmb l.2.2.1)) (Ls (0)))) Ln
def ZMI (l:BRDT) (x:QT12):Int:=getO Z3u.Df (ZsB l x).val
def ZID (l:BRDT) (x:QT12):Bool:=okB (ZsB l x).val
def Z16:En:=Zg ZQM Z3u (λa=>some (ZID a.1 a.2)) (λa=>ZMI a.1 a.2)
theorem ZYO:Za prog 250 Z16:=
 pureP 16447 [(254,Zba),(334,ZJA),(335,ZFk)] [] _ _ ⟨Zb2,ZNb,ZA5,Tv⟩ Tryz.func250 Tryz.call250 trivial
abbrev Zzt:List Sh:=[Sh.agg (R.Pq (R.Pq Zq (R.Pq Kc (R.Pq (R.sl Ka) (R.Pq (RY) (R.Pq Kc R.bool))))) (R.Pq rcCE (R.Pq Zab (R.Pq (R.Pq Kb (R.Pq Ka Kc)) (R.Pq Kc (R.sl (R.Pq Ka Ka)))))))]
def Zuu (s:SYST):RT (Int):=
 .br (Zp s.1 !=7) (.Lf (0)) (.Lf (i64.wrap (s.2.2.2.2.1+1)))
def Zbz (s:SYST):Int:=(Zuu s).val
def Zuv:En:=Zg Zzt Z3u (λ_=>none) (λa=>Zbz a)
theorem Zsx:Za prog 176 Zuv:=
 pureQ 7 [(109,Zgj)] [] _ _ ⟨ZeG,Tv⟩ Tryz.func176 Tryz.call176 trivial
abbrev ZzC:List Sh:=[Sh.agg (R.Pq Kc (R.Pq rcRG (R.Pq Kc (R.Pq Ka (R.Pq Ka (R.Pq R.bool rcCE)))))),Sh.agg (R.Pq (R.Pq Zq (R.Pq Kc (R.Pq (R.sl Ka) (R.Pq (RY) (R.Pq Kc R.bool))))) (R.Pq rcCE (R.Pq Zab (R.Pq (R.Pq Kb (R.Pq Ka Kc)) (R.Pq Kc (R.sl (R.Pq Ka Ka))))))),Sh.agg Zb7]
abbrev ZnL:Rs:=Rs.one (Sh.agg Zsk)
def Zjg (l:BRDT) (s:SYST) (i:INPT):RT (Option LINT):=
 let x1:=bif i.2.1 then i.2.2.2.1 else i.2.2.2.1
 let x2:=bif i.2.1 then i.2.2.2.2.1 else i.2.2.2.2.1
 let x3:=bif i.2.1 then i.2.2.2.2.2.1 else i.2.2.2.2.2.1
 let x4:=bif i.2.1 then i.2.2.2.2.2.2.1 else i.2.2.2.2.2.2.1
 let x5:=bif i.2.1 then i.2.2.2.2.2.2.2.1 else i.2.2.2.2.2.2.2.1
 let x6:=bif l.2.2.2.2.2.1 then andI u8 i.2.2.2.2.2.2.2.2.1 1==1 else vInt s.2.2.1
 let x7:=bif i.2.1 then x6 else x6
 .br (ZMS s.2.2.1) (.br (!i.1||ZID l s.1.2.2.2.1) (Ls ((i.1&&bif i.2.1 then decide (Zbz s>=ZMI l s.1.2.2.2.1) else decide (Zbz s>=ZMI l s.1.2.2.2.1),bif i.1 then i.2.1||ZQ s.2.2.2.1 else i.2.1||ZQ s.2.2.2.1,bif i.1 then bif i.2.1 then i.2.2.1 else i.2.2.1 else bif i.2.1 then i.2.2.1 else i.2.2.1,bif i.1 then x1 else x1,bif i.1 then x2 else x2,bif i.1 then x3 else x3,bif i.1 then x4 else x4,bif i.1 then x5 else x5,bif i.1 then x7 else x7))) Ln) Ln
def ZuB (l:BRDT) (s:SYST) (i:INPT):LINT:=getO ZnL.Df (Zjg l s i).val
def ZmJ (l:BRDT) (s:SYST) (i:INPT):Bool:=okB (Zjg l s i).val
def ZIE:En:=Zg ZzC ZnL (λa=>some (ZmJ a.1 a.2.1 a.2.2)) (λa=>ZuB a.1 a.2.1 a.2.2)
theorem ZMJ:Za prog 175 ZIE:=
 pureP 255 [(176,Zuv),(249,Z7v),(250,Z16),(251,ZnY)] [] _ _ ⟨Zsx,Z4n,ZYO,ZnW,Tv⟩ Tryz.func175 Tryz.call175 trivial
abbrev ZIF:List Sh:=[Sh.agg (R.Pq Kc (R.Pq rcRG (R.Pq Kc (R.Pq Ka (R.Pq Ka (R.Pq R.bool rcCE)))))),So Ka]
abbrev ZIG:Rs:=Rs.tup [So R.bool,So R.bool]
def ZDq (l:BRDT) (p:Int):RT (Bool×Bool):=
 .Lf ((bif !l.2.2.2.2.2.1 then bif p==l.2.2.2.1 then p==u8.wrap (l.2.2.2.1+1) else p==u8.wrap (l.2.2.2.1+1) else p==u8.wrap (l.2.2.2.1+1),!l.2.2.2.2.2.1&&(p==l.2.2.2.1||p==u8.wrap (l.2.2.2.1+1))))
def ZbI (l:BRDT) (p:Int):Bool×Bool:=(ZDq l p).val
def ZDr:En:=Zg ZIF ZIG (λ_=>none) (λa=>ZbI a.1 a.2)
theorem ZzD:Za prog 252 ZDr:=
 pureQ 63 [] [] _ _ trivial Tryz.func252 Tryz.call252 trivial
def ZDs (l:BRDT) (p:Int):RT (Int×Bool):=
 .Lf ((i64.wrap (u8.wrap (p-l.2.2.2.2.1)),decide (u8.wrap (p-l.2.2.2.2.1)<4)))
def ZdS (l:BRDT) (p:Int):Int×Bool:=(ZDs l p).val
def ZDt:En:=Zg ZIF ZDP (λ_=>none) (λa=>ZdS a.1 a.2)
theorem ZzE:Za prog 253 ZDt:=
 pureQ 127 [] [] _ _ trivial Tryz.func253 Tryz.call253 trivial
abbrev ZQZ:Rs:=Rs.tup [Sh.agg (R.Pq (R.Pq Zq (R.Pq Kc (R.Pq (R.sl Ka) (R.Pq (RY) (R.Pq Kc R.bool))))) (R.Pq rcCE (R.Pq Zab (R.Pq (R.Pq Kb (R.Pq Ka Kc)) (R.Pq Kc (R.sl (R.Pq Ka Ka))))))),So Ka]
def ZQY (l:BRDT) (s:SYST) (i:INPT):RT (Option (SYST×Int)):=
 let x1:=decide (s.1.2.2.2.1.1>=1)&&decide (s.1.2.2.2.1.1<=5)
 let x2:= !x1||smG l.2.1&&smC s.2.1
 let x3:= !x2
 let x4:=s.1.2.2.2.1.1 !=6&&l.2.2.2.2.2.1
 let p1:=(!(ZbI l (u8.wrap s.1.2.2.2.1.2.1)).2)::(s.1.2.2.2.1.1 !=6)::x4::x1::[]
 let x5:=x1||(x4||(!s.1.2.2.2.1.1 !=6||ZMW s.2.2.1))
 let x6:= !x5
 let x7:=orR p1 (ZsN s.2.2.1 (ZbI l (u8.wrap s.1.2.2.2.1.2.1)).1)
 let p2:=(!(ZdS l (u8.wrap s.1.2.2.2.1.2.1)).2)::((ZbI l (u8.wrap s.1.2.2.2.1.2.1)).2)::(s.1.2.2.2.1.1 !=6)::x4::x1::(!x7)::x6::x3::[]
 let x8:=Zmw s.2.2.1 (ZbI l (u8.wrap s.1.2.2.2.1.2.1)).1
 let x9:=x8.1
 .br (i.2.2.1||(Zp s.1 !=3|| !Zbi s.1.2.2.2.1.1)) (Ls ((s,0))) (.br (orR p2 (ZkN s.2.2.2.1 (ZdS l (u8.wrap s.1.2.2.2.1.2.1)).1)) (.br (x3||(x6||x7)) (.br (x3||x5) (.br (x2) (Ls (((s.1,s.2.1,(R.sel Zab x1 s.2.2.1 (R.sel Zab x4 s.2.2.1 (R.sel Zab (s.1.2.2.2.1.1 !=6) (vAck s.2.2.1).1 (R.sel Zab ((ZbI l (u8.wrap s.1.2.2.2.1.2.1)).2) x9 s.2.2.1)))),s.2.2.2),bif x1 then ZfM l.2.1 s.2.1 s.1.2.2.2.1.2.1 else bif x4 then i.2.2.2.2.2.2.2.2.2 else bif s.1.2.2.2.1.1 !=6 then (vAck s.2.2.1).2 else bif (ZbI l (u8.wrap s.1.2.2.2.1.2.1)).2 then x8.2 else bif (ZdS l (u8.wrap s.1.2.2.2.1.2.1)).2 then Zjk s.2.2.2.1 (ZdS l (u8.wrap s.1.2.2.2.1.2.1)).1 else i.2.2.2.2.2.2.2.2.2))) Ln) Ln) Ln) Ln)
def wBus (l:BRDT) (s:SYST) (i:INPT):SYST×Int:=getO ZQZ.Df (ZQY l s i).val
def ZYS (l:BRDT) (s:SYST) (i:INPT):Bool:=okB (ZQY l s i).val
def Z7s:En:=Zg ZzC ZQZ (λa=>some (ZYS a.1 a.2.1 a.2.2)) (λa=>wBus a.1 a.2.1 a.2.2)
theorem Z4e:Za prog 177 Z7s:=
 pureP 4956598223910189960238497791 [(109,Zgj),(167,ZoE),(252,ZDr),(253,ZDt),(254,Zba),(255,ZJS),(256,Z7w),(257,Z2d),(258,ZRb)] [] _ _ ⟨ZeG,ZjE,ZzD,ZzE,Zb2,ZNm,Z4q,ZYU,ZQ9,Tv⟩ Tryz.func177 Tryz.call177 trivial
abbrev ZIz:List Sh:=[Sh.agg (R.Pq Kc (R.Pq rcRG (R.Pq Kc (R.Pq Ka (R.Pq Ka (R.Pq R.bool rcCE)))))),Sh.agg (R.Pq (R.Pq Zq (R.Pq Kc (R.Pq (R.sl Ka) (R.Pq (RY) (R.Pq Kc R.bool))))) (R.Pq rcCE (R.Pq Zab (R.Pq (R.Pq Kb (R.Pq Ka Kc)) (R.Pq Kc (R.sl (R.Pq Ka Ka))))))),Sh.agg (RY)]
abbrev Zux:Rs:=Rs.one (Sh.agg (R.Pq (R.Pq Zq (R.Pq Kc (R.Pq (R.sl Ka) (R.Pq (RY) (R.Pq Kc R.bool))))) (R.Pq rcCE (R.Pq Zab (R.Pq (R.Pq Kb (R.Pq Ka Kc)) (R.Pq Kc (R.sl (R.Pq Ka Ka))))))))
def ZnH (l:BRDT) (s:SYST) (x:QT12):RT (Option SYST):=
 let x1:List (Int×Int):=[]++s.2.2.2.2.2++[(u8.wrap x.2.1,x.2.2.1)]
 let x2:=Zjj s.2.2.1 (ZbI l (u8.wrap x.2.1)).1 x.2.2.1
 let x30:=Zgb s.2.2.2.1 (ZdS l (u8.wrap x.2.1)).1 x.2.2.1
 .br (!x.1 !=7||smG l.2.1&&smC s.2.1) (.br (x.1 !=7) (Ls ((s.1,Zbn l.2.1 s.2.1 x.2.1 x.2.2.1,s.2.2))) (.br (!Nat.ble (Le ([]++s.2.2.2.2.2)) most||Nat.ble (Le x1) most) (.br (Nat.ble (Le ([]++s.2.2.2.2.2)) most) (.br (!(ZbI l (u8.wrap x.2.1)).2||ZkL s.2.2.1 (ZbI l (u8.wrap x.2.1)).1 x.2.2.1) (Ls ((s.1,s.2.1,(R.sel Zab ((ZbI l (u8.wrap x.2.1)).2) x2 s.2.2.1),(R.sel ZZy ((ZbI l (u8.wrap x.2.1)).2) s.2.2.2.1 (R.sel ZZy ((ZdS l (u8.wrap x.2.1)).2) x30 s.2.2.2.1)),s.2.2.2.2.1,x1))) Ln) Ln) Ln)) Ln
def ZIA (l:BRDT) (s:SYST) (x:QT12):SYST:=getO Zux.Df (ZnH l s x).val
def Zuy (l:BRDT) (s:SYST) (x:QT12):Bool:=okB (ZnH l s x).val
def ZQF:En:=Zg ZIz Zux (λa=>some (Zuy a.1 a.2.1 a.2.2)) (λa=>ZIA a.1 a.2.1 a.2.2)
theorem ZQD:Za prog 180 ZQF:=
 pureP 4095 [(95,Zot),(252,ZDr),(253,ZDt),(266,ZQ4),(267,ZIS)] [] _ _ ⟨Zos,ZzD,ZzE,ZQ3,ZMQ,Tv⟩ Tryz.func180 Tryz.call180 trivial
abbrev ZuF:Rs:=Rs.tup [Sh.agg (R.Pq (R.Pq Zq (R.Pq Kc (R.Pq (R.sl Ka) (R.Pq (RY) (R.Pq Kc R.bool))))) (R.Pq rcCE (R.Pq Zab (R.Pq (R.Pq Kb (R.Pq Ka Kc)) (R.Pq Kc (R.sl (R.Pq Ka Ka))))))),Sh.agg Zjx,Sh.agg (R.Pq Zsk (R.Pq Ka (R.Pq (R.Pq Kb Ka) R.bool)))]
def ZnR (l:BRDT) (s:SYST) (i:INPT):RT (Option (QT32)):=
 let x1:=ZgW s.2.2.1 i.2.2.2.2.2.2.2.2.1
 let x29:SYST:=(s.1,s.2.1,(R.sel Zab (!l.2.2.2.2.2.1) x1 s.2.2.1),s.2.2.2)
 let x30:=wBus l x29 i
 let x31:=x30.1
 let x32:=x31.1
 let x33:= !i.2.2.1&&(Zp s.1==3&&Zce s.1.2.2.2.1.1)
 let x34:=ZuB l x29 i
 let x35:=x30.2
 let x36:=clkX x32 x34 x35
 let x37:=x36.1
 let x38:=x31.2
 let x39:=x38.1
 let x40:=x38.2
 let x41:=x40.1
 let x42:=x40.2
 let x43:=x42.1
 let x44:=Zbz x29
 let x45:=x42.2.2
 let x46:SYST:=(x37,x39,x41,x43,x44,x45)
 let x47:=x36.2
 let x48:=x47.2.2.2.2.2.2.2.2.2.2.2.2.2.2.2.1
 let x49:=ZIA l x46 s.1.2.2.2.1
 let x50:=x49.2
 let x51:=x50.2
 let x52:=x51.2
 let x53:=x52.1
 let x54:Int:=bif x33 then x53.1 else x43.1
 let x55:=x53.2
 let x56:=x43.2
 let x57:Int:=bif x33 then x55.1 else x56.1
 let x58:Int:=bif x33 then x55.2 else x56.2
 let x59:=ZaL (x54,x57,x58)
 let x60:=x59.2
 let x61:=x60.2
 let x62:List (Int×Int):=bif x33 then x50.1 else x39
 let x63:=x49.1
 let x64:=x63.1
 let x65:=x37.1
 let x118:=x63.2
 let x119:=x37.2
 let x120:=x118.2
 let x121:=x119.2
 let x122:=x120.2
 let x123:=x122.1
 let x124:=x121.2
 let x125:=x124.1
 let x130:=x122.2
 let x131:=x124.2
 let x132:=x60.1
 let x133:=x132.1
 let x134:=x132.2
 let x135:=x51.1
 let x136:=x135.2
 let x137:=x41.2
 let x138:=x136.2
 let x139:=x137.2
 let x140:=x138.2
 let x141:=x139.2
 let x142:=x140.2
 let x143:=x141.2
 let x144:=x142.2
 let x145:=x143.2
 let x146:=x144.2
 let x147:=x145.2
 let x148:=x146.2
 let x149:=x147.2
 let x150:=x148.2
 let x151:=x149.2
 let x152:=x150.2
 let x153:=x151.2
 let x154:=x152.2
 let x155:=x153.2
 let x156:=x154.2
 let x157:=x155.2
 let x158:=x156.2
 let x159:=x157.2
 let x160:=x158.2
 let x161:=x159.2
 let x162:=x160.2
 let x163:=x161.2
 let x164:=x162.2
 let x165:=x163.2
 let x166:=x164.2
 let x167:=x165.2
 let x168:=x166.2
 let x169:=x167.2
 let x170:=x168.2
 let x171:=x169.2
 let x172:=x59.1
 let x173:=x172.2
 let x174:=x52.2
 .br (ZmJ l x29 i) (.br (ZYS l x29 i) (.br (Zjt x32) (.br (!x33||Zuy l x46 s.1.2.2.2.1) (.br (!x48||(!x61||smG l.2.1&&smC x62)) (Ls (((((R.sel Zq x33 x64 x65),bif x33 then x118.1 else x119.1,bif x33 then x120.1 else x121.1,(R.sel RY x33 x123 x125),bif x33 then x130.1 else x131.1,bif x33 then x130.2 else x131.2),bif x48 then bif x61 then Zbn l.2.1 x62 x133 x134 else x62 else x62,(bif x33 then x135.1 else x41.1,bif x33 then x136.1 else x137.1,bif x33 then x138.1 else x139.1,bif x33 then x140.1 else x141.1,bif x33 then x142.1 else x143.1,bif x33 then x144.1 else x145.1,bif x33 then x146.1 else x147.1,bif x33 then x148.1 else x149.1,bif x33 then x150.1 else x151.1,bif x33 then x152.1 else x153.1,bif x33 then x154.1 else x155.1,bif x33 then x156.1 else x157.1,bif x33 then x158.1 else x159.1,bif x33 then x160.1 else x161.1,bif x33 then x162.1 else x163.1,bif x33 then x164.1 else x165.1,bif x33 then x166.1 else x167.1,bif i.2.2.1 then 0 else bif x33 then x168.1 else x169.1,bif x33 then x170.1 else x171.1,bif x33 then x170.2 else x171.2),(bif x48 then bif x61 then x172.1 else x54 else x54,bif x48 then bif x61 then x173.1 else x57 else x57,bif i.2.2.1 then 0 else bif x48 then bif x61 then x173.2 else x58 else x58),bif x33 then x174.1 else x44,bif x33 then x174.2 else x45),x47,x34,x35,(bif x48 then bif x61 then x133 else 0 else 0,bif x48 then bif x61 then x134 else 0 else 0),x48&&x61))) Ln) Ln) Ln) Ln) Ln
def ZIM (l:BRDT) (s:SYST) (i:INPT):QT32:=getO ZuF.Df (ZnR l s i).val
def ZuG (l:BRDT) (s:SYST) (i:INPT):Bool:=okB (ZnR l s i).val
def ZDw:En:=Zg ZzC ZuF (λa=>some (ZuG a.1 a.2.1 a.2.2)) (λa=>ZIM a.1 a.2.1 a.2.2)
theorem ZzM:Za prog 108 ZDw:=
 pureP 131071 [(95,Zot),(109,Zgj),(174,ZRf),(175,ZIE),(176,Zuv),(177,Z7s),(178,ZKr),(179,Zvn),(180,ZQF),(181,ZsI)] [] _ _ ⟨Zos,ZeG,ZRe,ZMJ,Zsx,Z4e,ZOk,Ztk,ZQD,ZzS,Tv⟩ Tryz.func108 Tryz.call108 trivial
def ZnQ (c:CORT) (s:Int) (d:Int):RT TY:=
 let x1:Int:=bif Zbi c.2.2.2.1.1 then d else c.2.2.2.1.2.2.1
 .Lf ((c.2.2.2.1.1,c.2.2.2.1.2.1,bif s==3 then x1 else c.2.2.2.1.2.2.1,bif s==3 then bif c.2.2.2.1.1==1||c.2.2.2.1.1==8 then ZgG c.1.1 x1 else c.2.2.2.1.2.2.2 else c.2.2.2.1.2.2.2))
def Zal (c:CORT) (s:Int) (d:Int):QT12:=(ZnQ c s d).val
def Zji:En:=Zg ZSV ZKu (λ_=>none) (λa=>Zal a.1 a.2.1 a.2.2)
theorem ZiG:Za prog 111 Zji:=
 pureQ 255 [(167,ZoE),(168,ZFq)] [] _ _ ⟨ZjE,ZA8,Tv⟩ Tryz.func111 Tryz.call111 trivial
def Z17 (s:Int):RT (Int):=
 .br (Zc s) (.Lf (3)) (.br (s==5) (.Lf (2)) (.Lf (1)))
def ZQQ (s:Int):Int:=(Z17 s).val
def ZQP:En:=Zg ZBC Z3u (λ_=>none) (λa=>ZQQ a)
theorem ZYQ:Za prog 185 ZQP:=
 pureQ 79 [(236,Zh3)] [] _ _ ⟨Zhh,Tv⟩ Tryz.func185 Tryz.call185 trivial
abbrev ZQy:List Sh:=[Sh.agg Zk4,Sh.agg Zq,Sh.agg Zsk]
abbrev ZQz:Rs:=Rs.one (Sh.agg Zk4)
def Z13 (e:EVTT) (c:TC) (l:LINT):RT EVTT:=
 .Lf ((e.1,e.2.1,e.2.2.1,l,c.2.2.2.2.2.2.2.1,c.2.2.2.2.2.2.1,c.2.2.2.2.2.2.2.2.2.1,c.2.2.2.2.2.2.2.2.1,e.2.2.2.2.2.2.2.2))
def ZDj (e:EVTT) (c:TC) (l:LINT):EVTT:=(Z13 e c l).val
def ZQA:En:=Zg ZQy ZQz (λ_=>none) (λa=>ZDj a.1 a.2.1 a.2.2)
theorem ZYL:Za prog 183 ZQA:=
 pureQ 127 [] [] _ _ trivial Tryz.func183 Tryz.call183 trivial
def ZnS (c:CORT) (s:Int) (d:Int):RT (Option (List Int)):=
 let x1:List Int:=[]++c.2.2.1++[(Zal c s d).2.2.1]
 .br (Nat.ble (Le ([]++c.2.2.1)) most) (.br (!s==3||Nat.ble (Le x1) most) (Ls (bif s==3 then x1 else []++c.2.2.1)) Ln) Ln
def ZIQ (c:CORT) (s:Int) (d:Int):List Int:=getO ZnN.Df (ZnS c s d).val
def ZuI (c:CORT) (s:Int) (d:Int):Bool:=okB (ZnS c s d).val
def ZDx:En:=Zg ZSV ZnN (λa=>some (ZuI a.1 a.2.1 a.2.2)) (λa=>ZIQ a.1 a.2.1 a.2.2)
theorem ZQW:Za prog 186 ZDx:=
 pureP 255 [(111,Zji)] [] _ _ ⟨ZiG,Tv⟩ Tryz.func186 Tryz.call186 trivial
abbrev ZnM:List Sh:=[Sh.agg (R.Pq Zq (R.Pq Kc (R.Pq (R.sl Ka) (R.Pq (RY) (R.Pq Kc R.bool))))),Sh.agg Zsk,So Ka]
abbrev ZiD:Rs:=Rs.tup [Sh.agg Zq,So R.bool]
def ZfB (c:CORT) (l:LINT) (d:Int):RT (Option (TC×Bool)):=
 let x1:TC×Bool:=((0,(0,0,0,0,0,0,0,(false,false,false,false,false,false,false),0,0),false,false,false,0,false,false,false,false,false,false,false),false)
 .br l.2.2.1 (Ls (x1)) (.br (ZfQ c c.2.2.2.2.1 d) (.br (!ZjK c.2.2.2.2.1 (ZiT c c.2.2.2.2.1 d).1) (Ls (x1)) (.br (Zj (Zh c.1 l) c.2.1 (ZiT c c.2.2.2.2.1 d).2).2 (Ls (x1)) (Ls ((finX (Zh c.1 l) c.2.1 (ZiT c c.2.2.2.2.1 d).2 l,true))))) Ln)
def Zjh (c:CORT) (l:LINT) (d:Int):TC×Bool:=getO ZiD.Df (ZfB c l d).val
def ZhM (c:CORT) (l:LINT) (d:Int):Bool:=okB (ZfB c l d).val
def ZkI:En:=Zg ZnM ZiD (λa=>some (ZhM a.1 a.2.1 a.2.2)) (λa=>Zjh a.1 a.2.1 a.2.2)
theorem ZzF:Za prog 184 ZkI:=
 pureP 16383 [(164,Z5j),(166,ZJ8),(187,Zpp),(263,ZSY),(264,ZTQ)] [] _ _ ⟨ZTD,ZvN,Zpo,ZJR,ZKn,Tv⟩ Tryz.func184 Tryz.call184 trivial
