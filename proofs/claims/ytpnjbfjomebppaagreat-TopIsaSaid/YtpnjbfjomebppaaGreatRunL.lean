import Derived.Test.YtpnjbfjomebppaaGreatMemD
import Derived.RangeFuncNested
import Derived.RangeFuncLeaves
import Derived.Shelf.Abstract
import Derived.OwnWalkIn
import Derived.TacticsInMore
import Derived.LoopNIn
import Derived.LoopIn
import Derived.Test.YtpnjbfjomebppaaGreatS3Clo
import Derived.Test.YtpnjbfjomebppaaGreatMakeOk5
import Derived.Test.YtpnjbfjomebppaaGreatPicL
open Go.Proofs.Tryz (prog)
set_option linter.unusedVariables false
set_option linter.unusedSimpArgs false
namespace Go.Proofs.YtpnjbfjomebppaaGreat
open Go Go.S3 Go.Proofs Go.Proofs.Cells Go.RowKit Go.Shelf
attribute [local go_sem] Oper.semAt_some
noncomputable section
def bwL (l:List Cell) (k:Nat):List (Nat×Cell):=(List.range k).map λj=>(l.length-1-j,el l (l.length-1-j))
theorem ZGI (l:List Cell) (k:Nat):bwL l (k+1)=bwL l k++[(l.length-1-k,el l (l.length-1-k))]:=by simp[bwL,List.range_succ]
theorem ZXW (l:List Cell) (k:Nat):(bwL l k).length=k:=by simp[bwL]
theorem ZGJ (l:List Cell) (m:Nat) (h:m+1<=l.length):bwL l (l.length-m)=bwL l (l.length-(m+1))++[(m,el l m)]:=by
 have e:l.length-m=(l.length-(m+1))+1:=by omega
 have e2:l.length-1-(l.length-(m+1))=m:=by omega
 rw[e,ZGI,e2]
abbrev ZDh (x:Nat×Cell):Array Value:= #[.int .i64 (x.1:Int),.agg #[.int .u16 x.2.1,.int .u8 x.2.2]]
set_option maxRecDepth 100000 in
set_option maxHeartbeats 2000000 in
theorem ZTw (F:Fence) (n:Nat) (h8:F.fn 382) (hro:F.round=none) (hn:1<=n) (y Bs n₀ b off cap:Nat) (l:List Cell) (hreach:l.length<=1073741824) (hb:b<n₀) (hB:Bs<n₀) (J Jx:List (Nat×Cell)->World->Prop)
  (hY:∀pre x W,J pre W->pre.length<l.length->YieldAt F (n-1) prog y (ZDh x) W λe W'=>
   (e=.returned (.bool true)/\J (pre++[x]) W'/\Below n₀ W W')\/(e=.returned (.bool false)/\Jx (pre++[x]) W'))
  (W:World) (hBs:W.cell? ⟨Bs,0,none⟩=some (.slice (some ⟨b,off,none⟩) l.length cap))
  (hc:∀j,j<l.length->W.cell? ⟨b,off+j*2,none⟩=some (.int .u16 (el l j).1)/\W.cell? ⟨b,off+j*2+1,none⟩=some (.int .u8 (el l j).2)) (h0:J [] W):
  CallsIn F n prog 382 #[.func (.yield y) #[] #[],.pointer (some ⟨Bs,0,none⟩)] W λe W'=>(∃v,e=.returned v)/\
   ((∃ys,ys=bwL l l.length/\J ys W')\/(∃pre,(∃k,k<=l.length/\pre=bwL l k)/\Jx pre W')):=by
 refine callsIn_of_wp Tryz.func382 rfl h8 ?_ hro;simp only[Tryz.ntmps382,Yam,List.length_cons,List.length_nil,Nat.reduceAdd,Nat.reduceSub,Array.replicate_succ,Array.replicate_zero,List.push_toArray,List.append_toArray,List.nil_append,List.cons_append];gi_wp2
 gi_loopw [3] (λi wr=>∃m:Nat,m<=l.length/\i=.int .i64 ((m:Int)-1)/\J (bwL l (l.length-m)) wr/\Below n₀ W wr)
  (λi _=>(intOf i+1).toNat)
 case atStart=>exact⟨l.length,Ye _,rfl,by simpa [bwL] using h0,Below.refl _ _⟩
 case round=>
  obtain⟨m,hm,rfl,hJs,hnx⟩:=hrel;have hbx:wr.cell? ⟨Bs,0,none⟩=some (.slice (some ⟨b,off,none⟩) l.length cap):=(hnx.cell (p:=⟨Bs,0,none⟩) hB).trans hBs;cases m with
  |zero=>
   gi_wp2
   go_end0
   exact⟨⟨_,rfl⟩,.inl ⟨_,rfl,by simpa using hJs⟩⟩
  |succ m=>
   have e1:((m+1:Nat):Int)-1=(m:Int):=by omega
   rw[e1];have hlt:m<l.length:=by omega
   obtain⟨q1,q2⟩:=hc m hlt;have hcx1:wr.cell? ⟨b,off+m*2,none⟩=some (.int .u16 (el l m).1):=(hnx.cell (p:=⟨b,off+m*2,none⟩) hb).trans q1;have hcx2:wr.cell? ⟨b,off+m*2+1,none⟩=some (.int .u8 (el l m).2):=(hnx.cell (p:=⟨b,off+m*2+1,none⟩) hb).trans q2;obtain⟨fn,tmps,assign,body,hy,hR⟩:=hY _ (m,el l m) wr hJs (by rw[ZXW];omega);dsimp only[ZDh] at hy;clear hc hBs q1 q2;gi_wp2
   refine hR.mono ?_;rintro e W3 (⟨rfl,hJ3,hk3⟩|⟨rfl,hJx3⟩)
   ·gi_wp2
    go_roundw
    case rel=>exact⟨m,by omega,rfl,by rw[ZGJ l m hlt];exact hJ3,hnx.trans hk3⟩
    case measure=>simp[intOf]
   ·gi_wp2
    refine bodyPost_ret (results_none rfl _ _ _) rfl ?_;exact⟨⟨_,rfl⟩,.inr ⟨_,⟨l.length-m,by omega,(ZGJ l m hlt).symm⟩,hJx3⟩⟩
set_option maxRecDepth 100000 in
set_option maxHeartbeats 1000000 in
theorem Zzp (F:Fence) (n:Nat) (h8:F.fn 382) (hro:F.round=none) (y Bs cap:Nat) (a:Option Addr) (J:List (Nat×Cell)->World->Prop) (W:World) (hBs:W.cell? ⟨Bs,0,none⟩=some (.slice a 0 cap)) (h0:J [] W):
  CallsIn F n prog 382 #[.func (.yield y) #[] #[],.pointer (some ⟨Bs,0,none⟩)] W λe W'=>(∃v,e=.returned v)/\J [] W':=by
 refine callsIn_of_wp Tryz.func382 rfl h8 ?_ hro;simp only[Tryz.ntmps382,Yam,List.length_cons,List.length_nil,Nat.reduceAdd,Nat.reduceSub,Array.replicate_succ,Array.replicate_zero,List.push_toArray,List.append_toArray,List.nil_append,List.cons_append];gi_wp2
 gi_loopw [3] (λi wr=>i=.int .i64 (-1)/\J [] wr) (λ_ _=>0)
 case atStart=>exact⟨rfl,h0⟩
 case round=>
  obtain⟨rfl,hJs⟩:=hrel;gi_wp2
  go_end0
  exact⟨⟨_,rfl⟩,hJs⟩
set_option maxHeartbeats 1000000 in
theorem ZX0 (F:Fence) (n:Nat) (h6:F.fn 345) (hro:F.round=none) (a:Option Addr) (len cap:Nat) (w:World):
  CallsIn F n prog 345 #[.slice a len cap] w λe w'=>e=.returned (.func (.func 382) #[] #[.pointer (some ⟨w.heap.size,0,none⟩)])/\w'=w.alloc (.cells #[.slice a len cap] 26):=by
 refine callsIn_of_wp Tryz.func345 rfl h6 ?_ hro;simp only[Tryz.ntmps345,Yam,List.length_cons,List.length_nil,Nat.reduceAdd,Nat.reduceSub,Array.replicate_succ,Array.replicate_zero,List.push_toArray,List.append_toArray,List.nil_append,List.cons_append];gi_wp2
 go_ret
 exact⟨rfl,rfl⟩
def Held (n₀:Nat) (W:World) (sv:Value) (l:List Cell):Prop:=
 (∃a cap,sv=.slice a 0 cap/\l=[])\/∃b off cap,sv=.slice (some ⟨b,off,none⟩) l.length cap/\b<n₀/\
  ∀j,j<l.length->W.cell? ⟨b,off+j*2,none⟩=some (.int .u16 (el l j).1)/\W.cell? ⟨b,off+j*2+1,none⟩=some (.int .u8 (el l j).2)
variable {n₀:Nat} {sv:Value} {l:List Cell}
theorem Held.below {A B:World} (h:Below n₀ A B):Held n₀ A sv l->Held n₀ B sv l
 | .inl e=>.inl e
 | .inr ⟨b,off,cap,e,hb,hc⟩=>.inr ⟨b,off,cap,e,hb,λj hj=>⟨(h.cell (p:=⟨b,off+j*2,none⟩) hb).trans (hc j hj).1,(h.cell (p:=⟨b,off+j*2+1,none⟩) hb).trans (hc j hj).2⟩⟩
theorem Held.mono {n₁:Nat} {W:World} (h:Held n₀ W sv l) (hn:n₀<=n₁):Held n₁ W sv l:=
 h.elim .inl λ⟨b,off,cap,e,hb,hc⟩=>.inr ⟨b,off,cap,e,by omega,hc⟩
theorem ZI9 (F:Fence) (n:Nat) (h8:F.fn 382) (hro:F.round=none) (hn:1<=n) (Bs n₀:Nat) (sv:Value) (l:List Cell) (hreach:l.length<=1073741824) (w:World) (hBs:Bs<n₀) (hn₀:n₀<=w.heap.size)
  (hc:w.cell? ⟨Bs,0,none⟩=some sv) (hI:Held n₀ w sv l):
  SeqStopsK F n prog 382 #[.pointer (some ⟨Bs,0,none⟩)] ZDh (Below n₀) (λys=>ys=bwL l l.length)
   (λpre=>∃k,k<=l.length/\pre=bwL l k) l.length w:=λy J Jx W hW _ _ hY h0=>by
 have hc':=(hW.cell (p:=⟨Bs,0,none⟩) (by show Bs<_;omega)).trans hc;rcases hI.below (hW.mono hn₀) with ⟨a,cap,rfl,rfl⟩|⟨b,off,cap,rfl,hb,hcs⟩
 ·exact (Zzp F n h8 hro y Bs cap a J W hc' h0).mono λe W' ⟨he,hj⟩=>⟨he,.inl ⟨_,rfl,hj⟩⟩
 ·exact ZTw F n h8 hro hn y Bs n₀ b off cap l hreach hb hBs J Jx hY W hc' hcs h0
end
end Go.Proofs.YtpnjbfjomebppaaGreat
open Go.IntKind (u8 u16 i64)
namespace Go.Proofs.YtpnjbfjomebppaaGreat
open Go Go.S3 Go.Proofs Go.Proofs.Cells Go.RowKit Go.Shelf
attribute [local go_sem] Oper.semAt_some
noncomputable section
set_option maxRecDepth 100000 in
set_option maxHeartbeats 2000000 in
theorem ZZy (F:Fence) (n:Nat) (h4:F.fn 270) (h6:F.fn 345) (h8:F.fn 382) (hro:F.round=none) (hn:3<=n) (a:Option Addr) (len cap:Nat) (l:List Cell) (t:Int) (hreach:l.length<=1073741824)
  (w:World) (hI:Held w.heap.size w (.slice a len cap) l):
  CallsIn F n Tryz.prog 270 #[.slice a len cap,.int .u16 t] w λe W'=>e=.returned (.int .u8 (getX l t))/\Below w.heap.size w W':=by
 have h1:1<=n:=by omega
 refine callsIn_of_wp_marks Tryz.func270 rfl h4 ?_ hro;simp only[Tryz.ntmps270,Yam,List.length_cons,List.length_nil,Nat.reduceAdd,Nat.reduceSub,Array.replicate_succ,Array.replicate_zero,List.push_toArray,List.append_toArray,List.nil_append,List.cons_append]
 gi_wp2_with (gi_at_call 345;refine (ZX0 F (n-1) h6 hro _ _ _ _).mono ?_;rintro e w' ⟨rfl,rfl⟩)
 have bT:=Boxed.new w 34 (.int .u16 t);have bR:=Boxed.new (w.alloc (.cells #[.int .u16 t] 34)) 5 (.int .u8 0);have bN:=Boxed.new ((w.alloc (.cells #[.int .u16 t] 34)).alloc (.cells #[.int .u8 0] 5)) 26 (.slice a len cap);rw[World.size_alloc] at bR bN;rw[World.size_alloc] at bN;have hB0:Below w.heap.size w (((w.alloc (.cells #[.int .u16 t] 34)).alloc (.cells #[.int .u8 0] 5)).alloc (.cells #[.slice a len cap] 26)):=(((Below.refl _ w).alloc (Ye _) _).alloc (by simp) _).alloc (by simp;omega) _;refine wpIn_rangeFunc_ownH hro h1 (gf:=382) (lb:= #[.pointer (some ⟨w.heap.size+2,0,none⟩)]) rfl h8 (enters_of Tryz.func382 (by kernel_rfl) rfl)
  (ZI9 F (n-1) h8 hro (by omega) (w.heap.size+2) (w.heap.size+3) _ l hreach _ (by omega) (by simp) bN.cell ?held) belowK_t (belowK_b (by simp)) (Below.refl _ _) (λ_=>rfl)
  (λpre W=>((∀p∈pre,p.2.1≠t)/\W.cell? ⟨w.heap.size,0,none⟩=some (.int .u16 t)/\W.cell? ⟨w.heap.size+1,0,none⟩=some (.int .u8 0)/\W.frozen? ⟨w.heap.size+1,0,none⟩=false/\w.heap.size+3<=W.heap.size)/\Below w.heap.size w W)
  (λc pre W=>(c=.ret/\∃ini last,pre=ini++[last]/\(∀p∈ini,p.2.1≠t)/\last.2.1=t/\W.cell? ⟨w.heap.size+1,0,none⟩=some (.int .u8 last.2.2))/\Below w.heap.size w W)
  (OwnFrom.and (Own.from (λs A B row hs hg hr=>⟨hs.1,cell_kept hs.2.1 hg hr,cell_kept hs.2.2.1 hg hr,(frozen_kept hs.2.2.1 hg hr).trans hs.2.2.2.1,Yz hs.2.2.2.2 hg.size⟩) _) (ownFrom_below (Ye _) (by simp;omega)))
  (λc=>OwnFrom.and (Own.from (λs A B row hs hg hr=>by obtain⟨hc,ini,last,e1,e2,e3,e4⟩:=hs;exact⟨hc,ini,last,e1,e2,e3,cell_kept e4 hg hr⟩) _) (ownFrom_below (Ye _) (by simp;omega)))
  ⟨⟨by simp,((bT.alloc _).alloc _).cell,(bR.alloc _).cell,(bR.alloc _).frozen,by simp⟩,hB0⟩
  (λx a' W=>∃B,W.cell? ⟨B,0,none⟩=some (.int .u16 x.2.1)/\W.cell? ⟨B,1,none⟩=some (.int .u8 x.2.2)/\
   a'={tmps:= #[.slice a len cap,.int .u16 t,undef,.pointer (some ⟨w.heap.size,0,none⟩),.pointer (some ⟨w.heap.size+1,0,none⟩),undef,.pointer (some ⟨B,0,none⟩),.slice a len cap,.func (.func 382) #[] #[.pointer (some ⟨w.heap.size+2,0,none⟩)],.int .i64 (x.1:Int),.agg #[.int .u16 x.2.1,.int .u8 x.2.2],undef,undef,undef,undef,undef,undef],defers:=[]})
  (λx a'=>Own.from (λs A B row hs hg hr=>by obtain⟨b,e2,e3,e4⟩:=hs;exact⟨b,cell_kept e2 hg hr,cell_kept e3 hg hr,e4⟩) _)
  ?assign ?body ?done ?stop
 case held=>exact (hI.below hB0).mono (by omega)
 case assign=>
  rintro y pre x W K ⟨⟨hp,hct,hcr,hfr,hsz⟩,hB⟩ hK;gi_wp2
  have hn1:∀o:Obj,(W.alloc o).heap[W.heap.size]? =some o:=λo=>World.alloc_heap_new W o
  refine hK _ _ ((KeepsOthers.alloc W _).from _) ((Below.refl _ W).alloc hsz _) ⟨⟨hp,?_,?_,?_,by simp;omega⟩,hB.alloc (by omega) _⟩ ⟨W.heap.size,?_,?_,rfl⟩
  ·exact cell_kept hct (World.grownBy_alloc W _ none) (λr e=>by cases e)
  ·exact cell_kept hcr (World.grownBy_alloc W _ none) (λr e=>by cases e)
  ·exact (frozen_kept hcr (World.grownBy_alloc W _ none) (λr e=>by cases e)).trans hfr
  ·simp only[World.cell?];rw[hn1];rfl
  ·simp only[World.cell?];rw[hn1];rfl
 case body=>
  rintro y pre x a' W hy hl ⟨⟨hp,hct,hcr,hfr,hsz⟩,hB⟩ ⟨B,hB2,hB3,rfl⟩ _;gi_wp2
  ·have hx:x.2.1=t:=by simpa using (by assumption:(x.2.1==t)=true)
   exact⟨(KeepsOthers.setCell _ _ _).from _,⟨rfl,pre,x,rfl,hp,hx,World.cell?_setCell_same' _ _ _ (by rw[hcr];rfl)⟩,hB.setCell (p:=⟨w.heap.size+1,0,none⟩) (by simp) _⟩
  ·have hx:x.2.1≠t:=by simpa using (by assumption:(x.2.1==t)=false)
   exact⟨KeepsFrom.refl _ _,Below.refl _ _,⟨λp hp'=>(Y1.1 hp').elim (hp p) (λe=>by simp at e;subst e;exact hx),hct,hcr,hfr,hsz⟩,hB⟩
 case done=>
  rintro D ys W hD rfl ⟨⟨hne,hct,hcr,hfr,hsz⟩,hB⟩ hK;gi_wp2
  have hK':=(KeepsOthers.setCell W ⟨w.heap.size+1,0,none⟩ (.int .u8 0)).same D _ hK rfl;refine⟨by simp,.inl ⟨_,_,rfl,run_takeDeferred hK',?_⟩⟩;have hc5:=cell_kept (World.cell?_setCell_same' W ⟨w.heap.size+1,0,none⟩ (.int .u8 0) (by rw[hcr];rfl)) (grownBy_putObj' _ D (.deferred none)) (λr e=>by cases e;exact⟨_,hK',rfl⟩);have h0:getX l t=0:=ZjJ λc hc=>by obtain⟨i,hi,rfl⟩:=YaO.1 hc;have e1:=ZcO l i hi;rw[Yh hi,oinj] at e1;rw[e1];refine hne (i,el l i) ?_;simp only[bwL,List.mem_map,YaK];exact⟨l.length-1-i,by omega,by rw[show l.length-1-(l.length-1-i)=i by omega]⟩
  refine⟨.int .u8 0,?_,by rw[h0],(hB.setCell (p:=⟨w.heap.size+1,0,none⟩) (by simp) _).trans (belowK_b (w:=w) (Ye _) _ D _ _ (by simp at hD;omega) hK' rfl rfl)⟩;simp[results,Tryz.f270,go_sem,hc5]
 case stop=>
  rintro D c pre W hD ⟨k,hk,rfl⟩ ⟨⟨rfl,ini,last,e1,e2,e3,hcr⟩,hB⟩ hK;gi_wp2
  refine⟨by simp,.inl ⟨_,_,rfl,run_takeDeferred hK,?_⟩⟩;have hc5:=cell_kept hcr (grownBy_putObj' _ D (.deferred none)) (λr e=>by cases e;exact⟨_,hK,rfl⟩);obtain⟨k',rfl⟩:∃k',k=k'+1:=by
   cases k with
   |zero=>simp[bwL] at e1
   |succ k'=>exact⟨k',rfl⟩
  rw[ZGI] at e1;obtain⟨rfl,e5⟩:=YaE e1 rfl;simp only[Ya0,and_true] at e5;subst e5;have hg:getX l t=(el l (l.length-1-k')).2:=ZPk (i:=l.length-1-k') (by omega) e3 λq h1 h2=>by refine e2 (q,el l q) ?_;simp only[bwL,List.mem_map,YaK];exact⟨l.length-1-q,by omega,by rw[show l.length-1-(l.length-1-q)=q by omega]⟩
  refine⟨.int .u8 (el l (l.length-1-k')).2,?_,by rw[hg],hB.trans (belowK_b (w:=w) (Ye _) W D _ _ (by simp at hD;omega) hK rfl rfl)⟩;simp[results,Tryz.f270,go_sem,hc5]
def ZZg:List Sh:=[.one (.sl (R.Pq Kb Ka)),.one (.int u16)]
def ZZh:Rs:=.one (.one Ka)
def ZZi:En:=Zi ZZg ZZh (λa=>some (Nat.ble (Le (α:=Cell) a.1) most)) (λa=>getX a.1 a.2)
theorem ZXB (l:List Cell) (h:∀c∈l,inR .u8 c.2) (t:Int):inR .u8 (getX l t):=by
 by_cases hx:∃c∈l,c.1=t
 ·have hne:flt t l≠[]:=by
   obtain⟨c,hc,he⟩:=hx;intro h0;have:c∈flt t l:=by simp[flt,hc,he]
   rw[h0] at this;simp at this
  rw[getX];cases hq:(flt t l).getLast? with
  |none=>exact absurd (List.getLast?_eq_none_iff.1 hq) hne
  |some c=>
   have:=List.mem_of_getLast? hq;simp only[flt,List.mem_filter] at this;exact h c this.1
 ·rw[ZjJ λc hc e=>hx ⟨c,hc,e⟩];exact⟨by decide,by decide⟩
theorem ZXe:Zb Tryz.prog 270 ZZi:=by
 refine⟨Tryz.call270,λvs chk v hp hc x m w args hm hv=> ?_⟩;simp only at hp;split at hp
 ·rename_i a ha;simp only[oinj,pinj] at hp;obtain⟨rfl,rfl⟩:=hp;obtain⟨hargs,hin⟩:=ZbT ha hv;obtain⟨l,t⟩:=a;have hle:List.length (α:=Cell) l<=most:=by
   cases hb:Nat.ble (List.length (α:=Cell) l) most with
   |true=>simpa [YG] using hb
   |false=>rw[hb] at hc;exact absurd rfl hc
  have hmost:most<=1073741824:=by decide
  match args,hargs with
  |[v0,v1],hargs=>
   have hv0:RA x (.lst (R.Pq (R.int u16) (R.int u8)) false false false l) v0:=hargs.1;have hv1:RA x (.int false .u16 t) v1:=hargs.2.1;have hl8:∀c∈(l:List Cell),inR .u8 c.2:=λc hc=>((hin.1:rcCE.ok l).2 c hc).2
   cases hv1;obtain⟨aa,len,cap,rfl,hheld⟩:∃aa len cap,v0=.slice aa len cap/\Held w.heap.size w (.slice aa len cap) l:=by
    cases hv0 with
    |lst0 _ _ _ _ _ _ a cap h1 h2 h3 _=>exact⟨a,0,cap,rfl,.inl ⟨a,cap,rfl,h1⟩⟩
    |lst _ _ _ _ _ _ p o cap c h0 hf hcap hml hz hr=>
     refine⟨_,_,cap,rfl,.inr ⟨p,o,cap,rfl,?_,λj hj=> ?_⟩⟩
     ·have hpos:0<List.length (α:=Cell) l:=List.length_pos_iff.2 h0;exact hm.fz_lt (hz 0 0 _ hpos rfl)
     ·have q1:=hm.fz _ _ _ (hz j 0 _ hj rfl);have q2:=hm.fz _ _ _ (hz j 1 _ hj rfl);have r1:=hr j 0 _ hj rfl;have r2:=hr j 1 _ hj rfl;generalize c j 0=c0 at q1 r1;generalize c j 1=c1 at q2 r2;cases r1;cases r2;exact⟨q1,q2⟩
   have key:=ZZy {fn:=λ_=>True} 3 trivial trivial trivial rfl (Ye _) aa len cap l t (by omega) w hheld;refine (key.calls (λk d hd=>by simp at hd)).mono ?_;rintro e w' ⟨rfl,hb⟩;have hs:ZdH w w':=⟨⟨hb.size,λk hk=>hb.block k hk⟩,hb.os,hb.tape,hb.output⟩;exact⟨_,x,rfl,.int _ _ _ _ (ZXB l hl8 t),hm.old hs.1,.refl x,hs⟩
  |[],hargs=>exact hargs.elim
  |[_],hargs=>exact hargs.2.elim
  |_::_::_::_,hargs=>exact hargs.2.2.elim
 ·simp at hp
end
end Go.Proofs.YtpnjbfjomebppaaGreat
open Go Go.S3 Go.Proofs
set_option maxRecDepth 100000
namespace Go.Proofs.YtpnjbfjomebppaaGreat
noncomputable section
abbrev ZYj:List Sh:=[Sh.agg (R.Pq Kb Ka),So Kb]
def uAtT (c:Int×Int) (t:Int):RT (Int):=
 .Lf (uCmp c.1 t)
def uAt (c:Int×Int) (t:Int):Int:=(uAtT c t).val
def uAtE:En:=Zi ZYj ZUd (λ_=>none) (λa=>uAt a.1 a.2)
theorem ZKe:Zb prog 277 uAtE:=
 pureQ 31 [(161,ZVr)] [] _ _ ⟨ZKb,Tv⟩ Tryz.func277 Tryz.call277 trivial
abbrev ZzK:Rs:=Rs.tup [So Kc,So R.bool]
def ZQL:LS:={n:=49,Sl:=[(0,.code (So rcCE)),(1,.code (So Kb)),(2,.fix (A.clo 277 [])),(8,.code (So Kc)),(9,.code (So Kc)),(10,.code (So Kc))],Bx:=[],Sg:=[]}
def Zhk (a:List (Int×Int)×Int×Int×Int×Int×PUnit):RT (Option (Go1 (List (Int×Int)×Int×Int×Int×Int×PUnit))):=
 let x1:=i64.wrap (shrI IntKind.u64 (IntKind.u64.wrap (i64.wrap (a.2.2.2.1+a.2.2.2.2.1))) 1)
 let x2:=decide (uAt (R.get (R.Pq Kb Ka) a.1 x1) a.2.1<0)
 .br (decide (a.2.2.2.1<a.2.2.2.2.1)) (.br (Zf x1 (Le a.1)) (Ls (Go1.cont (a.1,a.2.1,a.2.2.1,bif x2 then i64.wrap (x1+1) else a.2.2.2.1,bif x2 then a.2.2.2.2.1 else x1,PUnit.unit))) Ln) (Ls (Go1.brk (a.1,a.2.1,a.2.2.1,a.2.2.2.1,a.2.2.2.2.1,PUnit.unit)))
def ZDI:Ora:=ZaY false ZQL Zhk (λa=>(a.2.2.2.2.1-a.2.2.2.1).toNat+1)
theorem ZGT:ZaB (envX prog [(277,uAtE)] [] 4095 8) (.block 0 (.loop (ZX Tryz.f276.body 0))) ZDI:=
 loopP ⟨ZKe,Tv⟩
def ZqE (x:List (Int×Int)) (t:Int):RT (Option (Int×Bool)):=
 let x1:List (Int×Int)×Int×Int×Int×Int×PUnit:=(x,t,iN (Le x),0,iN (Le x),())
 let x2:=runF false Zhk (λa=>Int.toNat (a.2.2.2.2.1-a.2.2.2.1)+1) x1
 let x3:List (Int×Int)×Int×Int×Int×Int×PUnit:=(getO (false,x1) x2).2
 let x4:=x3.2
 let x5:=x4.2
 let x6:=x5.2.1
 let x7:=decide (x6<x5.1)
 let x8:=x3.1
 .br (okB x2) (.br (!x7||Zf x6 (Le x8)) (Ls ((bif x7 then x6 else x6,x7&&uAt (R.get (R.Pq Kb Ka) x8 x6) x4.1==0))) Ln) Ln
def Zeh (x:List (Int×Int)) (t:Int):Int×Bool:=getO ZzK.Df (ZqE x t).val
def ZDJ (x:List (Int×Int)) (t:Int):Bool:=okB (ZqE x t).val
def ZTF:En:=ZLO 277 ZAr ZzK (λa=>some (ZDJ a.1 a.2)) (λa=>Zeh a.1 a.2)
theorem ZQK:Zb prog 276 ZTF:=
 ZHc (P:=prog) (n:=4095) (k:=8) (l:=[(277,uAtE)]) (ol:=[(0,ZDI)]) ⟨ZKe,Tv⟩ Tryz.func276 rfl (by kernel_rfl) Tryz.call276 ⟨ZGT,Tv⟩ (g0:=277) (ts:=ZAr) (rs:=ZzK) (t:=λa=>ZqE a.1 a.2) (λa=>by kernel_rfl)
abbrev ZUu:List Sh:=[So rcCE,So Kb,So Ka]
def ZIJ (m:List (Int×Int)) (t:Int) (v:Int):RT (Option (List (Int×Int))):=
 let x1:= !(v==0&& !(Zeh m t).2)||Nat.ble (Le m) most
 let x2:= !x1
 let x3:=v==0&& !(Zeh m t).2||(!v==0||(!Nat.ble (Le m) most||decide (0<=(Zeh m t).1)&&decide ((Zeh m t).1<iN (Le m))&&decide (i64.wrap ((Zeh m t).1+1)=(Zeh m t).1+1)))
 let x4:= !x3
 let x5:=v==0&& !(Zeh m t).2||(!v==0||Nat.ble (Le m) most)
 let x6:= !x5
 let x7:=v==0&& !(Zeh m t).2||(v==0||(!(Zeh m t).2||Nat.ble (Le m) most))
 .br (Zu4 m) (.br (!!Zpk m||(!Nat.ble (Le m) most||(!Nat.ble (Le (m++[(t,v)])) most||ZyK (m++[(t,v)])))) (.br (!!Zpk m||(!Nat.ble (Le m) most||Nat.ble (Le (m++[(t,v)])) most)) (.br (!!Zpk m||Nat.ble (Le m) most) (.br (!Zpk m) (Ls (ZOK (m++[(t,v)]))) (.br (ZDJ m t) (.br (x2||(x4||(x6||(!x7||(v==0&& !(Zeh m t).2||(v==0||(!(Zeh m t).2||Zf (Zeh m t).1 (Le m)))))))) (.br (x2||(x4||(x6||x7))) (.br (x2||(x4||x5)) (.br (x2||x3) (.br (x1) (.br (v==0&& !(Zeh m t).2) (Ls (m)) (.br (v==0) (Ls (delX m (Int.toNat (Zeh m t).1))) (.br (Zeh m t).2 (Ls (setI m (Zeh m t).1 ((R.get (R.Pq Kb Ka) m (Zeh m t).1).1,v))) (.br (!Nat.ble (Le m) most||decide (0<=(Zeh m t).1)&&decide ((Zeh m t).1<=iN (Le m))&&Nat.ble (Le m+1) most) (.br (Nat.ble (Le m) most) (Ls (insX m (Int.toNat (Zeh m t).1) (t,v))) Ln) Ln)))) Ln) Ln) Ln) Ln) Ln) Ln)) Ln) Ln) Ln) Ln
def mPut (m:List (Int×Int)) (t:Int) (v:Int):List (Int×Int):=getO Zu9.Df (ZIJ m t v).val
def ZSF (m:List (Int×Int)) (t:Int) (v:Int):Bool:=okB (ZIJ m t v).val
def ZZf:En:=Zi ZUu Zu9 (λa=>some (ZSF a.1 a.2.1 a.2.2)) (λa=>mPut a.1 a.2.1 a.2.2)
theorem ZXc:Zb prog 210 ZZf:=
 Znz (P:=prog) (n:=35253225784319) (k:=108) (l:=[(90,ZOJ),(98,Zvx),(103,ZOE),(276,ZTF),(277,uAtE),(278,delE),(279,insE)]) (ol:=[]) ⟨Zu8,Zp3,ZyH,ZQK,ZKe,ZZF,ZZt,Tv⟩ Tryz.func210 rfl (by kernel_rfl) Tryz.call210 trivial (ts:=ZUu) (rs:=Zu9) (t:=λa=>ZIJ a.1 a.2.1 a.2.2) (λa=>by kernel_rfl)
end
end Go.Proofs.YtpnjbfjomebppaaGreat
open Go Go.S3 Go.Proofs Go.Proofs.Cells
namespace Go.Proofs.YtpnjbfjomebppaaGreat
noncomputable section
theorem ZKc (x y:Int):decide (uCmp x y<0)=decide (x<y):=by
 simp only[uCmp,ZKd,RT.val,YaU,Yb];by_cases h:x<y
 ·simp[h]
 ·by_cases h2:x>y<;>simp[h,h2]
theorem ZVq (x y:Int):(uCmp x y==0)=(x==y):=by
 simp only[uCmp,ZKd,RT.val,YaU,Yb];by_cases h:x<y
 ·have:x≠y:=by omega
  simp[h,this]
 ·by_cases h2:x>y
  ·have:x≠y:=by omega
   simp[h,h2,this]
  ·have:x=y:=by omega
   simp[h,h2,this]
theorem ZKf (c:Cell) (t:Int):uAt c t=uCmp c.1 t:=rfl
def At (m:List Cell) (t:Int) (i:Nat):Prop:=i<=m.length/\(∀k,k<i->(el m k).1<t)/\∀k,i<=k->k<m.length->t<=(el m k).1
theorem ZJK (m:List Cell) (t:Int) (hv:Vld m) (hm:m.length<=most):ZDJ m t=true/\∃i,At m t i/\Zeh m t=((i:Int),decide (i<m.length)&&((el m i).1==t)):=by
 have hms:=mst;obtain⟨r,hr,h1,i,hi,hR⟩:=ZA (fl:=false) (t:=Zhk) (fuel:=λa=>Int.toNat (a.2.2.2.2.1-a.2.2.2.1)+1)
  (λa=>∃lo hi:Nat,lo<=hi/\hi<=m.length/\(∀k,k<lo->(el m k).1<t)/\(∀k,hi<=k->k<m.length->t<=(el m k).1)/\a=(m,t,(m.length:Int),(lo:Int),(hi:Int),()))
  (λa=>Int.toNat (a.2.2.2.2.1-a.2.2.2.1)) (λr=>r.1=false/\∃i:Nat,At m t i/\r.2=(m,t,(m.length:Int),(i:Int),(i:Int),()))
  (by
   rintro a ⟨lo,hi,h1,h2,h3,h4,rfl⟩;by_cases hlt:lo<hi
   ·left;have d:decide ((lo:Int)<(hi:Int))=true:=by simpa using hlt
    have hmid:=ZpI lo hi (by omega);obtain⟨M,hM⟩:∃M,M=(lo+hi)/2:=⟨_,rfl⟩;rw[<-hM] at hmid;have r1:=ZaG m M (by omega);have g:=ZcB m M;have w:=ZhO M (by omega);by_cases hc:(el m M).1<t
    ·have dc:decide (uAt (el m M) t<0)=true:=by rw[ZKf,ZKc];simpa using hc
     refine⟨(m,t,(m.length:Int),((M+1:Nat):Int),(hi:Int),()),?_,⟨M+1,hi,by omega,h2,λk hk=> ?_,h4,rfl⟩,by simp only;omega⟩
     ·simp only[Zhk,RT.val,d,hmid,r1,g,dc,w,Ya]
     ·by_cases e:k=M
      ·subst e;exact hc
      ·by_cases e2:k<lo
       ·exact h3 k e2
       ·have:=YaG.1 hv.1 k M (by omega) (by omega) (by omega);have e1:=ZcO m k (by omega);have e3:=ZcO m M (by omega);rw[Yh (by omega),oinj] at e1 e3;rw[e1,e3] at this;omega
    ·have dc:decide (uAt (el m M) t<0)=false:=by rw[ZKf,ZKc];simpa using hc
     refine⟨(m,t,(m.length:Int),(lo:Int),(M:Int),()),?_,⟨lo,M,by omega,by omega,h3,λk hk hk2=> ?_,rfl⟩,by simp only;omega⟩
     ·simp only[Zhk,RT.val,d,hmid,r1,g,dc,Ya,Yb]
     ·by_cases e:k=M
      ·subst e;omega
      ·have:=YaG.1 hv.1 M k (by omega) (by omega) (by omega);have e1:=ZcO m k (by omega);have e3:=ZcO m M (by omega);rw[Yh (by omega),oinj] at e1 e3;rw[e1,e3] at this;omega
   ·right;left;have d:decide ((lo:Int)<(hi:Int))=false:=by simpa using hlt
    have:hi=lo:=by omega
    subst this
    exact⟨_,by simp only[Zhk,RT.val,d,Yb],rfl,hi,⟨h2,h3,h4⟩,rfl⟩)
  (m,t,iN m.length,0,iN m.length,()) ⟨0,m.length,Yr _,Ye _,λk h=>by omega,λk h1 h2=>by omega,rfl⟩ (by simp only[iN,Le];omega)
 obtain⟨r1,r2⟩:=r;simp only at h1 hR;subst h1 hR;have hd:decide ((i:Int)<(m.length:Int))=decide (i<m.length):=by simp
 have hv:(ZqE m t).val=some ((i:Int),decide (i<m.length)&&((el m i).1==t)):=by
  have g:=ZcB m i;by_cases hlt:i<m.length
  ·have r1:=ZaG m i hlt;have hd:decide ((i:Int)<(m.length:Int))=true:=by simpa using hlt
   simp only[ZqE,RT.val,hr,okB,getO,Ya,hd,r1,Yf,Yj,g,ZKf,ZVq,hlt,decide_true,YT]
  ·have hd:decide ((i:Int)<(m.length:Int))=false:=by simpa using hlt
   simp only[ZqE,RT.val,hr,okB,getO,Ya,Yb,hd,Yl,Yv,hlt,decide_false,YW]
 exact⟨by simp only[ZDJ,hv];rfl,i,hi,by simp only[Zeh,hv,getO]⟩
theorem ZLM:∀(i:Nat) (m:List Cell) (c:Cell),i<=m.length->(∀k,k<i->(el m k).1<c.1)->putX m c=m.take i++putX (m.drop i) c
 |0,m,c,_,_=>by simp
 |i+1,[],c,h,_=>by simp at h
 |i+1,x::m,c,h,hk=>by have h0:x.1<c.1:=hk 0 (by omega);rw[putX,YZ h0,ZLM i m c (by simpa using h) (λk h'=>hk (k+1) (by omega))];simp
theorem ZLL (m:List Cell) (t v:Int) (i:Nat) (h:At m t i):
  (v=0->(decide (i<m.length)&&((el m i).1==t))=false->putX m (t,v)=m)/\
  (v=0->(decide (i<m.length)&&((el m i).1==t))=true->putX m (t,v)=delX m i)/\
  (v≠0->(decide (i<m.length)&&((el m i).1==t))=true->putX m (t,v)=setI m (i:Int) ((el m i).1,v))/\
  (v≠0->(decide (i<m.length)&&((el m i).1==t))=false->putX m (t,v)=insX m i (t,v)):=by
 obtain⟨h1,h2,h3⟩:=h;have hp:=ZLM i m (t,v) h1 h2;by_cases hlt:i<m.length
 ·have hd:=Zvo m i hlt;have hge:=h3 i (Ye _) hlt;have hn:¬(el m i).1<t:=by omega
  rw[hd] at hp;simp only[putX,Y3 hn] at hp;simp only[hlt,decide_true,YT];refine⟨λhz he=> ?_,λhz he=> ?_,λhz he=> ?_,λhz he=> ?_⟩
  ·have he:(el m i).1≠t:=by simpa using he
   rw[hp,YZ hz,Y3 he,<-hd,Yar]
  ·have he:(el m i).1=t:=by simpa using he
   rw[hp,YZ hz,YZ he,delX]
  ·have he:(el m i).1=t:=by simpa using he
   rw[hp,Y3 hz,YZ he,setI,Int.toNat_natCast,he,List.set_eq_take_append_cons_drop,YZ hlt]
  ·have he:(el m i).1≠t:=by simpa using he
   rw[hp,Y3 hz,Y3 he,insX,<-hd];simp
 ·have he:i=m.length:=by omega
  subst he;simp only[List.drop_length,putX] at hp;simp only[Nat.lt_irrefl,decide_false,YW];refine⟨λhz _=> ?_,λhz he=>by simp at he,λhz he=>by simp at he,λhz _=> ?_⟩
  ·rw[hp,YZ hz];simp
  ·rw[hp,Y3 hz,insX];simp
theorem ZSC (m:List Cell) (t v:Int) (hm:m.length+1<=most):ZSF m t v=true/\mPut m t v=putX (normX m) (t,v):=by
 have hms:=mst;have hv1:=Zyz m (by omega);have hb1:Nat.ble m.length most=true:=by rw[YG];omega
 have hv:(ZIJ m t v).val=some (putX (normX m) (t,v)):=by
  cases hval:vldB m with
  |false=>
   have hl:(m++[(t,v)]).length<=most:=by simp;omega
   have hb2:Nat.ble (m++[(t,v)]).length most=true:=by rw[YG];exact hl
   obtain⟨n1,n2⟩:=Zpg (m++[(t,v)]) hl;simp only[ZIJ,RT.val,hv1.1,hv1.2,hval,hb1,hb2,n1,n2,ZkK,Yl,Yf,Yi,YaB,Ya]
  |true=>
   have hV:=ZiG.1 hval;obtain⟨f1,i,hi,f2⟩:=ZJK m t hV (by omega);obtain⟨q1,q2,q3,q4⟩:=ZLL m t v i hi;have hile:decide ((i:Int)<=iN m.length)=true:=by simpa [iN,Le] using hi.1
   have hi0:decide ((0:Int)<=(i:Int))=true:=by simp
   have hb3:Nat.ble (m.length+1) most=true:=by rw[YG];omega
   have w:=ZhO i (by have:=hi.1;omega);have g:=ZcB m i;rw[Zhz hV];simp only[ZIJ,RT.val,hv1.1,hv1.2,hval,hb1,f1,f2,hile,hi0,hb3,w,g,Yf,Yl,Yv,Yi,Yy,Yj,Y0,YT,Ya,Yb,Int.toNat_natCast];cases hfd:(decide (i<m.length)&&((el m i).1==t)) with
   |true=>
    have hlt:i<m.length:=by rw[Yc,Yk] at hfd;exact hfd.1
    have r1:=ZaG m i hlt;have hd:decide ((i:Int)<iN m.length)=true:=by simpa [iN,Le] using hlt
    have hw:decide (((i+1:Nat):Int)=(i:Int)+1)=true:=by simp
    by_cases hz:v=0
    ·have hz1:(v==0)=true:=by simpa using hz
     simp only[hz1,r1,hd,hw,q2 hz hfd,Yf,Yl,Yag,YY,Yv,Yi,Yy,Yj,Y0,Ya,Yb]
    ·have hz1:(v==0)=false:=by simpa using hz
     simp only[hz1,r1,hd,hw,q3 hz hfd,Yf,Yl,YW,Yag,YY,Yv,Yi,Yy,Yj,Y0,Ya,Yb]
   |false=>
    by_cases hz:v=0
    ·have hz1:(v==0)=true:=by simpa using hz
     simp only[hz1,q1 hz hfd,Yf,Yl,Yag,YY,Yv,Yi,Yy,Yj,Y0,Ya,Yb]
    ·have hz1:(v==0)=false:=by simpa using hz
     simp only[hz1,q4 hz hfd,Yf,Yl,YW,Yag,YY,Yv,Yi,Yy,Yj,Y0,Ya,Yb]
 exact⟨by simp only[ZSF,hv];rfl,by simp only[mPut,hv,getO]⟩
abbrev ZnS:List Sh:=[So rcRG]
def ZHs:LS:={n:=30,Sl:=[(2,.code (So Kc)),(8,.code (So rcRG)),(9,.code (So Kc)),(10,.code (So Kc))],Bx:=[],Sg:=[]}
def Zrm (a:QT21):RT (Option (Go1 (QT21))):=
 let x1:QT4:=R.get (R.Pq Kb (R.Pq Kb (R.Pq R.bool Kc))) a.2.1 a.2.2.2.1
 let x2:=x1.2
 let x3:=x2.2.2
 let x4:List (QT4)×Int×Int×PUnit:=(a.2.1,a.2.2.1,a.2.2.2.1,PUnit.unit)
 .br (decide (a.2.2.2.1<a.2.2.1)) (.br (Zf a.2.2.2.1 (Le a.2.1)) (.br (decide (x2.1<x1.1)||(decide (x3<0)||decide (x3>100))) (Ls (Go1.ret (1,x4))) (Ls (Go1.cont (a.1,a.2.1,a.2.2.1,i64.wrap (a.2.2.2.1+1),PUnit.unit)))) Ln) (Ls (Go1.brk (a.1,x4)))
def Zrn:Ora:=ZaY true ZHs Zrm (λa=>1000000000000)
theorem ZxP:ZaB (envX prog [] [] 31 8) (.block 0 (.loop (ZX Tryz.f102.body 0))) Zrn:=
 loopP trivial
def Zl9 (l:List (QT4)):RT (Option (Int)):=
 let x1:=runF true Zrm (λa=>1000000000000) (0,l,iN (Le l),0,())
 let x2:=getO (false,0,l,iN (Le l),0,()) x1
 .br (decide (iN (Le l)>16)) (Ls (3)) (.br (okB x1) (.br x2.1 (Ls x2.2.1) (Ls (0))) Ln)
def ZMu (l:List (QT4)):Int:=getO ZUd.Df (Zl9 l).val
def ZE7 (l:List (QT4)):Bool:=okB (Zl9 l).val
def ZRS:En:=Zi ZnS ZUd (λa=>some (ZE7 a)) (λa=>ZMu a)
theorem ZHr:Zb prog 102 ZRS:=
 pureP 31 [] [(0,Zrn)] _ _ trivial Tryz.func102 Tryz.call102 ⟨ZxP,Tv⟩
abbrev ZtH:List Sh:=[So rcRG,So rcCE,So Kb]
def Zn5 (l:List (QT4)) (m:List (Int×Int)) (t:Int):RT (Option (Int)):=
 .br (Zx6 l t) (.br (decide (Zqq l t<0)) (Ls (255)) (.br (Nat.ble (Le m) most) (Ls (Cells.getX m t)) Ln)) Ln
def ZMO (l:List (QT4)) (m:List (Int×Int)) (t:Int):Int:=getO ZN3.Df (Zn5 l m t).val
def ZA8 (l:List (QT4)) (m:List (Int×Int)) (t:Int):Bool:=okB (Zn5 l m t).val
def ZWp:En:=Zi ZtH ZN3 (λa=>some (ZA8 a.1 a.2.1 a.2.2)) (λa=>ZMO a.1 a.2.1 a.2.2)
theorem ZMN:Zb prog 202 ZWp:=
 pureP 127 [(209,ZFA),(270,ZZi)] [] _ _ ⟨Zt5,ZXe,Tv⟩ Tryz.func202 Tryz.call202 trivial
abbrev ZnM:List Sh:=[So rcRG,So rcCE,So Kb,So Ka]
def Zji (l:List (QT4)) (m:List (Int×Int)) (t:Int) (v:Int):RT (Option (List (Int×Int))):=
 let x1:=decide (Zqq l t>=0)&&(R.get (R.Pq Kb (R.Pq Kb (R.Pq R.bool Kc))) l (Zqq l t)).2.2.1
 .br (Zx6 l t) (.br (!decide (Zqq l t>=0)||Zf (Zqq l t) (Le l)) (.br (!x1||ZSF m t v) (.br (x1) (Ls (mPut m t v)) (.br (ZyK m) (Ls (ZOK m)) Ln)) Ln) Ln) Ln
def ZAS (l:List (QT4)) (m:List (Int×Int)) (t:Int) (v:Int):List (Int×Int):=getO Zu9.Df (Zji l m t v).val
def Zts (l:List (QT4)) (m:List (Int×Int)) (t:Int) (v:Int):Bool:=okB (Zji l m t v).val
def ZRP:En:=Zi ZnM Zu9 (λa=>some (Zts a.1 a.2.1 a.2.2.1 a.2.2.2)) (λa=>ZAS a.1 a.2.1 a.2.2.1 a.2.2.2)
theorem ZHo:Zb prog 143 ZRP:=
 pureP 1023 [(90,ZOJ),(209,ZFA),(210,ZZf)] [] _ _ ⟨Zu8,Zt5,ZXc,Tv⟩ Tryz.func143 Tryz.call143 trivial
def Zjk (l:List (QT4)) (t:Int):RT (Option (Int)):=
 let x1:Int:=(R.get (R.Pq Kb (R.Pq Kb (R.Pq R.bool Kc))) l (Zqq l t)).2.2.2
 let x2:Int:=if 100<x1 then 100 else x1
 .br (Zx6 l t) (.br (decide (Zqq l t<0)) (Ls (0)) (.br (Zf (Zqq l t) (Le l)) (Ls (if x2>0 then x2 else 0)) Ln)) Ln
def ZAU (l:List (QT4)) (t:Int):Int:=getO ZUd.Df (Zjk l t).val
def Ztt (l:List (QT4)) (t:Int):Bool:=okB (Zjk l t).val
def ZRQ:En:=Zi ZNA ZUd (λa=>some (Ztt a.1 a.2)) (λa=>ZAU a.1 a.2)
theorem ZHp:Zb prog 269 ZRQ:=
 pureP 63 [(209,ZFA)] [] _ _ ⟨Zt5,Tv⟩ Tryz.func269 Tryz.call269 trivial
def ZLq (n:Int):RT (Int):=
 .Lf (if (if 100<n then 100 else n)>0 then if 100<n then 100 else n else 0)
def Zq6 (n:Int):Int:=(ZLq n).val
def Zfh (a:QT21):RT (Option (Go1 (QT21))):=
 let x1:QT4:=R.get (R.Pq Kb (R.Pq Kb (R.Pq R.bool Kc))) a.2.1 a.2.2.2.1
 let x2:=x1.2
 let x3:=x2.2.2
 let x4:List (QT4)×Int×Int×PUnit:=(a.2.1,a.2.2.1,a.2.2.2.1,PUnit.unit)
 .br (decide (a.2.2.2.1<a.2.2.1)) (.br (Zf a.2.2.2.1 (Le a.2.1)) (.br (decide (x2.1<x1.1)||(decide (x3<0)||decide (x3>100))) (Ls (Go1.ret (1,x4))) (Ls (Go1.cont (a.1,a.2.1,a.2.2.1,i64.wrap (a.2.2.2.1+1),PUnit.unit)))) Ln) (Ls (Go1.brk (a.1,x4)))
def ZfK (l:List (QT4)):RT (Option (Int)):=
 let x1:=runF true Zfh (λa=>1000000000000) (0,l,iN (Le l),0,())
 let x2:=getO (false,0,l,iN (Le l),0,()) x1
 .br (decide (iN (Le l)>16)) (Ls (3)) (.br (okB x1) (.br x2.1 (Ls x2.2.1) (Ls (0))) Ln)
def ZAc (l:List (QT4)):Int:=getO ZUd.Df (ZfK l).val
def ZsL (l:List (QT4)):Bool:=okB (ZfK l).val
def sm {α:Type} (l:List α):Bool:=Nat.ble (l.length+1) most
def smC (l:List (Int×Int)):Bool:=sm l
def smB (l:List Int):Bool:=sm l
def smG (l:List ZG):Bool:=sm l
variable {α:Type}
theorem Zm5 {l:List α}:sm l=true↔l.length+1<=most:=by simp[sm]
theorem Zqo {l:List α} (h:sm l=true):l.length<=most:=by have:=Zm5.1 h;omega
theorem ZS2 (l:List ZG) (t:Int): -1<=Zck l t/\(Zck l t<0\/∃i:Nat,i<l.length/\Zck l t=i):=by
 unfold Zck;split
 ·rename_i h;exact⟨by omega,.inr ⟨_,h,rfl⟩⟩
 ·exact⟨by omega,.inl (by omega)⟩
theorem Zza (l:List ZG) (t:Int) (h:0<=Zck l t):Zf (Zck l t) l.length=true:=by
 rcases (ZS2 l t).2 with h1|⟨i,hi,e⟩
 ·omega
 ·rw[e];exact ZaG l i hi
def ZaL (l:List ZG) (m:List Cell) (t v:Int):List Cell:=bif decide (Zck l t>=0)&&(R.get GR l (Zck l t)).2.2.1 then putX (normX m) (t,v) else normX m
def limX (n:Int):Int:=if (if 100<n then 100 else n)>0 then if 100<n then 100 else n else 0
def ZiD (l:List ZG) (t:Int):Int:=bif decide (Zck l t>=0) then limX (R.get GR l (Zck l t)).2.2.2 else 0
theorem ge_lt (x:Int):decide (x>=0)= !decide (x<0):=by by_cases h:x<0<;>simp[h]<;>omega
theorem ZLU (l:List ZG) (m:List Cell) (t:Int) (hl:l.length<=most) (hm:m.length<=most):ZA8 l m t=true/\ZMO l m t=Zge l m t:=by
 have h1:=ZnJ l t hl;have hb:Nat.ble m.length most=true:=by rw[YG];exact hm
 have hv:(Zn5 l m t).val=some (Zge l m t):=by simp only[Zn5,RT.val,h1.1,h1.2,hb,Ya,Zge];cases decide (Zck l t<0)<;>rfl
 exact⟨by simp only[ZA8,hv];rfl,by simp only[ZMO,hv,getO]⟩
theorem ZG9 (l:List ZG) (m:List Cell) (t v:Int) (hl:l.length<=most) (hm:m.length+1<=most):Zts l m t v=true/\ZAS l m t v=ZaL l m t v:=by
 have h1:=ZnJ l t hl;have h2:=ZSC m t v hm;have h3:=Zpg m (by omega);have hv:(Zji l m t v).val=some (ZaL l m t v):=by
  have hr:(!decide (Zck l t>=0)||Zf (Zck l t) l.length)=true:=by
   by_cases h:0<=Zck l t
   ·rw[Zza l t h];simp
   ·have:decide (Zck l t>=0)=false:=by simp;omega
    rw[this];rfl
  simp only[Zji,RT.val,h1.1,h1.2,h2.1,h2.2,h3.1,h3.2,hr,Yi,Ya,ZaL];cases decide (Zck l t>=0)&&(R.get GR l (Zck l t)).2.2.1<;>rfl
 exact⟨by simp only[Zts,hv];rfl,by simp only[ZAS,hv,getO]⟩
theorem ZHa (l:List ZG) (t:Int) (hl:l.length<=most):Ztt l t=true/\ZAU l t=ZiD l t:=by
 have h1:=ZnJ l t hl;have hv:(Zjk l t).val=some (ZiD l t):=by
  simp only[Zjk,RT.val,h1.1,h1.2,Ya,ZiD,limX,ge_lt];by_cases h:Zck l t<0
  ·have hd:decide (Zck l t<0)=true:=by simpa using h
   simp only[hd,Yf,Ya,Yb]
  ·have hd:decide (Zck l t<0)=false:=by simpa using h
   have hr:=Zza l t (by omega);simp only[hd,hr,Yl,Ya,Yb]
 exact⟨by simp only[Ztt,hv];rfl,by simp only[ZAU,hv,getO]⟩
def badR (r:ZG):Bool:=decide (r.2.1<r.1)||(decide (r.2.2.2<0)||decide (r.2.2.2>100))
def ZbO (l:List ZG):Int:=bif decide (iN l.length>16) then 3 else bif l.any badR then 1 else 0
theorem Zz2 (l:List ZG) (hl:l.length<=most):ZsL l=true/\ZAc l=ZbO l:=by
 have hms:=mst;obtain⟨r,hr,hR⟩:=ZA (fl:=true) (t:=Zfh) (fuel:=λ_=>1000000000000)
  (λx=>∃i:Nat,i<=l.length/\(∀k,k<i->badR (rg l k)=false)/\x=(0,l,(l.length:Int),(i:Int),()))
  (λx=>Int.toNat (x.2.2.1-x.2.2.2.1)) (λr=>(r.1=false/\l.any badR=false)\/(r.1=true/\l.any badR=true/\r.2.1=1))
  (by
   rintro x ⟨i,hi,hk,rfl⟩;by_cases hlt:i<l.length
   ·have d:decide ((i:Int)<(l.length:Int))=true:=by simpa using hlt
    have r1:=ZaG l i hlt;have g1:=ZUB l i;cases hh:badR (rg l i) with
    |false=>
     left;refine⟨(0,l,(l.length:Int),((i+1:Nat):Int),()),?_,⟨i+1,hlt,λk hk'=> ?_,rfl⟩,by simp only;omega⟩
     ·simp only[badR] at hh;simp only[Zfh,RT.val,d,r1,g1,hh,Ya,Yb,ZhO i (by omega)]
     ·by_cases e:k=i
      ·subst e;exact hh
      ·exact hk k (by omega)
    |true=>
     right;right;refine⟨(1,l,(l.length:Int),(i:Int),()),rfl,?_,.inr ⟨rfl,List.any_eq_true.2 ⟨rg l i,?_,hh⟩,rfl⟩⟩
     ·simp only[badR] at hh;simp only[Zfh,RT.val,d,r1,g1,hh,Ya]
     ·rw[<-Zwx l i hlt];exact YaM hlt
   ·right;left;have d:decide ((i:Int)<(l.length:Int))=false:=by simpa using hlt
    refine⟨_,by simp only[Zfh,RT.val,d,Yb];rfl,.inl ⟨rfl,?_⟩⟩;rw[List.any_eq_false];intro q hq;obtain⟨k,hk',rfl⟩:=YaO.1 hq
    rw[Zwx l k hk',hk k (by omega)];simp)
  (0,l,iN l.length,0,()) ⟨0,Yr _,λk h=>by omega,rfl⟩ (by simp only[iN,Le];omega)
 have hv:(ZfK l).val=some (ZbO l):=by
  cases hd:decide (iN l.length>16) with
  |true=>simp only[ZfK,RT.val,hd,Ya,ZbO]
  |false=>
   rcases hR with ⟨h1,h2⟩|⟨h1,h2,h3⟩
   ·simp only[ZfK,RT.val,hd,hr,okB,getO,Ya,Yb,h1,h2,ZbO]
   ·simp only[ZfK,RT.val,hd,hr,okB,getO,Ya,Yb,h1,h2,h3,ZbO]
 exact⟨by simp only[ZsL,hv];rfl,by simp only[ZAc,hv,getO]⟩
theorem ZAx (l:List ZG) (hl:l.length<=most):ZE7 l=true/\ZMu l=ZbO l:=by have h:=Zz2 l hl;have e:Zl9 l=ZfK l:=rfl;simp only[ZsL,ZAc,<-e] at h;exact h
theorem ZlG {P:Program} {f:FuncId} {ts:List Sh} {rs:Rs} {C:HL ts->Bool} {F G:HL ts->rs.den} (h:Zb P f (Zi ts rs (λa=>some (C a)) F)) {pre:HL ts->Bool} (hp:∀a,pre a=true->C a=true/\F a=G a):
  Zb P f (Zi ts rs (λa=>some (pre a)) G):=by
 have key:∀a,some (pre a)≠some false->pre a=true:=λa h=>by cases hq:pre a with
  |true=>rfl
  |false=>rw[hq] at h;exact absurd rfl h
 exact h.pure_congr (λa _ hq=>by rw[(hp a (key a hq)).1];simp) (λa _ hq=>(hp a (key a hq)).2)
def ZF1:En:=Zi ZCN Zmq (λa=>some (smC a)) (λa=>vldB a)
theorem ZII:Zb prog 103 ZF1:=ZlG ZyH λa h=>Zyz a (Zqo h)
def ZsM:En:=Zi ZCN Zmq (λa=>some (smC a)) (λa=>vldB a)
theorem Zq2:Zb prog 105 ZsM:=ZlG Znk λa h=>ZKM a (Zqo h)
def ZLu:En:=Zi ZAr ZsZ (λa=>some (smC a.1)) (λa=>getX a.1 a.2)
theorem ZLt:Zb prog 60 ZLu:=ZlG ZRq λa h=>ZVG a.1 a.2 (Zqo h)
def Zpo:En:=Zi ZCN Zu9 (λa=>some (smC a)) (λa=>normX a)
theorem Zpn:Zb prog 90 Zpo:=ZlG Zu8 λa h=>Zpg a (Zqo h)
def ZAo:En:=Zi ZCN Zu9 (λa=>some (smC a)) (λa=>normX a)
theorem ZwO:Zb prog 93 ZAo:=ZlG ZRn λa h=>ZKX a (Zm5.1 h)
def ZsR:En:=Zi ZsQ Zmq (λa=>some (smC a.1)) (λa=>decide ((a.1:List Cell)=a.2))
theorem Zq3:Zb prog 34 ZsR:=ZlG ZLa λa h=>ZKS a.1 a.2 (Zqo h)
def Zjp:En:=Zi ZtH ZN3 (λa=>some (smG a.1&&smC a.2.1)) (λa=>Zge a.1 a.2.1 a.2.2)
theorem Zrq:Zb prog 202 Zjp:=ZlG ZMN λa h=>by rw[Yc] at h;exact ZLU a.1 a.2.1 a.2.2 (Zqo h.1) (Zqo h.2)
def ZcU:En:=Zi ZnM Zu9 (λa=>some (smG a.1&&smC a.2.1)) (λa=>ZaL a.1 a.2.1 a.2.2.1 a.2.2.2)
theorem Zep:Zb prog 143 ZcU:=ZlG ZHo λa h=>by rw[Yc] at h;exact ZG9 a.1 a.2.1 a.2.2.1 a.2.2.2 (Zqo h.1) (Zm5.1 h.2)
def ZnO:En:=Zi ZNA ZUd (λa=>some (smG a.1)) (λa=>ZiD a.1 a.2)
theorem ZAT:Zb prog 269 ZnO:=ZlG ZHp λa h=>ZHa a.1 a.2 (Zqo h)
def ZxQ:En:=Zi ZnS ZUd (λa=>some (smG a)) (λa=>ZbO a)
theorem ZAY:Zb prog 102 ZxQ:=ZlG ZHr λa h=>ZAx a (Zqo h)
abbrev ZDt:List Sh:=[So Ka,So Ka,So Ka]
def ZJv (a:Int) (b:Int) (c:Int):RT (Int):=
 .Lf (xorI u8 (xorI u8 (xorI u8 a b) c) 165)
def ZhT (a:Int) (b:Int) (c:Int):Int:=(ZJv a b c).val
def ZzF:En:=Zi ZDt ZN3 (λ_=>none) (λa=>ZhT a.1 a.2.1 a.2.2)
theorem ZvP:Zb Tryz.prog 117 ZzF:=
 pureQ 127 [] [] _ _ trivial Tryz.func117 Tryz.call117 trivial
def ZQx (o:Bool) (n:Int):RT (Option (Int)):=
 .br (!o||decide (0<=n)) (.br (o) (Ls (shlI u8 1 n)) (Ls (0))) Ln
def wBit (o:Bool) (n:Int):Int:=getO ZN3.Df (ZQx o n).val
def ZfD (o:Bool) (n:Int):Bool:=okB (ZQx o n).val
def ZU1:En:=Zi ZUn ZN3 (λa=>some (ZfD a.1 a.2)) (λa=>wBit a.1 a.2)
theorem ZJw:Zb Tryz.prog 116 ZU1:=
 pureP 31 [] [] _ _ trivial Tryz.func116 Tryz.call116 trivial
abbrev ZJt:Rs:=Rs.one (Sh.agg ZcP)
def ZTz:RT INPT:=
 .Lf ((true,false,false,false,false,false,false,false,0,0))
def ZQ:INPT:=(ZTz).val
def ZTA:En:=Zi Zxw ZJt (λ_=>none) (λa=>ZQ)
theorem ZQv:Zb Tryz.prog 118 ZTA:=
 pureQ 1 [] [] _ _ trivial Tryz.func118 Tryz.call118 trivial
abbrev ZJu:Rs:=Rs.one (So (R.sl Ka))
def Zd6 (a:List INPT×Int×Int×List Int×PUnit):RT (Option (Go1 (List INPT×Int×Int×List Int×PUnit))):=
 let x1:INPT:=R.get ZcP a.1 a.2.2.1
 let x2:= !x1.1
 let x3:=ZfD x2 0
 let x4:= !x3
 let x5:=x1.2
 let x6:=x5.1
 let x7:=ZfD x6 1
 let x8:= !x7
 let x9:=x5.2
 let x10:=x9.1
 let x11:=ZfD x10 2
 let x12:= !x11
 let x13:=x9.2
 let x14:=x13.1
 let x15:=ZfD x14 3
 let x16:= !x15
 let p2:=x16::x12::x8::x4::[]
 let x17:=x13.2
 let x18:=x17.1
 let x19:=ZfD x18 4
 let x20:= !x19
 let p3:=x20::p2
 let x21:=x17.2
 let x22:=x21.1
 let x23:=ZfD x22 5
 let x24:= !x23
 let p5:=x24::p3
 let x25:=x21.2
 let x26:=x25.1
 let x27:=ZfD x26 6
 let p7:=(!x27)::p5
 let x28:=x25.2
 let x29:=x28.1
 let x30:=orR p7 (ZfD x29 7)
 let x31:= !x30
 let x32:=orR p5 x27
 let x33:= !x32
 let p1:=x33::x31::(decide (a.2.2.1>=65536))::(!Zf a.2.2.1 (Le a.1))::[]
 let x34:=orR p3 x23
 let x35:= !x34
 let p4:=x35::p1
 let x36:=orR p2 x19
 let x37:= !x36
 let p6:=x37::p4
 let x38:=x4||(x8||(x12||x15))
 let x39:= !x38
 let p8:=x39::p6
 let x40:=x4||(x8||x11)
 let x41:= !x40
 let p9:=x41::p8
 let x42:=x4||x7
 let x43:= !x42
 let p10:=x43::p9
 let p11:=x4::p10
 let x44:=orI u8 (orI u8 (orI u8 (orI u8 (orI u8 (orI u8 (orI u8 (wBit x2 0) (wBit x6 1)) (wBit x10 2)) (wBit x14 3)) (wBit x18 4)) (wBit x22 5)) (wBit x26 6)) (wBit x29 7)
 let x45:=x28.2
 let x46:=x45.1
 let x47:=x45.2
 let x48:List Int:=a.2.2.2.1++[x44,x46,x47,ZhT x44 x46 x47]
 .br (decide (a.2.2.1<a.2.1)) (.br (orR p11 (Nat.ble (Le x48) most)) (.br (orR p10 x3) (.br (orR p9 x42) (.br (orR p8 x40) (.br (orR p6 x38) (.br (orR p4 x36) (.br (orR p1 x34) (.br (!Zf a.2.2.1 (Le a.1)||(decide (a.2.2.1>=65536)||(x31||x32))) (.br (!Zf a.2.2.1 (Le a.1)||(decide (a.2.2.1>=65536)||x30)) (.br (Zf a.2.2.1 (Le a.1)) (.br (decide (a.2.2.1>=65536)) (Ls (Go1.brk (a.1,a.2.1,a.2.2.1,a.2.2.2.1,PUnit.unit))) (Ls (Go1.cont (a.1,a.2.1,i64.wrap (a.2.2.1+1),x48,PUnit.unit)))) Ln) Ln) Ln) Ln) Ln) Ln) Ln) Ln) Ln) Ln) (Ls (Go1.brk (a.1,a.2.1,a.2.2.1,a.2.2.2.1,PUnit.unit)))
def Zhf (l:List INPT):RT (Option (List Int)):=
 let x1:=runF false Zd6 (λa=>1000000000000) (l,iN (Le l),0,[],())
 .br (okB x1) (Ls (getO (false,l,iN (Le l),0,[],()) x1).2.2.2.2.1) Ln
def ZmF (l:List INPT):List Int:=getO ZJu.Df (Zhf l).val
def ZDs (l:List INPT):Bool:=okB (Zhf l).val
def ZfC (l:BRDT):RT (Option (Int)):=
 .br (l.1 !=1&&l.1 !=2) (Ls (1)) (.br (smG l.2.1) (.br (ZbO l.2.1 !=0) (Ls (ZbO l.2.1)) (.br (decide (l.2.2.1<0)||(decide (l.2.2.1>100)||smC l.2.2.2.2.2.2)) (.br (decide (l.2.2.1<0)||(decide (l.2.2.1>100)|| !vldB l.2.2.2.2.2.2)) (Ls (1)) (Ls (0))) Ln)) Ln)
def ZbR (l:BRDT):Int:=getO ZUd.Df (ZfC l).val
def ZmD (l:BRDT):Bool:=okB (ZfC l).val
abbrev ZX6:Rs:=Rs.tup [Sh.agg (R.Pq (R.Pq Z8 (R.Pq Kc (R.Pq (R.sl Ka) (R.Pq (RY) (R.Pq Kc R.bool))))) (R.Pq rcCE (R.Pq Zcp (R.Pq (R.Pq Kb (R.Pq Ka Kc)) (R.Pq Kc (R.sl (R.Pq Ka Ka))))))),So Kc]
def ZGN (l:BRDT):RT (Option (SYST×Int)):=
 let x1:TR:=(0,0,0,0,0,0,0,(false,false,false,false,false,false,false),0,0)
 .br (ZmD l) (.br (ZbR l !=0) (Ls (((((0,x1,false,false,false,0,false,false,false,false,false,false,false),0,[],(0,0,0,0),0,false),[],(0,false,false,false,false,0,0,false,false,false,false,false,0,0,0,0,0,0,0,false),(0,0,0),0,[]),ZbR l))) (.br (smC l.2.2.2.2.2.2) (Ls ((((((newX l.1).1.1,x1,false,false,false,(newX l.1).1.2.2.2.2.2.1,false,false,false,false,false,false,false),0,[],(1,0,0,4),1,false),Cells.normX l.2.2.2.2.2.2,(0,false,false,false,false,0,0,false,false,false,false,false,0,0,0,0,7,0,0,false),(0,0,0),0,[]),0))) Ln)) Ln
def wNew (l:BRDT):SYST×Int:=getO ZX6.Df (ZGN l).val
def ZX7 (l:BRDT):Bool:=okB (ZGN l).val
def ZJo (l:BRDT) (x:QT18):RT (Option (Int)):=
 .br (!(decide (x.1>=1)&&decide (x.1<=5))||smG l.2.1) (.br (decide (x.1>=1)&&decide (x.1<=5)) (Ls (ZiD l.2.1 x.2.1)) (.br (x.1==6||x.1==7) (Ls (Zq6 l.2.2.1)) (Ls (0)))) Ln
def ZU0 (l:BRDT) (x:QT18):Int:=getO ZUd.Df (ZJo l x).val
def ZDr (s:SYST):RT (Int):=
 .br (Zp s.1 !=7) (.Lf (0)) (.Lf (i64.wrap (s.2.2.2.2.1+1)))
def ZcH (s:SYST):Int:=(ZDr s).val
def ZJq (l:BRDT) (p:Int):RT (Bool×Bool):=
 .Lf ((bif !l.2.2.2.2.2.1 then bif p==l.2.2.2.1 then p==u8.wrap (l.2.2.2.1+1) else p==u8.wrap (l.2.2.2.1+1) else p==u8.wrap (l.2.2.2.1+1),!l.2.2.2.2.2.1&&(p==l.2.2.2.1||p==u8.wrap (l.2.2.2.1+1))))
def Ze9 (l:BRDT) (p:Int):Bool×Bool:=(ZJq l p).val
def ZJr (l:BRDT) (p:Int):RT (Int×Bool):=
 .Lf ((i64.wrap (u8.wrap (p-l.2.2.2.2.1)),decide (u8.wrap (p-l.2.2.2.2.1)<4)))
def ZiE (l:BRDT) (p:Int):Int×Bool:=(ZJr l p).val
def ZiF (c:CORT) (s:Int) (d:Int):RT TY:=
 let x1:Int:=bif ZaS c.2.2.2.1.1 then d else c.2.2.2.1.2.2.1
 .Lf ((c.2.2.2.1.1,c.2.2.2.1.2.1,bif s==3 then x1 else c.2.2.2.1.2.2.1,bif s==3 then bif c.2.2.2.1.1==1||c.2.2.2.1.1==8 then ZgK c.1.1 x1 else c.2.2.2.1.2.2.2 else c.2.2.2.1.2.2.2))
def Zv (c:CORT) (s:Int) (d:Int):QT18:=(ZiF c s d).val
def ZJp (s:Int):RT (Int):=
 .br (Zd s) (.Lf (3)) (.br (s==5) (.Lf (2)) (.Lf (1)))
def Zgh (s:Int):Int:=(ZJp s).val
def ZX5 (e:EVTT) (c:TC) (l:LINT):RT EVTT:=
 .Lf ((e.1,e.2.1,e.2.2.1,l,c.2.2.2.2.2.2.2.1,c.2.2.2.2.2.2.1,c.2.2.2.2.2.2.2.2.2.1,c.2.2.2.2.2.2.2.2.1,e.2.2.2.2.2.2.2.2))
def Ze1 (e:EVTT) (c:TC) (l:LINT):EVTT:=(ZX5 e c l).val
