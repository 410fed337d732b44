import Derived.Test.YtpnjbfjomebppaaGreatMemD
import Derived.RangeFuncNested
import Derived.RangeFuncLeaves
import Derived.Shelf.Abstract
import Derived.OwnWalkIn
import Derived.TacticsInMore
import Derived.LoopNIn
import Derived.LoopIn
import Derived.Test.YtpnjbfjomebppaaGreatS3Clo
import Derived.Test.YtpnjbfjomebppaaGreatMakeOk5
import Derived.Test.YtpnjbfjomebppaaGreatPicL
open Go.Proofs.Tryz (prog)
set_option linter.unusedVariables false
set_option linter.unusedSimpArgs false
namespace Go.Proofs.YtpnjbfjomebppaaGreat
open Go Go.S3 Go.Proofs Go.Proofs.Cells Go.RowKit Go.Shelf
attribute [local go_sem] Oper.semAt_some
noncomputable section
def bwL (l:List Cell) (k:Nat):List (Nat×Cell):=(List.range k).map λj=>(l.length-1-j,el l (l.length-1-j))
theorem ZEZ (l:List Cell) (k:Nat):bwL l (k+1)=bwL l k++[(l.length-1-k,el l (l.length-1-k))]:=by simp[bwL,List.range_succ]
theorem ZVD (l:List Cell) (k:Nat):(bwL l k).length=k:=by simp[bwL]
theorem ZE0 (l:List Cell) (m:Nat) (h:m+1<=l.length):bwL l (l.length-m)=bwL l (l.length-(m+1))++[(m,el l m)]:=by
 have e:l.length-m=(l.length-(m+1))+1:=by omega
 have e2:l.length-1-(l.length-(m+1))=m:=by omega
 rw[e,ZEZ,e2]
abbrev ZBS (x:Nat×Cell):Array Value:= #[.int .i64 (x.1:Int),.agg #[.int .u16 x.2.1,.int .u8 x.2.2]]
set_option maxRecDepth 100000 in
set_option maxHeartbeats 2000000 in
theorem ZRn (F:Fence) (n:Nat) (h8:F.fn 382) (hro:F.round=none) (hn:1<=n) (y Bs n₀ b off cap:Nat) (l:List Cell) (hreach:l.length<=1073741824) (hb:b<n₀) (hB:Bs<n₀) (J Jx:List (Nat×Cell)->World->Prop)
  (hY:∀pre x W,J pre W->pre.length<l.length->YieldAt F (n-1) prog y (ZBS x) W λe W'=>
   (e=.returned (.bool true)/\J (pre++[x]) W'/\Below n₀ W W')\/(e=.returned (.bool false)/\Jx (pre++[x]) W'))
  (W:World) (hBs:W.cell? ⟨Bs,0,none⟩=some (.slice (some ⟨b,off,none⟩) l.length cap))
  (hc:∀j,j<l.length->W.cell? ⟨b,off+j*2,none⟩=some (.int .u16 (el l j).1)/\W.cell? ⟨b,off+j*2+1,none⟩=some (.int .u8 (el l j).2)) (h0:J [] W):
  CallsIn F n prog 382 #[.func (.yield y) #[] #[],.pointer (some ⟨Bs,0,none⟩)] W λe W'=>(∃v,e=.returned v)/\
   ((∃ys,ys=bwL l l.length/\J ys W')\/(∃pre,(∃k,k<=l.length/\pre=bwL l k)/\Jx pre W')):=by
 refine callsIn_of_wp Tryz.func382 rfl h8 ?_ hro;simp only[Tryz.ntmps382,Yae,List.length_cons,List.length_nil,Nat.reduceAdd,Nat.reduceSub,Array.replicate_succ,Array.replicate_zero,List.push_toArray,List.append_toArray,List.nil_append,List.cons_append];gi_wp2
 gi_loopw [3] (λi wr=>∃m:Nat,m<=l.length/\i=.int .i64 ((m:Int)-1)/\J (bwL l (l.length-m)) wr/\Below n₀ W wr)
  (λi _=>(intOf i+1).toNat)
 case atStart=>exact⟨l.length,Yd _,rfl,by simpa [bwL] using h0,Below.refl _ _⟩
 case round=>
  obtain⟨m,hm,rfl,hJs,hnx⟩:=hrel;have hbx:wr.cell? ⟨Bs,0,none⟩=some (.slice (some ⟨b,off,none⟩) l.length cap):=(hnx.cell (p:=⟨Bs,0,none⟩) hB).trans hBs;cases m with
  |zero=>
   gi_wp2
   go_end0
   exact⟨⟨_,rfl⟩,.inl ⟨_,rfl,by simpa using hJs⟩⟩
  |succ m=>
   have e1:((m+1:Nat):Int)-1=(m:Int):=by omega
   rw[e1];have hlt:m<l.length:=by omega
   obtain⟨q1,q2⟩:=hc m hlt;have hcx1:wr.cell? ⟨b,off+m*2,none⟩=some (.int .u16 (el l m).1):=(hnx.cell (p:=⟨b,off+m*2,none⟩) hb).trans q1;have hcx2:wr.cell? ⟨b,off+m*2+1,none⟩=some (.int .u8 (el l m).2):=(hnx.cell (p:=⟨b,off+m*2+1,none⟩) hb).trans q2;obtain⟨fn,tmps,assign,body,hy,hR⟩:=hY _ (m,el l m) wr hJs (by rw[ZVD];omega);dsimp only[ZBS] at hy;clear hc hBs q1 q2;gi_wp2
   refine hR.mono ?_;rintro e W3 (⟨rfl,hJ3,hk3⟩|⟨rfl,hJx3⟩)
   ·gi_wp2
    go_roundw
    case rel=>exact⟨m,by omega,rfl,by rw[ZE0 l m hlt];exact hJ3,hnx.trans hk3⟩
    case measure=>simp[intOf]
   ·gi_wp2
    refine bodyPost_ret (results_none rfl _ _ _) rfl ?_;exact⟨⟨_,rfl⟩,.inr ⟨_,⟨l.length-m,by omega,(ZE0 l m hlt).symm⟩,hJx3⟩⟩
set_option maxRecDepth 100000 in
set_option maxHeartbeats 1000000 in
theorem Zxq (F:Fence) (n:Nat) (h8:F.fn 382) (hro:F.round=none) (y Bs cap:Nat) (a:Option Addr) (J:List (Nat×Cell)->World->Prop) (W:World) (hBs:W.cell? ⟨Bs,0,none⟩=some (.slice a 0 cap)) (h0:J [] W):
  CallsIn F n prog 382 #[.func (.yield y) #[] #[],.pointer (some ⟨Bs,0,none⟩)] W λe W'=>(∃v,e=.returned v)/\J [] W':=by
 refine callsIn_of_wp Tryz.func382 rfl h8 ?_ hro;simp only[Tryz.ntmps382,Yae,List.length_cons,List.length_nil,Nat.reduceAdd,Nat.reduceSub,Array.replicate_succ,Array.replicate_zero,List.push_toArray,List.append_toArray,List.nil_append,List.cons_append];gi_wp2
 gi_loopw [3] (λi wr=>i=.int .i64 (-1)/\J [] wr) (λ_ _=>0)
 case atStart=>exact⟨rfl,h0⟩
 case round=>
  obtain⟨rfl,hJs⟩:=hrel;gi_wp2
  go_end0
  exact⟨⟨_,rfl⟩,hJs⟩
set_option maxHeartbeats 1000000 in
theorem ZVH (F:Fence) (n:Nat) (h6:F.fn 345) (hro:F.round=none) (a:Option Addr) (len cap:Nat) (w:World):
  CallsIn F n prog 345 #[.slice a len cap] w λe w'=>e=.returned (.func (.func 382) #[] #[.pointer (some ⟨w.heap.size,0,none⟩)])/\w'=w.alloc (.cells #[.slice a len cap] 26):=by
 refine callsIn_of_wp Tryz.func345 rfl h6 ?_ hro;simp only[Tryz.ntmps345,Yae,List.length_cons,List.length_nil,Nat.reduceAdd,Nat.reduceSub,Array.replicate_succ,Array.replicate_zero,List.push_toArray,List.append_toArray,List.nil_append,List.cons_append];gi_wp2
 go_ret
 exact⟨rfl,rfl⟩
def Held (n₀:Nat) (W:World) (sv:Value) (l:List Cell):Prop:=
 (∃a cap,sv=.slice a 0 cap/\l=[])\/∃b off cap,sv=.slice (some ⟨b,off,none⟩) l.length cap/\b<n₀/\
  ∀j,j<l.length->W.cell? ⟨b,off+j*2,none⟩=some (.int .u16 (el l j).1)/\W.cell? ⟨b,off+j*2+1,none⟩=some (.int .u8 (el l j).2)
variable {n₀:Nat} {sv:Value} {l:List Cell}
theorem Held.below {A B:World} (h:Below n₀ A B):Held n₀ A sv l->Held n₀ B sv l
 | .inl e=>.inl e
 | .inr ⟨b,off,cap,e,hb,hc⟩=>.inr ⟨b,off,cap,e,hb,λj hj=>⟨(h.cell (p:=⟨b,off+j*2,none⟩) hb).trans (hc j hj).1,(h.cell (p:=⟨b,off+j*2+1,none⟩) hb).trans (hc j hj).2⟩⟩
theorem Held.mono {n₁:Nat} {W:World} (h:Held n₀ W sv l) (hn:n₀<=n₁):Held n₁ W sv l:=
 h.elim .inl λ⟨b,off,cap,e,hb,hc⟩=>.inr ⟨b,off,cap,e,by omega,hc⟩
theorem ZHH (F:Fence) (n:Nat) (h8:F.fn 382) (hro:F.round=none) (hn:1<=n) (Bs n₀:Nat) (sv:Value) (l:List Cell) (hreach:l.length<=1073741824) (w:World) (hBs:Bs<n₀) (hn₀:n₀<=w.heap.size)
  (hc:w.cell? ⟨Bs,0,none⟩=some sv) (hI:Held n₀ w sv l):
  SeqStopsK F n prog 382 #[.pointer (some ⟨Bs,0,none⟩)] ZBS (Below n₀) (λys=>ys=bwL l l.length)
   (λpre=>∃k,k<=l.length/\pre=bwL l k) l.length w:=λy J Jx W hW _ _ hY h0=>by
 have hc':=(hW.cell (p:=⟨Bs,0,none⟩) (by show Bs<_;omega)).trans hc;rcases hI.below (hW.mono hn₀) with ⟨a,cap,rfl,rfl⟩|⟨b,off,cap,rfl,hb,hcs⟩
 ·exact (Zxq F n h8 hro y Bs cap a J W hc' h0).mono λe W' ⟨he,hj⟩=>⟨he,.inl ⟨_,rfl,hj⟩⟩
 ·exact ZRn F n h8 hro hn y Bs n₀ b off cap l hreach hb hBs J Jx hY W hc' hcs h0
end
end Go.Proofs.YtpnjbfjomebppaaGreat
open Go.IntKind (u8 u16 i64)
namespace Go.Proofs.YtpnjbfjomebppaaGreat
open Go Go.S3 Go.Proofs Go.Proofs.Cells Go.RowKit Go.Shelf
attribute [local go_sem] Oper.semAt_some
noncomputable section
set_option maxRecDepth 100000 in
set_option maxHeartbeats 2000000 in
theorem ZXj (F:Fence) (n:Nat) (h4:F.fn 270) (h6:F.fn 345) (h8:F.fn 382) (hro:F.round=none) (hn:3<=n) (a:Option Addr) (len cap:Nat) (l:List Cell) (t:Int) (hreach:l.length<=1073741824)
  (w:World) (hI:Held w.heap.size w (.slice a len cap) l):
  CallsIn F n Tryz.prog 270 #[.slice a len cap,.int .u16 t] w λe W'=>e=.returned (.int .u8 (getX l t))/\Below w.heap.size w W':=by
 have h1:1<=n:=by omega
 refine callsIn_of_wp_marks Tryz.func270 rfl h4 ?_ hro;simp only[Tryz.ntmps270,Yae,List.length_cons,List.length_nil,Nat.reduceAdd,Nat.reduceSub,Array.replicate_succ,Array.replicate_zero,List.push_toArray,List.append_toArray,List.nil_append,List.cons_append]
 gi_wp2_with (gi_at_call 345;refine (ZVH F (n-1) h6 hro _ _ _ _).mono ?_;rintro e w' ⟨rfl,rfl⟩)
 have bT:=Boxed.new w 34 (.int .u16 t);have bR:=Boxed.new (w.alloc (.cells #[.int .u16 t] 34)) 5 (.int .u8 0);have bN:=Boxed.new ((w.alloc (.cells #[.int .u16 t] 34)).alloc (.cells #[.int .u8 0] 5)) 26 (.slice a len cap);rw[World.size_alloc] at bR bN;rw[World.size_alloc] at bN;have hB0:Below w.heap.size w (((w.alloc (.cells #[.int .u16 t] 34)).alloc (.cells #[.int .u8 0] 5)).alloc (.cells #[.slice a len cap] 26)):=(((Below.refl _ w).alloc (Yd _) _).alloc (by simp) _).alloc (by simp;omega) _;refine wpIn_rangeFunc_ownH hro h1 (gf:=382) (lb:= #[.pointer (some ⟨w.heap.size+2,0,none⟩)]) rfl h8 (enters_of Tryz.func382 (by kernel_rfl) rfl)
  (ZHH F (n-1) h8 hro (by omega) (w.heap.size+2) (w.heap.size+3) _ l hreach _ (by omega) (by simp) bN.cell ?held) belowK_t (belowK_b (by simp)) (Below.refl _ _) (λ_=>rfl)
  (λpre W=>((∀p∈pre,p.2.1≠t)/\W.cell? ⟨w.heap.size,0,none⟩=some (.int .u16 t)/\W.cell? ⟨w.heap.size+1,0,none⟩=some (.int .u8 0)/\W.frozen? ⟨w.heap.size+1,0,none⟩=false/\w.heap.size+3<=W.heap.size)/\Below w.heap.size w W)
  (λc pre W=>(c=.ret/\∃ini last,pre=ini++[last]/\(∀p∈ini,p.2.1≠t)/\last.2.1=t/\W.cell? ⟨w.heap.size+1,0,none⟩=some (.int .u8 last.2.2))/\Below w.heap.size w W)
  (OwnFrom.and (Own.from (λs A B row hs hg hr=>⟨hs.1,cell_kept hs.2.1 hg hr,cell_kept hs.2.2.1 hg hr,(frozen_kept hs.2.2.1 hg hr).trans hs.2.2.2.1,YX hs.2.2.2.2 hg.size⟩) _) (ownFrom_below (Yd _) (by simp;omega)))
  (λc=>OwnFrom.and (Own.from (λs A B row hs hg hr=>by obtain⟨hc,ini,last,e1,e2,e3,e4⟩:=hs;exact⟨hc,ini,last,e1,e2,e3,cell_kept e4 hg hr⟩) _) (ownFrom_below (Yd _) (by simp;omega)))
  ⟨⟨by simp,((bT.alloc _).alloc _).cell,(bR.alloc _).cell,(bR.alloc _).frozen,by simp⟩,hB0⟩
  (λx a' W=>∃B,W.cell? ⟨B,0,none⟩=some (.int .u16 x.2.1)/\W.cell? ⟨B,1,none⟩=some (.int .u8 x.2.2)/\
   a'={tmps:= #[.slice a len cap,.int .u16 t,undef,.pointer (some ⟨w.heap.size,0,none⟩),.pointer (some ⟨w.heap.size+1,0,none⟩),undef,.pointer (some ⟨B,0,none⟩),.slice a len cap,.func (.func 382) #[] #[.pointer (some ⟨w.heap.size+2,0,none⟩)],.int .i64 (x.1:Int),.agg #[.int .u16 x.2.1,.int .u8 x.2.2],undef,undef,undef,undef,undef,undef],defers:=[]})
  (λx a'=>Own.from (λs A B row hs hg hr=>by obtain⟨b,e2,e3,e4⟩:=hs;exact⟨b,cell_kept e2 hg hr,cell_kept e3 hg hr,e4⟩) _)
  ?assign ?body ?done ?stop
 case held=>exact (hI.below hB0).mono (by omega)
 case assign=>
  rintro y pre x W K ⟨⟨hp,hct,hcr,hfr,hsz⟩,hB⟩ hK;gi_wp2
  have hn1:∀o:Obj,(W.alloc o).heap[W.heap.size]? =some o:=λo=>World.alloc_heap_new W o
  refine hK _ _ ((KeepsOthers.alloc W _).from _) ((Below.refl _ W).alloc hsz _) ⟨⟨hp,?_,?_,?_,by simp;omega⟩,hB.alloc (by omega) _⟩ ⟨W.heap.size,?_,?_,rfl⟩
  ·exact cell_kept hct (World.grownBy_alloc W _ none) (λr e=>by cases e)
  ·exact cell_kept hcr (World.grownBy_alloc W _ none) (λr e=>by cases e)
  ·exact (frozen_kept hcr (World.grownBy_alloc W _ none) (λr e=>by cases e)).trans hfr
  ·simp only[World.cell?];rw[hn1];rfl
  ·simp only[World.cell?];rw[hn1];rfl
 case body=>
  rintro y pre x a' W hy hl ⟨⟨hp,hct,hcr,hfr,hsz⟩,hB⟩ ⟨B,hB2,hB3,rfl⟩ _;gi_wp2
  ·have hx:x.2.1=t:=by simpa using (by assumption:(x.2.1==t)=true)
   exact⟨(KeepsOthers.setCell _ _ _).from _,⟨rfl,pre,x,rfl,hp,hx,World.cell?_setCell_same' _ _ _ (by rw[hcr];rfl)⟩,hB.setCell (p:=⟨w.heap.size+1,0,none⟩) (by simp) _⟩
  ·have hx:x.2.1≠t:=by simpa using (by assumption:(x.2.1==t)=false)
   exact⟨KeepsFrom.refl _ _,Below.refl _ _,⟨λp hp'=>(Yam.1 hp').elim (hp p) (λe=>by simp at e;subst e;exact hx),hct,hcr,hfr,hsz⟩,hB⟩
 case done=>
  rintro D ys W hD rfl ⟨⟨hne,hct,hcr,hfr,hsz⟩,hB⟩ hK;gi_wp2
  have hK':=(KeepsOthers.setCell W ⟨w.heap.size+1,0,none⟩ (.int .u8 0)).same D _ hK rfl;refine⟨by simp,.inl ⟨_,_,rfl,run_takeDeferred hK',?_⟩⟩;have hc5:=cell_kept (World.cell?_setCell_same' W ⟨w.heap.size+1,0,none⟩ (.int .u8 0) (by rw[hcr];rfl)) (grownBy_putObj' _ D (.deferred none)) (λr e=>by cases e;exact⟨_,hK',rfl⟩);have h0:getX l t=0:=ZkW λc hc=>by obtain⟨i,hi,rfl⟩:=YaC.1 hc;have e1:=Zct l i hi;rw[Yi hi,oinj] at e1;rw[e1];refine hne (i,el l i) ?_;simp only[bwL,List.mem_map,Yaz];exact⟨l.length-1-i,by omega,by rw[show l.length-1-(l.length-1-i)=i by omega]⟩
  refine⟨.int .u8 0,?_,by rw[h0],(hB.setCell (p:=⟨w.heap.size+1,0,none⟩) (by simp) _).trans (belowK_b (w:=w) (Yd _) _ D _ _ (by simp at hD;omega) hK' rfl rfl)⟩;simp[results,Tryz.f270,go_sem,hc5]
 case stop=>
  rintro D c pre W hD ⟨k,hk,rfl⟩ ⟨⟨rfl,ini,last,e1,e2,e3,hcr⟩,hB⟩ hK;gi_wp2
  refine⟨by simp,.inl ⟨_,_,rfl,run_takeDeferred hK,?_⟩⟩;have hc5:=cell_kept hcr (grownBy_putObj' _ D (.deferred none)) (λr e=>by cases e;exact⟨_,hK,rfl⟩);obtain⟨k',rfl⟩:∃k',k=k'+1:=by
   cases k with
   |zero=>simp[bwL] at e1
   |succ k'=>exact⟨k',rfl⟩
  rw[ZEZ] at e1;obtain⟨rfl,e5⟩:=List.append_inj' e1 rfl;simp only[List.cons.injEq,and_true] at e5;subst e5;have hg:getX l t=(el l (l.length-1-k')).2:=ZVn (i:=l.length-1-k') (by omega) e3 λq h1 h2=>by refine e2 (q,el l q) ?_;simp only[bwL,List.mem_map,Yaz];exact⟨l.length-1-q,by omega,by rw[show l.length-1-(l.length-1-q)=q by omega]⟩
  refine⟨.int .u8 (el l (l.length-1-k')).2,?_,by rw[hg],hB.trans (belowK_b (w:=w) (Yd _) W D _ _ (by simp at hD;omega) hK rfl rfl)⟩;simp[results,Tryz.f270,go_sem,hc5]
def ZW6:List Sh:=[.one (.sl (R.Pq (R.int u16) (R.int u8))),.one (.int u16)]
def ZW7:Rs:=.one (.one (R.int u8))
def ZW8:En:=Zg ZW6 ZW7 (λa=>some (Nat.ble (List.length (α:=Cell) a.1) most)) (λa=>getX a.1 a.2)
theorem ZVm (l:List Cell) (h:∀c∈l,inR .u8 c.2) (t:Int):inR .u8 (getX l t):=by
 by_cases hx:∃c∈l,c.1=t
 ·have hne:flt t l≠[]:=by
   obtain⟨c,hc,he⟩:=hx;intro h0;have:c∈flt t l:=by simp[flt,hc,he]
   rw[h0] at this;simp at this
  rw[getX];cases hq:(flt t l).getLast? with
  |none=>exact absurd (List.getLast?_eq_none_iff.1 hq) hne
  |some c=>
   have:=List.mem_of_getLast? hq;simp only[flt,List.mem_filter] at this;exact h c this.1
 ·rw[ZkW λc hc e=>hx ⟨c,hc,e⟩];exact⟨by decide,by decide⟩
theorem ZU6:Za Tryz.prog 270 ZW8:=by
 refine⟨Tryz.call270,λvs chk v hp hc x m w args hm hv=> ?_⟩;simp only at hp;split at hp
 ·rename_i a ha;simp only[oinj,pinj] at hp;obtain⟨rfl,rfl⟩:=hp;obtain⟨hargs,hin⟩:=Zbx ha hv;obtain⟨l,t⟩:=a;have hle:List.length (α:=Cell) l<=most:=by
   cases hb:Nat.ble (List.length (α:=Cell) l) most with
   |true=>simpa [YF] using hb
   |false=>rw[hb] at hc;exact absurd rfl hc
  have hmost:most<=1073741824:=by decide
  match args,hargs with
  |[v0,v1],hargs=>
   have hv0:RA x (.lst (R.Pq (R.int u16) (R.int u8)) false false false l) v0:=hargs.1;have hv1:RA x (.int false .u16 t) v1:=hargs.2.1;have hl8:∀c∈(l:List Cell),inR .u8 c.2:=λc hc=>((hin.1:rcCE.ok l).2 c hc).2
   cases hv1;obtain⟨aa,len,cap,rfl,hheld⟩:∃aa len cap,v0=.slice aa len cap/\Held w.heap.size w (.slice aa len cap) l:=by
    cases hv0 with
    |lst0 _ _ _ _ _ _ a cap h1 h2 h3 _=>exact⟨a,0,cap,rfl,.inl ⟨a,cap,rfl,h1⟩⟩
    |lst _ _ _ _ _ _ p o cap c h0 hf hcap hml hz hr=>
     refine⟨_,_,cap,rfl,.inr ⟨p,o,cap,rfl,?_,λj hj=> ?_⟩⟩
     ·have hpos:0<List.length (α:=Cell) l:=List.length_pos_iff.2 h0;exact hm.fz_lt (hz 0 0 _ hpos rfl)
     ·have q1:=hm.fz _ _ _ (hz j 0 _ hj rfl);have q2:=hm.fz _ _ _ (hz j 1 _ hj rfl);have r1:=hr j 0 _ hj rfl;have r2:=hr j 1 _ hj rfl;generalize c j 0=c0 at q1 r1;generalize c j 1=c1 at q2 r2;cases r1;cases r2;exact⟨q1,q2⟩
   have key:=ZXj {fn:=λ_=>True} 3 trivial trivial trivial rfl (Yd _) aa len cap l t (by omega) w hheld;refine (key.calls (λk d hd=>by simp at hd)).mono ?_;rintro e w' ⟨rfl,hb⟩;have hs:Zdd w w':=⟨⟨hb.size,λk hk=>hb.block k hk⟩,hb.os,hb.tape,hb.output⟩;exact⟨_,x,rfl,.int _ _ _ _ (ZVm l hl8 t),hm.old hs.1,.refl x,hs⟩
  |[],hargs=>exact hargs.elim
  |[_],hargs=>exact hargs.2.elim
  |_::_::_::_,hargs=>exact hargs.2.2.elim
 ·simp at hp
end
end Go.Proofs.YtpnjbfjomebppaaGreat
open Go Go.S3 Go.Proofs
set_option maxRecDepth 100000
namespace Go.Proofs.YtpnjbfjomebppaaGreat
noncomputable section
abbrev ZV0:List Sh:=[Sh.agg (R.Pq (R.int u16) (R.int u8)),Sh.one (R.int u16)]
abbrev ZV1:Rs:=Rs.one (Sh.one (R.int i64))
def uAtT (c:Int×Int) (t:Int):RT (Int):=
 .Lf (uCmp c.1 t)
def uAt (c:Int×Int) (t:Int):Int:=(uAtT c t).val
def uAtE:En:=Zg ZV0 ZV1 (λ_=>none) (λa=>uAt a.1 a.2)
theorem ZIy:Za prog 277 uAtE:=
 pureQ 31 [(161,ZTt)] [] ZV0 ZV1 ⟨ZIv,Tv⟩ Tryz.func277 Tryz.call277 trivial (t:=λa=>uAtT a.1 a.2)
abbrev ZIu:List Sh:=[Sh.one rcCE,Sh.one (R.int u16)]
abbrev ZxG:Rs:=Rs.tup [Sh.one (R.int i64),Sh.one R.bool]
def ZOP:LS:={n:=49,Sl:=[(0,.code (Sh.one rcCE)),(1,.code (Sh.one (R.int u16))),(2,.fix (A.clo 277 [])),(8,.code (Sh.one (R.int i64))),(9,.code (Sh.one (R.int i64))),(10,.code (Sh.one (R.int i64)))],Bx:=[],Sg:=[]}
def Zgo (a:List (Int×Int)×Int×Int×Int×Int×PUnit):RT (Option (Go1 (List (Int×Int)×Int×Int×Int×Int×PUnit))):=
 let x1:=i64.wrap (shrI IntKind.u64 (IntKind.u64.wrap (i64.wrap (a.2.2.2.1+a.2.2.2.2.1))) 1)
 let x2:=decide (uAt (R.get (R.Pq (R.int u16) (R.int u8)) a.1 x1) a.2.1<0)
 .br (decide (a.2.2.2.1<a.2.2.2.2.1)) (.br (Zf x1 (List.length a.1)) (.Lf (some (Go1.cont (a.1,a.2.1,a.2.2.1,bif x2 then i64.wrap (x1+1) else a.2.2.2.1,bif x2 then a.2.2.2.2.1 else x1,PUnit.unit)))) (.Lf none)) (.Lf (some (Go1.brk (a.1,a.2.1,a.2.2.1,a.2.2.2.1,a.2.2.2.2.1,PUnit.unit))))
def ZCm:Ora:=Zbo false ZOP Zgo (λa=>(a.2.2.2.2.1-a.2.2.2.1).toNat+1)
theorem ZFe:Za3 (envX prog [(277,uAtE)] [] 4095 8) (.block 0 (.loop (Z2 Tryz.f276.body 0))) ZCm:=
 loopP ⟨ZIy,Tv⟩
def Zpr (x:List (Int×Int)) (t:Int):RT (Option (Int×Bool)):=
 let x1:List (Int×Int)×Int×Int×Int×Int×PUnit:=(x,t,iN (List.length x),0,iN (List.length x),())
 let x2:=runF false Zgo (λa=>Int.toNat (a.2.2.2.2.1-a.2.2.2.1)+1) x1
 let x3:List (Int×Int)×Int×Int×Int×Int×PUnit:=(getO (false,x1) x2).2
 let x4:=x3.2
 let x5:=x4.2
 let x6:=x5.2.1
 let x7:=decide (x6<x5.1)
 let x8:=x3.1
 .br (okB x2) (.br (!x7||Zf x6 (List.length x8)) (.Lf (some ((bif x7 then x6 else x6,x7&&uAt (R.get (R.Pq (R.int u16) (R.int u8)) x8 x6) x4.1==0)))) (.Lf none)) (.Lf none)
def ZdG (x:List (Int×Int)) (t:Int):Int×Bool:=getO ZxG.Df (Zpr x t).val
def ZCn (x:List (Int×Int)) (t:Int):Bool:=okB (Zpr x t).val
def ZRy:En:=ZKe 277 ZIu ZxG (λa=>some (ZCn a.1 a.2)) (λa=>ZdG a.1 a.2)
theorem ZOO:Za prog 276 ZRy:=
 ZFL (P:=prog) (n:=4095) (k:=8) (l:=[(277,uAtE)]) (ol:=[(0,ZCm)]) ⟨ZIy,Tv⟩ Tryz.func276 rfl (by kernel_rfl) Tryz.call276 ⟨ZFe,Tv⟩ (g0:=277) (ts:=ZIu) (rs:=ZxG) (t:=λa=>Zpr a.1 a.2) (λa=>by kernel_rfl)
abbrev ZSC:List Sh:=[Sh.one rcCE,Sh.one (R.int u16),Sh.one (R.int u8)]
abbrev ZNa:Rs:=Rs.one (Sh.one rcCE)
def ZHj (m:List (Int×Int)) (t:Int) (v:Int):RT (Option (List (Int×Int))):=
 let x1:= !(v==0&& !(ZdG m t).2)||Nat.ble (List.length m) most
 let x2:= !x1
 let x3:=v==0&& !(ZdG m t).2||(!v==0||(!Nat.ble (List.length m) most||decide (0<=(ZdG m t).1)&&decide ((ZdG m t).1<iN (List.length m))&&decide (i64.wrap ((ZdG m t).1+1)=(ZdG m t).1+1)))
 let x4:= !x3
 let x5:=v==0&& !(ZdG m t).2||(!v==0||Nat.ble (List.length m) most)
 let x6:= !x5
 let x7:=v==0&& !(ZdG m t).2||(v==0||(!(ZdG m t).2||Nat.ble (List.length m) most))
 .br (ZtP m) (.br (!!Zod m||(!Nat.ble (List.length m) most||(!Nat.ble (List.length (m++[(t,v)])) most||ZwM (m++[(t,v)])))) (.br (!!Zod m||(!Nat.ble (List.length m) most||Nat.ble (List.length (m++[(t,v)])) most)) (.br (!!Zod m||Nat.ble (List.length m) most) (.br (!Zod m) (.Lf (some (ZNd (m++[(t,v)])))) (.br (ZCn m t) (.br (x2||(x4||(x6||(!x7||(v==0&& !(ZdG m t).2||(v==0||(!(ZdG m t).2||Zf (ZdG m t).1 (List.length m)))))))) (.br (x2||(x4||(x6||x7))) (.br (x2||(x4||x5)) (.br (x2||x3) (.br (x1) (.br (v==0&& !(ZdG m t).2) (.Lf (some (m))) (.br (v==0) (.Lf (some (delX m (Int.toNat (ZdG m t).1)))) (.br (ZdG m t).2 (.Lf (some (setI m (ZdG m t).1 ((R.get (R.Pq (R.int u16) (R.int u8)) m (ZdG m t).1).1,v)))) (.br (!Nat.ble (List.length m) most||decide (0<=(ZdG m t).1)&&decide ((ZdG m t).1<=iN (List.length m))&&Nat.ble (List.length m+1) most) (.br (Nat.ble (List.length m) most) (.Lf (some (insX m (Int.toNat (ZdG m t).1) (t,v)))) (.Lf none)) (.Lf none))))) (.Lf none)) (.Lf none)) (.Lf none)) (.Lf none)) (.Lf none)) (.Lf none))) (.Lf none)) (.Lf none)) (.Lf none)) (.Lf none)
def mPut (m:List (Int×Int)) (t:Int) (v:Int):List (Int×Int):=getO ZNa.Df (ZHj m t v).val
def ZQD (m:List (Int×Int)) (t:Int) (v:Int):Bool:=okB (ZHj m t v).val
def ZW5:En:=Zg ZSC ZNa (λa=>some (ZQD a.1 a.2.1 a.2.2)) (λa=>mPut a.1 a.2.1 a.2.2)
theorem ZU4:Za prog 210 ZW5:=
 Zmr (P:=prog) (n:=35253225784319) (k:=108) (l:=[(90,ZNc),(98,Zug),(103,ZM8),(276,ZRy),(277,uAtE),(278,delE),(279,insE)]) (ol:=[]) ⟨ZEw,ZoT,ZwG,ZOO,ZIy,ZXo,ZXh,Tv⟩ Tryz.func210 rfl (by kernel_rfl) Tryz.call210 trivial (ts:=ZSC) (rs:=ZNa) (t:=λa=>ZHj a.1 a.2.1 a.2.2) (λa=>by kernel_rfl)
end
end Go.Proofs.YtpnjbfjomebppaaGreat
open Go Go.S3 Go.Proofs Go.Proofs.Cells
namespace Go.Proofs.YtpnjbfjomebppaaGreat
noncomputable section
theorem ZIw (x y:Int):decide (uCmp x y<0)=decide (x<y):=by
 simp only[uCmp,ZIx,RT.val,bne_self_eq_false,Ye];by_cases h:x<y
 ·simp[h]
 ·by_cases h2:x>y<;>simp[h,h2]
theorem ZTs (x y:Int):(uCmp x y==0)=(x==y):=by
 simp only[uCmp,ZIx,RT.val,bne_self_eq_false,Ye];by_cases h:x<y
 ·have:x≠y:=by omega
  simp[h,this]
 ·by_cases h2:x>y
  ·have:x≠y:=by omega
   simp[h,h2,this]
  ·have:x=y:=by omega
   simp[h,h2,this]
theorem ZIz (c:Cell) (t:Int):uAt c t=uCmp c.1 t:=rfl
def At (m:List Cell) (t:Int) (i:Nat):Prop:=i<=m.length/\(∀k,k<i->(el m k).1<t)/\∀k,i<=k->k<m.length->t<=(el m k).1
theorem ZH4 (m:List Cell) (t:Int) (hv:Vld m) (hm:m.length<=most):ZCn m t=true/\∃i,At m t i/\ZdG m t=((i:Int),decide (i<m.length)&&((el m i).1==t)):=by
 have hms:=mst;obtain⟨r,hr,h1,i,hi,hR⟩:=ZO (fl:=false) (t:=Zgo) (fuel:=λa=>Int.toNat (a.2.2.2.2.1-a.2.2.2.1)+1)
  (λa=>∃lo hi:Nat,lo<=hi/\hi<=m.length/\(∀k,k<lo->(el m k).1<t)/\(∀k,hi<=k->k<m.length->t<=(el m k).1)/\a=(m,t,(m.length:Int),(lo:Int),(hi:Int),()))
  (λa=>Int.toNat (a.2.2.2.2.1-a.2.2.2.1)) (λr=>r.1=false/\∃i:Nat,At m t i/\r.2=(m,t,(m.length:Int),(i:Int),(i:Int),()))
  (by
   rintro a ⟨lo,hi,h1,h2,h3,h4,rfl⟩;by_cases hlt:lo<hi
   ·left;have d:decide ((lo:Int)<(hi:Int))=true:=by simpa using hlt
    have hmid:=Zoz lo hi (by omega);obtain⟨M,hM⟩:∃M,M=(lo+hi)/2:=⟨_,rfl⟩;rw[<-hM] at hmid;have r1:=Zaq m M (by omega);have g:=Zcs m M;have w:=ZgN M (by omega);by_cases hc:(el m M).1<t
    ·have dc:decide (uAt (el m M) t<0)=true:=by rw[ZIz,ZIw];simpa using hc
     refine⟨(m,t,(m.length:Int),((M+1:Nat):Int),(hi:Int),()),?_,⟨M+1,hi,by omega,h2,λk hk=> ?_,h4,rfl⟩,by simp only;omega⟩
     ·simp only[Zgo,RT.val,d,hmid,r1,g,dc,w,Yb]
     ·by_cases e:k=M
      ·subst e;exact hc
      ·by_cases e2:k<lo
       ·exact h3 k e2
       ·have:=Yav.1 hv.1 k M (by omega) (by omega) (by omega);have e1:=Zct m k (by omega);have e3:=Zct m M (by omega);rw[Yi (by omega),oinj] at e1 e3;rw[e1,e3] at this;omega
    ·have dc:decide (uAt (el m M) t<0)=false:=by rw[ZIz,ZIw];simpa using hc
     refine⟨(m,t,(m.length:Int),(lo:Int),(M:Int),()),?_,⟨lo,M,by omega,by omega,h3,λk hk hk2=> ?_,rfl⟩,by simp only;omega⟩
     ·simp only[Zgo,RT.val,d,hmid,r1,g,dc,Yb,Ye]
     ·by_cases e:k=M
      ·subst e;omega
      ·have:=Yav.1 hv.1 M k (by omega) (by omega) (by omega);have e1:=Zct m k (by omega);have e3:=Zct m M (by omega);rw[Yi (by omega),oinj] at e1 e3;rw[e1,e3] at this;omega
   ·right;left;have d:decide ((lo:Int)<(hi:Int))=false:=by simpa using hlt
    have:hi=lo:=by omega
    subst this
    exact⟨_,by simp only[Zgo,RT.val,d,Ye],rfl,hi,⟨h2,h3,h4⟩,rfl⟩)
  (m,t,iN m.length,0,iN m.length,()) ⟨0,m.length,YE _,Yd _,λk h=>by omega,λk h1 h2=>by omega,rfl⟩ (by simp only[iN];omega)
 obtain⟨r1,r2⟩:=r;simp only at h1 hR;subst h1 hR;have hd:decide ((i:Int)<(m.length:Int))=decide (i<m.length):=by simp
 have hv:(Zpr m t).val=some ((i:Int),decide (i<m.length)&&((el m i).1==t)):=by
  have g:=Zcs m i;by_cases hlt:i<m.length
  ·have r1:=Zaq m i hlt;have hd:decide ((i:Int)<(m.length:Int))=true:=by simpa using hlt
   simp only[Zpr,RT.val,hr,okB,getO,Yb,hd,r1,Yg,Yj,g,ZIz,ZTs,hlt,decide_true,YZ]
  ·have hd:decide ((i:Int)<(m.length:Int))=false:=by simpa using hlt
   simp only[Zpr,RT.val,hr,okB,getO,Yb,Ye,hd,Yq,YB,hlt,decide_false,Y7]
 exact⟨by simp only[ZCn,hv];rfl,i,hi,by simp only[ZdG,hv,getO]⟩
theorem ZKc:∀(i:Nat) (m:List Cell) (c:Cell),i<=m.length->(∀k,k<i->(el m k).1<c.1)->putX m c=m.take i++putX (m.drop i) c
 |0,m,c,_,_=>by simp
 |i+1,[],c,h,_=>by simp at h
 |i+1,x::m,c,h,hk=>by have h0:x.1<c.1:=hk 0 (by omega);rw[putX,YS h0,ZKc i m c (by simpa using h) (λk h'=>hk (k+1) (by omega))];simp
theorem ZKb (m:List Cell) (t v:Int) (i:Nat) (h:At m t i):
  (v=0->(decide (i<m.length)&&((el m i).1==t))=false->putX m (t,v)=m)/\
  (v=0->(decide (i<m.length)&&((el m i).1==t))=true->putX m (t,v)=delX m i)/\
  (v≠0->(decide (i<m.length)&&((el m i).1==t))=true->putX m (t,v)=setI m (i:Int) ((el m i).1,v))/\
  (v≠0->(decide (i<m.length)&&((el m i).1==t))=false->putX m (t,v)=insX m i (t,v)):=by
 obtain⟨h1,h2,h3⟩:=h;have hp:=ZKc i m (t,v) h1 h2;by_cases hlt:i<m.length
 ·have hd:=Zt8 m i hlt;have hge:=h3 i (Yd _) hlt;have hn:¬(el m i).1<t:=by omega
  rw[hd] at hp;simp only[putX,YV hn] at hp;simp only[hlt,decide_true,YZ];refine⟨λhz he=> ?_,λhz he=> ?_,λhz he=> ?_,λhz he=> ?_⟩
  ·have he:(el m i).1≠t:=by simpa using he
   rw[hp,YS hz,YV he,<-hd,Yai]
  ·have he:(el m i).1=t:=by simpa using he
   rw[hp,YS hz,YS he,delX]
  ·have he:(el m i).1=t:=by simpa using he
   rw[hp,YV hz,YS he,setI,Int.toNat_natCast,he,List.set_eq_take_append_cons_drop,YS hlt]
  ·have he:(el m i).1≠t:=by simpa using he
   rw[hp,YV hz,YV he,insX,<-hd];simp
 ·have he:i=m.length:=by omega
  subst he;simp only[List.drop_length,putX] at hp;simp only[Nat.lt_irrefl,decide_false,Y7];refine⟨λhz _=> ?_,λhz he=>by simp at he,λhz he=>by simp at he,λhz _=> ?_⟩
  ·rw[hp,YS hz];simp
  ·rw[hp,YV hz,insX];simp
theorem ZQA (m:List Cell) (t v:Int) (hm:m.length+1<=most):ZQD m t v=true/\mPut m t v=putX (normX m) (t,v):=by
 have hms:=mst;have hv1:=Zwx m (by omega);have hb1:Nat.ble m.length most=true:=by rw[YF];omega
 have hv:(ZHj m t v).val=some (putX (normX m) (t,v)):=by
  cases hval:vldB m with
  |false=>
   have hl:(m++[(t,v)]).length<=most:=by simp;omega
   have hb2:Nat.ble (m++[(t,v)]).length most=true:=by rw[YF];exact hl
   obtain⟨n1,n2⟩:=Zwy (m++[(t,v)]) hl;simp only[ZHj,RT.val,hv1.1,hv1.2,hval,hb1,hb2,n1,n2,Zjk,Yq,Yg,Yk,Bool.or_self,Yb]
  |true=>
   have hV:=Zkn.1 hval;obtain⟨f1,i,hi,f2⟩:=ZH4 m t hV (by omega);obtain⟨q1,q2,q3,q4⟩:=ZKb m t v i hi;have hile:decide ((i:Int)<=iN m.length)=true:=by simpa [iN] using hi.1
   have hi0:decide ((0:Int)<=(i:Int))=true:=by simp
   have hb3:Nat.ble (m.length+1) most=true:=by rw[YF];omega
   have w:=ZgN i (by have:=hi.1;omega);have g:=Zcs m i;rw[ZgA hV];simp only[ZHj,RT.val,hv1.1,hv1.2,hval,hb1,f1,f2,hile,hi0,hb3,w,g,Yg,Yq,YB,Yk,YJ,Yj,Y6,YZ,Yb,Ye,Int.toNat_natCast];cases hfd:(decide (i<m.length)&&((el m i).1==t)) with
   |true=>
    have hlt:i<m.length:=by rw[Ya,Yf] at hfd;exact hfd.1
    have r1:=Zaq m i hlt;have hd:decide ((i:Int)<iN m.length)=true:=by simpa [iN] using hlt
    have hw:decide (((i+1:Nat):Int)=(i:Int)+1)=true:=by simp
    by_cases hz:v=0
    ·have hz1:(v==0)=true:=by simpa using hz
     simp only[hz1,r1,hd,hw,q2 hz hfd,Yg,Yq,Yah,Y1,YB,Yk,YJ,Yj,Y6,Yb,Ye]
    ·have hz1:(v==0)=false:=by simpa using hz
     simp only[hz1,r1,hd,hw,q3 hz hfd,Yg,Yq,Y7,Yah,Y1,YB,Yk,YJ,Yj,Y6,Yb,Ye]
   |false=>
    by_cases hz:v=0
    ·have hz1:(v==0)=true:=by simpa using hz
     simp only[hz1,q1 hz hfd,Yg,Yq,Yah,Y1,YB,Yk,YJ,Yj,Y6,Yb,Ye]
    ·have hz1:(v==0)=false:=by simpa using hz
     simp only[hz1,q4 hz hfd,Yg,Yq,Y7,Yah,Y1,YB,Yk,YJ,Yj,Y6,Yb,Ye]
 exact⟨by simp only[ZQD,hv];rfl,by simp only[mPut,hv,getO]⟩
abbrev ZmL:List Sh:=[Sh.one rcRG]
abbrev Zic:Rs:=Rs.one (Sh.one (R.int i64))
def ZF1:LS:={n:=30,Sl:=[(2,.code (Sh.one (R.int i64))),(8,.code (Sh.one rcRG)),(9,.code (Sh.one (R.int i64))),(10,.code (Sh.one (R.int i64)))],Bx:=[],Sg:=[]}
def Zp9 (a:QT16):RT (Option (Go1 (QT16))):=
 let x1:QT7:=R.get (R.Pq (R.int u16) (R.Pq (R.int u16) (R.Pq R.bool (R.int i64)))) a.2.1 a.2.2.2.1
 let x2:=x1.2
 let x3:=x2.2.2
 let x4:List (QT7)×Int×Int×PUnit:=(a.2.1,a.2.2.1,a.2.2.2.1,PUnit.unit)
 .br (decide (a.2.2.2.1<a.2.2.1)) (.br (Zf a.2.2.2.1 (List.length a.2.1)) (.br (decide (x2.1<x1.1)||(decide (x3<0)||decide (x3>100))) (.Lf (some (Go1.ret (1,x4)))) (.Lf (some (Go1.cont (a.1,a.2.1,a.2.2.1,i64.wrap (a.2.2.2.1+1),PUnit.unit))))) (.Lf none)) (.Lf (some (Go1.brk (a.1,x4))))
def Zqa:Ora:=Zbo true ZF1 Zp9 (λa=>1000000000000)
theorem ZvQ:Za3 (envX prog [] [] 31 8) (.block 0 (.loop (Z2 Tryz.f102.body 0))) Zqa:=
 loopP trivial
def ZkG (l:List (QT7)):RT (Option (Int)):=
 let x1:=runF true Zp9 (λa=>1000000000000) (0,l,iN (List.length l),0,())
 let x2:=getO (false,0,l,iN (List.length l),0,()) x1
 .br (decide (iN (List.length l)>16)) (.Lf (some (3))) (.br (okB x1) (.br x2.1 (.Lf (some x2.2.1)) (.Lf (some (0)))) (.Lf none))
def ZKT (l:List (QT7)):Int:=getO Zic.Df (ZkG l).val
def ZDx (l:List (QT7)):Bool:=okB (ZkG l).val
def ZPQ:En:=Zg ZmL Zic (λa=>some (ZDx a)) (λa=>ZKT a)
theorem ZF0:Za prog 102 ZPQ:=
 pureP 31 [] [(0,Zqa)] ZmL Zic trivial Tryz.func102 Tryz.call102 ⟨ZvQ,Tv⟩ (t:=λa=>ZkG a)
abbrev Zss:List Sh:=[Sh.one rcRG,Sh.one rcCE,Sh.one (R.int u16)]
abbrev ZkJ:Rs:=Rs.one (Sh.one (R.int u8))
def ZmY (l:List (QT7)) (m:List (Int×Int)) (t:Int):RT (Option (Int)):=
 .br (Zv8 l t) (.br (decide (Zpa l t<0)) (.Lf (some (255))) (.br (Nat.ble (List.length m) most) (.Lf (some (Cells.getX m t))) (.Lf none))) (.Lf none)
def ZLd (l:List (QT7)) (m:List (Int×Int)) (t:Int):Int:=getO ZkJ.Df (ZmY l m t).val
def ZzI (l:List (QT7)) (m:List (Int×Int)) (t:Int):Bool:=okB (ZmY l m t).val
def ZUl:En:=Zg Zss ZkJ (λa=>some (ZzI a.1 a.2.1 a.2.2)) (λa=>ZLd a.1 a.2.1 a.2.2)
theorem ZLc:Za prog 202 ZUl:=
 pureP 127 [(209,ZD3),(270,ZW8)] [] Zss ZkJ ⟨ZsS,ZU6,Tv⟩ Tryz.func202 Tryz.call202 trivial (t:=λa=>ZmY a.1 a.2.1 a.2.2)
abbrev ZmE:List Sh:=[Sh.one rcRG,Sh.one rcCE,Sh.one (R.int u16),Sh.one (R.int u8)]
abbrev Zh9:Rs:=Rs.one (Sh.one rcCE)
def Zh8 (l:List (QT7)) (m:List (Int×Int)) (t:Int) (v:Int):RT (Option (List (Int×Int))):=
 let x1:=decide (Zpa l t>=0)&&(R.get (R.Pq (R.int u16) (R.Pq (R.int u16) (R.Pq R.bool (R.int i64)))) l (Zpa l t)).2.2.1
 .br (Zv8 l t) (.br (!decide (Zpa l t>=0)||Zf (Zpa l t) (List.length l)) (.br (!x1||ZQD m t v) (.br (x1) (.Lf (some (mPut m t v))) (.br (ZwM m) (.Lf (some (ZNd m))) (.Lf none))) (.Lf none)) (.Lf none)) (.Lf none)
def Zzs (l:List (QT7)) (m:List (Int×Int)) (t:Int) (v:Int):List (Int×Int):=getO Zh9.Df (Zh8 l m t v).val
def Zsc (l:List (QT7)) (m:List (Int×Int)) (t:Int) (v:Int):Bool:=okB (Zh8 l m t v).val
def ZPN:En:=Zg ZmE Zh9 (λa=>some (Zsc a.1 a.2.1 a.2.2.1 a.2.2.2)) (λa=>Zzs a.1 a.2.1 a.2.2.1 a.2.2.2)
theorem ZFX:Za prog 143 ZPN:=
 pureP 1023 [(90,ZNc),(209,ZD3),(210,ZW5)] [] ZmE Zh9 ⟨ZEw,ZsS,ZU4,Tv⟩ Tryz.func143 Tryz.call143 trivial (t:=λa=>Zh8 a.1 a.2.1 a.2.2.1 a.2.2.2)
abbrev ZmG:List Sh:=[Sh.one rcRG,Sh.one (R.int u16)]
abbrev Zib:Rs:=Rs.one (Sh.one (R.int i64))
def Zia (l:List (QT7)) (t:Int):RT (Option (Int)):=
 let x1:Int:=(R.get (R.Pq (R.int u16) (R.Pq (R.int u16) (R.Pq R.bool (R.int i64)))) l (Zpa l t)).2.2.2
 let x2:Int:=if 100<x1 then 100 else x1
 .br (Zv8 l t) (.br (decide (Zpa l t<0)) (.Lf (some (0))) (.br (Zf (Zpa l t) (List.length l)) (.Lf (some (if x2>0 then x2 else 0))) (.Lf none))) (.Lf none)
def Zzu (l:List (QT7)) (t:Int):Int:=getO Zib.Df (Zia l t).val
def Zsd (l:List (QT7)) (t:Int):Bool:=okB (Zia l t).val
def ZPO:En:=Zg ZmG Zib (λa=>some (Zsd a.1 a.2)) (λa=>Zzu a.1 a.2)
theorem ZFY:Za prog 269 ZPO:=
 pureP 63 [(209,ZD3)] [] ZmG Zib ⟨ZsS,Tv⟩ Tryz.func269 Tryz.call269 trivial (t:=λa=>Zia a.1 a.2)
abbrev Zlz:List Sh:=[Sh.one rcRG]
abbrev ZhQ:Rs:=Rs.one (Sh.one (R.int i64))
def ZFo:LS:={n:=30,Sl:=[(2,.code (Sh.one (R.int i64))),(8,.code (Sh.one rcRG)),(9,.code (Sh.one (R.int i64))),(10,.code (Sh.one (R.int i64)))],Bx:=[],Sg:=[]}
def Zdy (a:QT16):RT (Option (Go1 (QT16))):=
 let x1:QT7:=R.get (R.Pq (R.int u16) (R.Pq (R.int u16) (R.Pq R.bool (R.int i64)))) a.2.1 a.2.2.2.1
 let x2:=x1.2
 let x3:=x2.2.2
 let x4:List (QT7)×Int×Int×PUnit:=(a.2.1,a.2.2.1,a.2.2.2.1,PUnit.unit)
 .br (decide (a.2.2.2.1<a.2.2.1)) (.br (Zf a.2.2.2.1 (List.length a.2.1)) (.br (decide (x2.1<x1.1)||(decide (x3<0)||decide (x3>100))) (.Lf (some (Go1.ret (1,x4)))) (.Lf (some (Go1.cont (a.1,a.2.1,a.2.2.1,i64.wrap (a.2.2.2.1+1),PUnit.unit))))) (.Lf none)) (.Lf (some (Go1.brk (a.1,x4))))
def ZpK:Ora:=Zbo true ZFo Zdy (λa=>1000000000000)
theorem Zvb:Za3 (envX prog [] [] 31 8) (.block 0 (.loop (Z2 Tryz.f104.body 0))) ZpK:=
 loopP trivial
def Zef (l:List (QT7)):RT (Option (Int)):=
 let x1:=runF true Zdy (λa=>1000000000000) (0,l,iN (List.length l),0,())
 let x2:=getO (false,0,l,iN (List.length l),0,()) x1
 .br (decide (iN (List.length l)>16)) (.Lf (some (3))) (.br (okB x1) (.br x2.1 (.Lf (some x2.2.1)) (.Lf (some (0)))) (.Lf none))
def Zrp (l:List (QT7)):Int:=getO ZhQ.Df (Zef l).val
def Zkv (l:List (QT7)):Bool:=okB (Zef l).val
def ZO8:En:=Zg Zlz ZhQ (λa=>some (Zkv a)) (λa=>Zrp a)
theorem ZFn:Za prog 104 ZO8:=
 pureP 31 [] [(0,ZpK)] Zlz ZhQ trivial Tryz.func104 Tryz.call104 ⟨Zvb,Tv⟩ (t:=λa=>Zef a)
def sm {α:Type} (l:List α):Bool:=Nat.ble (l.length+1) most
def smC (l:List (Int×Int)):Bool:=sm l
def smB (l:List Int):Bool:=sm l
def smG (l:List Z0):Bool:=sm l
variable {α:Type}
theorem ZuV {l:List α}:sm l=true↔l.length+1<=most:=by simp[sm]
theorem Zq5 {l:List α} (h:sm l=true):l.length<=most:=by have:=ZuV.1 h;omega
theorem ZQ1 (l:List Z0) (t:Int): -1<=Zch l t/\(Zch l t<0\/∃i:Nat,i<l.length/\Zch l t=i):=by
 unfold Zch;split
 ·rename_i h;exact⟨by omega,.inr ⟨_,h,rfl⟩⟩
 ·exact⟨by omega,.inl (by omega)⟩
theorem Zxd (l:List Z0) (t:Int) (h:0<=Zch l t):Zf (Zch l t) l.length=true:=by
 rcases (ZQ1 l t).2 with h1|⟨i,hi,e⟩
 ·omega
 ·rw[e];exact Zaq l i hi
def ZiJ (l:List Z0) (m:List Cell) (t v:Int):List Cell:=bif decide (Zch l t>=0)&&(R.get GR l (Zch l t)).2.2.1 then putX (normX m) (t,v) else normX m
def limX (n:Int):Int:=if (if 100<n then 100 else n)>0 then if 100<n then 100 else n else 0
def Zup (l:List Z0) (t:Int):Int:=bif decide (Zch l t>=0) then limX (R.get GR l (Zch l t)).2.2.2 else 0
theorem ge_lt (x:Int):decide (x>=0)= !decide (x<0):=by by_cases h:x<0<;>simp[h]<;>omega
theorem ZKk (l:List Z0) (m:List Cell) (t:Int) (hl:l.length<=most) (hm:m.length<=most):ZzI l m t=true/\ZLd l m t=Zva l m t:=by
 have h1:=ZmB l t hl;have hb:Nat.ble m.length most=true:=by rw[YF];exact hm
 have hv:(ZmY l m t).val=some (Zva l m t):=by simp only[ZmY,RT.val,h1.1,h1.2,hb,Yb,Zva];cases decide (Zch l t<0)<;>rfl
 exact⟨by simp only[ZzI,hv];rfl,by simp only[ZLd,hv,getO]⟩
theorem ZFI (l:List Z0) (m:List Cell) (t v:Int) (hl:l.length<=most) (hm:m.length+1<=most):Zsc l m t v=true/\Zzs l m t v=ZiJ l m t v:=by
 have h1:=ZmB l t hl;have h2:=ZQA m t v hm;have h3:=Zwy m (by omega);have hv:(Zh8 l m t v).val=some (ZiJ l m t v):=by
  have hr:(!decide (Zch l t>=0)||Zf (Zch l t) l.length)=true:=by
   by_cases h:0<=Zch l t
   ·rw[Zxd l t h];simp
   ·have:decide (Zch l t>=0)=false:=by simp;omega
    rw[this];rfl
  simp only[Zh8,RT.val,h1.1,h1.2,h2.1,h2.2,h3.1,h3.2,hr,Yk,Yb,ZiJ];cases decide (Zch l t>=0)&&(R.get GR l (Zch l t)).2.2.1<;>rfl
 exact⟨by simp only[Zsc,hv];rfl,by simp only[Zzs,hv,getO]⟩
theorem ZFJ (l:List Z0) (t:Int) (hl:l.length<=most):Zsd l t=true/\Zzu l t=Zup l t:=by
 have h1:=ZmB l t hl;have hv:(Zia l t).val=some (Zup l t):=by
  simp only[Zia,RT.val,h1.1,h1.2,Yb,Zup,limX,ge_lt];by_cases h:Zch l t<0
  ·have hd:decide (Zch l t<0)=true:=by simpa using h
   simp only[hd,Yg,Yb,Ye]
  ·have hd:decide (Zch l t<0)=false:=by simpa using h
   have hr:=Zxd l t (by omega);simp only[hd,hr,Yq,Yb,Ye]
 exact⟨by simp only[Zsd,hv];rfl,by simp only[Zzu,hv,getO]⟩
def badR (r:Z0):Bool:=decide (r.2.1<r.1)||(decide (r.2.2.2<0)||decide (r.2.2.2>100))
def Zbz (l:List Z0):Int:=bif decide (iN l.length>16) then 3 else bif l.any badR then 1 else 0
theorem Zlt (l:List Z0) (hl:l.length<=most):Zkv l=true/\Zrp l=Zbz l:=by
 have hms:=mst;obtain⟨r,hr,hR⟩:=ZO (fl:=true) (t:=Zdy) (fuel:=λ_=>1000000000000)
  (λx=>∃i:Nat,i<=l.length/\(∀k,k<i->badR (rg l k)=false)/\x=(0,l,(l.length:Int),(i:Int),()))
  (λx=>Int.toNat (x.2.2.1-x.2.2.2.1)) (λr=>(r.1=false/\l.any badR=false)\/(r.1=true/\l.any badR=true/\r.2.1=1))
  (by
   rintro x ⟨i,hi,hk,rfl⟩;by_cases hlt:i<l.length
   ·have d:decide ((i:Int)<(l.length:Int))=true:=by simpa using hlt
    have r1:=Zaq l i hlt;have g1:=ZSL l i;cases hh:badR (rg l i) with
    |false=>
     left;refine⟨(0,l,(l.length:Int),((i+1:Nat):Int),()),?_,⟨i+1,hlt,λk hk'=> ?_,rfl⟩,by simp only;omega⟩
     ·simp only[badR] at hh;simp only[Zdy,RT.val,d,r1,g1,hh,Yb,Ye,ZgN i (by omega)]
     ·by_cases e:k=i
      ·subst e;exact hh
      ·exact hk k (by omega)
    |true=>
     right;right;refine⟨(1,l,(l.length:Int),(i:Int),()),rfl,?_,.inr ⟨rfl,List.any_eq_true.2 ⟨rg l i,?_,hh⟩,rfl⟩⟩
     ·simp only[badR] at hh;simp only[Zdy,RT.val,d,r1,g1,hh,Yb]
     ·rw[<-Zu5 l i hlt];exact List.getElem_mem hlt
   ·right;left;have d:decide ((i:Int)<(l.length:Int))=false:=by simpa using hlt
    refine⟨_,by simp only[Zdy,RT.val,d,Ye];rfl,.inl ⟨rfl,?_⟩⟩;rw[List.any_eq_false];intro q hq;obtain⟨k,hk',rfl⟩:=YaC.1 hq
    rw[Zu5 l k hk',hk k (by omega)];simp)
  (0,l,iN l.length,0,()) ⟨0,YE _,λk h=>by omega,rfl⟩ (by simp only[iN];omega)
 have hv:(Zef l).val=some (Zbz l):=by
  cases hd:decide (iN l.length>16) with
  |true=>simp only[Zef,RT.val,hd,Yb,Zbz]
  |false=>
   rcases hR with ⟨h1,h2⟩|⟨h1,h2,h3⟩
   ·simp only[Zef,RT.val,hd,hr,okB,getO,Yb,Ye,h1,h2,Zbz]
   ·simp only[Zef,RT.val,hd,hr,okB,getO,Yb,Ye,h1,h2,h3,Zbz]
 exact⟨by simp only[Zkv,hv];rfl,by simp only[Zrp,hv,getO]⟩
theorem Zy7 (l:List Z0) (hl:l.length<=most):ZDx l=true/\ZKT l=Zbz l:=by have h:=Zlt l hl;have e:ZkG l=Zef l:=rfl;simp only[Zkv,Zrp,<-e] at h;exact h
theorem Zq0 {P:Program} {f:FuncId} {ts:List Sh} {rs:Rs} {C:HL ts->Bool} {F G:HL ts->rs.den} (h:Za P f (Zg ts rs (λa=>some (C a)) F)) {pre:HL ts->Bool} (hp:∀a,pre a=true->C a=true/\F a=G a):
  Za P f (Zg ts rs (λa=>some (pre a)) G):=by
 have key:∀a,some (pre a)≠some false->pre a=true:=λa h=>by cases hq:pre a with
  |true=>rfl
  |false=>rw[hq] at h;exact absurd rfl h
 exact h.pure_congr (λa _ hq=>by rw[(hp a (key a hq)).1];simp) (λa _ hq=>(hp a (key a hq)).2)
def ZEr:En:=Zg ZtO ZkU (λa=>some (smC a)) (λa=>vldB a)
theorem ZHi:Za prog 103 ZEr:=Zq0 ZwG λa h=>Zwx a (Zq5 h)
def Zkw:En:=Zg Zro Zku (λa=>some (smC a)) (λa=>vldB a)
theorem Zi0:Za prog 105 Zkw:=Zq0 Zly λa h=>ZIR a (Zq5 h)
def Zrz:En:=Zg Zyk Zrx (λa=>some (smC a)) (λa=>normX a)
theorem ZlG:Za prog 93 Zrz:=Zq0 ZPk λa h=>ZI0 a (ZuV.1 h)
def ZCH:En:=Zg Zrs Zkz (λa=>some (smC a.1)) (λa=>decide ((a.1:List Cell)=a.2))
theorem ZFp:Za prog 34 ZCH:=Zq0 ZJa λa h=>ZIU a.1 a.2 (Zq5 h)
def Zst:En:=Zg Zss ZkJ (λa=>some (smG a.1&&smC a.2.1)) (λa=>Zva a.1 a.2.1 a.2.2)
theorem ZF5:Za prog 202 Zst:=Zq0 ZLc λa h=>by rw[Ya] at h;exact ZKk a.1 a.2.1 a.2.2 (Zq5 h.1) (Zq5 h.2)
def ZfY:En:=Zg ZmE Zh9 (λa=>some (smG a.1&&smC a.2.1)) (λa=>ZiJ a.1 a.2.1 a.2.2.1 a.2.2.2)
theorem ZmF:Za prog 143 ZfY:=Zq0 ZFX λa h=>by rw[Ya] at h;exact ZFI a.1 a.2.1 a.2.2.1 a.2.2.2 (Zq5 h.1) (ZuV.1 h.2)
def ZmH:En:=Zg ZmG Zib (λa=>some (smG a.1)) (λa=>Zup a.1 a.2)
theorem Zzt:Za prog 269 ZmH:=Zq0 ZFY λa h=>ZFJ a.1 a.2 (Zq5 h)
def ZvR:En:=Zg ZmL Zic (λa=>some (smG a)) (λa=>Zbz a)
theorem Zzy:Za prog 102 ZvR:=Zq0 ZF0 λa h=>Zy7 a (Zq5 h)
def Zvc:En:=Zg Zlz ZhQ (λa=>some (smG a)) (λa=>Zbz a)
theorem Zx4:Za prog 104 Zvc:=Zq0 ZFn λa h=>Zlt a (Zq5 h)
abbrev ZB4:List Sh:=[Sh.one (R.int u8),Sh.one (R.int u8),Sh.one (R.int u8)]
abbrev ZB5:Rs:=Rs.one (Sh.one (R.int u8))
def ZHS (a:Int) (b:Int) (c:Int):RT (Int):=
 .Lf (xorI u8 (xorI u8 (xorI u8 a b) c) 165)
def ZgR (a:Int) (b:Int) (c:Int):Int:=(ZHS a b c).val
def Zk7:En:=Zg ZB4 ZB5 (λ_=>none) (λa=>ZgR a.1 a.2.1 a.2.2)
theorem ZhA:Za prog 117 Zk7:=
 pureQ 127 [] [] ZB4 ZB5 trivial Tryz.func117 Tryz.call117 trivial (t:=λa=>ZHS a.1 a.2.1 a.2.2)
abbrev ZRs:List Sh:=[Sh.one R.bool,Sh.one (R.int i64)]
abbrev ZHT:Rs:=Rs.one (Sh.one (R.int u8))
def ZOz (o:Bool) (n:Int):RT (Option (Int)):=
 .br (!o||decide (0<=n)) (.br (o) (.Lf (some (shlI u8 1 n))) (.Lf (some (0)))) (.Lf none)
def wBit (o:Bool) (n:Int):Int:=getO ZHT.Df (ZOz o n).val
def ZeW (o:Bool) (n:Int):Bool:=okB (ZOz o n).val
def ZHU:En:=Zg ZRs ZHT (λa=>some (ZeW a.1 a.2)) (λa=>wBit a.1 a.2)
theorem ZqL:Za prog 116 ZHU:=
 pureP 31 [] [] ZRs ZHT trivial Tryz.func116 Tryz.call116 trivial (t:=λa=>ZOz a.1 a.2)
abbrev ZHQ:List Sh:=[]
abbrev ZHR:Rs:=Rs.one (Sh.agg Zfv)
def ZRq:RT INPT:=
 .Lf ((true,false,false,false,false,false,false,false,0,0))
def ZG:INPT:=(ZRq).val
def ZRr:En:=Zg ZHQ ZHR (λ_=>none) (λa=>ZG)
theorem ZOx:Za prog 118 ZRr:=
 pureQ 1 [] [] ZHQ ZHR trivial Tryz.func118 Tryz.call118 trivial (t:=λa=>ZRq)
abbrev Zus:List Sh:=[Sh.one (R.sl Zfv)]
abbrev Zk5:Rs:=Rs.one (Sh.one (R.sl (R.int u8)))
def ZE7:LS:={n:=64,Sl:=[(3,.tip 0),(7,.code (Sh.one (R.sl Zfv))),(8,.code (Sh.one (R.int i64))),(9,.code (Sh.one (R.int i64)))],Bx:=[],Sg:=[⟨(R.int u8),5,true⟩]}
def ZcF (a:List INPT×Int×Int×List Int×PUnit):RT (Option (Go1 (List INPT×Int×Int×List Int×PUnit))):=
 let x1:INPT:=R.get Zfv a.1 a.2.2.1
 let x2:= !x1.1
 let x3:=ZeW x2 0
 let x4:= !x3
 let x5:=x1.2
 let x6:=x5.1
 let x7:=ZeW x6 1
 let x8:= !x7
 let x9:=x5.2
 let x10:=x9.1
 let x11:=ZeW x10 2
 let x12:= !x11
 let x13:=x9.2
 let x14:=x13.1
 let x15:=ZeW x14 3
 let x16:= !x15
 let p1:=x16::x12::x8::x4::[]
 let x17:=x13.2
 let x18:=x17.1
 let x19:=ZeW x18 4
 let x20:= !x19
 let p4:=x20::p1
 let x21:=x17.2
 let x22:=x21.1
 let x23:=ZeW x22 5
 let x24:= !x23
 let p5:=x24::p4
 let x25:=x21.2
 let x26:=x25.1
 let x27:=ZeW x26 6
 let p8:=(!x27)::p5
 let x28:=x25.2
 let x29:=x28.1
 let x30:=orR p8 (ZeW x29 7)
 let x31:= !x30
 let x32:=orR p5 x27
 let x33:= !x32
 let p2:=x33::x31::(decide (a.2.2.1>=65536))::(!Zf a.2.2.1 (List.length a.1))::[]
 let x34:=orR p4 x23
 let x35:= !x34
 let p3:=x35::p2
 let x36:=orR p1 x19
 let x37:= !x36
 let p6:=x37::p3
 let x38:=x4||(x8||(x12||x15))
 let x39:= !x38
 let p7:=x39::p6
 let x40:=x4||(x8||x11)
 let x41:= !x40
 let p9:=x41::p7
 let x42:=x4||x7
 let x43:= !x42
 let p10:=x43::p9
 let p11:=x4::p10
 let x44:=orI u8 (orI u8 (orI u8 (orI u8 (orI u8 (orI u8 (orI u8 (wBit x2 0) (wBit x6 1)) (wBit x10 2)) (wBit x14 3)) (wBit x18 4)) (wBit x22 5)) (wBit x26 6)) (wBit x29 7)
 let x45:=x28.2
 let x46:=x45.1
 let x47:=x45.2
 let x48:List Int:=a.2.2.2.1++[x44,x46,x47,ZgR x44 x46 x47]
 .br (decide (a.2.2.1<a.2.1)) (.br (orR p11 (Nat.ble (List.length x48) most)) (.br (orR p10 x3) (.br (orR p9 x42) (.br (orR p7 x40) (.br (orR p6 x38) (.br (orR p3 x36) (.br (orR p2 x34) (.br (!Zf a.2.2.1 (List.length a.1)||(decide (a.2.2.1>=65536)||(x31||x32))) (.br (!Zf a.2.2.1 (List.length a.1)||(decide (a.2.2.1>=65536)||x30)) (.br (Zf a.2.2.1 (List.length a.1)) (.br (decide (a.2.2.1>=65536)) (.Lf (some (Go1.brk (a.1,a.2.1,a.2.2.1,a.2.2.2.1,PUnit.unit)))) (.Lf (some (Go1.cont (a.1,a.2.1,i64.wrap (a.2.2.1+1),x48,PUnit.unit))))) (.Lf none)) (.Lf none)) (.Lf none)) (.Lf none)) (.Lf none)) (.Lf none)) (.Lf none)) (.Lf none)) (.Lf none)) (.Lf none)) (.Lf (some (Go1.brk (a.1,a.2.1,a.2.2.1,a.2.2.2.1,PUnit.unit))))
def Zpi:Ora:=Zbo false ZE7 ZcF (λa=>1000000000000)
theorem Zuv:Za3 (envX prog [(116,ZHU),(117,Zk7)] [] 127 8) (.block 0 (.loop (Z2 Tryz.f56.body 0))) Zpi:=
 loopP ⟨ZqL,ZhA,Tv⟩
def ZeV (l:List INPT):RT (Option (List Int)):=
 let x1:=runF false ZcF (λa=>1000000000000) (l,iN (List.length l),0,[],())
 .br (okB x1) (.Lf (some (getO (false,l,iN (List.length l),0,[],()) x1).2.2.2.2.1)) (.Lf none)
def Zha (l:List INPT):List Int:=getO Zk5.Df (ZeV l).val
def Zkm (l:List INPT):Bool:=okB (ZeV l).val
def ZB3:En:=Zg Zus Zk5 (λa=>some (Zkm a)) (λa=>Zha a)
theorem ZE5:Za prog 56 ZB3:=
 pureP 127 [(116,ZHU),(117,Zk7)] [(0,Zpi)] Zus Zk5 ⟨ZqL,ZhA,Tv⟩ Tryz.func56 Tryz.call56 ⟨Zuv,Tv⟩ (t:=λa=>ZeV a)
abbrev ZB1:List Sh:=[Sh.agg (R.Pq (R.int i64) (R.Pq rcRG (R.Pq (R.int i64) (R.Pq (R.int u8) (R.Pq (R.int u8) (R.Pq R.bool rcCE))))))]
abbrev ZqJ:Rs:=Rs.one (Sh.one (R.int i64))
def ZfC (l:BRDT):RT (Option (Int)):=
 .br (l.1 !=1&&l.1 !=2) (.Lf (some (1))) (.br (smG l.2.1) (.br (Zbz l.2.1 !=0) (.Lf (some (Zbz l.2.1))) (.br (decide (l.2.2.1<0)||(decide (l.2.2.1>100)||smC l.2.2.2.2.2.2)) (.br (decide (l.2.2.1<0)||(decide (l.2.2.1>100)|| !vldB l.2.2.2.2.2.2)) (.Lf (some (1))) (.Lf (some (0)))) (.Lf none))) (.Lf none))
def Zbf (l:BRDT):Int:=getO ZqJ.Df (ZfC l).val
def Zcj (l:BRDT):Bool:=okB (ZfC l).val
def Zxy:En:=Zg ZB1 ZqJ (λa=>some (Zcj a)) (λa=>Zbf a)
theorem Zuq:Za prog 51 Zxy:=
 pureP 15 [(104,Zvc),(105,Zkw)] [] ZB1 ZqJ ⟨Zx4,Zi0,Tv⟩ Tryz.func51 Tryz.call51 trivial (t:=λa=>ZfC a)
abbrev ZRp:List Sh:=[Sh.agg (R.Pq (R.int i64) (R.Pq rcRG (R.Pq (R.int i64) (R.Pq (R.int u8) (R.Pq (R.int u8) (R.Pq R.bool rcCE))))))]
abbrev ZHP:Rs:=Rs.tup [Sh.agg (R.Pq (R.Pq Z5 (R.Pq (R.int i64) (R.Pq (R.sl (R.int u8)) (R.Pq (RY) (R.Pq (R.int i64) R.bool))))) (R.Pq rcCE (R.Pq Zbd (R.Pq (R.Pq (R.int u16) (R.Pq (R.int u8) (R.int i64))) (R.Pq (R.int i64) (R.sl (R.Pq (R.int u8) (R.int u8)))))))),Sh.one (R.int i64)]
def Zo5 (l:BRDT):RT (Option (SYST×Int)):=
 let x1:TR:=(0,0,0,0,0,0,0,(false,false,false,false,false,false,false),0,0)
 .br (Zcj l) (.br (Zbf l !=0) (.Lf (some (((((0,x1,false,false,false,0,false,false,false,false,false,false,false),0,[],(0,0,0,0),0,false),[],(0,false,false,false,false,0,0,false,false,false,false,false,0,0,0,0,0,0,0,false),(0,0,0),0,[]),Zbf l)))) (.br (smC l.2.2.2.2.2.2) (.Lf (some ((((((newX l.1).1.1,x1,false,false,false,(newX l.1).1.2.2.2.2.2.1,false,false,false,false,false,false,false),0,[],(1,0,0,4),1,false),Cells.normX l.2.2.2.2.2.2,(0,false,false,false,false,0,0,false,false,false,false,false,0,0,0,0,7,0,0,false),(0,0,0),0,[]),0)))) (.Lf none))) (.Lf none)
def wNew (l:BRDT):SYST×Int:=getO ZHP.Df (Zo5 l).val
def Zg8 (l:BRDT):Bool:=okB (Zo5 l).val
def ZVL:En:=Zg ZRp ZHP (λa=>some (Zg8 a)) (λa=>wNew a)
theorem ZS2:Za prog 49 ZVL:=
 pureP 31 [(51,Zxy),(93,Zrz),(100,ZRV),(101,ZVP)] [] ZRp ZHP ⟨Zuq,ZlG,ZPo,ZTc,Tv⟩ Tryz.func49 Tryz.call49 trivial (t:=λa=>Zo5 a)
end
end Go.Proofs.YtpnjbfjomebppaaGreat
