import Derived.Test.YtpnjbfjomebppaaGreatMemD
import Derived.RangeFuncNested
import Derived.RangeFuncLeaves
import Derived.Shelf.Abstract
import Derived.OwnWalkIn
import Derived.TacticsInMore
import Derived.LoopNIn
import Derived.LoopIn
import Derived.Test.YtpnjbfjomebppaaGreatS3Clo
import Derived.Test.YtpnjbfjomebppaaGreatMakeOk5
import Derived.Test.YtpnjbfjomebppaaGreatPicL
open Go.Proofs.Tryz (prog)
set_option linter.unusedVariables false
set_option linter.unusedSimpArgs false
namespace Go.Proofs.YtpnjbfjomebppaaGreat
open Go Go.S3 Go.Proofs Go.Proofs.Cells Go.RowKit Go.Shelf
attribute [local go_sem] Oper.semAt_some
noncomputable section
def bwL (l:List Cell) (k:Nat):List (Nat×Cell):=(List.range k).map λj=>(l.length-1-j,el l (l.length-1-j))
theorem ZFI (l:List Cell) (k:Nat):bwL l (k+1)=bwL l k++[(l.length-1-k,el l (l.length-1-k))]:=by simp[bwL,List.range_succ]
theorem ZV8 (l:List Cell) (k:Nat):(bwL l k).length=k:=by simp[bwL]
theorem ZFJ (l:List Cell) (m:Nat) (h:m+1<=l.length):bwL l (l.length-m)=bwL l (l.length-(m+1))++[(m,el l m)]:=by
 have e:l.length-m=(l.length-(m+1))+1:=by omega
 have e2:l.length-1-(l.length-(m+1))=m:=by omega
 rw[e,ZFI,e2]
abbrev ZCz (x:Nat×Cell):Array Value:= #[.int .i64 (x.1:Int),.agg #[.int .u16 x.2.1,.int .u8 x.2.2]]
set_option maxRecDepth 100000 in
set_option maxHeartbeats 2000000 in
theorem ZR2 (F:Fence) (n:Nat) (h8:F.fn 382) (hro:F.round=none) (hn:1<=n) (y Bs n₀ b off cap:Nat) (l:List Cell) (hreach:l.length<=1073741824) (hb:b<n₀) (hB:Bs<n₀) (J Jx:List (Nat×Cell)->World->Prop)
  (hY:∀pre x W,J pre W->pre.length<l.length->YieldAt F (n-1) prog y (ZCz x) W λe W'=>
   (e=.returned (.bool true)/\J (pre++[x]) W'/\Below n₀ W W')\/(e=.returned (.bool false)/\Jx (pre++[x]) W'))
  (W:World) (hBs:W.cell? ⟨Bs,0,none⟩=some (.slice (some ⟨b,off,none⟩) l.length cap))
  (hc:∀j,j<l.length->W.cell? ⟨b,off+j*2,none⟩=some (.int .u16 (el l j).1)/\W.cell? ⟨b,off+j*2+1,none⟩=some (.int .u8 (el l j).2)) (h0:J [] W):
  CallsIn F n prog 382 #[.func (.yield y) #[] #[],.pointer (some ⟨Bs,0,none⟩)] W λe W'=>(∃v,e=.returned v)/\
   ((∃ys,ys=bwL l l.length/\J ys W')\/(∃pre,(∃k,k<=l.length/\pre=bwL l k)/\Jx pre W')):=by
 refine callsIn_of_wp Tryz.func382 rfl h8 ?_ hro;simp only[Tryz.ntmps382,Yak,List.length_cons,List.length_nil,Nat.reduceAdd,Nat.reduceSub,Array.replicate_succ,Array.replicate_zero,List.push_toArray,List.append_toArray,List.nil_append,List.cons_append];gi_wp2
 gi_loopw [3] (λi wr=>∃m:Nat,m<=l.length/\i=.int .i64 ((m:Int)-1)/\J (bwL l (l.length-m)) wr/\Below n₀ W wr)
  (λi _=>(intOf i+1).toNat)
 case atStart=>exact⟨l.length,Ye _,rfl,by simpa [bwL] using h0,Below.refl _ _⟩
 case round=>
  obtain⟨m,hm,rfl,hJs,hnx⟩:=hrel;have hbx:wr.cell? ⟨Bs,0,none⟩=some (.slice (some ⟨b,off,none⟩) l.length cap):=(hnx.cell (p:=⟨Bs,0,none⟩) hB).trans hBs;cases m with
  |zero=>
   gi_wp2
   go_end0
   exact⟨⟨_,rfl⟩,.inl ⟨_,rfl,by simpa using hJs⟩⟩
  |succ m=>
   have e1:((m+1:Nat):Int)-1=(m:Int):=by omega
   rw[e1];have hlt:m<l.length:=by omega
   obtain⟨q1,q2⟩:=hc m hlt;have hcx1:wr.cell? ⟨b,off+m*2,none⟩=some (.int .u16 (el l m).1):=(hnx.cell (p:=⟨b,off+m*2,none⟩) hb).trans q1;have hcx2:wr.cell? ⟨b,off+m*2+1,none⟩=some (.int .u8 (el l m).2):=(hnx.cell (p:=⟨b,off+m*2+1,none⟩) hb).trans q2;obtain⟨fn,tmps,assign,body,hy,hR⟩:=hY _ (m,el l m) wr hJs (by rw[ZV8];omega);dsimp only[ZCz] at hy;clear hc hBs q1 q2;gi_wp2
   refine hR.mono ?_;rintro e W3 (⟨rfl,hJ3,hk3⟩|⟨rfl,hJx3⟩)
   ·gi_wp2
    go_roundw
    case rel=>exact⟨m,by omega,rfl,by rw[ZFJ l m hlt];exact hJ3,hnx.trans hk3⟩
    case measure=>simp[intOf]
   ·gi_wp2
    refine bodyPost_ret (results_none rfl _ _ _) rfl ?_;exact⟨⟨_,rfl⟩,.inr ⟨_,⟨l.length-m,by omega,(ZFJ l m hlt).symm⟩,hJx3⟩⟩
set_option maxRecDepth 100000 in
set_option maxHeartbeats 1000000 in
theorem ZyS (F:Fence) (n:Nat) (h8:F.fn 382) (hro:F.round=none) (y Bs cap:Nat) (a:Option Addr) (J:List (Nat×Cell)->World->Prop) (W:World) (hBs:W.cell? ⟨Bs,0,none⟩=some (.slice a 0 cap)) (h0:J [] W):
  CallsIn F n prog 382 #[.func (.yield y) #[] #[],.pointer (some ⟨Bs,0,none⟩)] W λe W'=>(∃v,e=.returned v)/\J [] W':=by
 refine callsIn_of_wp Tryz.func382 rfl h8 ?_ hro;simp only[Tryz.ntmps382,Yak,List.length_cons,List.length_nil,Nat.reduceAdd,Nat.reduceSub,Array.replicate_succ,Array.replicate_zero,List.push_toArray,List.append_toArray,List.nil_append,List.cons_append];gi_wp2
 gi_loopw [3] (λi wr=>i=.int .i64 (-1)/\J [] wr) (λ_ _=>0)
 case atStart=>exact⟨rfl,h0⟩
 case round=>
  obtain⟨rfl,hJs⟩:=hrel;gi_wp2
  go_end0
  exact⟨⟨_,rfl⟩,hJs⟩
set_option maxHeartbeats 1000000 in
theorem ZWb (F:Fence) (n:Nat) (h6:F.fn 345) (hro:F.round=none) (a:Option Addr) (len cap:Nat) (w:World):
  CallsIn F n prog 345 #[.slice a len cap] w λe w'=>e=.returned (.func (.func 382) #[] #[.pointer (some ⟨w.heap.size,0,none⟩)])/\w'=w.alloc (.cells #[.slice a len cap] 26):=by
 refine callsIn_of_wp Tryz.func345 rfl h6 ?_ hro;simp only[Tryz.ntmps345,Yak,List.length_cons,List.length_nil,Nat.reduceAdd,Nat.reduceSub,Array.replicate_succ,Array.replicate_zero,List.push_toArray,List.append_toArray,List.nil_append,List.cons_append];gi_wp2
 go_ret
 exact⟨rfl,rfl⟩
def Held (n₀:Nat) (W:World) (sv:Value) (l:List Cell):Prop:=
 (∃a cap,sv=.slice a 0 cap/\l=[])\/∃b off cap,sv=.slice (some ⟨b,off,none⟩) l.length cap/\b<n₀/\
  ∀j,j<l.length->W.cell? ⟨b,off+j*2,none⟩=some (.int .u16 (el l j).1)/\W.cell? ⟨b,off+j*2+1,none⟩=some (.int .u8 (el l j).2)
variable {n₀:Nat} {sv:Value} {l:List Cell}
theorem Held.below {A B:World} (h:Below n₀ A B):Held n₀ A sv l->Held n₀ B sv l
 | .inl e=>.inl e
 | .inr ⟨b,off,cap,e,hb,hc⟩=>.inr ⟨b,off,cap,e,hb,λj hj=>⟨(h.cell (p:=⟨b,off+j*2,none⟩) hb).trans (hc j hj).1,(h.cell (p:=⟨b,off+j*2+1,none⟩) hb).trans (hc j hj).2⟩⟩
theorem Held.mono {n₁:Nat} {W:World} (h:Held n₀ W sv l) (hn:n₀<=n₁):Held n₁ W sv l:=
 h.elim .inl λ⟨b,off,cap,e,hb,hc⟩=>.inr ⟨b,off,cap,e,by omega,hc⟩
theorem ZIi (F:Fence) (n:Nat) (h8:F.fn 382) (hro:F.round=none) (hn:1<=n) (Bs n₀:Nat) (sv:Value) (l:List Cell) (hreach:l.length<=1073741824) (w:World) (hBs:Bs<n₀) (hn₀:n₀<=w.heap.size)
  (hc:w.cell? ⟨Bs,0,none⟩=some sv) (hI:Held n₀ w sv l):
  SeqStopsK F n prog 382 #[.pointer (some ⟨Bs,0,none⟩)] ZCz (Below n₀) (λys=>ys=bwL l l.length)
   (λpre=>∃k,k<=l.length/\pre=bwL l k) l.length w:=λy J Jx W hW _ _ hY h0=>by
 have hc':=(hW.cell (p:=⟨Bs,0,none⟩) (by show Bs<_;omega)).trans hc;rcases hI.below (hW.mono hn₀) with ⟨a,cap,rfl,rfl⟩|⟨b,off,cap,rfl,hb,hcs⟩
 ·exact (ZyS F n h8 hro y Bs cap a J W hc' h0).mono λe W' ⟨he,hj⟩=>⟨he,.inl ⟨_,rfl,hj⟩⟩
 ·exact ZR2 F n h8 hro hn y Bs n₀ b off cap l hreach hb hBs J Jx hY W hc' hcs h0
end
end Go.Proofs.YtpnjbfjomebppaaGreat
open Go.IntKind (u8 u16 i64)
namespace Go.Proofs.YtpnjbfjomebppaaGreat
open Go Go.S3 Go.Proofs Go.Proofs.Cells Go.RowKit Go.Shelf
attribute [local go_sem] Oper.semAt_some
noncomputable section
set_option maxRecDepth 100000 in
set_option maxHeartbeats 2000000 in
theorem ZXH (F:Fence) (n:Nat) (h4:F.fn 270) (h6:F.fn 345) (h8:F.fn 382) (hro:F.round=none) (hn:3<=n) (a:Option Addr) (len cap:Nat) (l:List Cell) (t:Int) (hreach:l.length<=1073741824)
  (w:World) (hI:Held w.heap.size w (.slice a len cap) l):
  CallsIn F n Tryz.prog 270 #[.slice a len cap,.int .u16 t] w λe W'=>e=.returned (.int .u8 (getX l t))/\Below w.heap.size w W':=by
 have h1:1<=n:=by omega
 refine callsIn_of_wp_marks Tryz.func270 rfl h4 ?_ hro;simp only[Tryz.ntmps270,Yak,List.length_cons,List.length_nil,Nat.reduceAdd,Nat.reduceSub,Array.replicate_succ,Array.replicate_zero,List.push_toArray,List.append_toArray,List.nil_append,List.cons_append]
 gi_wp2_with (gi_at_call 345;refine (ZWb F (n-1) h6 hro _ _ _ _).mono ?_;rintro e w' ⟨rfl,rfl⟩)
 have bT:=Boxed.new w 34 (.int .u16 t);have bR:=Boxed.new (w.alloc (.cells #[.int .u16 t] 34)) 5 (.int .u8 0);have bN:=Boxed.new ((w.alloc (.cells #[.int .u16 t] 34)).alloc (.cells #[.int .u8 0] 5)) 26 (.slice a len cap);rw[World.size_alloc] at bR bN;rw[World.size_alloc] at bN;have hB0:Below w.heap.size w (((w.alloc (.cells #[.int .u16 t] 34)).alloc (.cells #[.int .u8 0] 5)).alloc (.cells #[.slice a len cap] 26)):=(((Below.refl _ w).alloc (Ye _) _).alloc (by simp) _).alloc (by simp;omega) _;refine wpIn_rangeFunc_ownH hro h1 (gf:=382) (lb:= #[.pointer (some ⟨w.heap.size+2,0,none⟩)]) rfl h8 (enters_of Tryz.func382 (by kernel_rfl) rfl)
  (ZIi F (n-1) h8 hro (by omega) (w.heap.size+2) (w.heap.size+3) _ l hreach _ (by omega) (by simp) bN.cell ?held) belowK_t (belowK_b (by simp)) (Below.refl _ _) (λ_=>rfl)
  (λpre W=>((∀p∈pre,p.2.1≠t)/\W.cell? ⟨w.heap.size,0,none⟩=some (.int .u16 t)/\W.cell? ⟨w.heap.size+1,0,none⟩=some (.int .u8 0)/\W.frozen? ⟨w.heap.size+1,0,none⟩=false/\w.heap.size+3<=W.heap.size)/\Below w.heap.size w W)
  (λc pre W=>(c=.ret/\∃ini last,pre=ini++[last]/\(∀p∈ini,p.2.1≠t)/\last.2.1=t/\W.cell? ⟨w.heap.size+1,0,none⟩=some (.int .u8 last.2.2))/\Below w.heap.size w W)
  (OwnFrom.and (Own.from (λs A B row hs hg hr=>⟨hs.1,cell_kept hs.2.1 hg hr,cell_kept hs.2.2.1 hg hr,(frozen_kept hs.2.2.1 hg hr).trans hs.2.2.2.1,YS hs.2.2.2.2 hg.size⟩) _) (ownFrom_below (Ye _) (by simp;omega)))
  (λc=>OwnFrom.and (Own.from (λs A B row hs hg hr=>by obtain⟨hc,ini,last,e1,e2,e3,e4⟩:=hs;exact⟨hc,ini,last,e1,e2,e3,cell_kept e4 hg hr⟩) _) (ownFrom_below (Ye _) (by simp;omega)))
  ⟨⟨by simp,((bT.alloc _).alloc _).cell,(bR.alloc _).cell,(bR.alloc _).frozen,by simp⟩,hB0⟩
  (λx a' W=>∃B,W.cell? ⟨B,0,none⟩=some (.int .u16 x.2.1)/\W.cell? ⟨B,1,none⟩=some (.int .u8 x.2.2)/\
   a'={tmps:= #[.slice a len cap,.int .u16 t,undef,.pointer (some ⟨w.heap.size,0,none⟩),.pointer (some ⟨w.heap.size+1,0,none⟩),undef,.pointer (some ⟨B,0,none⟩),.slice a len cap,.func (.func 382) #[] #[.pointer (some ⟨w.heap.size+2,0,none⟩)],.int .i64 (x.1:Int),.agg #[.int .u16 x.2.1,.int .u8 x.2.2],undef,undef,undef,undef,undef,undef],defers:=[]})
  (λx a'=>Own.from (λs A B row hs hg hr=>by obtain⟨b,e2,e3,e4⟩:=hs;exact⟨b,cell_kept e2 hg hr,cell_kept e3 hg hr,e4⟩) _)
  ?assign ?body ?done ?stop
 case held=>exact (hI.below hB0).mono (by omega)
 case assign=>
  rintro y pre x W K ⟨⟨hp,hct,hcr,hfr,hsz⟩,hB⟩ hK;gi_wp2
  have hn1:∀o:Obj,(W.alloc o).heap[W.heap.size]? =some o:=λo=>World.alloc_heap_new W o
  refine hK _ _ ((KeepsOthers.alloc W _).from _) ((Below.refl _ W).alloc hsz _) ⟨⟨hp,?_,?_,?_,by simp;omega⟩,hB.alloc (by omega) _⟩ ⟨W.heap.size,?_,?_,rfl⟩
  ·exact cell_kept hct (World.grownBy_alloc W _ none) (λr e=>by cases e)
  ·exact cell_kept hcr (World.grownBy_alloc W _ none) (λr e=>by cases e)
  ·exact (frozen_kept hcr (World.grownBy_alloc W _ none) (λr e=>by cases e)).trans hfr
  ·simp only[World.cell?];rw[hn1];rfl
  ·simp only[World.cell?];rw[hn1];rfl
 case body=>
  rintro y pre x a' W hy hl ⟨⟨hp,hct,hcr,hfr,hsz⟩,hB⟩ ⟨B,hB2,hB3,rfl⟩ _;gi_wp2
  ·have hx:x.2.1=t:=by simpa using (by assumption:(x.2.1==t)=true)
   exact⟨(KeepsOthers.setCell _ _ _).from _,⟨rfl,pre,x,rfl,hp,hx,World.cell?_setCell_same' _ _ _ (by rw[hcr];rfl)⟩,hB.setCell (p:=⟨w.heap.size+1,0,none⟩) (by simp) _⟩
  ·have hx:x.2.1≠t:=by simpa using (by assumption:(x.2.1==t)=false)
   exact⟨KeepsFrom.refl _ _,Below.refl _ _,⟨λp hp'=>(Yad.1 hp').elim (hp p) (λe=>by simp at e;subst e;exact hx),hct,hcr,hfr,hsz⟩,hB⟩
 case done=>
  rintro D ys W hD rfl ⟨⟨hne,hct,hcr,hfr,hsz⟩,hB⟩ hK;gi_wp2
  have hK':=(KeepsOthers.setCell W ⟨w.heap.size+1,0,none⟩ (.int .u8 0)).same D _ hK rfl;refine⟨by simp,.inl ⟨_,_,rfl,run_takeDeferred hK',?_⟩⟩;have hc5:=cell_kept (World.cell?_setCell_same' W ⟨w.heap.size+1,0,none⟩ (.int .u8 0) (by rw[hcr];rfl)) (grownBy_putObj' _ D (.deferred none)) (λr e=>by cases e;exact⟨_,hK',rfl⟩);have h0:getX l t=0:=Zl8 λc hc=>by obtain⟨i,hi,rfl⟩:=YaI.1 hc;have e1:=Zc1 l i hi;rw[Yk hi,oinj] at e1;rw[e1];refine hne (i,el l i) ?_;simp only[bwL,List.mem_map,YaG];exact⟨l.length-1-i,by omega,by rw[show l.length-1-(l.length-1-i)=i by omega]⟩
  refine⟨.int .u8 0,?_,by rw[h0],(hB.setCell (p:=⟨w.heap.size+1,0,none⟩) (by simp) _).trans (belowK_b (w:=w) (Ye _) _ D _ _ (by simp at hD;omega) hK' rfl rfl)⟩;simp[results,Tryz.f270,go_sem,hc5]
 case stop=>
  rintro D c pre W hD ⟨k,hk,rfl⟩ ⟨⟨rfl,ini,last,e1,e2,e3,hcr⟩,hB⟩ hK;gi_wp2
  refine⟨by simp,.inl ⟨_,_,rfl,run_takeDeferred hK,?_⟩⟩;have hc5:=cell_kept hcr (grownBy_putObj' _ D (.deferred none)) (λr e=>by cases e;exact⟨_,hK,rfl⟩);obtain⟨k',rfl⟩:∃k',k=k'+1:=by
   cases k with
   |zero=>simp[bwL] at e1
   |succ k'=>exact⟨k',rfl⟩
  rw[ZFI] at e1;obtain⟨rfl,e5⟩:=List.append_inj' e1 rfl;simp only[List.cons.injEq,and_true] at e5;subst e5;have hg:getX l t=(el l (l.length-1-k')).2:=ZVP (i:=l.length-1-k') (by omega) e3 λq h1 h2=>by refine e2 (q,el l q) ?_;simp only[bwL,List.mem_map,YaG];exact⟨l.length-1-q,by omega,by rw[show l.length-1-(l.length-1-q)=q by omega]⟩
  refine⟨.int .u8 (el l (l.length-1-k')).2,?_,by rw[hg],hB.trans (belowK_b (w:=w) (Ye _) W D _ _ (by simp at hD;omega) hK rfl rfl)⟩;simp[results,Tryz.f270,go_sem,hc5]
def ZXw:List Sh:=[.one (.sl (R.Pq (R.int u16) (R.int u8))),.one (.int u16)]
def ZXx:Rs:=.one (.one (R.int u8))
def ZXy:En:=Zg ZXw ZXx (λa=>some (Nat.ble (List.length (α:=Cell) a.1) most)) (λa=>getX a.1 a.2)
theorem ZVO (l:List Cell) (h:∀c∈l,inR .u8 c.2) (t:Int):inR .u8 (getX l t):=by
 by_cases hx:∃c∈l,c.1=t
 ·have hne:flt t l≠[]:=by
   obtain⟨c,hc,he⟩:=hx;intro h0;have:c∈flt t l:=by simp[flt,hc,he]
   rw[h0] at this;simp at this
  rw[getX];cases hq:(flt t l).getLast? with
  |none=>exact absurd (List.getLast?_eq_none_iff.1 hq) hne
  |some c=>
   have:=List.mem_of_getLast? hq;simp only[flt,List.mem_filter] at this;exact h c this.1
 ·rw[Zl8 λc hc e=>hx ⟨c,hc,e⟩];exact⟨by decide,by decide⟩
theorem ZVy:Zb Tryz.prog 270 ZXy:=by
 refine⟨Tryz.call270,λvs chk v hp hc x m w args hm hv=> ?_⟩;simp only at hp;split at hp
 ·rename_i a ha;simp only[oinj,pinj] at hp;obtain⟨rfl,rfl⟩:=hp;obtain⟨hargs,hin⟩:=ZbW ha hv;obtain⟨l,t⟩:=a;have hle:List.length (α:=Cell) l<=most:=by
   cases hb:Nat.ble (List.length (α:=Cell) l) most with
   |true=>simpa [YB] using hb
   |false=>rw[hb] at hc;exact absurd rfl hc
  have hmost:most<=1073741824:=by decide
  match args,hargs with
  |[v0,v1],hargs=>
   have hv0:RA x (.lst (R.Pq (R.int u16) (R.int u8)) false false false l) v0:=hargs.1;have hv1:RA x (.int false .u16 t) v1:=hargs.2.1;have hl8:∀c∈(l:List Cell),inR .u8 c.2:=λc hc=>((hin.1:rcCE.ok l).2 c hc).2
   cases hv1;obtain⟨aa,len,cap,rfl,hheld⟩:∃aa len cap,v0=.slice aa len cap/\Held w.heap.size w (.slice aa len cap) l:=by
    cases hv0 with
    |lst0 _ _ _ _ _ _ a cap h1 h2 h3 _=>exact⟨a,0,cap,rfl,.inl ⟨a,cap,rfl,h1⟩⟩
    |lst _ _ _ _ _ _ p o cap c h0 hf hcap hml hz hr=>
     refine⟨_,_,cap,rfl,.inr ⟨p,o,cap,rfl,?_,λj hj=> ?_⟩⟩
     ·have hpos:0<List.length (α:=Cell) l:=List.length_pos_iff.2 h0;exact hm.fz_lt (hz 0 0 _ hpos rfl)
     ·have q1:=hm.fz _ _ _ (hz j 0 _ hj rfl);have q2:=hm.fz _ _ _ (hz j 1 _ hj rfl);have r1:=hr j 0 _ hj rfl;have r2:=hr j 1 _ hj rfl;generalize c j 0=c0 at q1 r1;generalize c j 1=c1 at q2 r2;cases r1;cases r2;exact⟨q1,q2⟩
   have key:=ZXH {fn:=λ_=>True} 3 trivial trivial trivial rfl (Ye _) aa len cap l t (by omega) w hheld;refine (key.calls (λk d hd=>by simp at hd)).mono ?_;rintro e w' ⟨rfl,hb⟩;have hs:ZdH w w':=⟨⟨hb.size,λk hk=>hb.block k hk⟩,hb.os,hb.tape,hb.output⟩;exact⟨_,x,rfl,.int _ _ _ _ (ZVO l hl8 t),hm.old hs.1,.refl x,hs⟩
  |[],hargs=>exact hargs.elim
  |[_],hargs=>exact hargs.2.elim
  |_::_::_::_,hargs=>exact hargs.2.2.elim
 ·simp at hp
end
end Go.Proofs.YtpnjbfjomebppaaGreat
open Go Go.S3 Go.Proofs
set_option maxRecDepth 100000
namespace Go.Proofs.YtpnjbfjomebppaaGreat
noncomputable section
abbrev ZWu:List Sh:=[Sh.agg (R.Pq (R.int u16) (R.int u8)),Sh.one (R.int u16)]
abbrev ZWv:Rs:=Rs.one (Sh.one (R.int i64))
def uAtT (c:Int×Int) (t:Int):RT (Int):=
 .Lf (uCmp c.1 t)
def uAt (c:Int×Int) (t:Int):Int:=(uAtT c t).val
def uAtE:En:=Zg ZWu ZWv (λ_=>none) (λa=>uAt a.1 a.2)
theorem ZJo:Zb prog 277 uAtE:=
 pureQ 31 [(161,ZTN)] [] ZWu ZWv ⟨ZJl,Tv⟩ Tryz.func277 Tryz.call277 trivial (t:=λa=>uAtT a.1 a.2)
abbrev ZJk:List Sh:=[Sh.one rcCE,Sh.one (R.int u16)]
abbrev Zzd:Rs:=Rs.tup [Sh.one (R.int i64),Sh.one R.bool]
def ZPv:LS:={n:=49,Sl:=[(0,.code (Sh.one rcCE)),(1,.code (Sh.one (R.int u16))),(2,.fix (A.clo 277 [])),(8,.code (Sh.one (R.int i64))),(9,.code (Sh.one (R.int i64))),(10,.code (Sh.one (R.int i64)))],Bx:=[],Sg:=[]}
def Zhf (a:List (Int×Int)×Int×Int×Int×Int×PUnit):RT (Option (Go1 (List (Int×Int)×Int×Int×Int×Int×PUnit))):=
 let x1:=i64.wrap (shrI IntKind.u64 (IntKind.u64.wrap (i64.wrap (a.2.2.2.1+a.2.2.2.2.1))) 1)
 let x2:=decide (uAt (R.get (R.Pq (R.int u16) (R.int u8)) a.1 x1) a.2.1<0)
 .br (decide (a.2.2.2.1<a.2.2.2.2.1)) (.br (Zf x1 (List.length a.1)) (.Lf (some (Go1.cont (a.1,a.2.1,a.2.2.1,bif x2 then i64.wrap (x1+1) else a.2.2.2.1,bif x2 then a.2.2.2.2.1 else x1,PUnit.unit)))) (.Lf none)) (.Lf (some (Go1.brk (a.1,a.2.1,a.2.2.1,a.2.2.2.1,a.2.2.2.2.1,PUnit.unit))))
def ZC1:Ora:=ZbI false ZPv Zhf (λa=>(a.2.2.2.2.1-a.2.2.2.1).toNat+1)
theorem ZF6:Zbg (envX prog [(277,uAtE)] [] 4095 8) (.block 0 (.loop (Z7 Tryz.f276.body 0))) ZC1:=
 loopP ⟨ZJo,Tv⟩
def Zqc (x:List (Int×Int)) (t:Int):RT (Option (Int×Bool)):=
 let x1:List (Int×Int)×Int×Int×Int×Int×PUnit:=(x,t,iN (List.length x),0,iN (List.length x),())
 let x2:=runF false Zhf (λa=>Int.toNat (a.2.2.2.2.1-a.2.2.2.1)+1) x1
 let x3:List (Int×Int)×Int×Int×Int×Int×PUnit:=(getO (false,x1) x2).2
 let x4:=x3.2
 let x5:=x4.2
 let x6:=x5.2.1
 let x7:=decide (x6<x5.1)
 let x8:=x3.1
 .br (okB x2) (.br (!x7||Zf x6 (List.length x8)) (.Lf (some ((bif x7 then x6 else x6,x7&&uAt (R.get (R.Pq (R.int u16) (R.int u8)) x8 x6) x4.1==0)))) (.Lf none)) (.Lf none)
def Zec (x:List (Int×Int)) (t:Int):Int×Bool:=getO Zzd.Df (Zqc x t).val
def ZC2 (x:List (Int×Int)) (t:Int):Bool:=okB (Zqc x t).val
def ZR9:En:=ZKJ 277 ZJk Zzd (λa=>some (ZC2 a.1 a.2)) (λa=>Zec a.1 a.2)
theorem ZPu:Zb prog 276 ZR9:=
 ZGo (P:=prog) (n:=4095) (k:=8) (l:=[(277,uAtE)]) (ol:=[(0,ZC1)]) ⟨ZJo,Tv⟩ Tryz.func276 rfl (by kernel_rfl) Tryz.call276 ⟨ZF6,Tv⟩ (g0:=277) (ts:=ZJk) (rs:=Zzd) (t:=λa=>Zqc a.1 a.2) (λa=>by kernel_rfl)
abbrev ZSV:List Sh:=[Sh.one rcCE,Sh.one (R.int u16),Sh.one (R.int u8)]
abbrev ZNx:Rs:=Rs.one (Sh.one rcCE)
def ZHU (m:List (Int×Int)) (t:Int) (v:Int):RT (Option (List (Int×Int))):=
 let x1:= !(v==0&& !(Zec m t).2)||Nat.ble (List.length m) most
 let x2:= !x1
 let x3:=v==0&& !(Zec m t).2||(!v==0||(!Nat.ble (List.length m) most||decide (0<=(Zec m t).1)&&decide ((Zec m t).1<iN (List.length m))&&decide (i64.wrap ((Zec m t).1+1)=(Zec m t).1+1)))
 let x4:= !x3
 let x5:=v==0&& !(Zec m t).2||(!v==0||Nat.ble (List.length m) most)
 let x6:= !x5
 let x7:=v==0&& !(Zec m t).2||(v==0||(!(Zec m t).2||Nat.ble (List.length m) most))
 .br (Zuz m) (.br (!!ZoV m||(!Nat.ble (List.length m) most||(!Nat.ble (List.length (m++[(t,v)])) most||Zya (m++[(t,v)])))) (.br (!!ZoV m||(!Nat.ble (List.length m) most||Nat.ble (List.length (m++[(t,v)])) most)) (.br (!!ZoV m||Nat.ble (List.length m) most) (.br (!ZoV m) (.Lf (some (ZND (m++[(t,v)])))) (.br (ZC2 m t) (.br (x2||(x4||(x6||(!x7||(v==0&& !(Zec m t).2||(v==0||(!(Zec m t).2||Zf (Zec m t).1 (List.length m)))))))) (.br (x2||(x4||(x6||x7))) (.br (x2||(x4||x5)) (.br (x2||x3) (.br (x1) (.br (v==0&& !(Zec m t).2) (.Lf (some (m))) (.br (v==0) (.Lf (some (delX m (Int.toNat (Zec m t).1)))) (.br (Zec m t).2 (.Lf (some (setI m (Zec m t).1 ((R.get (R.Pq (R.int u16) (R.int u8)) m (Zec m t).1).1,v)))) (.br (!Nat.ble (List.length m) most||decide (0<=(Zec m t).1)&&decide ((Zec m t).1<=iN (List.length m))&&Nat.ble (List.length m+1) most) (.br (Nat.ble (List.length m) most) (.Lf (some (insX m (Int.toNat (Zec m t).1) (t,v)))) (.Lf none)) (.Lf none))))) (.Lf none)) (.Lf none)) (.Lf none)) (.Lf none)) (.Lf none)) (.Lf none))) (.Lf none)) (.Lf none)) (.Lf none)) (.Lf none)
def mPut (m:List (Int×Int)) (t:Int) (v:Int):List (Int×Int):=getO ZNx.Df (ZHU m t v).val
def ZRc (m:List (Int×Int)) (t:Int) (v:Int):Bool:=okB (ZHU m t v).val
def ZXv:En:=Zg ZSV ZNx (λa=>some (ZRc a.1 a.2.1 a.2.2)) (λa=>mPut a.1 a.2.1 a.2.2)
theorem ZVw:Zb prog 210 ZXv:=
 Zna (P:=prog) (n:=35253225784319) (k:=108) (l:=[(90,ZNC),(98,ZuZ),(103,ZNw),(276,ZR9),(277,uAtE),(278,delE),(279,insE)]) (ol:=[]) ⟨ZFb,Zpz,Zx7,ZPu,ZJo,ZXO,ZXF,Tv⟩ Tryz.func210 rfl (by kernel_rfl) Tryz.call210 trivial (ts:=ZSV) (rs:=ZNx) (t:=λa=>ZHU a.1 a.2.1 a.2.2) (λa=>by kernel_rfl)
end
end Go.Proofs.YtpnjbfjomebppaaGreat
open Go Go.S3 Go.Proofs Go.Proofs.Cells
namespace Go.Proofs.YtpnjbfjomebppaaGreat
noncomputable section
theorem ZJm (x y:Int):decide (uCmp x y<0)=decide (x<y):=by
 simp only[uCmp,ZJn,RT.val,Yas,Yc];by_cases h:x<y
 ·simp[h]
 ·by_cases h2:x>y<;>simp[h,h2]
theorem ZTM (x y:Int):(uCmp x y==0)=(x==y):=by
 simp only[uCmp,ZJn,RT.val,Yas,Yc];by_cases h:x<y
 ·have:x≠y:=by omega
  simp[h,this]
 ·by_cases h2:x>y
  ·have:x≠y:=by omega
   simp[h,h2,this]
  ·have:x=y:=by omega
   simp[h,h2,this]
theorem ZJp (c:Cell) (t:Int):uAt c t=uCmp c.1 t:=rfl
def At (m:List Cell) (t:Int) (i:Nat):Prop:=i<=m.length/\(∀k,k<i->(el m k).1<t)/\∀k,i<=k->k<m.length->t<=(el m k).1
theorem ZIU (m:List Cell) (t:Int) (hv:Vld m) (hm:m.length<=most):ZC2 m t=true/\∃i,At m t i/\Zec m t=((i:Int),decide (i<m.length)&&((el m i).1==t)):=by
 have hms:=mst;obtain⟨r,hr,h1,i,hi,hR⟩:=ZC (fl:=false) (t:=Zhf) (fuel:=λa=>Int.toNat (a.2.2.2.2.1-a.2.2.2.1)+1)
  (λa=>∃lo hi:Nat,lo<=hi/\hi<=m.length/\(∀k,k<lo->(el m k).1<t)/\(∀k,hi<=k->k<m.length->t<=(el m k).1)/\a=(m,t,(m.length:Int),(lo:Int),(hi:Int),()))
  (λa=>Int.toNat (a.2.2.2.2.1-a.2.2.2.1)) (λr=>r.1=false/\∃i:Nat,At m t i/\r.2=(m,t,(m.length:Int),(i:Int),(i:Int),()))
  (by
   rintro a ⟨lo,hi,h1,h2,h3,h4,rfl⟩;by_cases hlt:lo<hi
   ·left;have d:decide ((lo:Int)<(hi:Int))=true:=by simpa using hlt
    have hmid:=Zpe lo hi (by omega);obtain⟨M,hM⟩:∃M,M=(lo+hi)/2:=⟨_,rfl⟩;rw[<-hM] at hmid;have r1:=ZaD m M (by omega);have g:=Zc0 m M;have w:=ZhH M (by omega);by_cases hc:(el m M).1<t
    ·have dc:decide (uAt (el m M) t<0)=true:=by rw[ZJp,ZJm];simpa using hc
     refine⟨(m,t,(m.length:Int),((M+1:Nat):Int),(hi:Int),()),?_,⟨M+1,hi,by omega,h2,λk hk=> ?_,h4,rfl⟩,by simp only;omega⟩
     ·simp only[Zhf,RT.val,d,hmid,r1,g,dc,w,Ya]
     ·by_cases e:k=M
      ·subst e;exact hc
      ·by_cases e2:k<lo
       ·exact h3 k e2
       ·have:=YaB.1 hv.1 k M (by omega) (by omega) (by omega);have e1:=Zc1 m k (by omega);have e3:=Zc1 m M (by omega);rw[Yk (by omega),oinj] at e1 e3;rw[e1,e3] at this;omega
    ·have dc:decide (uAt (el m M) t<0)=false:=by rw[ZJp,ZJm];simpa using hc
     refine⟨(m,t,(m.length:Int),(lo:Int),(M:Int),()),?_,⟨lo,M,by omega,by omega,h3,λk hk hk2=> ?_,rfl⟩,by simp only;omega⟩
     ·simp only[Zhf,RT.val,d,hmid,r1,g,dc,Ya,Yc]
     ·by_cases e:k=M
      ·subst e;omega
      ·have:=YaB.1 hv.1 M k (by omega) (by omega) (by omega);have e1:=Zc1 m k (by omega);have e3:=Zc1 m M (by omega);rw[Yk (by omega),oinj] at e1 e3;rw[e1,e3] at this;omega
   ·right;left;have d:decide ((lo:Int)<(hi:Int))=false:=by simpa using hlt
    have:hi=lo:=by omega
    subst this
    exact⟨_,by simp only[Zhf,RT.val,d,Yc],rfl,hi,⟨h2,h3,h4⟩,rfl⟩)
  (m,t,iN m.length,0,iN m.length,()) ⟨0,m.length,Yu _,Ye _,λk h=>by omega,λk h1 h2=>by omega,rfl⟩ (by simp only[iN];omega)
 obtain⟨r1,r2⟩:=r;simp only at h1 hR;subst h1 hR;have hd:decide ((i:Int)<(m.length:Int))=decide (i<m.length):=by simp
 have hv:(Zqc m t).val=some ((i:Int),decide (i<m.length)&&((el m i).1==t)):=by
  have g:=Zc0 m i;by_cases hlt:i<m.length
  ·have r1:=ZaD m i hlt;have hd:decide ((i:Int)<(m.length:Int))=true:=by simpa using hlt
   simp only[Zqc,RT.val,hr,okB,getO,Ya,hd,r1,Yf,Yi,g,ZJp,ZTM,hlt,decide_true,YK]
  ·have hd:decide ((i:Int)<(m.length:Int))=false:=by simpa using hlt
   simp only[Zqc,RT.val,hr,okB,getO,Ya,Yc,hd,Ym,Yv,hlt,decide_false,YT]
 exact⟨by simp only[ZC2,hv];rfl,i,hi,by simp only[Zec,hv,getO]⟩
theorem ZKH:∀(i:Nat) (m:List Cell) (c:Cell),i<=m.length->(∀k,k<i->(el m k).1<c.1)->putX m c=m.take i++putX (m.drop i) c
 |0,m,c,_,_=>by simp
 |i+1,[],c,h,_=>by simp at h
 |i+1,x::m,c,h,hk=>by have h0:x.1<c.1:=hk 0 (by omega);rw[putX,YX h0,ZKH i m c (by simpa using h) (λk h'=>hk (k+1) (by omega))];simp
theorem ZKG (m:List Cell) (t v:Int) (i:Nat) (h:At m t i):
  (v=0->(decide (i<m.length)&&((el m i).1==t))=false->putX m (t,v)=m)/\
  (v=0->(decide (i<m.length)&&((el m i).1==t))=true->putX m (t,v)=delX m i)/\
  (v≠0->(decide (i<m.length)&&((el m i).1==t))=true->putX m (t,v)=setI m (i:Int) ((el m i).1,v))/\
  (v≠0->(decide (i<m.length)&&((el m i).1==t))=false->putX m (t,v)=insX m i (t,v)):=by
 obtain⟨h1,h2,h3⟩:=h;have hp:=ZKH i m (t,v) h1 h2;by_cases hlt:i<m.length
 ·have hd:=ZuS m i hlt;have hge:=h3 i (Ye _) hlt;have hn:¬(el m i).1<t:=by omega
  rw[hd] at hp;simp only[putX,Y1 hn] at hp;simp only[hlt,decide_true,YK];refine⟨λhz he=> ?_,λhz he=> ?_,λhz he=> ?_,λhz he=> ?_⟩
  ·have he:(el m i).1≠t:=by simpa using he
   rw[hp,YX hz,Y1 he,<-hd,Yaf]
  ·have he:(el m i).1=t:=by simpa using he
   rw[hp,YX hz,YX he,delX]
  ·have he:(el m i).1=t:=by simpa using he
   rw[hp,Y1 hz,YX he,setI,Int.toNat_natCast,he,List.set_eq_take_append_cons_drop,YX hlt]
  ·have he:(el m i).1≠t:=by simpa using he
   rw[hp,Y1 hz,Y1 he,insX,<-hd];simp
 ·have he:i=m.length:=by omega
  subst he;simp only[List.drop_length,putX] at hp;simp only[Nat.lt_irrefl,decide_false,YT];refine⟨λhz _=> ?_,λhz he=>by simp at he,λhz he=>by simp at he,λhz _=> ?_⟩
  ·rw[hp,YX hz];simp
  ·rw[hp,Y1 hz,insX];simp
theorem ZRa (m:List Cell) (t v:Int) (hm:m.length+1<=most):ZRc m t v=true/\mPut m t v=putX (normX m) (t,v):=by
 have hms:=mst;have hv1:=ZxY m (by omega);have hb1:Nat.ble m.length most=true:=by rw[YB];omega
 have hv:(ZHU m t v).val=some (putX (normX m) (t,v)):=by
  cases hval:vldB m with
  |false=>
   have hl:(m++[(t,v)]).length<=most:=by simp;omega
   have hb2:Nat.ble (m++[(t,v)]).length most=true:=by rw[YB];exact hl
   obtain⟨n1,n2⟩:=ZxZ (m++[(t,v)]) hl;simp only[ZHU,RT.val,hv1.1,hv1.2,hval,hb1,hb2,n1,n2,Zkx,Ym,Yf,Yh,Yar,Ya]
  |true=>
   have hV:=Zg9.1 hval;obtain⟨f1,i,hi,f2⟩:=ZIU m t hV (by omega);obtain⟨q1,q2,q3,q4⟩:=ZKG m t v i hi;have hile:decide ((i:Int)<=iN m.length)=true:=by simpa [iN] using hi.1
   have hi0:decide ((0:Int)<=(i:Int))=true:=by simp
   have hb3:Nat.ble (m.length+1) most=true:=by rw[YB];omega
   have w:=ZhH i (by have:=hi.1;omega);have g:=Zc0 m i;rw[Zfl hV];simp only[ZHU,RT.val,hv1.1,hv1.2,hval,hb1,f1,f2,hile,hi0,hb3,w,g,Yf,Ym,Yv,Yh,Yt,Yi,YQ,YK,Ya,Yc,Int.toNat_natCast];cases hfd:(decide (i<m.length)&&((el m i).1==t)) with
   |true=>
    have hlt:i<m.length:=by rw[Yb,Yj] at hfd;exact hfd.1
    have r1:=ZaD m i hlt;have hd:decide ((i:Int)<iN m.length)=true:=by simpa [iN] using hlt
    have hw:decide (((i+1:Nat):Int)=(i:Int)+1)=true:=by simp
    by_cases hz:v=0
    ·have hz1:(v==0)=true:=by simpa using hz
     simp only[hz1,r1,hd,hw,q2 hz hfd,Yf,Ym,Yab,YY,Yv,Yh,Yt,Yi,YQ,Ya,Yc]
    ·have hz1:(v==0)=false:=by simpa using hz
     simp only[hz1,r1,hd,hw,q3 hz hfd,Yf,Ym,YT,Yab,YY,Yv,Yh,Yt,Yi,YQ,Ya,Yc]
   |false=>
    by_cases hz:v=0
    ·have hz1:(v==0)=true:=by simpa using hz
     simp only[hz1,q1 hz hfd,Yf,Ym,Yab,YY,Yv,Yh,Yt,Yi,YQ,Ya,Yc]
    ·have hz1:(v==0)=false:=by simpa using hz
     simp only[hz1,q4 hz hfd,Yf,Ym,YT,Yab,YY,Yv,Yh,Yt,Yi,YQ,Ya,Yc]
 exact⟨by simp only[ZRc,hv];rfl,by simp only[mPut,hv,getO]⟩
abbrev Znw:List Sh:=[Sh.one rcRG]
abbrev Zjb:Rs:=Rs.one (Sh.one (R.int i64))
def ZGD:LS:={n:=30,Sl:=[(2,.code (Sh.one (R.int i64))),(8,.code (Sh.one rcRG)),(9,.code (Sh.one (R.int i64))),(10,.code (Sh.one (R.int i64)))],Bx:=[],Sg:=[]}
def ZqO (a:QT17):RT (Option (Go1 (QT17))):=
 let x1:QT7:=R.get (R.Pq (R.int u16) (R.Pq (R.int u16) (R.Pq R.bool (R.int i64)))) a.2.1 a.2.2.2.1
 let x2:=x1.2
 let x3:=x2.2.2
 let x4:List (QT7)×Int×Int×PUnit:=(a.2.1,a.2.2.1,a.2.2.2.1,PUnit.unit)
 .br (decide (a.2.2.2.1<a.2.2.1)) (.br (Zf a.2.2.2.1 (List.length a.2.1)) (.br (decide (x2.1<x1.1)||(decide (x3<0)||decide (x3>100))) (.Lf (some (Go1.ret (1,x4)))) (.Lf (some (Go1.cont (a.1,a.2.1,a.2.2.1,i64.wrap (a.2.2.2.1+1),PUnit.unit))))) (.Lf none)) (.Lf (some (Go1.brk (a.1,x4))))
def ZqP:Ora:=ZbI true ZGD ZqO (λa=>1000000000000)
theorem Zxe:Zbg (envX prog [] [] 31 8) (.block 0 (.loop (Z7 Tryz.f102.body 0))) ZqP:=
 loopP trivial
def ZlR (l:List (QT7)):RT (Option (Int)):=
 let x1:=runF true ZqO (λa=>1000000000000) (0,l,iN (List.length l),0,())
 let x2:=getO (false,0,l,iN (List.length l),0,()) x1
 .br (decide (iN (List.length l)>16)) (.Lf (some (3))) (.br (okB x1) (.br x2.1 (.Lf (some x2.2.1)) (.Lf (some (0)))) (.Lf none))
def ZLm (l:List (QT7)):Int:=getO Zjb.Df (ZlR l).val
def ZEe (l:List (QT7)):Bool:=okB (ZlR l).val
def ZQr:En:=Zg Znw Zjb (λa=>some (ZEe a)) (λa=>ZLm a)
theorem ZGC:Zb prog 102 ZQr:=
 pureP 31 [] [(0,ZqP)] Znw Zjb trivial Tryz.func102 Tryz.call102 ⟨Zxe,Tv⟩ (t:=λa=>ZlR a)
abbrev Zte:List Sh:=[Sh.one rcRG,Sh.one rcCE,Sh.one (R.int u16)]
abbrev ZlU:Rs:=Rs.one (Sh.one (R.int u8))
def ZnH (l:List (QT7)) (m:List (Int×Int)) (t:Int):RT (Option (Int)):=
 .br (Zxw l t) (.br (decide (ZpR l t<0)) (.Lf (some (255))) (.br (Nat.ble (List.length m) most) (.Lf (some (Cells.getX m t))) (.Lf none))) (.Lf none)
def ZLG (l:List (QT7)) (m:List (Int×Int)) (t:Int):Int:=getO ZlU.Df (ZnH l m t).val
def ZAs (l:List (QT7)) (m:List (Int×Int)) (t:Int):Bool:=okB (ZnH l m t).val
def ZUJ:En:=Zg Zte ZlU (λa=>some (ZAs a.1 a.2.1 a.2.2)) (λa=>ZLG a.1 a.2.1 a.2.2)
theorem ZLF:Zb prog 202 ZUJ:=
 pureP 127 [(209,ZEK),(270,ZXy)] [] Zte ZlU ⟨ZtD,ZVy,Tv⟩ Tryz.func202 Tryz.call202 trivial (t:=λa=>ZnH a.1 a.2.1 a.2.2)
abbrev Znq:List Sh:=[Sh.one rcRG,Sh.one rcCE,Sh.one (R.int u16),Sh.one (R.int u8)]
abbrev Zi8:Rs:=Rs.one (Sh.one rcCE)
def Zi7 (l:List (QT7)) (m:List (Int×Int)) (t:Int) (v:Int):RT (Option (List (Int×Int))):=
 let x1:=decide (ZpR l t>=0)&&(R.get (R.Pq (R.int u16) (R.Pq (R.int u16) (R.Pq R.bool (R.int i64)))) l (ZpR l t)).2.2.1
 .br (Zxw l t) (.br (!decide (ZpR l t>=0)||Zf (ZpR l t) (List.length l)) (.br (!x1||ZRc m t v) (.br (x1) (.Lf (some (mPut m t v))) (.br (Zya m) (.Lf (some (ZND m))) (.Lf none))) (.Lf none)) (.Lf none)) (.Lf none)
def ZAd (l:List (QT7)) (m:List (Int×Int)) (t:Int) (v:Int):List (Int×Int):=getO Zi8.Df (Zi7 l m t v).val
def ZsY (l:List (QT7)) (m:List (Int×Int)) (t:Int) (v:Int):Bool:=okB (Zi7 l m t v).val
def ZQo:En:=Zg Znq Zi8 (λa=>some (ZsY a.1 a.2.1 a.2.2.1 a.2.2.2)) (λa=>ZAd a.1 a.2.1 a.2.2.1 a.2.2.2)
theorem ZGz:Zb prog 143 ZQo:=
 pureP 1023 [(90,ZNC),(209,ZEK),(210,ZXv)] [] Znq Zi8 ⟨ZFb,ZtD,ZVw,Tv⟩ Tryz.func143 Tryz.call143 trivial (t:=λa=>Zi7 a.1 a.2.1 a.2.2.1 a.2.2.2)
abbrev Znr:List Sh:=[Sh.one rcRG,Sh.one (R.int u16)]
abbrev Zja:Rs:=Rs.one (Sh.one (R.int i64))
def Zi9 (l:List (QT7)) (t:Int):RT (Option (Int)):=
 let x1:Int:=(R.get (R.Pq (R.int u16) (R.Pq (R.int u16) (R.Pq R.bool (R.int i64)))) l (ZpR l t)).2.2.2
 let x2:Int:=if 100<x1 then 100 else x1
 .br (Zxw l t) (.br (decide (ZpR l t<0)) (.Lf (some (0))) (.br (Zf (ZpR l t) (List.length l)) (.Lf (some (if x2>0 then x2 else 0))) (.Lf none))) (.Lf none)
def ZAe (l:List (QT7)) (t:Int):Int:=getO Zja.Df (Zi9 l t).val
def ZsZ (l:List (QT7)) (t:Int):Bool:=okB (Zi9 l t).val
def ZQp:En:=Zg Znr Zja (λa=>some (ZsZ a.1 a.2)) (λa=>ZAe a.1 a.2)
theorem ZGA:Zb prog 269 ZQp:=
 pureP 63 [(209,ZEK)] [] Znr Zja ⟨ZtD,Tv⟩ Tryz.func269 Tryz.call269 trivial (t:=λa=>Zi9 a.1 a.2)
def ZKr (n:Int):RT (Int):=
 .Lf (if (if 100<n then 100 else n)>0 then if 100<n then 100 else n else 0)
def Zm4 (n:Int):Int:=(ZKr n).val
abbrev ZJ2:Rs:=Rs.one (Sh.one (R.int i64))
def Zfh (a:QT17):RT (Option (Go1 (QT17))):=
 let x1:QT7:=R.get (R.Pq (R.int u16) (R.Pq (R.int u16) (R.Pq R.bool (R.int i64)))) a.2.1 a.2.2.2.1
 let x2:=x1.2
 let x3:=x2.2.2
 let x4:List (QT7)×Int×Int×PUnit:=(a.2.1,a.2.2.1,a.2.2.2.1,PUnit.unit)
 .br (decide (a.2.2.2.1<a.2.2.1)) (.br (Zf a.2.2.2.1 (List.length a.2.1)) (.br (decide (x2.1<x1.1)||(decide (x3<0)||decide (x3>100))) (.Lf (some (Go1.ret (1,x4)))) (.Lf (some (Go1.cont (a.1,a.2.1,a.2.2.1,i64.wrap (a.2.2.2.1+1),PUnit.unit))))) (.Lf none)) (.Lf (some (Go1.brk (a.1,x4))))
def ZfG (l:List (QT7)):RT (Option (Int)):=
 let x1:=runF true Zfh (λa=>1000000000000) (0,l,iN (List.length l),0,())
 let x2:=getO (false,0,l,iN (List.length l),0,()) x1
 .br (decide (iN (List.length l)>16)) (.Lf (some (3))) (.br (okB x1) (.br x2.1 (.Lf (some x2.2.1)) (.Lf (some (0)))) (.Lf none))
def ZzB (l:List (QT7)):Int:=getO ZJ2.Df (ZfG l).val
def Zsi (l:List (QT7)):Bool:=okB (ZfG l).val
def sm {α:Type} (l:List α):Bool:=Nat.ble (l.length+1) most
def smC (l:List (Int×Int)):Bool:=sm l
def smB (l:List Int):Bool:=sm l
def smG (l:List ZO):Bool:=sm l
variable {α:Type}
theorem ZvN {l:List α}:sm l=true↔l.length+1<=most:=by simp[sm]
theorem ZvM {l:List α} (h:sm l=true):l.length<=most:=by have:=ZvN.1 h;omega
theorem ZRF (l:List ZO) (t:Int): -1<=ZcC l t/\(ZcC l t<0\/∃i:Nat,i<l.length/\ZcC l t=i):=by
 unfold ZcC;split
 ·rename_i h;exact⟨by omega,.inr ⟨_,h,rfl⟩⟩
 ·exact⟨by omega,.inl (by omega)⟩
theorem ZyB (l:List ZO) (t:Int) (h:0<=ZcC l t):Zf (ZcC l t) l.length=true:=by
 rcases (ZRF l t).2 with h1|⟨i,hi,e⟩
 ·omega
 ·rw[e];exact ZaD l i hi
def ZaK (l:List ZO) (m:List Cell) (t v:Int):List Cell:=bif decide (ZcC l t>=0)&&(R.get GR l (ZcC l t)).2.2.1 then putX (normX m) (t,v) else normX m
def limX (n:Int):Int:=if (if 100<n then 100 else n)>0 then if 100<n then 100 else n else 0
def Zgj (l:List ZO) (t:Int):Int:=bif decide (ZcC l t>=0) then limX (R.get GR l (ZcC l t)).2.2.2 else 0
theorem ge_lt (x:Int):decide (x>=0)= !decide (x<0):=by by_cases h:x<0<;>simp[h]<;>omega
theorem ZKP (l:List ZO) (m:List Cell) (t:Int) (hl:l.length<=most) (hm:m.length<=most):ZAs l m t=true/\ZLG l m t=Zgw l m t:=by
 have h1:=Znn l t hl;have hb:Nat.ble m.length most=true:=by rw[YB];exact hm
 have hv:(ZnH l m t).val=some (Zgw l m t):=by simp only[ZnH,RT.val,h1.1,h1.2,hb,Ya,Zgw];cases decide (ZcC l t<0)<;>rfl
 exact⟨by simp only[ZAs,hv];rfl,by simp only[ZLG,hv,getO]⟩
theorem ZGl (l:List ZO) (m:List Cell) (t v:Int) (hl:l.length<=most) (hm:m.length+1<=most):ZsY l m t v=true/\ZAd l m t v=ZaK l m t v:=by
 have h1:=Znn l t hl;have h2:=ZRa m t v hm;have h3:=ZxZ m (by omega);have hv:(Zi7 l m t v).val=some (ZaK l m t v):=by
  have hr:(!decide (ZcC l t>=0)||Zf (ZcC l t) l.length)=true:=by
   by_cases h:0<=ZcC l t
   ·rw[ZyB l t h];simp
   ·have:decide (ZcC l t>=0)=false:=by simp;omega
    rw[this];rfl
  simp only[Zi7,RT.val,h1.1,h1.2,h2.1,h2.2,h3.1,h3.2,hr,Yh,Ya,ZaK];cases decide (ZcC l t>=0)&&(R.get GR l (ZcC l t)).2.2.1<;>rfl
 exact⟨by simp only[ZsY,hv];rfl,by simp only[ZAd,hv,getO]⟩
theorem ZGm (l:List ZO) (t:Int) (hl:l.length<=most):ZsZ l t=true/\ZAe l t=Zgj l t:=by
 have h1:=Znn l t hl;have hv:(Zi9 l t).val=some (Zgj l t):=by
  simp only[Zi9,RT.val,h1.1,h1.2,Ya,Zgj,limX,ge_lt];by_cases h:ZcC l t<0
  ·have hd:decide (ZcC l t<0)=true:=by simpa using h
   simp only[hd,Yf,Ya,Yc]
  ·have hd:decide (ZcC l t<0)=false:=by simpa using h
   have hr:=ZyB l t (by omega);simp only[hd,hr,Ym,Ya,Yc]
 exact⟨by simp only[ZsZ,hv];rfl,by simp only[ZAe,hv,getO]⟩
def badR (r:ZO):Bool:=decide (r.2.1<r.1)||(decide (r.2.2.2<0)||decide (r.2.2.2>100))
def ZbS (l:List ZO):Int:=bif decide (iN l.length>16) then 3 else bif l.any badR then 1 else 0
theorem Zzt (l:List ZO) (hl:l.length<=most):Zsi l=true/\ZzB l=ZbS l:=by
 have hms:=mst;obtain⟨r,hr,hR⟩:=ZC (fl:=true) (t:=Zfh) (fuel:=λ_=>1000000000000)
  (λx=>∃i:Nat,i<=l.length/\(∀k,k<i->badR (rg l k)=false)/\x=(0,l,(l.length:Int),(i:Int),()))
  (λx=>Int.toNat (x.2.2.1-x.2.2.2.1)) (λr=>(r.1=false/\l.any badR=false)\/(r.1=true/\l.any badR=true/\r.2.1=1))
  (by
   rintro x ⟨i,hi,hk,rfl⟩;by_cases hlt:i<l.length
   ·have d:decide ((i:Int)<(l.length:Int))=true:=by simpa using hlt
    have r1:=ZaD l i hlt;have g1:=ZS2 l i;cases hh:badR (rg l i) with
    |false=>
     left;refine⟨(0,l,(l.length:Int),((i+1:Nat):Int),()),?_,⟨i+1,hlt,λk hk'=> ?_,rfl⟩,by simp only;omega⟩
     ·simp only[badR] at hh;simp only[Zfh,RT.val,d,r1,g1,hh,Ya,Yc,ZhH i (by omega)]
     ·by_cases e:k=i
      ·subst e;exact hh
      ·exact hk k (by omega)
    |true=>
     right;right;refine⟨(1,l,(l.length:Int),(i:Int),()),rfl,?_,.inr ⟨rfl,List.any_eq_true.2 ⟨rg l i,?_,hh⟩,rfl⟩⟩
     ·simp only[badR] at hh;simp only[Zfh,RT.val,d,r1,g1,hh,Ya]
     ·rw[<-ZvY l i hlt];exact List.getElem_mem hlt
   ·right;left;have d:decide ((i:Int)<(l.length:Int))=false:=by simpa using hlt
    refine⟨_,by simp only[Zfh,RT.val,d,Yc];rfl,.inl ⟨rfl,?_⟩⟩;rw[List.any_eq_false];intro q hq;obtain⟨k,hk',rfl⟩:=YaI.1 hq
    rw[ZvY l k hk',hk k (by omega)];simp)
  (0,l,iN l.length,0,()) ⟨0,Yu _,λk h=>by omega,rfl⟩ (by simp only[iN];omega)
 have hv:(ZfG l).val=some (ZbS l):=by
  cases hd:decide (iN l.length>16) with
  |true=>simp only[ZfG,RT.val,hd,Ya,ZbS]
  |false=>
   rcases hR with ⟨h1,h2⟩|⟨h1,h2,h3⟩
   ·simp only[ZfG,RT.val,hd,hr,okB,getO,Ya,Yc,h1,h2,ZbS]
   ·simp only[ZfG,RT.val,hd,hr,okB,getO,Ya,Yc,h1,h2,h3,ZbS]
 exact⟨by simp only[Zsi,hv];rfl,by simp only[ZzB,hv,getO]⟩
theorem ZzW (l:List ZO) (hl:l.length<=most):ZEe l=true/\ZLm l=ZbS l:=by have h:=Zzt l hl;have e:ZlR l=ZfG l:=rfl;simp only[Zsi,ZzB,<-e] at h;exact h
theorem ZvC {P:Program} {f:FuncId} {ts:List Sh} {rs:Rs} {C:HL ts->Bool} {F G:HL ts->rs.den} (h:Zb P f (Zg ts rs (λa=>some (C a)) F)) {pre:HL ts->Bool} (hp:∀a,pre a=true->C a=true/\F a=G a):
  Zb P f (Zg ts rs (λa=>some (pre a)) G):=by
 have key:∀a,some (pre a)≠some false->pre a=true:=λa h=>by cases hq:pre a with
  |true=>rfl
  |false=>rw[hq] at h;exact absurd rfl h
 exact h.pure_congr (λa _ hq=>by rw[(hp a (key a hq)).1];simp) (λa _ hq=>(hp a (key a hq)).2)
def ZE8:En:=Zg Zuy Zl5 (λa=>some (smC a)) (λa=>vldB a)
theorem ZHT:Zb prog 103 ZE8:=ZvC Zx7 λa h=>ZxY a (ZvM h)
def Zsj:En:=Zg Zsh ZlJ (λa=>some (smC a)) (λa=>vldB a)
theorem Zqw:Zb prog 105 Zsj:=ZvC ZmY λa h=>ZJL a (ZvM h)
def ZzP:En:=Zg ZzM Zst (λa=>some (smC a)) (λa=>normX a)
theorem Zwc:Zb prog 93 ZzP:=ZvC ZP2 λa h=>ZJU a (ZvN.1 h)
def ZDq:En:=Zg Zsm ZlK (λa=>some (smC a.1)) (λa=>decide ((a.1:List Cell)=a.2))
theorem ZGf:Zb prog 34 ZDq:=ZvC ZJ9 λa h=>ZJP a.1 a.2 (ZvM h)
def Zje:En:=Zg Zte ZlU (λa=>some (smG a.1&&smC a.2.1)) (λa=>Zgw a.1 a.2.1 a.2.2)
theorem ZqT:Zb prog 202 Zje:=ZvC ZLF λa h=>by rw[Yb] at h;exact ZKP a.1 a.2.1 a.2.2 (ZvM h.1) (ZvM h.2)
def ZcU:En:=Zg Znq Zi8 (λa=>some (smG a.1&&smC a.2.1)) (λa=>ZaK a.1 a.2.1 a.2.2.1 a.2.2.2)
theorem ZfK:Zb prog 143 ZcU:=ZvC ZGz λa h=>by rw[Yb] at h;exact ZGl a.1 a.2.1 a.2.2.1 a.2.2.2 (ZvM h.1) (ZvN.1 h.2)
def ZgK:En:=Zg Znr Zja (λa=>some (smG a.1)) (λa=>Zgj a.1 a.2)
theorem Zns:Zb prog 269 ZgK:=ZvC ZGA λa h=>ZGm a.1 a.2 (ZvM h)
def Zxf:En:=Zg Znw Zjb (λa=>some (smG a)) (λa=>ZbS a)
theorem ZAi:Zb prog 102 Zxf:=ZvC ZGC λa h=>ZzW a (ZvM h)
abbrev ZCM:List Sh:=[Sh.one (R.int u8),Sh.one (R.int u8),Sh.one (R.int u8)]
abbrev ZCN:Rs:=Rs.one (Sh.one (R.int u8))
def ZIE (a:Int) (b:Int) (c:Int):RT (Int):=
 .Lf (xorI u8 (xorI u8 (xorI u8 a b) c) 165)
def Zfa (a:Int) (b:Int) (c:Int):Int:=(ZIE a b c).val
def Zh2:En:=Zg ZCM ZCN (λ_=>none) (λa=>Zfa a.1 a.2.1 a.2.2)
theorem Ze9:Zb prog 117 Zh2:=
 pureQ 127 [] [] ZCM ZCN trivial Tryz.func117 Tryz.call117 trivial (t:=λa=>ZIE a.1 a.2.1 a.2.2)
abbrev ZR5:List Sh:=[Sh.one R.bool,Sh.one (R.int i64)]
abbrev ZIH:Rs:=Rs.one (Sh.one (R.int u8))
def ZPj (o:Bool) (n:Int):RT (Option (Int)):=
 .br (!o||decide (0<=n)) (.br (o) (.Lf (some (shlI u8 1 n))) (.Lf (some (0)))) (.Lf none)
def wBit (o:Bool) (n:Int):Int:=getO ZIH.Df (ZPj o n).val
def Zfz (o:Bool) (n:Int):Bool:=okB (ZPj o n).val
def ZII:En:=Zg ZR5 ZIH (λa=>some (Zfz a.1 a.2)) (λa=>wBit a.1 a.2)
theorem ZrH:Zb prog 116 ZII:=
 pureP 31 [] [] ZR5 ZIH trivial Tryz.func116 Tryz.call116 trivial (t:=λa=>ZPj a.1 a.2)
abbrev ZIA:List Sh:=[]
abbrev ZIB:Rs:=Rs.one (Sh.agg Zbt)
def ZR4:RT INPT:=
 .Lf ((true,false,false,false,false,false,false,false,0,0))
def ZI:INPT:=(ZR4).val
def ZCK:En:=Zg ZIA ZIB (λ_=>none) (λa=>ZI)
theorem ZrC:Zb prog 118 ZCK:=
 pureQ 1 [] [] ZIA ZIB trivial Tryz.func118 Tryz.call118 trivial (t:=λa=>ZR4)
abbrev Zve:List Sh:=[Sh.one (R.sl (R.int u8))]
abbrev Zmr:Rs:=Rs.one (Sh.one (R.sl Zbt))
def ZFZ:LS:={n:=83,Sl:=[(0,.code (Sh.one (R.sl (R.int u8)))),(3,.tip 0),(4,.code (Sh.one (R.int i64)))],Bx:=[],Sg:=[⟨Zbt,122,true⟩]}
def Zbs (a:List Int×Int×List INPT×PUnit):RT (Option (Go1 (List Int×Int×List INPT×PUnit))):=
 let x1:= !Zf (i64.wrap (a.2.1+1)) (List.length a.1)||Zf (i64.wrap (a.2.1+2)) (List.length a.1)
 let x2:= !Zf (i64.wrap (a.2.1+3)) (List.length a.1)||x1
 let x3:= !x2
 let x4:= !Zf (i64.wrap (a.2.1+3)) (List.length a.1)||Zf (i64.wrap (a.2.1+1)) (List.length a.1)
 let x5:= !x4
 let p1:=(!Zf (i64.wrap (a.2.1+3)) (List.length a.1))::x5::x3::(!Zf a.2.1 (List.length a.1))::[]
 let x6:=R.get (R.int u8) a.1 (i64.wrap (a.2.1+3)) !=Zfa (R.get (R.int u8) a.1 a.2.1) (R.get (R.int u8) a.1 (i64.wrap (a.2.1+1))) (R.get (R.int u8) a.1 (i64.wrap (a.2.1+2)))
 let x7:= !x6||Nat.ble (List.length (a.2.2.1++[ZI])) most
 let x8:= !x7
 let p2:=x6::x8::p1
 let x9:List INPT:=a.2.2.1++[(andI u8 (R.get (R.int u8) a.1 a.2.1) 1==0,andI u8 (R.get (R.int u8) a.1 a.2.1) 2 !=0,andI u8 (R.get (R.int u8) a.1 a.2.1) 4 !=0,andI u8 (R.get (R.int u8) a.1 a.2.1) 8 !=0,andI u8 (R.get (R.int u8) a.1 a.2.1) 16 !=0,andI u8 (R.get (R.int u8) a.1 a.2.1) 32 !=0,andI u8 (R.get (R.int u8) a.1 a.2.1) 64 !=0,andI u8 (R.get (R.int u8) a.1 a.2.1) 128 !=0,R.get (R.int u8) a.1 (i64.wrap (a.2.1+1)),R.get (R.int u8) a.1 (i64.wrap (a.2.1+2)))]
 let x10:= !Zf (i64.wrap (a.2.1+1)) (List.length a.1)||(!Zf (i64.wrap (a.2.1+2)) (List.length a.1)||Nat.ble (List.length x9) most)
 let x11:= !x10
 let p3:=x11::p2
 let p4:=(!x1)::p3
 .br (decide (i64.wrap (a.2.1+4)<=iN (List.length a.1))&&decide (iN (List.length a.2.2.1)<65536)) (.br (orR p4 (Zf (i64.wrap (a.2.1+1)) (List.length a.1))) (.br (orR p3 x1) (.br (orR p2 x10) (.br (orR p1 x7) (.br (!Zf a.2.1 (List.length a.1)||(x3||(x5||Zf (i64.wrap (a.2.1+3)) (List.length a.1)))) (.br (!Zf a.2.1 (List.length a.1)||(x3||x4)) (.br (!Zf a.2.1 (List.length a.1)||x2) (.br (Zf a.2.1 (List.length a.1)) (.Lf (some (Go1.cont (a.1,i64.wrap (a.2.1+4),bif x6 then a.2.2.1++[ZI] else x9,PUnit.unit)))) (.Lf none)) (.Lf none)) (.Lf none)) (.Lf none)) (.Lf none)) (.Lf none)) (.Lf none)) (.Lf none)) (.Lf (some (Go1.brk (a.1,a.2.1,a.2.2.1,PUnit.unit))))
def Zp4:Ora:=ZbI false ZFZ Zbs (λa=>1000000000000)
theorem Zvf:Zbg (envX prog [(117,Zh2),(118,ZCK)] [] 63 8) (.block 0 (.loop (Z7 Tryz.f65.body 0))) Zp4:=
 loopP ⟨Ze9,ZrC,Tv⟩
def Zfy (l:List Int):RT (Option (List INPT)):=
 .br (okB (runF false Zbs (λa=>1000000000000) (l,0,[],()))) (.Lf (some (getO (false,l,0,[],()) (runF false Zbs (λa=>1000000000000) (l,0,[],()))).2.2.2.1)) (.Lf none)
def ZaB (l:List Int):List INPT:=getO Zmr.Df (Zfy l).val
def ZiD (l:List Int):Bool:=okB (Zfy l).val
def ZrE:En:=Zg Zve Zmr (λa=>some (ZiD a)) (λa=>ZaB a)
theorem Zp2:Zb prog 65 ZrE:=
 pureP 63 [(117,Zh2),(118,ZCK)] [(0,Zp4)] Zve Zmr ⟨Ze9,ZrC,Tv⟩ Tryz.func65 Tryz.call65 ⟨Zvf,Tv⟩ (t:=λa=>Zfy a)
abbrev Zva:List Sh:=[Sh.one (R.sl Zbt)]
abbrev Zmo:Rs:=Rs.one (Sh.one (R.sl (R.int u8)))
def ZFY:LS:={n:=64,Sl:=[(3,.tip 0),(7,.code (Sh.one (R.sl Zbt))),(8,.code (Sh.one (R.int i64))),(9,.code (Sh.one (R.int i64)))],Bx:=[],Sg:=[⟨(R.int u8),5,true⟩]}
def Zdd (a:List INPT×Int×Int×List Int×PUnit):RT (Option (Go1 (List INPT×Int×Int×List Int×PUnit))):=
 let x1:INPT:=R.get Zbt a.1 a.2.2.1
 let x2:= !x1.1
 let x3:=Zfz x2 0
 let x4:= !x3
 let x5:=x1.2
 let x6:=x5.1
 let x7:=Zfz x6 1
 let x8:= !x7
 let x9:=x5.2
 let x10:=x9.1
 let x11:=Zfz x10 2
 let x12:= !x11
 let x13:=x9.2
 let x14:=x13.1
 let x15:=Zfz x14 3
 let x16:= !x15
 let p2:=x16::x12::x8::x4::[]
 let x17:=x13.2
 let x18:=x17.1
 let x19:=Zfz x18 4
 let x20:= !x19
 let p3:=x20::p2
 let x21:=x17.2
 let x22:=x21.1
 let x23:=Zfz x22 5
 let x24:= !x23
 let p5:=x24::p3
 let x25:=x21.2
 let x26:=x25.1
 let x27:=Zfz x26 6
 let p7:=(!x27)::p5
 let x28:=x25.2
 let x29:=x28.1
 let x30:=orR p7 (Zfz x29 7)
 let x31:= !x30
 let x32:=orR p5 x27
 let x33:= !x32
 let p1:=x33::x31::(decide (a.2.2.1>=65536))::(!Zf a.2.2.1 (List.length a.1))::[]
 let x34:=orR p3 x23
 let x35:= !x34
 let p4:=x35::p1
 let x36:=orR p2 x19
 let x37:= !x36
 let p6:=x37::p4
 let x38:=x4||(x8||(x12||x15))
 let x39:= !x38
 let p8:=x39::p6
 let x40:=x4||(x8||x11)
 let x41:= !x40
 let p9:=x41::p8
 let x42:=x4||x7
 let x43:= !x42
 let p10:=x43::p9
 let p11:=x4::p10
 let x44:=orI u8 (orI u8 (orI u8 (orI u8 (orI u8 (orI u8 (orI u8 (wBit x2 0) (wBit x6 1)) (wBit x10 2)) (wBit x14 3)) (wBit x18 4)) (wBit x22 5)) (wBit x26 6)) (wBit x29 7)
 let x45:=x28.2
 let x46:=x45.1
 let x47:=x45.2
 let x48:List Int:=a.2.2.2.1++[x44,x46,x47,Zfa x44 x46 x47]
 .br (decide (a.2.2.1<a.2.1)) (.br (orR p11 (Nat.ble (List.length x48) most)) (.br (orR p10 x3) (.br (orR p9 x42) (.br (orR p8 x40) (.br (orR p6 x38) (.br (orR p4 x36) (.br (orR p1 x34) (.br (!Zf a.2.2.1 (List.length a.1)||(decide (a.2.2.1>=65536)||(x31||x32))) (.br (!Zf a.2.2.1 (List.length a.1)||(decide (a.2.2.1>=65536)||x30)) (.br (Zf a.2.2.1 (List.length a.1)) (.br (decide (a.2.2.1>=65536)) (.Lf (some (Go1.brk (a.1,a.2.1,a.2.2.1,a.2.2.2.1,PUnit.unit)))) (.Lf (some (Go1.cont (a.1,a.2.1,i64.wrap (a.2.2.1+1),x48,PUnit.unit))))) (.Lf none)) (.Lf none)) (.Lf none)) (.Lf none)) (.Lf none)) (.Lf none)) (.Lf none)) (.Lf none)) (.Lf none)) (.Lf none)) (.Lf (some (Go1.brk (a.1,a.2.1,a.2.2.1,a.2.2.2.1,PUnit.unit))))
def Zp1:Ora:=ZbI false ZFY Zdd (λa=>1000000000000)
theorem Zvd:Zbg (envX prog [(116,ZII),(117,Zh2)] [] 127 8) (.block 0 (.loop (Z7 Tryz.f56.body 0))) Zp1:=
 loopP ⟨ZrH,Ze9,Tv⟩
def Zfx (l:List INPT):RT (Option (List Int)):=
 let x1:=runF false Zdd (λa=>1000000000000) (l,iN (List.length l),0,[],())
 .br (okB x1) (.Lf (some (getO (false,l,iN (List.length l),0,[],()) x1).2.2.2.2.1)) (.Lf none)
def Zh1 (l:List INPT):List Int:=getO Zmo.Df (Zfx l).val
def Zlz (l:List INPT):Bool:=okB (Zfx l).val
def ZCL:En:=Zg Zva Zmo (λa=>some (Zlz a)) (λa=>Zh1 a)
theorem ZFW:Zb prog 56 ZCL:=
 pureP 127 [(116,ZII),(117,Zh2)] [(0,Zp1)] Zva Zmo ⟨ZrH,Ze9,Tv⟩ Tryz.func56 Tryz.call56 ⟨Zvd,Tv⟩ (t:=λa=>Zfx a)
abbrev ZO9:Rs:=Rs.one (Sh.one (R.int i64))
def Zfw (l:BRDT):RT (Option (Int)):=
 .br (l.1 !=1&&l.1 !=2) (.Lf (some (1))) (.br (smG l.2.1) (.br (ZbS l.2.1 !=0) (.Lf (some (ZbS l.2.1))) (.br (decide (l.2.2.1<0)||(decide (l.2.2.1>100)||smC l.2.2.2.2.2.2)) (.br (decide (l.2.2.1<0)||(decide (l.2.2.1>100)|| !vldB l.2.2.2.2.2.2)) (.Lf (some (1))) (.Lf (some (0)))) (.Lf none))) (.Lf none))
def ZbM (l:BRDT):Int:=getO ZO9.Df (Zfw l).val
def ZjU (l:BRDT):Bool:=okB (Zfw l).val
abbrev ZWg:Rs:=Rs.tup [Sh.agg (R.Pq (R.Pq ZY (R.Pq (R.int i64) (R.Pq (R.sl (R.int u8)) (R.Pq (RY) (R.Pq (R.int i64) R.bool))))) (R.Pq rcCE (R.Pq ZaE (R.Pq (R.Pq (R.int u16) (R.Pq (R.int u8) (R.int i64))) (R.Pq (R.int i64) (R.sl (R.Pq (R.int u8) (R.int u8)))))))),Sh.one (R.int i64)]
def ZrA (l:BRDT):RT (Option (SYST×Int)):=
 let x1:TR:=(0,0,0,0,0,0,0,(false,false,false,false,false,false,false),0,0)
 .br (ZjU l) (.br (ZbM l !=0) (.Lf (some (((((0,x1,false,false,false,0,false,false,false,false,false,false,false),0,[],(0,0,0,0),0,false),[],(0,false,false,false,false,0,0,false,false,false,false,false,0,0,0,0,0,0,0,false),(0,0,0),0,[]),ZbM l)))) (.br (smC l.2.2.2.2.2.2) (.Lf (some ((((((newX l.1).1.1,x1,false,false,false,(newX l.1).1.2.2.2.2.2.1,false,false,false,false,false,false,false),0,[],(1,0,0,4),1,false),Cells.normX l.2.2.2.2.2.2,(0,false,false,false,false,0,0,false,false,false,false,false,0,0,0,0,7,0,0,false),(0,0,0),0,[]),0)))) (.Lf none))) (.Lf none)
def wNew (l:BRDT):SYST×Int:=getO ZWg.Df (ZrA l).val
def ZPc (l:BRDT):Bool:=okB (ZrA l).val
abbrev ZTl:Rs:=Rs.one (Sh.one (R.int i64))
def Zu9 (l:BRDT) (x:QT12):RT (Option (Int)):=
 .br (!(decide (x.1>=1)&&decide (x.1<=5))||smG l.2.1) (.br (decide (x.1>=1)&&decide (x.1<=5)) (.Lf (some (Zgj l.2.1 x.2.1))) (.br (x.1==6||x.1==7) (.Lf (some (Zm4 l.2.2.1))) (.Lf (some (0))))) (.Lf none)
def ZIw (l:BRDT) (x:QT12):Int:=getO ZTl.Df (Zu9 l x).val
def ZIv (l:BRDT) (x:QT12):Bool:=okB (Zu9 l x).val
def ZCJ (s:SYST):RT (Int):=
 .br (Zp s.1 !=7) (.Lf (0)) (.Lf (i64.wrap (s.2.2.2.2.1+1)))
def ZaL (s:SYST):Int:=(ZCJ s).val
abbrev ZIx:Rs:=Rs.one (Sh.agg ZGe)
def Zly (l:BRDT) (s:SYST) (i:INPT):RT (Option LINT):=
 let x1:=bif i.2.1 then i.2.2.2.1 else i.2.2.2.1
 let x2:=bif i.2.1 then i.2.2.2.2.1 else i.2.2.2.2.1
 let x3:=bif i.2.1 then i.2.2.2.2.2.1 else i.2.2.2.2.2.1
 let x4:=bif i.2.1 then i.2.2.2.2.2.2.1 else i.2.2.2.2.2.2.1
 let x5:=bif i.2.1 then i.2.2.2.2.2.2.2.1 else i.2.2.2.2.2.2.2.1
 let x6:=bif l.2.2.2.2.2.1 then andI u8 i.2.2.2.2.2.2.2.2.1 1==1 else vInt s.2.2.1
 let x7:=bif i.2.1 then x6 else x6
 .br (ZIN s.2.2.1) (.br (!i.1||ZIv l s.1.2.2.2.1) (.Lf (some ((i.1&&bif i.2.1 then decide (ZaL s>=ZIw l s.1.2.2.2.1) else decide (ZaL s>=ZIw l s.1.2.2.2.1),bif i.1 then i.2.1||Zn s.2.2.2.1 else i.2.1||Zn s.2.2.2.1,bif i.1 then bif i.2.1 then i.2.2.1 else i.2.2.1 else bif i.2.1 then i.2.2.1 else i.2.2.1,bif i.1 then x1 else x1,bif i.1 then x2 else x2,bif i.1 then x3 else x3,bif i.1 then x4 else x4,bif i.1 then x5 else x5,bif i.1 then x7 else x7)))) (.Lf none)) (.Lf none)
def Zy3 (l:BRDT) (s:SYST) (i:INPT):LINT:=getO ZIx.Df (Zly l s i).val
def ZrB (l:BRDT) (s:SYST) (i:INPT):Bool:=okB (Zly l s i).val
def ZIy (l:BRDT) (p:Int):RT (Bool×Bool):=
 .Lf ((bif !l.2.2.2.2.2.1 then bif p==l.2.2.2.1 then p==u8.wrap (l.2.2.2.1+1) else p==u8.wrap (l.2.2.2.1+1) else p==u8.wrap (l.2.2.2.1+1),!l.2.2.2.2.2.1&&(p==l.2.2.2.1||p==u8.wrap (l.2.2.2.1+1))))
def ZP (l:BRDT) (p:Int):Bool×Bool:=(ZIy l p).val
def ZIz (l:BRDT) (p:Int):RT (Int×Bool):=
 .Lf ((i64.wrap (u8.wrap (p-l.2.2.2.2.1)),decide (u8.wrap (p-l.2.2.2.2.1)<4)))
def ZbY (l:BRDT) (p:Int):Int×Bool:=(ZIz l p).val
abbrev ZWi:Rs:=Rs.tup [Sh.agg (R.Pq (R.Pq ZY (R.Pq (R.int i64) (R.Pq (R.sl (R.int u8)) (R.Pq (RY) (R.Pq (R.int i64) R.bool))))) (R.Pq rcCE (R.Pq ZaE (R.Pq (R.Pq (R.int u16) (R.Pq (R.int u8) (R.int i64))) (R.Pq (R.int i64) (R.sl (R.Pq (R.int u8) (R.int u8)))))))),Sh.one (R.int u8)]
def ZPi (l:BRDT) (s:SYST) (i:INPT):RT (Option (SYST×Int)):=
 let x1:=decide (s.1.2.2.2.1.1>=1)&&decide (s.1.2.2.2.1.1<=5)
 let x2:= !x1||smG l.2.1&&smC s.2.1
 let x3:= !x2
 let x4:=s.1.2.2.2.1.1 !=6&&l.2.2.2.2.2.1
 let p1:=(!(ZP l (u8.wrap s.1.2.2.2.1.2.1)).2)::(s.1.2.2.2.1.1 !=6)::x4::x1::[]
 let x5:=x1||(x4||(!s.1.2.2.2.1.1 !=6||ZIR s.2.2.1))
 let x6:= !x5
 let x7:=orR p1 (Zvo s.2.2.1 (ZP l (u8.wrap s.1.2.2.2.1.2.1)).1)
 let p2:=(!(ZbY l (u8.wrap s.1.2.2.2.1.2.1)).2)::((ZP l (u8.wrap s.1.2.2.2.1.2.1)).2)::(s.1.2.2.2.1.1 !=6)::x4::x1::(!x7)::x6::x3::[]
 let x8:=ZiE s.2.2.1 (ZP l (u8.wrap s.1.2.2.2.1.2.1)).1
 let x9:=x8.1
 .br (i.2.2.1||(Zp s.1 !=3|| !ZaU s.1.2.2.2.1.1)) (.Lf (some ((s,0)))) (.br (orR p2 (Zmw s.2.2.2.1 (ZbY l (u8.wrap s.1.2.2.2.1.2.1)).1)) (.br (x3||(x6||x7)) (.br (x3||x5) (.br (x2) (.Lf (some (((s.1,s.2.1,(R.sel ZaE x1 s.2.2.1 (R.sel ZaE x4 s.2.2.1 (R.sel ZaE (s.1.2.2.2.1.1 !=6) (vAck s.2.2.1).1 (R.sel ZaE ((ZP l (u8.wrap s.1.2.2.2.1.2.1)).2) x9 s.2.2.1)))),s.2.2.2),bif x1 then Zgw l.2.1 s.2.1 s.1.2.2.2.1.2.1 else bif x4 then i.2.2.2.2.2.2.2.2.2 else bif s.1.2.2.2.1.1 !=6 then (vAck s.2.2.1).2 else bif (ZP l (u8.wrap s.1.2.2.2.1.2.1)).2 then x8.2 else bif (ZbY l (u8.wrap s.1.2.2.2.1.2.1)).2 then ZhM s.2.2.2.1 (ZbY l (u8.wrap s.1.2.2.2.1.2.1)).1 else i.2.2.2.2.2.2.2.2.2)))) (.Lf none)) (.Lf none)) (.Lf none)) (.Lf none))
def wBus (l:BRDT) (s:SYST) (i:INPT):SYST×Int:=getO ZWi.Df (ZPi l s i).val
def ZTo (l:BRDT) (s:SYST) (i:INPT):Bool:=okB (ZPi l s i).val
abbrev ZPa:Rs:=Rs.one (Sh.agg (R.Pq (R.Pq ZY (R.Pq (R.int i64) (R.Pq (R.sl (R.int u8)) (R.Pq (RY) (R.Pq (R.int i64) R.bool))))) (R.Pq rcCE (R.Pq ZaE (R.Pq (R.Pq (R.int u16) (R.Pq (R.int u8) (R.int i64))) (R.Pq (R.int i64) (R.sl (R.Pq (R.int u8) (R.int u8)))))))))
def Zrw (l:BRDT) (s:SYST) (x:QT12):RT (Option SYST):=
 let x1:List (Int×Int):=[]++s.2.2.2.2.2++[(u8.wrap x.2.1,x.2.2.1)]
 let x2:=Zba s.2.2.1 (ZP l (u8.wrap x.2.1)).1 x.2.2.1
 let x30:=ZdD s.2.2.2.1 (ZbY l (u8.wrap x.2.1)).1 x.2.2.1
 .br (!x.1 !=7||smG l.2.1&&smC s.2.1) (.br (x.1 !=7) (.Lf (some ((s.1,ZaK l.2.1 s.2.1 x.2.1 x.2.2.1,s.2.2)))) (.br (!Nat.ble (List.length ([]++s.2.2.2.2.2)) most||Nat.ble (List.length x1) most) (.br (Nat.ble (List.length ([]++s.2.2.2.2.2)) most) (.br (!(ZP l (u8.wrap x.2.1)).2||Zmu s.2.2.1 (ZP l (u8.wrap x.2.1)).1 x.2.2.1) (.Lf (some ((s.1,s.2.1,(R.sel ZaE ((ZP l (u8.wrap x.2.1)).2) x2 s.2.2.1),(R.sel ZPR ((ZP l (u8.wrap x.2.1)).2) s.2.2.2.1 (R.sel ZPR ((ZbY l (u8.wrap x.2.1)).2) x30 s.2.2.2.1)),s.2.2.2.2.1,x1)))) (.Lf none)) (.Lf none)) (.Lf none))) (.Lf none)
def ZIt (l:BRDT) (s:SYST) (x:QT12):SYST:=getO ZPa.Df (Zrw l s x).val
def Zy2 (l:BRDT) (s:SYST) (x:QT12):Bool:=okB (Zrw l s x).val
abbrev ZPg:Rs:=Rs.tup [Sh.agg (R.Pq (R.Pq ZY (R.Pq (R.int i64) (R.Pq (R.sl (R.int u8)) (R.Pq (RY) (R.Pq (R.int i64) R.bool))))) (R.Pq rcCE (R.Pq ZaE (R.Pq (R.Pq (R.int u16) (R.Pq (R.int u8) (R.int i64))) (R.Pq (R.int i64) (R.sl (R.Pq (R.int u8) (R.int u8)))))))),Sh.agg Zia,Sh.agg (R.Pq ZGe (R.Pq (R.int u8) (R.Pq (R.Pq (R.int u16) (R.int u8)) R.bool)))]
def ZrF (l:BRDT) (s:SYST) (i:INPT):RT (Option (QT32)):=
 let x1:=ZaJ s.2.2.1 i.2.2.2.2.2.2.2.2.1
 let x29:SYST:=(s.1,s.2.1,(R.sel ZaE (!l.2.2.2.2.2.1) x1 s.2.2.1),s.2.2.2)
 let x30:=wBus l x29 i
 let x31:=x30.1
 let x32:=x31.1
 let x33:= !i.2.2.1&&(Zp s.1==3&&Zb2 s.1.2.2.2.1.1)
 let x34:=Zy3 l x29 i
 let x35:=x30.2
 let x36:=clkX x32 x34 x35
 let x37:=x36.1
 let x38:=x31.2
 let x39:=x38.1
 let x40:=x38.2
 let x41:=x40.1
 let x42:=x40.2
 let x43:=x42.1
 let x44:=ZaL x29
 let x45:=x42.2.2
 let x46:SYST:=(x37,x39,x41,x43,x44,x45)
 let x47:=x36.2
 let x48:=x47.2.2.2.2.2.2.2.2.2.2.2.2.2.2.2.1
 let x49:=ZIt l x46 s.1.2.2.2.1
 let x50:=x49.2
 let x51:=x50.2
 let x52:=x51.2
 let x53:=x52.1
 let x54:Int:=bif x33 then x53.1 else x43.1
 let x55:=x53.2
 let x56:=x43.2
 let x57:Int:=bif x33 then x55.1 else x56.1
 let x58:Int:=bif x33 then x55.2 else x56.2
 let x59:=ZaI (x54,x57,x58)
 let x60:=x59.2
 let x61:=x60.2
 let x62:List (Int×Int):=bif x33 then x50.1 else x39
 let x63:=x49.1
 let x64:=x63.1
 let x65:=x37.1
 let x118:=x63.2
 let x119:=x37.2
 let x120:=x118.2
 let x121:=x119.2
 let x122:=x120.2
 let x123:=x122.1
 let x124:=x121.2
 let x125:=x124.1
 let x130:=x122.2
 let x131:=x124.2
 let x132:=x60.1
 let x133:=x132.1
 let x134:=x132.2
 let x135:=x51.1
 let x136:=x135.2
 let x137:=x41.2
 let x138:=x136.2
 let x139:=x137.2
 let x140:=x138.2
 let x141:=x139.2
 let x142:=x140.2
 let x143:=x141.2
 let x144:=x142.2
 let x145:=x143.2
 let x146:=x144.2
 let x147:=x145.2
 let x148:=x146.2
 let x149:=x147.2
 let x150:=x148.2
 let x151:=x149.2
 let x152:=x150.2
 let x153:=x151.2
 let x154:=x152.2
 let x155:=x153.2
 let x156:=x154.2
 let x157:=x155.2
 let x158:=x156.2
 let x159:=x157.2
 let x160:=x158.2
 let x161:=x159.2
 let x162:=x160.2
 let x163:=x161.2
 let x164:=x162.2
 let x165:=x163.2
 let x166:=x164.2
 let x167:=x165.2
 let x168:=x166.2
 let x169:=x167.2
 let x170:=x168.2
 let x171:=x169.2
 let x172:=x59.1
 let x173:=x172.2
 let x174:=x52.2
 .br (ZrB l x29 i) (.br (ZTo l x29 i) (.br (Zh8 x32) (.br (!x33||Zy2 l x46 s.1.2.2.2.1) (.br (!x48||(!x61||smG l.2.1&&smC x62)) (.Lf (some (((((R.sel ZY x33 x64 x65),bif x33 then x118.1 else x119.1,bif x33 then x120.1 else x121.1,(R.sel RY x33 x123 x125),bif x33 then x130.1 else x131.1,bif x33 then x130.2 else x131.2),bif x48 then bif x61 then ZaK l.2.1 x62 x133 x134 else x62 else x62,(bif x33 then x135.1 else x41.1,bif x33 then x136.1 else x137.1,bif x33 then x138.1 else x139.1,bif x33 then x140.1 else x141.1,bif x33 then x142.1 else x143.1,bif x33 then x144.1 else x145.1,bif x33 then x146.1 else x147.1,bif x33 then x148.1 else x149.1,bif x33 then x150.1 else x151.1,bif x33 then x152.1 else x153.1,bif x33 then x154.1 else x155.1,bif x33 then x156.1 else x157.1,bif x33 then x158.1 else x159.1,bif x33 then x160.1 else x161.1,bif x33 then x162.1 else x163.1,bif x33 then x164.1 else x165.1,bif x33 then x166.1 else x167.1,bif i.2.2.1 then 0 else bif x33 then x168.1 else x169.1,bif x33 then x170.1 else x171.1,bif x33 then x170.2 else x171.2),(bif x48 then bif x61 then x172.1 else x54 else x54,bif x48 then bif x61 then x173.1 else x57 else x57,bif i.2.2.1 then 0 else bif x48 then bif x61 then x173.2 else x58 else x58),bif x33 then x174.1 else x44,bif x33 then x174.2 else x45),x47,x34,x35,(bif x48 then bif x61 then x133 else 0 else 0,bif x48 then bif x61 then x134 else 0 else 0),x48&&x61)))) (.Lf none)) (.Lf none)) (.Lf none)) (.Lf none)) (.Lf none)
def ZID (l:BRDT) (s:SYST) (i:INPT):QT32:=getO ZPg.Df (ZrF l s i).val
def Zy7 (l:BRDT) (s:SYST) (i:INPT):Bool:=okB (ZrF l s i).val
def Zvg (c:CORT) (s:Int) (d:Int):RT TY:=
 let x1:Int:=bif ZaU c.2.2.2.1.1 then d else c.2.2.2.1.2.2.1
 .Lf ((c.2.2.2.1.1,c.2.2.2.1.2.1,bif s==3 then x1 else c.2.2.2.1.2.2.1,bif s==3 then bif c.2.2.2.1.1==1||c.2.2.2.1.1==8 then ZgB c.1.1 x1 else c.2.2.2.1.2.2.2 else c.2.2.2.1.2.2.2))
def Zag (c:CORT) (s:Int) (d:Int):QT12:=(Zvg c s d).val
def ZWh (s:Int):RT (Int):=
 .br (Zd s) (.Lf (3)) (.br (s==5) (.Lf (2)) (.Lf (1)))
def ZPe (s:Int):Int:=(ZWh s).val
def ZWe (e:EVTT) (c:TC) (l:LINT):RT EVTT:=
 .Lf ((e.1,e.2.1,e.2.2.1,l,c.2.2.2.2.2.2.2.1,c.2.2.2.2.2.2.1,c.2.2.2.2.2.2.2.2.2.1,c.2.2.2.2.2.2.2.2.1,e.2.2.2.2.2.2.2.2))
def ZFT (e:EVTT) (c:TC) (l:LINT):EVTT:=(ZWe e c l).val
abbrev ZPh:Rs:=Rs.one (Sh.one (R.sl (R.int u8)))
def ZrG (c:CORT) (s:Int) (d:Int):RT (Option (List Int)):=
 let x1:List Int:=[]++c.2.2.1++[(Zag c s d).2.2.1]
 .br (Nat.ble (List.length ([]++c.2.2.1)) most) (.br (!s==3||Nat.ble (List.length x1) most) (.Lf (some (bif s==3 then x1 else []++c.2.2.1))) (.Lf none)) (.Lf none)
def ZIG (c:CORT) (s:Int) (d:Int):List Int:=getO ZPh.Df (ZrG c s d).val
def Zy8 (c:CORT) (s:Int) (d:Int):Bool:=okB (ZrG c s d).val
abbrev Zy4:Rs:=Rs.tup [Sh.agg ZY,Sh.one R.bool]
def Zg8 (c:CORT) (l:LINT) (d:Int):RT (Option (TC×Bool)):=
 let x1:TC×Bool:=((0,(0,0,0,0,0,0,0,(false,false,false,false,false,false,false),0,0),false,false,false,0,false,false,false,false,false,false,false),false)
 .br l.2.2.1 (.Lf (some (x1))) (.br (ZKd c c.2.2.2.2.1 d) (.br (!ZwQ c.2.2.2.2.1 (ZKe c c.2.2.2.2.1 d).1) (.Lf (some (x1))) (.br (Zh (Zi c.1 l) c.2.1 (ZKe c c.2.2.2.2.1 d).2).2 (.Lf (some (x1))) (.Lf (some ((finX (Zi c.1 l) c.2.1 (ZKe c c.2.2.2.2.1 d).2 l,true)))))) (.Lf none))
def Zmn (c:CORT) (l:LINT) (d:Int):TC×Bool:=getO Zy4.Df (Zg8 c l d).val
def ZjW (c:CORT) (l:LINT) (d:Int):Bool:=okB (Zg8 c l d).val
abbrev ZWf:Rs:=Rs.tup [Sh.agg (R.Pq (R.sl Zia) (R.Pq (R.sl Zkc) (R.Pq (R.sl ZJ0) (R.Pq (R.sl ZY) (R.Pq (R.Pq ZY (R.Pq (R.int i64) (R.Pq (R.sl (R.int u8)) (R.Pq (RY) (R.Pq (R.int i64) R.bool))))) (R.Pq rcCE (R.Pq ZaE (R.Pq (R.Pq (R.int u16) (R.Pq (R.int u8) (R.int i64))) (R.Pq (R.int i64) (R.sl (R.Pq (R.int u8) (R.int u8)))))))))))),Sh.one (R.int i64)]
def Zgk (a:List INPT×Int×Int×BRDT×RUNT×SYST×SYST×TC×List PINT×List ITMT×List EVTT×List TC×PUnit):RT (Option (Go1 (List INPT×Int×Int×BRDT×RUNT×SYST×SYST×TC×List PINT×List ITMT×List EVTT×List TC×PUnit))):=
 let x1:INPT:=R.get Zbt a.1 a.2.2.1
 let x2:=Zy7 a.2.2.2.1 a.2.2.2.2.2.1 x1
 let x3:= !x2
 let x4:=ZID a.2.2.2.1 a.2.2.2.2.2.1 x1
 let x5:=x4.2
 let x6:List PINT:=a.2.2.2.2.2.2.2.2.1++[x5.1]
 let x7:=Nat.ble (List.length x6) most
 let x8:= !x7
 let x9:Int:=bif x1.2.2.1 then 10 else Zp a.2.2.2.2.2.1.1
 let x10:=x9==8
 let x11:=x9==9
 let x12:=x9==10
 let x13:Int:=bif x10 then 2 else bif x11 then 3 else bif x12 then 4 else 1
 let x14:=x13 !=1
 let x15:= !x14
 let x16:=i64.wrap (iN (List.length a.2.2.2.2.2.2.2.2.2.1)-1)
 let x17:=decide (x16>=0)
 let x18:= !x17
 let x19:=Zf x16 (List.length a.2.2.2.2.2.2.2.2.2.1)
 let x20:=x18||x19
 let x21:= !x20
 let x22:ITMT:=R.get Zkc a.2.2.2.2.2.2.2.2.2.1 x16
 let x23:=x22.1
 let x24:=x23==x13
 let x25:= !x24
 let x26:=x18||(x25||x19)
 let x27:=x22.2
 let x28:=x27.2
 let x29:=x28.2
 let x30:=x29.2
 let x31:=x30.1==a.2.2.2.2.2.1.1.1.2.2.1
 let p8:=(!x31)::x25::x18::(!x26)::x21::x15::[]
 let x32:=orR p8 x19
 let x33:= !x32
 let x34:=x15||(x21||x26)
 let x35:= !x34
 let x36:=x15||x20
 let x37:= !x36
 let x38:=a.2.2.2.2.2.1.1.1.2.2.2.2.2.2.2.2.2.2.2.2
 let x39:=x17&&(x24&&(x31&&x30.2==x38))
 let x40:= !x39
 let x41:= !x19
 let x42:=x15||(x40||(x41||x19))
 let x43:= !x42
 let p2:=x43::x37::x35::x33::[]
 let x44:=x15||(x40||x19)
 let x45:= !x44
 let p7:=x14::x45::p2
 let p10:=x39::x15::x45::p2
 let x46:=x5.2
 let x47:=x46.2
 let x48:=x47.1
 let x49:=Zag a.2.2.2.2.2.1.1 x9 x48
 let x50:=x49.2
 let x51:=x50.2
 let x52:QT12:=(bif x10 then 0 else bif x11 then 0 else bif x12 then 0 else x49.1,bif x10 then 0 else bif x11 then a.2.2.2.2.2.1.1.1.2.1.2.2.2.2.2.2.2.2.2 else bif x12 then 0 else x50.1,bif x10 then 0 else bif x11 then 0 else bif x12 then 0 else x51.1,bif x10 then 0 else bif x11 then 0 else bif x12 then 0 else x51.2)
 let x53:List ITMT:=a.2.2.2.2.2.2.2.2.2.1++[(x13,x52,0,1,a.2.2.2.2.2.1.1.1.2.2.1,x38)]
 let x54:=Nat.ble (List.length x53) most
 let x55:=orR p10 x54
 let x56:= !x55
 let p3:=x56::x8::x3::(!Zf a.2.2.1 (List.length a.1))::[]
 let x57:=x9==1
 let x58:= !x57||x54
 let x59:= !x58
 let p14:=x57::x59::p7
 let p17:=x41::p14
 let x60:=x9==7
 let x61:= !x60
 let x62:=setI a.2.2.2.2.2.2.2.2.2.1 x16 (x23,x52,x28)
 let x63:=Zf x16 (List.length x62)
 let x64:= !x63||x63
 let x65:=x61||x64
 let x66:= !x65
 let p21:=x66::p17
 let x67:=x61||x63
 let x68:= !x67
 let p24:=x68::p21
 let x69:=x60||x64
 let p28:=x60::(!x69)::p24
 let x70:=orR p28 x63
 let x71:= !x70
 let p6:=x71::p3
 let x72:=orR p24 x69
 let x73:= !x72
 let p9:=x73::p6
 let x74:=orR p21 x67
 let x75:= !x74
 let p12:=x75::p9
 let x76:=orR p17 x65
 let x77:= !x76
 let p15:=x77::p12
 let x78:=orR p14 x19
 let x79:= !x78
 let p16:=x79::p15
 let x80:=orR p7 x58
 let x81:= !x80
 let p19:=x81::p16
 let x82:=orR p2 x44
 let x83:= !x82
 let p22:=x83::p19
 let x84:=x33||(x35||(x37||x42))
 let x85:= !x84
 let p25:=x85::p22
 let x86:=x33||(x35||x36)
 let x87:= !x86
 let p26:=x87::p25
 let x88:=x33||x34
 let x89:= !x88
 let p29:=x89::p26
 let p30:=x33::p29
 let x90:Nat:=List.length a.2.2.2.2.2.2.2.2.2.2.2.1
 let x91:=iN x90
 let x92:=decide (x91>0)
 let x93:=i64.wrap (x91-1)
 let x94:= !x92||Zf x93 x90
 let x95:= !x94
 let x96:=x46.1
 let x97:=x96.2.2.1
 let x98:= !x97
 let x99:=Nat.ble (List.length ([]++a.2.2.2.2.2.1.1.2.2.1)) most
 let x100:= !x99
 let x101:LINT:=(false,false,false,false,false,false,false,false,false)
 let x102:QT26:=(x101,false,false,false,false,0,0)
 let x103:List EVTT:=a.2.2.2.2.2.2.2.2.2.2.1++[ZFT (6,a.2.2.2.2.2.1.1.2.1,[]++a.2.2.2.2.2.1.1.2.2.1,x102) a.2.2.2.2.2.1.1.1 x96]
 let x104:=Nat.ble (List.length x103) most
 let x105:TC:=R.get ZY a.2.2.2.2.2.2.2.2.2.2.2.1 x93
 let x151:List TC:=[(R.sel ZY x92 x105 a.2.2.2.2.2.2.2.1)]
 let x152:List TC:=a.2.2.2.2.2.2.2.2.2.2.2.1++x151
 let x153:= !x104||Nat.ble (List.length x152) most
 let p4:=(!x153)::x100::(!ZgC a.2.2.2.2.2.1.1)::x98::[]
 let x154:=orR p4 x104
 let x155:= !x154
 let x156:=x98||(!ZgC a.2.2.2.2.2.1.1||(x100||x153))
 let x157:= !x156
 let x158:=x98||(!ZgC a.2.2.2.2.2.1.1||x99)
 let x159:= !x158
 let p1:=x159::x157::x155::x95::[]
 let x160:List EVTT:=(bif ZgC a.2.2.2.2.2.1.1 then x103 else a.2.2.2.2.2.2.2.2.2.2.1)++[ZFT (4,0,[],x102) a.2.2.2.2.2.1.1.1 x96]
 let x161:=Nat.ble (List.length x160) most
 let x162:=x4.1
 let x163:List TC:=(bif ZgC a.2.2.2.2.2.1.1 then x152 else a.2.2.2.2.2.2.2.2.2.2.2.1)++[x162.1.1]
 let x164:= !x161||Nat.ble (List.length x163) most
 let x165:=x98||(!x164||x161)
 let x166:= !x165
 let p5:=x166::p1
 let x167:=x98||x164
 let x168:= !x167
 let p11:=x97::x168::p5
 let x169:=ZjW a.2.2.2.2.2.1.1 x96 x48
 let x170:= !x169
 let p13:=x170::p11
 let x171:=Zmn a.2.2.2.2.2.1.1 x96 x48
 let x172:=x171.2
 let x173:= !x172
 let x174:=Zy8 a.2.2.2.2.2.1.1 (Zp a.2.2.2.2.2.1.1) x48
 let x175:= !x174
 let x176:List EVTT:=a.2.2.2.2.2.2.2.2.2.2.1++[ZFT (ZPe a.2.2.2.2.2.1.1.2.1,a.2.2.2.2.2.1.1.2.1,ZIG a.2.2.2.2.2.1.1 (Zp a.2.2.2.2.2.1.1) x48,x102) (Zi a.2.2.2.2.2.1.1.1 x96) x96]
 let x177:=Nat.ble (List.length x176) most
 let x178:List TC:=a.2.2.2.2.2.2.2.2.2.2.2.1++[x171.1]
 let x179:= !x177||Nat.ble (List.length x178) most
 let x180:=x173||(x175||(!x179||x177))
 let x181:= !x180
 let p18:=x181::p13
 let x182:=x173||(x175||x179)
 let x183:= !x182
 let p20:=x183::p18
 let x184:=x173||x174
 let x185:= !x184
 let p23:=x185::p20
 let x186:=x47.2
 let x187:=x186.2
 let x188:= !x187
 let x189:List EVTT:=bif x172 then x176 else a.2.2.2.2.2.2.2.2.2.2.1
 let x190:List EVTT:=x189++[(5,0,[],x101,false,false,false,false,x186.1)]
 let x191:=Nat.ble (List.length x190) most
 let x192:List TC:=bif x172 then x178 else a.2.2.2.2.2.2.2.2.2.2.2.1
 let x193:List TC:=x192++x151
 let x194:= !x191||Nat.ble (List.length x193) most
 let x195:=x188||(!x194||x191)
 let p27:=x188::(!x195)::p23
 let x196:=orR p27 x194
 let x197:= !x196
 let p31:=x197::p30
 let x198:=orR p23 x195
 let x199:= !x198
 let p32:=x199::p31
 let x200:=orR p20 x184
 let x201:= !x200
 let p33:=x201::p32
 let x202:=orR p18 x182
 let x203:= !x202
 let p34:=x203::p33
 let x204:=orR p13 x180
 let x205:= !x204
 let p35:=x205::p34
 let x206:=orR p11 x169
 let x207:= !x206
 let p36:=x207::p35
 let x208:=orR p5 x167
 let x209:= !x208
 let p37:=x209::p36
 let x210:=orR p1 x165
 let x211:= !x210
 let p38:=x211::p37
 let x212:=x95||(x155||(x157||x158))
 let x213:= !x212
 let p39:=x213::p38
 let x214:=x95||(x155||x156)
 let x215:= !x214
 let p40:=x215::p39
 let x216:=x95||x154
 let p41:=(!x216)::p40
 let x217:ITMT:=R.get Zkc x62 x16
 let x218:=x217.1
 let x219:=x217.2
 let x220:=x219.1
 let x221:=x219.2
 let x222:=x221.1
 let x223:=x221.2
 .br (decide (a.2.2.1<a.2.1)) (.br (orR p41 x94) (.br (orR p40 x216) (.br (orR p39 x214) (.br (orR p38 x212) (.br (orR p37 x210) (.br (orR p36 x208) (.br (orR p35 x206) (.br (orR p34 x204) (.br (orR p33 x202) (.br (orR p32 x200) (.br (orR p31 x198) (.br (orR p30 x196) (.br (orR p29 x32) (.br (orR p26 x88) (.br (orR p25 x86) (.br (orR p22 x84) (.br (orR p19 x82) (.br (orR p16 x80) (.br (orR p15 x78) (.br (orR p12 x76) (.br (orR p9 x74) (.br (orR p6 x72) (.br (orR p3 x70) (.br (!Zf a.2.2.1 (List.length a.1)||(x3||(x8||x55))) (.br (!Zf a.2.2.1 (List.length a.1)||(x3||x7)) (.br (!Zf a.2.2.1 (List.length a.1)||x2) (.br (Zf a.2.2.1 (List.length a.1)) (.Lf (some (Go1.cont (a.1,a.2.1,i64.wrap (a.2.2.1+1),a.2.2.2.1,a.2.2.2.2.1,x162,a.2.2.2.2.2.2.1,a.2.2.2.2.2.2.2.1,x6,bif x14 then bif x39 then setI a.2.2.2.2.2.2.2.2.2.1 x16 (x23,x27.1,x28.1,i64.wrap (x29.1+1),x30) else x53 else bif x57 then x53 else bif x60 then setI x62 x16 (x218,x220,i64.wrap (x222+1),x223) else setI x62 x16 (x218,x220,x222,i64.wrap (x223.1+1),x223.2),bif x97 then x160 else bif x187 then x190 else x189,bif x97 then x163 else bif x187 then x193 else x192,PUnit.unit)))) (.Lf none)) (.Lf none)) (.Lf none)) (.Lf none)) (.Lf none)) (.Lf none)) (.Lf none)) (.Lf none)) (.Lf none)) (.Lf none)) (.Lf none)) (.Lf none)) (.Lf none)) (.Lf none)) (.Lf none)) (.Lf none)) (.Lf none)) (.Lf none)) (.Lf none)) (.Lf none)) (.Lf none)) (.Lf none)) (.Lf none)) (.Lf none)) (.Lf none)) (.Lf none)) (.Lf none)) (.Lf (some (Go1.brk (a.1,a.2.1,a.2.2.1,a.2.2.2.1,a.2.2.2.2.1,a.2.2.2.2.2.1,a.2.2.2.2.2.2.1,a.2.2.2.2.2.2.2.1,a.2.2.2.2.2.2.2.2.1,a.2.2.2.2.2.2.2.2.2.1,a.2.2.2.2.2.2.2.2.2.2.1,a.2.2.2.2.2.2.2.2.2.2.2.1,PUnit.unit))))
def ZPb (b:BRDT) (l:List Int):RT (Option (RUNT×Int)):=
 let x1:SYST:=(((0,(0,0,0,0,0,0,0,(false,false,false,false,false,false,false),0,0),false,false,false,0,false,false,false,false,false,false,false),0,[],(0,0,0,0),0,false),[],(0,false,false,false,false,0,0,false,false,false,false,false,0,0,0,0,0,0,0,false),(0,0,0),0,[])
 let x2:RUNT:=([],[],[],[],x1)
 let x3:List INPT×Int×Int×BRDT×RUNT×SYST×SYST×TC×List PINT×List ITMT×List EVTT×List TC×PUnit:=(ZaB l,iN (List.length (ZaB l)),0,b,x2,(wNew b).1,x1,(wNew b).1.1.1,[],[],[],[],())
 let x4:=runF false Zgk (λa=>1000000000000) x3
 let x5:SYST×SYST×TC×List PINT×List ITMT×List EVTT×List TC×PUnit:=(getO (false,x3) x4).2.2.2.2.2.2
 let x6:=x5.1
 let x7:=x6.1
 let x8:=ZgC x7
 let x9:= !x8
 let x10:=x5.2.2
 let x11:=x10.2
 let x12:=x11.2
 let x13:=x12.2
 let x14:=x13.2.1
 let x15:Nat:=List.length x14
 let x16:=iN x15
 let x17:=decide (x16>0)
 let x18:=i64.wrap (x16-1)
 let x19:=x7.2
 let x20:List Int:=[]++x19.2.1
 let x21:=Nat.ble (List.length x20) most
 let x22:=x13.1
 let x23:List EVTT:=x22++[(7,x19.1,x20,(false,false,false,false,false,false,false,false,false),false,false,false,false,0,0)]
 let x24:TC:=R.get ZY x14 x18
 let x78:List TC:=x14++[(R.sel ZY x17 x24 (getO (false,x3) x4).2.2.2.2.2.2.2.2.1)]
 let x79:=x11.1
 let x80:=x12.1
 .br (ZPc b) (.br ((wNew b).2 !=0) (.Lf (some ((x2,(wNew b).2)))) (.br (ZiD l) (.br (okB x4) (.br (x9||(!x17||Zf x18 x15)) (.br (x9||(!x21||Nat.ble (List.length x23) most)) (.br (x9||x21) (.br (x9||Nat.ble (List.length x78) most) (.br (x8) (.Lf (some (((x79,x80,x23,x78,x6),0)))) (.Lf (some (((x79,x80,x22,x14,x6),0))))) (.Lf none)) (.Lf none)) (.Lf none)) (.Lf none)) (.Lf none)) (.Lf none))) (.Lf none)
def wRun (b:BRDT) (l:List Int):RUNT×Int:=getO ZWf.Df (ZPb b l).val
def ZTk (b:BRDT) (l:List Int):Bool:=okB (ZPb b l).val
end
end Go.Proofs.YtpnjbfjomebppaaGreat
