import Derived.Test.YtlgmapcjapofoaaExpB
import Derived.Test.YtlgmapcjapofoaaS3New
import Derived.RangeFuncNested
import Derived.RangeFuncLeaves
import Derived.Shelf.Abstract
import Derived.WalkKit
import Derived.OwnWalkIn
import Derived.TacticsInMore
import Derived.LoopNIn
import Derived.LoopIn
import Derived.Test.YtlgmapcjapofoaaS3D
import Derived.Test.YtlgmapcjapofoaaProg
import Derived.Test.YtlgmapcjapofoaaS3Box1
set_option linter.unusedVariables false
set_option linter.unusedSimpArgs false
namespace Go.Proofs.Ytlgmapcjapofoaa
open Go Go.S3 Go.Proofs Go.RowKit
noncomputable section
variable {n₀:Nat} {ex:Nat->Prop} {fz:Nat->Nat->Option Value} {M:List Nat} {m:Mem} {W W':World}
def memA (chip:Int) (L:List PINT):Mem:=⟨[[.int false .i64 chip],[.tip 0 0]],[stgP L 0]⟩
theorem init7 {x:Ctx} {m:Mem} {w:World} (hm:MemOk x m w) {chip:Int} (hc:inR .i64 chip) (T T':TypeId):
  Xw w.heap.size (λ_=>False) x.fz [w.heap.size,w.heap.size+1] (memA chip []) ((w.alloc (.cells #[.int .i64 chip] T)).alloc (.cells #[.slice none 0 0] T')):=by
 have h0:=Zio hm
 have hj:=h0.joinS (g:=stgP [] 0) (s:=⟨none,none,0,ZaR.wid,0,0⟩) (λp cap h=>by simp at h) ⟨rfl,rfl,rfl,λ_=>⟨rfl,rfl⟩,λp cap h=>by simp at h,λ_=>rfl,λh=>by simp[stgP] at h,λh=>by simp[stgP] at h⟩
 have h1:=ZcP hj.1 (l:=[.int false .i64 chip]) (C:=[.int .i64 chip]) T ⟨.int _ _ _ _ hc,Tv⟩
 have h2:=ZcP h1.1 (l:=[.tip 0 0]) (C:=[.slice none 0 0]) T' ⟨.tip _ _ _ ⟨none,none,0,ZaR.wid,0,0⟩ _ rfl (Nat.le_refl _) (λ_=>rfl) trivial,Tv⟩
 have e:(w.alloc (.cells #[.int .i64 chip] T)).heap.size=w.heap.size+1:=World.size_alloc _ _
 have key:=h2.1
 refine⟨{own:=λk=>w.heap.size<=k/\¬False,M:=[w.heap.size,w.heap.size+1],S:=[⟨none,none,0,ZaR.wid,0,0⟩],fz:=x.fz},⟨rfl,λ_ _ _ h=>h,λ_ _ _ h=>.inl h⟩,rfl,?_⟩
 have k2:=Zk3 key (λk=>w.heap.size<=k/\¬False) (λk hk=>⟨key.fresh k hk,id⟩) (λb p hp=>⟨(key.mown b p hp).1,id⟩) (λi s p cap h5 h6=>⟨(key.sown i s p cap h5 h6).1,id⟩)
 have hM:([]++[w.heap.size])++[(w.alloc (.cells #[.int .i64 chip] T)).heap.size]=[w.heap.size,w.heap.size+1]:=by rw[e];rfl
 exact hM▸k2
theorem Zos {x:ITMT} (h:ZB.ok x) (y:Ctx):RL y (ZB.enc x) [.int .i64 x.1,.int .i64 x.2.1.1,.int .u16 x.2.1.2.1,.int .u8 x.2.1.2.2.1,.int .i64 x.2.1.2.2.2,.int .i64 x.2.2.1,.int .i64 x.2.2.2.1,.bool x.2.2.2.2.1,.bool x.2.2.2.2.2]:=by
 obtain⟨h1,⟨h2,h3,h4,h5⟩,h6,h7,_⟩:=h
 exact⟨.int _ _ _ _ h1,.int _ _ _ _ h2,.int _ _ _ _ h3,.int _ _ _ _ h4,.int _ _ _ _ h5,.int _ _ _ _ h6,.int _ _ _ _ h7,.bool _ _ _,.bool _ _ _,Tv⟩
theorem Xw.item {b0 b1:List A} {st:List Stg} (h:Xw n₀ ex fz M ⟨[b0,b1],st⟩ W) {x:ITMT} (hx:ZB.ok x) (T:TypeId):Xw n₀ ex fz (M++[W.heap.size]) ⟨[b0,b1,ZB.enc x],st⟩ (W.alloc (.cells (Z8 x) T)):=
 h.box T (Zos hx)
theorem Xw.drop {chip:Int} {L:List PINT} {x:ITMT} {pc po px:Nat} (h:Xw n₀ ex fz [pc,po,px] (memB chip L x 0) W):Xw n₀ ex fz [pc,po] (memA chip L) W:=by
 obtain⟨y,h1,h2,h3⟩:=h
 have hS:Zk 1 y.S=y.S:=by
  have:=h3.sl
  match hy:y.S,this with
  |[s],_=>rfl
  |[],e=>simp[memB] at e
  |_::_::_,e=>simp[memB] at e
 have hc:=h3.cut 2 1 (λb l hl a ha v hv=>by
  match b,hl with
  |0,hl=>
   simp only[memB,Zk,nth,oinj] at hl;subst hl
   simp only[List.mem_singleton] at ha;subst ha
   cases hv;exact .int _ _ _ _ (by assumption)
  |1,hl=>
   simp only[memB,Zk,nth,oinj] at hl;subst hl
   simp only[List.mem_singleton] at ha;subst ha
   cases hv with
   |tip _ _ _ s _ hs hv hval hat=>exact .tip _ _ _ s _ (by rw[hS];exact hs) hv hval hat
  |b+2,hl=>simp[memB,Zk,nth] at hl)
 exact⟨{y with M:=Zk 2 y.M,S:=Zk 1 y.S},⟨h1.own,h1.fzl,h1.fzn⟩,by show Zk 2 y.M=_;rw[h2];rfl,hc⟩
theorem Xw.out {chip:Int} {L:List PINT} {pc po:Nat} (h:Xw n₀ ex fz [pc,po] (memA chip L) W):∃y s,Xc n₀ ex fz y/\y.M=[pc,po]/\y.S=[s]/\MemOk y (memA chip L) W/\W.cell? ⟨po,0,none⟩=some (tipVal s)/\s.ver=0:=by
 obtain⟨y,h1,h2,h3⟩:=h
 obtain⟨s,hs⟩:∃s,y.S=[s]:=by
  have:=h3.sl
  match hy:y.S,this with
  |[s],_=>exact⟨s,rfl⟩
  |[],e=>simp[memA] at e
  |_::_::_,e=>simp[memA] at e
 have hs0:nth y.S 0=some s:=by rw[hs];rfl
 have hst:=h3.stg 0 (stgP L 0) s rfl hs0
 obtain⟨C,T,e1,e2⟩:=h3.box 1 [.tip 0 0] po rfl (by rw[h2];rfl)
 refine⟨y,s,h1,h2,hs,h3,?_,hst.ver⟩
 match C,e2 with
 |[v],e2=>
  have e3:RA y (.tip 0 0) v:=e2.1
  cases e3 with
  |tip _ _ _ s' _ hs' hv hval hat=>
   rw[hs0] at hs';cases hs'
   have:=hval hst.ver
   subst this
   simp only[World.cell?,e1]
   rfl
 |[],e2=>exact e2.elim
 |_::_::_,e2=>exact e2.2.elim
def expP (chip:Int) (l:List ITMT):List PINT:=l.flatMap λy=>(stsL y).map (pinP chip y)
theorem ZhT (chip:Int) (l:List ITMT) (y:ITMT):expP chip (l++[y])=expP chip l++(stsL y).map (pinP chip y):=by simp[expP]
theorem ZlZ (chip:Int) (a b:List ITMT):(expP chip a).length<=(expP chip (a++b)).length:=by simp[expP]
def ZoC (fz:Nat->Nat->Option Value) (sv:Value) (l:List ITMT):Prop:=
 (∃a cap,sv=.slice a 0 cap/\l=[])\/∃b off cap,sv=.slice (some ⟨b,off,none⟩) l.length cap/\l.length<=maxLen/\
  ∀j x,l[j]? =some x->∀i,i<9->fz b (off+j*9+i)=some ((Z8 x).getD i undef)
theorem heldI {x:Ctx} {l:List ITMT} {v:Value} {lit full nn:Bool} (h:RA x (.lst ZB lit full nn l) v):ZoC x.fz v l:=by
 cases h with
 |lst0 _ _ _ _ _ _ a cap h1 _ _ _=>exact .inl ⟨a,cap,rfl,h1⟩
 |lst _ _ _ _ _ _ p o cap c h0 hf hcap hml hz hr=>
  refine .inr ⟨p,o,cap,rfl,hml,λj y hy i hi=> ?_⟩
  have hj:j<List.length (α:=ITMT) l:=(List.getElem?_eq_some_iff.1 hy).1
  have hel:elN ZB l j=ZB.enc y:=by
   unfold elN
   have:List.getD (α:=ITMT) l j ZB.dflt=y:=by rw[List.getD_eq_getElem?_getD,hy];rfl
   rw[this]
  have key:∀i a,nth (ZB.enc y) i=some a->x.fz p (o+j*9+i)=some (c j i)/\RA x.bare a (c j i):=λi a ha=>⟨hz j i a hj (by rw[hel];exact ha),hr j i a hj (by rw[hel];exact ha)⟩
  match i,hi with
  |0,_=>obtain⟨k1,k2⟩:=key 0 _ rfl;generalize c j 0=u at*;cases k2;exact k1
  |1,_=>obtain⟨k1,k2⟩:=key 1 _ rfl;generalize c j 1=u at*;cases k2;exact k1
  |2,_=>obtain⟨k1,k2⟩:=key 2 _ rfl;generalize c j 2=u at*;cases k2;exact k1
  |3,_=>obtain⟨k1,k2⟩:=key 3 _ rfl;generalize c j 3=u at*;cases k2;exact k1
  |4,_=>obtain⟨k1,k2⟩:=key 4 _ rfl;generalize c j 4=u at*;cases k2;exact k1
  |5,_=>obtain⟨k1,k2⟩:=key 5 _ rfl;generalize c j 5=u at*;cases k2;exact k1
  |6,_=>obtain⟨k1,k2⟩:=key 6 _ rfl;generalize c j 6=u at*;cases k2;exact k1
  |7,_=>obtain⟨k1,k2⟩:=key 7 _ rfl;generalize c j 7=u at*;cases k2;exact k1
  |8,_=>obtain⟨k1,k2⟩:=key 8 _ rfl;generalize c j 8=u at*;cases k2;exact k1
def mark (D:Nat):Deferred:={target:=.collected D,args:= #[]}
theorem ZcV {F:Fence} {n:Nat} {P:Program} {fn:Func} {tmps:Array Value} {R:Ending->World->Prop} (J:World->Prop)
  (hJ:∀W D,n₀<=D->J W->W.heap[D]? =some (.deferred (some []))->J (W.putObj D (.deferred none))) (hfin:∀W,J W->LeavesIn F n P fn tmps R [] .returning W):
  ∀(ds:List Nat) (W:World),ds.Nodup->(∀D∈ds,n₀<=D/\W.heap[D]? =some (.deferred (some [])))->J W->LeavesInM F n P fn tmps R (ds.map mark) .returning W
 |[],W,_,_,h=>hfin W h
 |D::ds,W,hn,hd,h=>by
  obtain⟨hD0,hD⟩:=hd D (by simp)
  refine⟨by simp,.inl ⟨D,_,rfl,run_takeDeferred hD,ZcV J hJ hfin ds _ (List.nodup_cons.1 hn).2 (λD' h'=> ?_) (hJ W D hD0 h hD)⟩⟩
  have hne:D'≠D:=λe=>(List.nodup_cons.1 hn).1 (e▸h')
  exact⟨(hd D' (by simp[h'])).1,(World.putObj_heap_other hne).trans (hd D' (by simp[h'])).2⟩
theorem Zct {w0:World} (h:Zaa w0 W) {row:Option Nat} (hg:W.grownBy W' row) (hr:∀r,row=some r->w0.heap.size<=r):Zaa w0 W':=
 ⟨⟨Nat.le_trans h.1.1 hg.size,λk hk=>(hg.block k (Nat.lt_of_lt_of_le hk h.1.1) λe=>by have:=hr k e.symm;omega).trans (h.1.2 k hk)⟩,hg.os.trans h.2.1,hg.tape.trans h.2.2.1,hg.output.trans h.2.2.2⟩
end
end Go.Proofs.Ytlgmapcjapofoaa
open Go.IntKind (u8 u16 i64)
namespace Go.Proofs.Ytlgmapcjapofoaa
open Go Go.S3 Go.Proofs Go.RowKit Go.Shelf
attribute [local go_sem] Oper.semAt_some
noncomputable section
structure Rd (w0:World) (fz:Nat->Nat->Option Value) (chip:Int) (ds:List Nat) (L:List PINT) (W:World):Prop where
 x:Xw w0.heap.size (λ_=>False) fz [w0.heap.size,w0.heap.size+1] (memA chip L) W
 nd:ds.Nodup
 mks:∀D∈ds,w0.heap.size<=D/\W.heap[D]? =some (.deferred (some []))
 s:Zaa w0 W
set_option maxRecDepth 100000 in
set_option maxHeartbeats 8000000 in
theorem Zoy (n:Nat) (hn:5<=n) (sv:Value) (chip:Int) (l:List ITMT) (fz:Nat->Nat->Option Value) (hl:ZoC fz sv l) (hok:∀y∈l,ZB.ok y) (hm:(expP chip l).length<=most) (w0:World)
  (hx:∀T T',Xw w0.heap.size (λ_=>False) fz [w0.heap.size,w0.heap.size+1] (memA chip []) ((w0.alloc (.cells #[.int .i64 chip] T)).alloc (.cells #[.slice none 0 0] T'))):
  CallsIn Fence.wide n Try.prog 11 #[.int .i64 chip,sv] w0 λe W'=>∃s y,e=.returned (tipVal s)/\s.ver=0/\y.M=[w0.heap.size,w0.heap.size+1]/\y.S=[s]/\Xc w0.heap.size (λ_=>False) fz y/\MemOk y (memA chip (expP chip l)) W'/\Zaa w0 W':=by
 have h1:1<=n:=by omega
 obtain⟨aa,cap,hsv⟩:∃aa cap,sv=.slice aa l.length cap:=by
  rcases hl with ⟨a,cap,e,e2⟩|⟨b,off,cap,e,_⟩
  ·exact⟨a,cap,by rw[e,e2];rfl⟩
  ·exact⟨_,cap,e⟩
 subst hsv
 have hlm:l.length<=maxLen:=by
  rcases hl with ⟨a,cap,e,e2⟩|⟨b,off,cap,e,h,_⟩
  ·rw[e2];exact Nat.zero_le _
  ·exact h
 refine callsIn_of_wp_marks Try.func11 rfl trivial ?_ rfl
 simp only[Try.ntmps11,List.size_toArray,List.length_cons,List.length_nil,Nat.reduceAdd,Nat.reduceSub,Array.replicate_succ,Array.replicate_zero,List.push_toArray,List.append_toArray,List.nil_append,List.cons_append]
 gi_wp2
 refine wpIn_loop (λa W=>∃(j:Nat) (ds:List Nat) (u7 u12 u13 u14 u15 u16 u37:Value),j<=l.length/\a={tmps:= #[.int .i64 chip,.slice aa l.length cap,.pointer (some ⟨w0.heap.size,0,none⟩),undef,.slice none 0 0,.pointer (some ⟨w0.heap.size+1,0,none⟩),undef,u7,undef,.slice aa l.length cap,.int .i64 (l.length:Int),.int .i64 (j:Int),u12,u13,u14,u15,u16,undef,undef,undef,undef,undef,undef,undef,undef,undef,undef,undef,undef,undef,undef,undef,undef,undef,undef,undef,undef,u37,undef],defers:=ds.map mark}/\Rd w0 fz chip ds (expP chip (l.take j)) W) (λa _=>l.length-(intOf (a.tmps.getD 11 undef)).toNat) ?ZgW ?round
 case ZgW=>
  refine⟨0,[],undef,undef,undef,undef,undef,undef,undef,Nat.zero_le _,rfl,⟨hx _ _,List.nodup_nil,λD hD=>by simp at hD,?_⟩⟩
  refine⟨⟨by simp;omega,λk hk=> ?_⟩,rfl,rfl,rfl⟩
  exact (Below.heap_alloc _ _ _ (by simp;omega)).trans (Below.heap_alloc _ _ _ hk)
 case round=>
  rintro a W ⟨j,ds,u7,u12,u13,u14,u15,u16,u37,hj,rfl,hR⟩
  by_cases hlt:j<l.length
  ·obtain⟨b,off,hab,hcf⟩:∃b off,aa=some ⟨b,off,none⟩/\∀j x,l[j]? =some x->∀i,i<9->fz b (off+j*9+i)=some ((Z8 x).getD i undef):=by
    rcases hl with ⟨a,cap,e,e2⟩|⟨b,off,cap,e,_,h⟩
    ·rw[e2] at hlt;simp at hlt
    ·simp only[Value.slice.injEq] at e
     exact⟨b,off,e.1,h⟩
   subst hab
   obtain⟨x,hxj⟩:∃x,l[j]? =some x:=⟨_,List.getElem?_eq_getElem hlt⟩
   have hcell:∀i,i<9->W.cell? ⟨b,off+j*9+i,none⟩=some ((Z8 x).getD i undef):=λi hi=>by
    obtain⟨y,hy1,_,hy3⟩:=hR.x
    exact hy3.fz _ _ _ (hy1.fzl _ _ _ (hcf j x hxj i hi))
   have c0:=hcell 0 (by omega)
   have c1:=hcell 1 (by omega)
   have c2:=hcell 2 (by omega)
   have c3:=hcell 3 (by omega)
   have c4:=hcell 4 (by omega)
   have c5:=hcell 5 (by omega)
   have c6:=hcell 6 (by omega)
   have c7:=hcell 7 (by omega)
   have c8:=hcell 8 (by omega)
   simp[Z8,Array.getD] at c0 c1 c2 c3 c4 c5 c6 c7 c8
   have hf23:Fence.wide.fn 23:=trivial
   gi_wp2_with (gi_at_call 23;refine (Zoa Fence.wide (n-1) trivial rfl x _).mono ?_;rintro e w' ⟨rfl,rfl⟩)
   have hitm:ZB.ok x:=hok x (List.mem_iff_getElem?.2 ⟨j,hxj⟩)
   have hX2:=(Xw.item hR.x hitm 44).block (.cells (Z8 x) 44)
   have hI2:Zda ((W.alloc (.cells (Z8 x) 44)).alloc (.cells (Z8 x) 44)) (W.heap.size+1) x:=by
    have:=World.alloc_heap_new (W.alloc (.cells (Z8 x) 44)) (.cells (Z8 x) 44)
    rw[World.size_alloc] at this
    exact this
   have hz2:((W.alloc (.cells (Z8 x) 44)).alloc (.cells (Z8 x) 44)).heap.size=W.heap.size+2:=by simp
   have hg2:W.grownBy ((W.alloc (.cells (Z8 x) 44)).alloc (.cells (Z8 x) 44)) none:=by
    have a1:=World.grownBy_alloc W (.cells (Z8 x) 44) none
    have a2:=World.grownBy_alloc (W.alloc (.cells (Z8 x) 44)) (.cells (Z8 x) 44) none
    exact⟨a2.os.trans a1.os,a2.tape.trans a1.tape,a2.output.trans a1.output,Nat.le_trans a1.size a2.size,λk hk hn=>(a2.block k (Nat.lt_of_lt_of_le hk a1.size) hn).trans (a1.block k hk hn)⟩
   rw[World.size_alloc] at hX2
   generalize hW2:(W.alloc (.cells (Z8 x) 44)).alloc (.cells (Z8 x) 44)=W2 at*
   have hs2:Zaa w0 W2:=Zct hR.s hg2 (λr e=>by cases e)
   have hm2:∀D∈ds,(w0.heap.size<=D/\D<W2.heap.size)/\W2.heap[D]? =some (.deferred (some [])):=λD hD=>by
    obtain⟨k1,k2⟩:=hR.mks D hD
    have hlt':=(Array.getElem?_eq_some_iff.1 k2).1
    exact⟨⟨k1,by omega⟩,(hg2.block D hlt' (λe=>by cases e)).trans k2⟩
   have hwz:w0.heap.size<=W2.heap.size:=hs2.1.1
   clear c0 c1 c2 c3 c4 c5 c6 c7 c8 hcell hcf
   generalize hL:expP chip (l.take j)=L at*
   have hLn:expP chip (l.take (j+1))=L++(stsL x).map (pinP chip x):=by
    rw[List.take_add_one,hxj]
    simp only[Option.toList_some]
    rw[ZhT,hL]
   have hLm:L.length+(stsL x).length<=most:=by
    have:=ZlZ chip (l.take (j+1)) (l.drop (j+1))
    rw[List.take_append_drop,hLn] at this
    simp at this
    omega
   refine wpIn_rangeFunc_ownH (F:=Fence.wide) rfl h1 (gf:=29) (lb:= #[.pointer (some ⟨W.heap.size+1,0,none⟩)]) rfl trivial (enters_of Try.func29 (by kernel_rfl) rfl)
    (Zky Fence.wide (n-1) trivial trivial trivial rfl (by omega) (W.heap.size+1) x W2 (by omega) hI2) (λh k=>Eq.trans k h) (λW' k o o' hk _ _ _=>World.putObj_heap_other (by omega)) (Below.refl _ _) (λ_=>rfl)
    (λpre W'=>Xw w0.heap.size (λk=>k=W.heap.size+1) fz [w0.heap.size,w0.heap.size+1,W.heap.size] (memB chip (L++pre.map (λt=>pinP chip x t.1)) x 0) W'/\(∀D∈ds,W'.heap[D]? =some (.deferred (some [])))/\Zaa w0 W')
    (λ_ _ _=>False)
    (λpre A C row ⟨k1,k2,k3⟩ hg hr=>⟨k1.grown hg (λr e=>(hr r e).2),λD hD=>(hg.block D (Array.getElem?_eq_some_iff.1 (k2 D hD)).1 (λe=>by have:=(hr D e.symm).1;have:=(hm2 D hD).1.2;omega)).trans (k2 D hD),Zct k3 hg (λr e=>Nat.le_trans hwz (hr r e).1)⟩)
    (λ_ _ _ _ _ h _ _=>h) ⟨by rw[List.map_nil,List.append_nil];exact hX2,λD hD=>(hm2 D hD).2,hs2⟩
    (λt a' _=>a'={tmps:= #[.int .i64 chip,.slice (some ⟨b,off,none⟩) l.length cap,.pointer (some ⟨w0.heap.size,0,none⟩),undef,.slice none 0 0,.pointer (some ⟨w0.heap.size+1,0,none⟩),undef,.pointer (some ⟨W.heap.size,0,none⟩),.int .i64 t.1,.slice (some ⟨b,off,none⟩) l.length cap,.int .i64 (l.length:Int),.int .i64 (j:Int),.bool true,.pointer (some ⟨b,off+j*9,none⟩),.agg (Z8 x),.agg (Z8 x),.func (.func 29) #[] #[.pointer (some ⟨W.heap.size+1,0,none⟩)],.int .i64 t.1,undef,undef,undef,undef,undef,undef,undef,undef,undef,undef,undef,undef,undef,undef,undef,undef,undef,undef,undef,u37,undef],defers:=[]})
    (λ_ _ _ _ _ _ hs _ _=>hs) ?assign ?body ?done ?stop
   case assign=>
    rintro y pre t W' K hI hK
    gi_wp2
    exact hK _ _ (KeepsFrom.refl _ _) rfl hI rfl
   case body=>
    rintro y pre t a' W' hy hlp ⟨k1,k2,k3⟩ rfl hlen
    refine wpIn_block ?_
    refine Zod (chip:=chip) (t:=t.1) (x:=x) (by obtain⟨t,t0,t1⟩:=t;exact⟨by simp[IntKind.min,IntKind.signed,IntKind.bits];omega,by simp[IntKind.max,IntKind.signed,IntKind.bits];omega⟩) (by simp;omega) k1 rfl rfl rfl rfl rfl rfl (λ⟨_,_,h⟩=>h.elim) ?_
    intro a2 W3 hX3 hz3 hb3 ho3 ht3 hp3
    refine⟨⟨hz3,λk o hk ho hn=>(hb3 k (.inr (.inr ⟨o,ho,hn⟩))).trans ho⟩,hb3 _ (.inr (.inl rfl)),by rw[List.map_append,<-List.append_assoc];exact hX3,λD hD=>(hb3 D (.inr (.inr ⟨_,k2 D hD,rfl⟩))).trans (k2 D hD),?_⟩
    exact⟨⟨Nat.le_trans k3.1.1 hz3,λk hk=>(hb3 k (.inl (by omega))).trans (k3.1.2 k hk)⟩,ho3.trans k3.2.1,ht3.trans k3.2.2.1,hp3.trans k3.2.2.2⟩
   case done=>
    rintro D ys W' hD hS ⟨k1,k2,k3⟩ hK
    have hb63:(j:Int)+1<=9223372036854775807:=by
     have:maxLen=9223372036854775807:=by decide
     omega
    have hj0:(0:Int)<=j:=by omega
    have eL:L++ys.map (λt=>pinP chip x t.1)=expP chip (l.take (j+1)):=by
     rw[hLn,<-hS,List.map_map];rfl
    rw[eL] at k1
    gi_wp2
    refine⟨⟨j+1,D::ds,_,_,_,_,_,_,_,hlt,rfl,⟨k1.all.drop,List.nodup_cons.2 ⟨λh=>by have:=(hm2 D h).1.2;omega,hR.nd⟩,λD' h'=> ?_,k3⟩⟩,?_⟩
    ·rcases List.mem_cons.1 h' with h'|h'
     ·subst h';exact⟨by omega,hK⟩
     ·exact⟨(hm2 D' h').1.1,k2 D' h'⟩
    ·simp[intOf]
     omega
   case stop=>
    rintro D c pre W' hD _ hf
    exact hf.elim
  ·have hjl:j=l.length:=by omega
   subst hjl
   obtain⟨y,s,hy1,hy2,hy3,hy4,hy5,hy6⟩:=hR.x.out
   have hm2:=hR.mks
   have hnd:=hR.nd
   have hs2:=hR.s
   rw[List.take_length] at hy4
   gi_wp2
   refine ZcV (n₀:=w0.heap.size) (λW'=>MemOk y (memA chip (expP chip l)) W'/\Zaa w0 W') ?_ ?_ ds _ hnd hm2 ⟨hy4,hs2⟩
   ·rintro W' D hD ⟨k1,k2⟩ hk
    have hg:=grownBy_putObj' W' D (.deferred none)
    exact⟨k1.grown hg (λr e=>by cases e;exact⟨_,hk,rfl⟩),Zct k2 hg (λr e=>by cases e;exact hD)⟩
   ·rintro W' ⟨k1,k2⟩
    refine⟨tipVal s,?_,s,y,rfl,hy6,hy2,hy3,hy1,k1,k2⟩
    simp[results,Try.f11,go_sem]
end
end Go.Proofs.Ytlgmapcjapofoaa
namespace Go.Proofs.Ytlgmapcjapofoaa
open Go Go.S3 Go.Proofs Go.RowKit
noncomputable section
abbrev Zox:List Sh:=[.one (R.int i64),.one (.sl ZB)]
abbrev Znr:Entry:=newE ZaR 46 Zox (λa=>some (Nat.ble (expP a.1 a.2).length most)) (λa=>expP a.1 a.2)
set_option maxHeartbeats 1000000 in
theorem ZmZ:Za Try.prog 11 Znr:=by
 refine⟨Try.call11,λvs m=> ?_,λvs m q hq hc x w args hm hv=> ?_⟩
 ·simp only
  split
  ·intro q hq
   simp only[oinj] at hq;subst hq
   exact⟨Nat.le_refl _,λb l hl=>⟨l,hl,rfl,λ_ _=>rfl⟩,by simp,λi g hg=>⟨g,by
    show nth (m.stgs++[_]) i=some g
    rw[Zb,List.getElem?_append_left (Zn hg),<-Zb];exact hg,Nat.le_refl _,λ_=>rfl⟩⟩
  ·intro q hq;simp at hq
 ·simp only at hq
  split at hq
  ·rename_i a ha
   simp only[RT.val,oinj] at hq
   subst hq
   obtain⟨hargs,hin⟩:=Zcf ha hv
   obtain⟨chip,l⟩:=a
   have hlen:(expP chip l).length<=most:=by
    cases hb:Nat.ble (expP chip l).length most with
    |true=>simpa [Nat.ble_eq] using hb
    |false=>simp only[hb] at hc;exact absurd rfl hc
   match args,hargs with
   |[v0,v1],hargs=>
    have hv0:RA x (.int false .i64 chip) v0:=hargs.1
    have hv1:RA x (.lst ZB false false false l) v1:=hargs.2.1
    have hchip:inR .i64 chip:=hin.1
    have hok:∀y∈(l:List ITMT),ZB.ok y:=(hin.2:(R.sl ZB).ok l).2
    cases hv0
    have key:=Zoy 5 (Nat.le_refl _) v1 chip l x.fz (heldI hv1) hok hlen w (λT T'=>init7 hm hchip T T')
    refine (callsIn_wide.1 key).mono ?_
    rintro e w' ⟨s,y,rfl,hver,hM,hS,hxc,hmok,hs⟩
    have hext:Ext (Ctx.own0 w x.fz) {y with own:=(Ctx.own0 w x.fz).own}:=⟨rfl,λb p e=>by simp[Ctx.own0,Zd] at e,λb p e=>by simp[Ctx.own0,Zd] at e,hxc.fzl,λb o v e=>(hxc.fzn b o v e).imp id id⟩
    obtain⟨h3,h4⟩:=Zi3 hm hext hmok.fz hs.1
    have hs0:nth y.S 0=some s:=by rw[hS];rfl
    have hok0:=hmok.stg 0 (stgP (expP chip l) 0) s rfl hs0
    have hown:∀p cap,s.blk=some (p,cap)->w.heap.size<=p:=λp cap hp=>by
     have:=(hmok.sown 0 s p cap hs0 hp).1
     rw[hxc.own] at this
     exact this.1
    have hat:atomic (tipVal s):=by unfold tipVal;split<;>trivial
    have hj:=h3.joinS (g:=newG ZaR 46 (expP chip l)) (s:=s)
     (λp cap hp=>by
      have hp:=hown p cap hp
      exact⟨hm.fresh p hp,λb hb=>by have:=hm.M_lt hb;omega,λi s' cap' hs' hb=>by have:=hm.S_lt hs' hb;omega⟩)
     ⟨hver,hok0.n,hok0.wd,hok0.nil,λp cap hp=>by
      obtain⟨C,a1,a2,a3,a4,a5,a6,a7,a8⟩:=hok0.row p cap hp
      refine⟨C,a1,a2,a3,a4,λi j a' hi ha'=> ?_,a6,a7,a8⟩
      obtain⟨v,e1,e2⟩:=a5 i j a' hi ha'
      exact⟨v,e1,e2.plain (λ_ _ _ e=>e) (R.enc_plain _ _ _ (Z1 ha'))⟩,λ_=>hok0.fzn rfl,λh=>by simp at h,λh=>by simp at h⟩
    refine⟨tipVal s,_,rfl,?_,hj.1,h4.trans hj.2,hs.step hm⟩
    refine RA.tip _ _ _ s _ ?_ (Nat.zero_le _) (λ_=>rfl) hat
    rw[Zb,Zs,<-hm.sl];simp
   |[],hargs=>exact hargs.elim
   |[_],hargs=>exact hargs.2.elim
   |_::_::_::_,hargs=>exact hargs.2.2.elim
  ·simp[RT.val] at hq
def Zkg:Entry:=frzE Znr
theorem ZgD:Za Try.prog 11 Zkg:=Zns ZmZ
end
end Go.Proofs.Ytlgmapcjapofoaa
open Go Go.S3 Go.Proofs
set_option maxRecDepth 100000
namespace Go.Proofs.Ytlgmapcjapofoaa
noncomputable section
abbrev Zjq:List Sh:=[Sh.one (R.int i64),Sh.one (R.int i64)]
abbrev Zgp:Rs:=Rs.one (Sh.one (R.int i64))
def ZeA (x:Int) (n:Int):RT (Option (Int)):=
 .br (IntKind.u64.wrap n !=0) (.leaf (some (i64.wrap (Int.tmod (IntKind.u64.wrap x) (IntKind.u64.wrap n))))) (.leaf none)
def Zjr (x:Int) (n:Int):Int:=getO Zgp.dflt (ZeA x n).val
def Zgq (x:Int) (n:Int):Bool:=okB (ZeA x n).val
def Zlh:Entry:=ZM Zjq Zgp (λa=>some (Zgq a.1 a.2)) (λa=>Zjr a.1 a.2)
theorem Zlf:Za Try.prog 13 Zlh:=
 pureP 31 [] [] Zjq Zgp trivial Try.func13 Try.call13 trivial (t:=λa=>ZeA a.1 a.2)
abbrev Ziy:R:=R.pair (R.sl (R.int i64)) (R.int i64)
abbrev Zk8:List Sh:=[Sh.one (R.int i64)]
abbrev Zix:Rs:=Rs.one (Sh.one (R.int i64))
def Zeu (s:List Int×Int) (n:Int):RT (Option (QT4)):=
 let x1:=ZS (i64.wrap (i64.wrap (s.2+1)-1)) (List.length s.1)
 let x2:Int:=R.get (R.int i64) s.1 (i64.wrap (i64.wrap (s.2+1)-1))
 .br (decide (s.2>=iN (List.length s.1))) (.leaf (some ((0,s.1,i64.wrap (s.2+1))))) (.br (!x1||Zgq x2 n) (.br (x1) (.leaf (some ((Zjr x2 n,s.1,i64.wrap (s.2+1))))) (.leaf none)) (.leaf none))
def Ze (s:List Int×Int) (n:Int):QT4:=getO (Zix.dflt,Ziy.dflt) (Zeu s n).val
def ZO (s:List Int×Int) (n:Int):Bool:=okB (Zeu s n).val
def Zfz:Entry:=boxE Ziy Zk8 Zix (λa=>some (ZO a.1 a.2)) (λa=>Ze a.1 a.2)
theorem ZcR:Za Try.prog 15 Zfz:=
 Zd9 (P:=Try.prog) (n:=31) (k:=8) (l:=[(13,Zlh)]) (ol:=[]) ⟨Zlf,Tv⟩ Try.func15 rfl (by kernel_rfl) Try.call15 trivial (rb:=Ziy) (ts:=Zk8) (rs:=Zix) (t:=λa=>Zeu a.1 a.2) (λa=>by kernel_rfl)
abbrev ZiC:R:=R.pair (R.sl (R.int i64)) (R.int i64)
abbrev Zlc:List Sh:=[]
abbrev ZiB:Rs:=Rs.one (Sh.one (R.int u8))
def Zev (s:List Int×Int):RT (Option (QT4)):=
 let x1:List Int:=[0,1,127,128,255,15,16,153,154,9,102,254,129,85,170,64]
 .br (ZO s 512) (.br (!decide ((Ze s 512).1>=256)||ZS (Int.tmod (Ze s 512).1 16) (List.length x1)) (.br (decide ((Ze s 512).1>=256)) (.leaf (some ((R.get (R.int u8) x1 (Int.tmod (Ze s 512).1 16),(Ze s 512).2)))) (.leaf (some ((u8.wrap (Ze s 512).1,(Ze s 512).2))))) (.leaf none)) (.leaf none)
def Zj2 (s:List Int×Int):QT4:=getO (ZiB.dflt,ZiC.dflt) (Zev s).val
def Zhi (s:List Int×Int):Bool:=okB (Zev s).val
def Zld:Entry:=boxE ZiC Zlc ZiB (λa=>some (Zhi a.1)) (λa=>Zj2 a.1)
theorem Zjn:Za Try.prog 17 Zld:=
 Zd9 (P:=Try.prog) (n:=15) (k:=8) (l:=[(15,Zfz)]) (ol:=[]) ⟨ZcR,Tv⟩ Try.func17 rfl (by kernel_rfl) Try.call17 trivial (rb:=ZiC) (ts:=Zlc) (rs:=ZiB) (t:=λa=>Zev a.1) (λa=>by kernel_rfl)
abbrev Ziv:R:=R.pair (R.sl (R.int i64)) (R.int i64)
abbrev Zk6:List Sh:=[]
abbrev Ziu:Rs:=Rs.one (Sh.one (R.int u16))
def ZcQ (s:List Int×Int):RT (Option (QT4)):=
 let x1:List Int:=[0,1,65535,65534,32767,32768,255,256]
 let x2:= !(Ze s 5).1==0||(!ZO (Ze s 5).2 8||ZS (Ze (Ze s 5).2 8).1 (List.length x1))
 let x3:= !x2
 let x4:= !(Ze s 5).1==0||ZO (Ze s 5).2 8
 .br (ZO s 5) (.br (x3||(!x4||((Ze s 5).1==0||(!(Ze s 5).1==1||ZO (Ze s 5).2 65536)))) (.br (x3||x4) (.br (x2) (.br ((Ze s 5).1==0) (.leaf (some ((R.get (R.int u16) x1 (Ze (Ze s 5).2 8).1,(Ze (Ze s 5).2 8).2)))) (.br ((Ze s 5).1==1) (.leaf (some ((u16.wrap (Ze (Ze s 5).2 65536).1,(Ze (Ze s 5).2 65536).2)))) (.br (ZO (Ze s 5).2 64) (.leaf (some ((u16.wrap (Ze (Ze s 5).2 64).1,(Ze (Ze s 5).2 64).2)))) (.leaf none)))) (.leaf none)) (.leaf none)) (.leaf none)) (.leaf none)
def Ziw (s:List Int×Int):QT4:=getO (Ziu.dflt,Ziv.dflt) (ZcQ s).val
def Zfy (s:List Int×Int):Bool:=okB (ZcQ s).val
def Zk7:Entry:=boxE Ziv Zk6 Ziu (λa=>some (Zfy a.1)) (λa=>Ziw a.1)
theorem Zjk:Za Try.prog 16 Zk7:=
 Zd9 (P:=Try.prog) (n:=4135) (k:=8) (l:=[(15,Zfz)]) (ol:=[]) ⟨ZcR,Tv⟩ Try.func16 rfl (by kernel_rfl) Try.call16 trivial (rb:=Ziv) (ts:=Zk6) (rs:=Ziu) (t:=λa=>ZcQ a.1) (λa=>by kernel_rfl)
abbrev ZiA:R:=R.pair (R.sl (R.int i64)) (R.int i64)
abbrev Zk9:List Sh:=[]
abbrev Ziz:Rs:=Rs.one (Sh.one R.bool)
def Zhg (s:List Int×Int):RT (Option (Bool×List Int×Int)):=
 .br (ZO s 2) (.leaf (some (((Ze s 2).1==1,(Ze s 2).2)))) (.leaf none)
def Zlb (s:List Int×Int):Bool×List Int×Int:=getO (Ziz.dflt,ZiA.dflt) (Zhg s).val
def Zhh (s:List Int×Int):Bool:=okB (Zhg s).val
def Zla:Entry:=boxE ZiA Zk9 Ziz (λa=>some (Zhh a.1)) (λa=>Zlb a.1)
theorem Zjl:Za Try.prog 22 Zla:=
 Zd9 (P:=Try.prog) (n:=7) (k:=8) (l:=[(15,Zfz)]) (ol:=[]) ⟨ZcR,Tv⟩ Try.func22 rfl (by kernel_rfl) Try.call22 trivial (rb:=ZiA) (ts:=Zk9) (rs:=Ziz) (t:=λa=>Zhg a.1) (λa=>by kernel_rfl)
def NB (s:List Int×Int) (k:Int):Prop:=0<=s.2/\s.2<=k
theorem Zlg (x n:Int) (h0:0<n) (h1:n<=4611686018427387904):Zgq x n=true/\Zjr x n=(x%18446744073709551616)%n:=by
 have e:IntKind.wrap .u64 n=n:=Znz ⟨by simp[IntKind.min,IntKind.signed];omega,by simp[IntKind.max,IntKind.signed,IntKind.bits];omega⟩
 have e2:IntKind.wrap .u64 x=x%18446744073709551616:=by simp[IntKind.wrap,IntKind.signed,IntKind.bits]
 have hn:(n !=0)=true:=by simp;omega
 have h2:0<=x%18446744073709551616:=Int.emod_nonneg _ (by decide)
 have h3:=Int.emod_nonneg (x%18446744073709551616) (b:=n) (by omega)
 have h4:=Int.emod_lt_of_pos (x%18446744073709551616) (b:=n) h0
 have hv:(ZeA x n).val=some ((x%18446744073709551616)%n):=by
  simp only[ZeA,RT.val,e,e2,hn,cond_true,Int.tmod_eq_emod_of_nonneg h2]
  rw[ZH _ (by omega) (by omega)]
 exact⟨by simp only[Zgq,hv];rfl,by simp only[Zjr,hv,getO]⟩
theorem ZR {s:List Int×Int} {k:Int} (h:NB s k) (hk:k<=1000000) (n:Int) (h0:0<n) (h1:n<=4611686018427387904):
  ZO s n=true/\NB (Ze s n).2 (k+1)/\0<=(Ze s n).1/\(Ze s n).1<n:=by
 obtain⟨ha,hb⟩:=h
 have e1:IntKind.wrap .i64 (s.2+1)=s.2+1:=ZH _ (by omega) (by omega)
 have e2:IntKind.wrap .i64 s.2=s.2:=ZH _ (by omega) (by omega)
 by_cases hl:(s.1.length:Int)<=s.2
 ·have hv:(Zeu s n).val=some (0,s.1,s.2+1):=by simp[Zeu,RT.val,iN,hl,e1]
  simp only[ZO,Ze,hv,okB,getO,NB]
  exact⟨trivial,⟨by omega,by omega⟩,by omega,h0⟩
 ·have hr:ZS s.2 s.1.length=true:=ZP.2 ⟨ha,by omega⟩
  obtain⟨p1,p2⟩:=Zlg (R.get (R.int i64) s.1 s.2) n h0 h1
  have h3:=Int.emod_nonneg (R.get (R.int i64) s.1 s.2%18446744073709551616) (b:=n) (by omega)
  have h4:=Int.emod_lt_of_pos (R.get (R.int i64) s.1 s.2%18446744073709551616) (b:=n) h0
  have hv:(Zeu s n).val=some ((R.get (R.int i64) s.1 s.2%18446744073709551616)%n,s.1,s.2+1):=by simp[Zeu,RT.val,iN,hl,e1,e2,hr,p1,p2]
  simp only[ZO,Ze,hv,okB,getO,NB]
  exact⟨trivial,⟨by omega,by omega⟩,h3,h4⟩
theorem ZmI {s:List Int×Int} {k:Int} (h:NB s k) (hk:k<=1000000):Zhi s=true/\NB (Zj2 s).2 (k+1)/\inR .u8 (Zj2 s).1:=by
 obtain⟨c,b,d0,d1⟩:=ZR h hk 512 (by decide) (by decide)
 have m0:0<=(Ze s 512).1%16:=Int.emod_nonneg _ (by decide)
 have m1:(Ze s 512).1%16<16:=Int.emod_lt_of_pos _ (by decide)
 have ht:Int.tmod (Ze s 512).1 16=(Ze s 512).1%16:=Int.tmod_eq_emod_of_nonneg d0
 by_cases hn:256<=(Ze s 512).1
 ·have hv:(Zev s).val=some (R.get (R.int u8) [0,1,127,128,255,15,16,153,154,9,102,254,129,85,170,64] ((Ze s 512).1%16),(Ze s 512).2):=by
   simp[Zev,RT.val,c,hn,ht,ZS,m0,m1]
  simp only[Zhi,Zj2,hv,okB,getO]
  refine⟨trivial,b,?_⟩
  have hall:∀i:Nat,i<16->inR .u8 (([0,1,127,128,255,15,16,153,154,9,102,254,129,85,170,64]:List Int).getD i 0):=by
   intro i hi
   have:∀i:Fin 16,decide (0<=([0,1,127,128,255,15,16,153,154,9,102,254,129,85,170,64]:List Int).getD i 0)&&decide (([0,1,127,128,255,15,16,153,154,9,102,254,129,85,170,64]:List Int).getD i 0<=255):=by decide
   have:=this ⟨i,hi⟩
   rw[Zot];simpa using this
  exact hall ((Ze s 512).1%16).toNat (by omega)
 ·have hv:(Zev s).val=some (IntKind.wrap .u8 (Ze s 512).1,(Ze s 512).2):=by simp[Zev,RT.val,c,hn]
  simp only[Zhi,Zj2,hv,okB,getO]
  exact⟨trivial,b,Zaw _ _⟩
theorem ZmH {s:List Int×Int} {k:Int} (h:NB s k) (hk:k<=900000):Zfy s=true/\NB (Ziw s).2 (k+2)/\inR .u16 (Ziw s).1:=by
 obtain⟨c,b,d0,d1⟩:=ZR h (by omega) 5 (by decide) (by decide)
 obtain⟨c8,b8,e0,e1⟩:=ZR b (by omega) 8 (by decide) (by decide)
 obtain⟨c6,b6,_⟩:=ZR b (by omega) 65536 (by decide) (by decide)
 obtain⟨c4,b4,_⟩:=ZR b (by omega) 64 (by decide) (by decide)
 have w:∀{t:List Int×Int},NB t (k+1+1)->NB t (k+2):=λh=>⟨h.1,by have:=h.2;omega⟩
 have hr:ZS (Ze (Ze s 5).2 8).1 8=true:=ZP.2 ⟨e0,by omega⟩
 by_cases h0:(Ze s 5).1=0
 ·have hv:(ZcQ s).val=some (R.get (R.int u16) [0,1,65535,65534,32767,32768,255,256] (Ze (Ze s 5).2 8).1,(Ze (Ze s 5).2 8).2):=by
   simp[ZcQ,RT.val,c,h0,c8,hr]
  simp only[Zfy,Ziw,hv,okB,getO]
  refine⟨trivial,w b8,?_⟩
  have hall:∀i:Nat,i<8->inR .u16 (([0,1,65535,65534,32767,32768,255,256]:List Int).getD i 0):=by
   intro i hi
   have:∀i:Fin 8,decide (0<=([0,1,65535,65534,32767,32768,255,256]:List Int).getD i 0)&&decide (([0,1,65535,65534,32767,32768,255,256]:List Int).getD i 0<=65535):=by decide
   have:=this ⟨i,hi⟩
   simp only[Bool.and_eq_true,decide_eq_true_eq] at this
   exact⟨by simpa [IntKind.min,IntKind.signed] using this.1,by simpa [IntKind.max,IntKind.signed,IntKind.bits] using this.2⟩
  exact hall (Ze (Ze s 5).2 8).1.toNat (by omega)
 ·by_cases h1:(Ze s 5).1=1
  ·have hv:(ZcQ s).val=some (IntKind.wrap .u16 (Ze (Ze s 5).2 65536).1,(Ze (Ze s 5).2 65536).2):=by simp[ZcQ,RT.val,c,h1,c6]
   simp only[Zfy,Ziw,hv,okB,getO]
   exact⟨trivial,w b6,Zaw _ _⟩
  ·have hv:(ZcQ s).val=some (IntKind.wrap .u16 (Ze (Ze s 5).2 64).1,(Ze (Ze s 5).2 64).2):=by
    have g0:((Ze s 5).1==0)=false:=by simpa using h0
    have g1:((Ze s 5).1==1)=false:=by simpa using h1
    simp[ZcQ,RT.val,c,g0,g1,c4]
   simp only[Zfy,Ziw,hv,okB,getO]
   exact⟨trivial,w b4,Zaw _ _⟩
abbrev ZhH:List Sh:=[Sh.one (R.sl ZB)]
abbrev ZeP:Rs:=Rs.tup [Sh.one (R.int i64),Sh.one (R.int i64),Sh.one (R.int i64),Sh.one (R.int i64),Sh.one (R.int i64)]
def Zke:LS:={n:=52,slots:=[(2,.code (Sh.one (R.int i64))),(3,.code (Sh.one (R.int i64))),(4,.code (Sh.one (R.int i64))),(5,.code (Sh.one (R.int i64))),(6,.code (Sh.one (R.int i64))),(10,.code (Sh.one (R.sl ZB))),(11,.code (Sh.one (R.int i64))),(12,.code (Sh.one (R.int i64)))],boxes:=[],stgs:=[]}
def ZfH (a:QT1):RT (Option (Go1 (QT1))):=
 let x1:ITMT:=R.get ZB a.2.2.2.2.2.1 a.2.2.2.2.2.2.2.1
 let x2:=x1.1
 let x3:=x1.2.2
 let x4:=x3.2.1
 let x5:Int:=if 0>x4 then 0 else x4
 let x6:=x3.1
 let x7:List ITMT×Int×Int×PUnit:=(a.2.2.2.2.2.1,a.2.2.2.2.2.2.1,i64.wrap (a.2.2.2.2.2.2.2.1+1),PUnit.unit)
 let x8:Int×List ITMT×Int×Int×PUnit:=(a.2.2.2.2.1,x7)
 let x9:Int×Int×List ITMT×Int×Int×PUnit:=(a.2.2.2.1,x8)
 .br (decide (a.2.2.2.2.2.2.2.1<a.2.2.2.2.2.2.1)) (.br (ZS a.2.2.2.2.2.2.2.1 (List.length a.2.2.2.2.2.1)) (.br (x2==1) (.leaf (some (Go1.cont (i64.wrap (a.1+x5),i64.wrap (a.2.1+if 0>x6 then 0 else x6),a.2.2.1,x9)))) (.br (x2==2) (.leaf (some (Go1.cont (a.1,a.2.1,i64.wrap (a.2.2.1+x5),x9)))) (.br (x2==3) (.leaf (some (Go1.cont (a.1,a.2.1,a.2.2.1,i64.wrap (a.2.2.2.1+x5),x8)))) (.leaf (some (Go1.cont (a.1,a.2.1,a.2.2.1,a.2.2.2.1,bif x2==4 then i64.wrap (a.2.2.2.2.1+x5) else a.2.2.2.2.1,x7))))))) (.leaf none)) (.leaf (some (Go1.brk (a.1,a.2.1,a.2.2.1,a.2.2.2.1,a.2.2.2.2.1,a.2.2.2.2.2.1,a.2.2.2.2.2.2.1,a.2.2.2.2.2.2.2.1,PUnit.unit))))
def ZfI:Ora:=ZcU false Zke ZfH (λa=>1000000000000)
theorem ZhI:ZbE (envX Try.prog [] [] 2269892314111 8) (.block 0 (.loop (Zaj Try.f20.body 0))) ZfI:=
 loopP trivial
def ZgC (l:List ITMT):RT (Option (Int×Int×Int×Int×Int)):=
 let x1:QT1:=(0,0,0,0,0,l,iN (List.length l),0,())
 let x2:=runF false ZfH (λa=>1000000000000) x1
 let x3:QT1:=(getO (false,x1) x2).2
 let x4:=x3.2
 let x5:=x4.2
 let x6:=x5.2
 .br (okB x2) (.leaf (some ((x3.1,x4.1,x5.1,x6.1,x6.2.1)))) (.leaf none)
def ZlK (l:List ITMT):Int×Int×Int×Int×Int:=getO ZeP.dflt (ZgC l).val
def ZjC (l:List ITMT):Bool:=okB (ZgC l).val
def ZjB:Entry:=ZM ZhH ZeP (λa=>some (ZjC a)) (λa=>ZlK a)
theorem Zkd:Za Try.prog 20 ZjB:=
 pureP 2269892314111 [] [(0,ZfI)] ZhH ZeP trivial Try.func20 Try.call20 ⟨ZhI,Tv⟩ (t:=λa=>ZgC a)
abbrev ZjA:List Sh:=[Sh.one (R.int i64),Sh.one (R.sl ZB)]
abbrev ZgA:Rs:=Rs.one (Sh.one R.bool)
def ZlB:LS:={n:=96,slots:=[(1,.code (Sh.one (R.sl ZB))),(4,.code (Sh.one R.bool)),(10,.code (Sh.one (R.sl ZB))),(11,.code (Sh.one (R.int i64))),(12,.code (Sh.one (R.int i64)))],boxes:=[],stgs:=[]}
def ZhE (a:List ITMT×Bool×List ITMT×Int×Int×PUnit):RT (Option (Go1 (List ITMT×Bool×List ITMT×Int×Int×PUnit))):=
 let x1:=i64.wrap (a.2.2.2.2.1+1)==iN (List.length a.1)
 let x2:=x1||ZS (i64.wrap (a.2.2.2.2.1+1)) (List.length a.1)
 let x3:= !x2
 let x4:ITMT:=R.get ZB a.2.2.1 a.2.2.2.2.1
 let x5:=x4.1
 let x6:=x5==1
 let x7:=x6&& !Zow x4 (x1||(R.get ZB a.1 (i64.wrap (a.2.2.2.2.1+1))).1==4)
 let x8:=x4.2.2
 let x9:=x8.2
 let x10:=(gRep x4).1==0||(decide (x9.1<1)||x8.1 !=0)
 let p1:=x10::x6::x7::x3::(!ZS a.2.2.2.2.1 (List.length a.2.2.1))::[]
 let x11:=ZS (i64.wrap (a.2.2.2.2.1-1)) (List.length a.1)
 let x12:= !x11
 let x13:ITMT:=R.get ZB a.1 (i64.wrap (a.2.2.2.2.1-1))
 let x14:=x13.1==x5
 let x15:= !x14
 let x16:=x13.2.2.2.2
 let x17:=x9.2
 let x18:=x16.1==x17.1
 let p2:=(!x18)::x12::x15::x12::(!decide (a.2.2.2.2.1>0))::[]
 let x19:=orR p2 x11
 let x20:= !x19
 let p3:=x20::p1
 let x21:= !decide (a.2.2.2.2.1>0)||(x12||(x15||x11))
 let p4:=(!decide (a.2.2.2.2.1>0))::(!x21)::p3
 let x22:List ITMT×Int×Int×PUnit:=(a.2.2.1,a.2.2.2.1,a.2.2.2.2.1,PUnit.unit)
 .br (decide (a.2.2.2.2.1<a.2.2.2.1)) (.br (orR p4 x11) (.br (orR p3 x21) (.br (orR p1 x19) (.br (!ZS a.2.2.2.2.1 (List.length a.2.2.1)||x2) (.br (ZS a.2.2.2.2.1 (List.length a.2.2.1)) (.br (x7) (.leaf (some (Go1.ret (a.1,false,x22)))) (.br (x6) (.leaf (some (Go1.cont (a.1,a.2.1,a.2.2.1,a.2.2.2.1,i64.wrap (a.2.2.2.2.1+1),PUnit.unit)))) (.br (x10) (.leaf (some (Go1.ret (a.1,false,x22)))) (.br (decide (a.2.2.2.2.1>0)&&(x14&&(x18&&x16.2==x17.2))) (.leaf (some (Go1.ret (a.1,false,x22)))) (.leaf (some (Go1.cont (a.1,a.2.1,a.2.2.1,a.2.2.2.1,i64.wrap (a.2.2.2.2.1+1),PUnit.unit)))))))) (.leaf none)) (.leaf none)) (.leaf none)) (.leaf none)) (.leaf none)) (.leaf (some (Go1.brk (a.1,a.2.1,x22))))
def ZhF:Ora:=ZcU true ZlB ZhE (λa=>1000000000000)
theorem ZiQ:ZbE (envX Try.prog [(27,ZlO),(28,ZnX)] [] 1023 8) (.block 0 (.loop (Zaj Try.f21.body 0))) ZhF:=
 loopP ⟨ZjD,ZlL,Tv⟩
def ZiP (k:Int) (l:List ITMT):RT (Option (Bool)):=
 let x1:=runF true ZhE (λa=>1000000000000) (l,false,l,iN (List.length l),0,())
 let x2:=getO (false,l,false,l,iN (List.length l),0,()) x1
 .br (okB x1) (.br x2.1 (.leaf (some x2.2.2.1)) (.leaf (some (true)))) (.leaf none)
def Zou (k:Int) (l:List ITMT):Bool:=getO ZgA.dflt (ZiP k l).val
def ZlD (k:Int) (l:List ITMT):Bool:=okB (ZiP k l).val
def ZlC:Entry:=ZM ZjA ZgA (λa=>some (ZlD a.1 a.2)) (λa=>Zou a.1 a.2)
theorem ZlA:Za Try.prog 21 ZlC:=
 pureP 1023 [(27,ZlO),(28,ZnX)] [(0,ZhF)] ZjA ZgA ⟨ZjD,ZlL,Tv⟩ Try.func21 Try.call21 ⟨ZiQ,Tv⟩ (t:=λa=>ZiP a.1 a.2)
abbrev Znk:List Sh:=[]
abbrev Zlq:Rs:=Rs.one (Sh.one R.bool)
def ZmQ:RT (Option (Bool)):=
 let x1:List ITMT:=[(1,(1,0,0,4),1,4,false,false)]
 let x2:=expP 2 x1
 let x3:List PINT:=Stg.l (newG ZaR 46 x2)
 let x4:Nat:=List.length x3
 let x5:= !iN x4==5
 let x6:=x5||ZS 0 x4
 let x7:= !x6
 let x8:= !(R.get (Stg.r (newG ZaR 46 x2)) x3 0).2.2.2.2.2.2.2.1
 let x9:=x5||(x8||ZS 2 x4)
 let x10:= !x9
 let x11:= !(R.get (Stg.r (newG ZaR 46 x2)) x3 2).1==7
 let x12:=x5||(x8||(x11||ZS 4 x4))
 let x13:=ZlK x1
 let p1:=(!x13.2.1==1)::(!x13.1==4)::(!(R.get (Stg.r (newG ZaR 46 x2)) x3 4).1==4)::x11::x8::x5::(!x12)::x10::x7::[]
 .br (Nat.ble (List.length x2) most) (.br (ZjC x1) (.br (orR p1 (ZlD 2 x1)) (.br (x7||(x10||x12)) (.br (x7||x9) (.br (x6) (.leaf (some (true))) (.leaf none)) (.leaf none)) (.leaf none)) (.leaf none)) (.leaf none)) (.leaf none)
def kKnG:Bool:=getO Zlq.dflt (ZmQ).val
def Zls:Bool:=okB (ZmQ).val
def Zlr:Entry:=ZM Znk Zlq (λa=>some (Zls)) (λa=>kKnG)
theorem ZiJ:Za Try.prog 8 Zlr:=
 pureP 255 [(11,Zkg),(20,ZjB),(21,ZlC)] [] Znk Zlq ⟨ZgD,Zkd,ZlA,Tv⟩ Try.func8 Try.call8 trivial (t:=λa=>ZmQ)
theorem ZmP:ZmQ.val=some true:=by kernel_rfl
theorem Zlp:kKnG=true/\Zls=true:=by
 simp only[kKnG,Zls,ZmP,okB,getO];exact⟨trivial,Tv⟩
abbrev Zjy:List Sh:=[Sh.one (R.sl ZB)]
abbrev Zgw:Rs:=Rs.one (Sh.one R.bool)
def Zlo:LS:={n:=31,slots:=[(0,.code (Sh.one (R.sl ZB))),(3,.code (Sh.one (R.int i64))),(6,.code (Sh.one (R.sl ZB))),(7,.code (Sh.one (R.int i64))),(8,.code (Sh.one (R.int i64)))],boxes:=[],stgs:=[]}
def Zbo (a:List ITMT×Int×List ITMT×Int×Int×PUnit):RT (Option (Go1 (List ITMT×Int×List ITMT×Int×Int×PUnit))):=
 let x1:Int×Int×Bool×Bool:=(R.get ZB a.2.2.1 a.2.2.2.2.1).2.2
 let x2:=x1.2.1
 let x3:Int:=if 1000<x2 then 1000 else x2
 let x4:=x1.1
 let x5:Int:=if 1000<x4 then 1000 else x4
 .br (decide (a.2.2.2.2.1<a.2.2.2.1)) (.br (ZS a.2.2.2.2.1 (List.length a.2.2.1)) (.leaf (some (Go1.cont (a.1,i64.wrap (a.2.1+i64.wrap ((if x3>0 then x3 else 0)+if x5>0 then x5 else 0)),a.2.2.1,a.2.2.2.1,i64.wrap (a.2.2.2.2.1+1),PUnit.unit)))) (.leaf none)) (.leaf (some (Go1.brk (a.1,a.2.1,a.2.2.1,a.2.2.2.1,a.2.2.2.2.1,PUnit.unit))))
def Zhw:Ora:=ZcU false Zlo Zbo (λa=>10000000000000000000)
theorem ZiI:ZbE (envX Try.prog [] [] 63 8) (.block 0 (.loop (Zaj Try.f7.body 0))) Zhw:=
 loopP trivial
def ZeJ (l:List ITMT):RT (Option (Bool)):=
 let x1:=runF false Zbo (λa=>10000000000000000000) (l,0,l,iN (List.length l),0,())
 let x2:List ITMT×Int×List ITMT×Int×Int×PUnit:=(getO (false,l,0,l,iN (List.length l),0,()) x1).2
 .br (okB x1) (.leaf (some (decide (iN (List.length x2.1)<=60)&&decide (x2.2.1<=900)))) (.leaf none)
def Zcm (l:List ITMT):Bool:=getO Zgw.dflt (ZeJ l).val
def Zgx (l:List ITMT):Bool:=okB (ZeJ l).val
def ZeK:Entry:=ZM Zjy Zgw (λa=>some (Zgx a)) (λa=>Zcm a)
theorem ZeI:Za Try.prog 7 ZeK:=
 pureP 63 [] [(0,Zhw)] Zjy Zgw trivial Try.func7 Try.call7 ⟨ZiI,Tv⟩ (t:=λa=>ZeJ a)
def Zaf:Entry:=.tree (Za1 (envX Try.prog [] [] 7 8) Try.f14)
theorem ZaG:Za Try.prog 14 Zaf:=ZfF (P:=Try.prog) (n:=7) (k:=8) (l:=[]) (ol:=[]) trivial Try.func14 rfl (by kernel_rfl) Try.call14 trivial
abbrev Zgu:R:=R.pair (R.int i64) (R.pair (RY) (R.pair (R.int i64) (R.pair (R.int i64) (R.pair R.bool R.bool))))
abbrev Zgv:Nat:=44
abbrev ZiH:List Sh:=[Sh.one (R.sl (R.int i64))]
def ZmO:LS:={n:=65,slots:=[(3,.fix (A.loc 0 0)),(4,.tip 0),(5,.code (Sh.one (R.int i64)))],boxes:=[[.code (.sl (R.int i64)),.code (.int i64)]],stgs:=[⟨ZB,44,false⟩]}
def Zca (a:QT3):RT (Option (Go1 (QT3))):=
 let x1:List Int:=[1,1,1,2,3,4,0,5]
 let x2:=ZS (Ze (a.2.1,a.2.2.1) 8).1 (List.length x1)
 let x3:= !x2
 let x4:= !ZO (Ze (a.2.1,a.2.2.1) 8).2 6
 let x5:Int:=(Ze (Ze (a.2.1,a.2.2.1) 8).2 6).1
 let x6:List Int:=[0,0,0,1,3,-1]
 let x7:=ZS x5 (List.length x6)
 let x8:= !x7
 let p1:=x8::x4::x3::(!ZO (a.2.1,a.2.2.1) 8)::[]
 let x9:List Int×Int:=(Ze (Ze (a.2.1,a.2.2.1) 8).2 6).2
 let x10:=ZO x9 8
 let x11:= !x10
 let p3:=x11::p1
 let x12:=Ze x9 8
 let x13:=x12.2
 let x14:=Zhh x13
 let p5:=(!x14)::p3
 let x15:=Zlb x13
 let x16:=x15.2
 let x17:=orR p5 (Zhh x16)
 let x18:= !x17
 let x19:=orR p3 x14
 let x20:= !x19
 let x21:=orR p1 x10
 let x22:= !x21
 let x23:= !ZO (a.2.1,a.2.2.1) 8||(x3||(x4||x7))
 let x24:= !x23
 let p2:=x24::x22::x20::x18::[]
 let x25:= !ZO (a.2.1,a.2.2.1) 8||(x3||ZO (Ze (a.2.1,a.2.2.1) 8).2 6)
 let x26:= !x25
 let p4:=x26::p2
 let x27:= !ZO (a.2.1,a.2.2.1) 8||x2
 let x28:= !x27
 let p6:=x28::p4
 let p7:=(!ZO (a.2.1,a.2.2.1) 8)::p6
 let x29:=Zlb x16
 let x30:=x29.2
 let x31:=ZO x30 14
 let x32:= !x31
 let x33:=Ze x30 14
 let x34:=x33.2
 let x35:=Zfy x34
 let x36:= !x35
 let x37:=Ziw x34
 let x38:=x37.2
 let x39:=Zhi x38
 let x40:=Zj2 x38
 let x41:=x40.2
 let x42:=x32||(x36||(!x39||ZO x41 8))
 let x43:= !x42
 let p8:=x43::p7
 let x44:=x32||(x36||x39)
 let x45:= !x44
 let p9:=x45::p8
 let x46:=x32||x35
 let x47:= !x46
 let p10:=x47::p9
 let p11:=x32::p10
 let x48:=Ze x41 8
 let x49:=x48.2
 let x50:=ZO x49 3
 let x51:= !x50
 let p12:=x51::p11
 let x52:=Ze x49 3
 let x53:Int:=R.get (R.int i64) x1 (Ze (a.2.1,a.2.2.1) 8).1
 let x54:=decide (x52.1>0)&&x53==1
 let x55:=x52.2
 let x56:= !x54||ZO x55 4
 let p13:=(!x56)::p12
 let x57:=Ze x55 4
 let x58:=i64.wrap (3+x57.1)
 let x59:List ITMT:=a.2.2.2.1++[(x53,(x33.1,x37.1,x40.1,bif x54 then x58 else x48.1),R.get (R.int i64) x6 x5,bif x54 then x58 else i64.wrap (x12.1-1),x15.1,x29.1)]
 let x60:=x57.2
 .br (decide (a.1>0)) (.br (orR p13 (Nat.ble (List.length x59) most)) (.br (orR p12 x56) (.br (orR p11 x50) (.br (orR p10 x31) (.br (orR p9 x46) (.br (orR p8 x44) (.br (orR p7 x42) (.br (orR p6 (ZO (a.2.1,a.2.2.1) 8)) (.br (orR p4 x27) (.br (orR p2 x25) (.br (x18||(x20||(x22||x23))) (.br (x18||(x20||x21)) (.br (x18||x19) (.br (x17) (.leaf (some (Go1.cont (i64.wrap (a.1-1),bif x54 then x60.1 else x55.1,bif x54 then x60.2 else x55.2,x59,PUnit.unit)))) (.leaf none)) (.leaf none)) (.leaf none)) (.leaf none)) (.leaf none)) (.leaf none)) (.leaf none)) (.leaf none)) (.leaf none)) (.leaf none)) (.leaf none)) (.leaf none)) (.leaf none)) (.leaf none)) (.leaf (some (Go1.brk (a.1,a.2.1,a.2.2.1,a.2.2.2.1,PUnit.unit))))
def Zjx:Ora:=ZcU false ZmO Zca (λa=>20)
theorem Zj9:ZbE (envX Try.prog [(14,Zaf),(15,Zfz),(16,Zk7),(17,Zld),(22,Zla)] [] 127 8) (.block 0 (.loop (Zaj Try.f9.body 0))) Zjx:=
 loopP ⟨ZaG,ZcR,Zjk,Zjn,Zjl,Tv⟩
def Zht (n:List Int):RT (Option (List ITMT)):=
 let x1:QT3:=((Ze (n,0) 12).1,(Ze (n,0) 12).2.1,(Ze (n,0) 12).2.2,[],())
 let x2:=runF false Zca (λa=>20) x1
 .br (ZO (n,0) 12) (.br (okB x2) (.leaf (some (getO (false,x1) x2).2.2.2.2.1)) (.leaf none)) (.leaf none)
def ZeH (n:List Int):List ITMT:=getO [] (Zht n).val
def Zhv (n:List Int):Bool:=okB (Zht n).val
def Zhu:Entry:=frzE (newE Zgu Zgv ZiH (λa=>some (Zhv a)) (λa=>ZeH a))
theorem Zln:Za Try.prog 9 (newE Zgu Zgv ZiH (λa=>some (Zhv a)) (λa=>ZeH a)):=
 ZmG (P:=Try.prog) (n:=127) (k:=8) (l:=[(14,Zaf),(15,Zfz),(16,Zk7),(17,Zld),(22,Zla)]) (ol:=[(0,Zjx)]) ⟨ZaG,ZcR,Zjk,Zjn,Zjl,Tv⟩ Try.func9 rfl (by kernel_rfl) Try.call9 ⟨Zj9,Tv⟩ (r:=Zgu) (T:=Zgv) (ts:=ZiH) (t:=λa=>Zht a) (λa=>by kernel_rfl)
theorem Zgt:Za Try.prog 9 Zhu:=Zns Zln
abbrev Zll:List Sh:=[Sh.one (R.int i64),Sh.one (R.sl ZB),Sh.one (R.sl (R.int i64))]
abbrev ZiG:Rs:=Rs.one (Sh.one R.bool)
def ZmN:LS:={n:=45,slots:=[(1,.code (Sh.one (R.sl ZB))),(6,.code (Sh.one R.bool)),(7,.tip 0),(9,.code (Sh.one (R.int i64))),(24,.code (Sh.agg (R.pair (R.int i64) (R.pair (R.int i64) (R.int i64))))),(25,.code (Sh.one (R.int i64))),(30,.code (Sh.agg (R.pair (R.sl ZB) (R.sl ZB)))),(31,.code (Sh.one (R.int i64)))],boxes:=[],stgs:=[⟨R.pair (R.int i64) (R.pair (RY) (R.pair (R.int i64) (R.pair (R.int i64) (R.pair R.bool R.bool)))),44,true⟩]}
def Zbw (a:List ITMT×Bool×Int×(QT6)×Int×(List ITMT×List ITMT)×Int×List ITMT×PUnit):RT (Option (Go1 (List ITMT×Bool×Int×(QT6)×Int×(List ITMT×List ITMT)×Int×List ITMT×PUnit))):=
 let x1:=decide (0<=a.2.2.2.2.2.2.1/\a.2.2.2.2.2.2.1<2)
 let x2:= !x1
 let x3:List ITMT:=bif a.2.2.2.2.2.2.1==0 then a.2.2.2.2.2.1.1 else a.2.2.2.2.2.1.2
 let x4:=expP a.2.2.1 x3
 let x5:=Nat.ble (List.length x4) most
 let x6:= !x5
 let x7:=ZhL a.2.2.1 x3
 let x8:List PINT:=Stg.l (newG ZaR 46 x4)
 let x9:=ZlQ a.2.2.1 x3
 let x10:=x6||(!x7||Zbj x8 x9)
 let x11:= !x10
 let x12:=x6||x7
 let x13:Int×(Int×Int×Int)×Int×(List ITMT×List ITMT)×Int×List ITMT×PUnit:=(a.2.2.1,a.2.2.2.1,a.2.2.2.2.1,a.2.2.2.2.2.1,a.2.2.2.2.2.2.1,a.2.2.2.2.2.2.2.1,PUnit.unit)
 .br (decide (a.2.2.2.2.2.2.1<2)) (.br (x2||(x11||(!x12||x5))) (.br (x2||(x11||x12)) (.br (x2||x10) (.br (x1) (.br (!ZbM x8 x9) (.leaf (some (Go1.ret (a.1,false,x13)))) (.leaf (some (Go1.cont (a.1,a.2.1,a.2.2.1,a.2.2.2.1,a.2.2.2.2.1,a.2.2.2.2.2.1,i64.wrap (a.2.2.2.2.2.2.1+1),a.2.2.2.2.2.2.2.1,PUnit.unit))))) (.leaf none)) (.leaf none)) (.leaf none)) (.leaf none)) (.leaf (some (Go1.brk (a.1,a.2.1,x13))))
def Zd3:Ora:=ZcU true ZmN Zbw (λa=>5)
theorem ZfD:ZbE (envX Try.prog [(7,ZeK),(8,Zlr),(9,Zhu),(10,Zbi),(11,Zkg),(12,ZhK)] [] 4095 8) (.block 2 (.loop (Zaj Try.f3.body 2))) Zd3:=
 loopP ⟨ZeI,ZiJ,Zgt,ZbL,ZgD,ZgE,Tv⟩
def ZmM:LS:={n:=45,slots:=[(1,.code (Sh.one (R.sl ZB))),(6,.code (Sh.one R.bool)),(7,.tip 0),(24,.code (Sh.agg (R.pair (R.int i64) (R.pair (R.int i64) (R.int i64))))),(25,.code (Sh.one (R.int i64)))],boxes:=[],stgs:=[⟨R.pair (R.int i64) (R.pair (RY) (R.pair (R.int i64) (R.pair (R.int i64) (R.pair R.bool R.bool)))),44,true⟩]}
def Zb9 (a:List ITMT×Bool×(QT6)×Int×List ITMT×PUnit):RT (Option (Go1 (List ITMT×Bool×(QT6)×Int×List ITMT×PUnit))):=
 let x1:=decide (0<=a.2.2.2.1/\a.2.2.2.1<3)
 let x2:List ITMT×Bool×Int×(QT6)×Int×(List ITMT×List ITMT)×Int×List ITMT×PUnit:=(a.1,a.2.1,bif a.2.2.2.1==0 then a.2.2.1.1 else bif a.2.2.2.1==iN (0+1) then a.2.2.1.2.1 else a.2.2.1.2.2,a.2.2.1,a.2.2.2.1,(a.1,a.2.2.2.2.1),0,a.2.2.2.2.1,())
 let x3:=runF true Zbw (λa_1=>5) x2
 let x4:=getO (false,x2) x3
 let x5:=x4.2
 let x6:=x5.1
 let x7:=x5.2
 let x8:=x7.1
 let x9:=x7.2.2
 let x10:=x9.1
 let x11:=x9.2
 let x12:=x11.1
 let x13:List ITMT×PUnit:=(x11.2.2.2.1,PUnit.unit)
 .br (decide (a.2.2.2.1<3)) (.br (!x1||okB x3) (.br (x1) (.br x4.1 (.leaf (some (Go1.ret (x6,x8,x10,x12,x13)))) (.leaf (some (Go1.cont (x6,x8,x10,i64.wrap (x12+1),x13))))) (.leaf none)) (.leaf none)) (.leaf (some (Go1.brk (a.1,a.2.1,a.2.2.1,a.2.2.2.1,a.2.2.2.2.1,PUnit.unit))))
def Zjv:Ora:=ZcU true ZmM Zb9 (λa=>5)
theorem Zj8:ZbE (envX Try.prog [(7,ZeK),(8,Zlr),(9,Zhu),(10,Zbi),(11,Zkg),(12,ZhK)] [(2,Zd3)] 4095 8) (.block 0 (.loop (Zaj Try.f3.body 0))) Zjv:=
 ZcT (Zbb (l:=[(7,ZeK),(8,Zlr),(9,Zhu),(10,Zbi),(11,Zkg),(12,ZhK)]) ⟨ZeI,ZiJ,Zgt,ZbL,ZgD,ZgE,Tv⟩ [(2,Zd3)] 4095 8) (ZcA (by kernel_rfl) (by kernel_rfl) ⟨ZfD,Tv⟩) (λa=>by kernel_rfl)
def ZfC (chip:Int) (l:List ITMT) (n:List Int):RT (Option (Bool)):=
 let x1:List ITMT×Bool×(QT6)×Int×List ITMT×PUnit:=(l,false,(chip,1,2),0,Stg.l (newG Zgu Zgv (ZeH n)),())
 let x2:=runF true Zb9 (λa=>5) x1
 let x3:=getO (false,x1) x2
 .br (Zgx l) (.br (!(!Zcm l||decide (iN (List.length n)>250))||Zls) (.br (!Zcm l||decide (iN (List.length n)>250)) (.leaf (some (true))) (.br (Zhv n) (.br (okB x2) (.br x3.1 (.leaf (some x3.2.2.1)) (.br (Zls) (.leaf (some (true))) (.leaf none))) (.leaf none)) (.leaf none))) (.leaf none)) (.leaf none)
def ZnR (chip:Int) (l:List ITMT) (n:List Int):Bool:=getO ZiG.dflt (ZfC chip l n).val
def Zlm (chip:Int) (l:List ITMT) (n:List Int):Bool:=okB (ZfC chip l n).val
def Zop:Entry:=ZM Zll ZiG (λa=>some (Zlm a.1 a.2.1 a.2.2)) (λa=>ZnR a.1 a.2.1 a.2.2)
theorem lGExp_ok:Za Try.prog 3 Zop:=
 pureP 4095 [(7,ZeK),(8,Zlr),(9,Zhu),(10,Zbi),(11,Zkg),(12,ZhK)] [(2,Zd3),(0,Zjv)] Zll ZiG ⟨ZeI,ZiJ,Zgt,ZbL,ZgD,ZgE,Tv⟩ Try.func3 Try.call3 ⟨ZfD,Zj8,Tv⟩ (t:=λa=>ZfC a.1 a.2.1 a.2.2)
theorem ZkI (l:List PINT) (h:l.length<=100000000000):∃i,runF true Zab (λ_=>1000000000000) (l,l,false,iN l.length,0,())=some (false,(l,l,false,iN l.length,i,())):=by
 obtain⟨r,hr,h1,i,h2⟩:=Zav (fl:=true) (t:=Zab) (fuel:=λ_=>1000000000000)
  (λa=>∃i:Nat,i<=l.length/\a=(l,l,false,iN l.length,(i:Int),())) (λa=>l.length-a.2.2.2.2.1.toNat)
  (λr=>r.1=false/\∃i,r.2=(l,l,false,iN l.length,i,()))
  (by
   rintro a ⟨i,hi,rfl⟩
   by_cases hlt:i<l.length
   ·have k2:ZS (i:Int) l.length=true:=ZP.2 ⟨by omega,by omega⟩
    have k3:i64.wrap ((i:Int)+1)=(i:Int)+1:=ZH _ (by omega) (by omega)
    have k1:decide ((i:Int)<iN l.length)=true:=by simp[iN];omega
    refine .inl ⟨(l,l,false,iN l.length,(i:Int)+1,()),?_,⟨i+1,by omega,rfl⟩,by simp;omega⟩
    simp only[Zab,RT.val,k1,k2,k3,R.eqf_refl,cond_true,cond_false,Bool.not_true,Bool.false_or,Bool.or_true]
   ·have k1:decide ((i:Int)<iN l.length)=false:=by simp[iN];omega
    refine .inr (.inl ⟨(l,l,false,iN l.length,(i:Int),()),?_,rfl,(i:Int),rfl⟩)
    simp only[Zab,RT.val,k1,cond_false])
  (l,l,false,iN l.length,0,()) ⟨0,Nat.zero_le _,rfl⟩ (by simp;omega)
 obtain⟨r1,r2⟩:=r
 simp only at h1 h2
 subst h1;subst h2
 exact⟨i,hr⟩
theorem ZkH (l:List PINT) (h:l.length<=100000000000):ZbM l l=true/\Zbj l l=true:=by
 obtain⟨i,hi⟩:=ZkI l h
 have hb:(iN l.length !=iN l.length)=false:=by simp
 have hv:(Zbh l l).val=some true:=by
  simp only[Zbh,RT.val,hi,hb,okB,getO,cond_false,cond_true]
 simp only[ZbM,Zbj,hv,okB,getO];exact⟨trivial,Tv⟩
theorem Zkv (x:ITMT) (n st:Int) (acc:List Int) (w:Nat) (hw:(min x.2.2.1 65536).toNat=w) (ha:acc.length<=1000000):∃k,runF false Zdp (λ_=>1000000000000) (n,st,0,x,acc,())=some (false,(n,st,k,x,acc++(bif st==2 then List.replicate w 7 else []),())):=by
 obtain⟨r,hr,h1,k,h2⟩:=Zav (fl:=false) (t:=Zdp) (fuel:=λ_=>1000000000000)
  (λa=>∃k:Nat,k<=(bif st==2 then w else 0)/\a=(n,st,(k:Int),x,acc++List.replicate k 7,())) (λa=>w-a.2.2.1.toNat)
  (λr=>r.1=false/\∃k,r.2=(n,st,k,x,acc++(bif st==2 then List.replicate w 7 else []),()))
  (by
   rintro a ⟨k,hk,rfl⟩
   have hw6:w<=65536:=by omega
   by_cases hc:st=2/\k<w
   ·obtain⟨rfl,hlt⟩:=hc
    have k1:((2:Int)==2&&decide ((k:Int)<if 65536<x.2.2.1 then 65536 else x.2.2.1))=true:=by simp;omega
    have k3:i64.wrap ((k:Int)+1)=(k:Int)+1:=ZH _ (by omega) (by omega)
    have k4:Nat.ble ((acc++List.replicate k 7)++[(7:Int)]).length most=true:=by rw[Nat.ble_eq];simp[most];omega
    refine .inl ⟨(n,2,(k:Int)+1,x,acc++List.replicate (k+1) 7,()),?_,⟨k+1,by simp;omega,rfl⟩,by simp;omega⟩
    simp only[Zdp,RT.val,k1,k3,k4,cond_true]
    rw[List.replicate_succ',List.append_assoc]
   ·have k1:(st==2&&decide ((k:Int)<if 65536<x.2.2.1 then 65536 else x.2.2.1))=false:=by
     by_cases h2:st=2
     ·have:¬k<w:=λh=>hc ⟨h2,h⟩
      simp[h2];omega
     ·simp[h2]
    have hkk:List.replicate k (7:Int)=(bif st==2 then List.replicate w 7 else []):=by
     cases h2:st==2
     ·rw[h2] at hk;simp only[cond_false,Nat.le_zero] at hk;rw[hk];rfl
     ·rw[h2] at hk
      have:¬k<w:=λh=>hc ⟨by simpa using h2,h⟩
      simp only[cond_true] at hk|-
      rw[show k=w by omega]
    refine .inr (.inl ⟨(n,st,(k:Int),x,acc++List.replicate k 7,()),?_,rfl,(k:Int),by rw[hkk]⟩)
    simp only[Zdp,RT.val,k1,cond_false])
  (n,st,0,x,acc,()) ⟨0,Nat.zero_le _,by simp⟩ (by simp;omega)
 obtain⟨r1,r2⟩:=r
 simp only at h1 h2
 subst h1;subst h2
 exact⟨k,hr⟩
theorem ZkA (w m:Nat):(stsC w m).length<=m+w:=by
 have h:∀m,(stsC w m).length=m+(if 2<=m then w else 0):=by
  intro m
  induction m with
  |zero=>simp[stsC]
  |succ m ih=>
   rw[ZbI,List.length_append,ih]
   by_cases h1:m=1
   ·subst h1;simp;omega
   ·have:(m==1)=false:=by simpa using h1
    rw[this]
    simp only[cond_false,List.length_cons,List.length_nil]
    split<;>split<;>omega
 rw[h];split<;>omega
theorem Zm8 (x:ITMT) (w m:Nat) (hm:m<=6) (hw:(min x.2.2.1 65536).toNat=w):∃k,runF false Zdo (λ_=>1000000000000) ((m:Int),1,x,[],())=some (false,((m:Int),k,x,stsC w m,())):=by
 have hw6:w<=65536:=by omega
 obtain⟨r,hr,h1,k,h2⟩:=Zav (fl:=false) (t:=Zdo) (fuel:=λ_=>1000000000000)
  (λa=>∃k:Nat,k<=m/\a=((m:Int),(k:Int)+1,x,stsC w k,())) (λa=>m+1-a.2.1.toNat)
  (λr=>r.1=false/\∃k,r.2=((m:Int),k,x,stsC w m,()))
  (by
   rintro a ⟨k,hk,rfl⟩
   by_cases hlt:k<m
   ·have k1:decide ((k:Int)+1<=(m:Int))=true:=by simp;omega
    have k3:i64.wrap ((k:Int)+1+1)=((k+1:Nat):Int)+1:=by rw[ZH _ (by omega) (by omega)];omega
    have hb:=ZkA w k
    have k4:Nat.ble (stsC w k++[(k:Int)+1]).length most=true:=by rw[Nat.ble_eq];simp[most];omega
    obtain⟨kk,hkk⟩:=Zkv x (m:Int) ((k:Int)+1) (stsC w k++[(k:Int)+1]) w hw (by simp;omega)
    have e:stsC w k++[(k:Int)+1]++(bif ((k:Int)+1==2) then List.replicate w 7 else [])=stsC w (k+1):=by
     rw[ZbI,List.append_assoc]
     have:((k:Int)+1==2)=(k==1):=by
      by_cases h:k=1
      ·subst h;rfl
      ·have h1:(k==1)=false:=by simpa using h
       rw[h1];simp;omega
     rw[this];rfl
    rw[e] at hkk
    refine .inl ⟨((m:Int),((k+1:Nat):Int)+1,x,stsC w (k+1),()),?_,⟨k+1,by omega,rfl⟩,by simp;omega⟩
    simp only[Zdo,RT.val,k1,k4,hkk,okB,getO,cond_true,Bool.not_true,Bool.false_or,k3]
   ·have k1:decide ((k:Int)+1<=(m:Int))=false:=by simp;omega
    have hkm:k=m:=by omega
    subst hkm
    refine .inr (.inl ⟨((k:Int),(k:Int)+1,x,stsC w k,()),?_,rfl,(k:Int)+1,rfl⟩)
    simp only[Zdo,RT.val,k1,cond_false])
  ((m:Int),1,x,[],()) ⟨0,Nat.zero_le _,by simp[stsC]⟩ (by simp;omega)
 obtain⟨r1,r2⟩:=r
 simp only at h1 h2
 subst h1;subst h2
 exact⟨k,hr⟩
theorem Zmv (x:ITMT) (v:Int) (T:Nat) (hT:(min x.2.2.2.1 65536).toNat=T) (hv:(x.1=2/\v=8)\/(x.1=3/\v=9)\/(x.1=4/\v=10)):∃k,runF false ZcC (λ_=>1000000000000) (0,x,[],())=some (false,(k,x,List.replicate T v,())):=by
 have hT6:T<=65536:=by omega
 obtain⟨r,hr,h1,k,h2⟩:=Zav (fl:=false) (t:=ZcC) (fuel:=λ_=>1000000000000)
  (λa=>∃k:Nat,k<=T/\a=((k:Int),x,List.replicate k v,())) (λa=>T-a.1.toNat)
  (λr=>r.1=false/\∃k,r.2=(k,x,List.replicate T v,()))
  (by
   rintro a ⟨k,hk,rfl⟩
   by_cases hlt:k<T
   ·have k1:decide ((k:Int)<if 65536<x.2.2.2.1 then 65536 else x.2.2.2.1)=true:=by simp;omega
    have k3:i64.wrap ((k:Int)+1)=(k:Int)+1:=ZH _ (by omega) (by omega)
    have k5:decide (0<=i64.wrap (x.1-2)/\i64.wrap (x.1-2)<3)=true:=by
     rcases hv with ⟨h,_⟩|⟨h,_⟩|⟨h,_⟩<;>rw[h]<;>decide
    have k6:(bif i64.wrap (x.1-2)==0 then (8:Int) else bif i64.wrap (x.1-2)==iN (0+1) then 9 else 10)=v:=by
     rcases hv with ⟨h,rfl⟩|⟨h,rfl⟩|⟨h,rfl⟩<;>rw[h]<;>decide
    have k4:Nat.ble (List.replicate k v++[v]).length most=true:=by rw[Nat.ble_eq];simp[most];omega
    refine .inl ⟨((k:Int)+1,x,List.replicate (k+1) v,()),?_,⟨k+1,by omega,rfl⟩,by simp;omega⟩
    simp only[ZcC,RT.val,k1,k5,k6,k4,k3,cond_true,Bool.not_true,Bool.false_or]
    rw[List.replicate_succ']
   ·have k1:decide ((k:Int)<if 65536<x.2.2.2.1 then 65536 else x.2.2.2.1)=false:=by simp;omega
    have hkm:k=T:=by omega
    refine .inr (.inl ⟨((k:Int),x,List.replicate k v,()),?_,rfl,(k:Int),by rw[hkm]⟩)
    simp only[ZcC,RT.val,k1,cond_false])
  (0,x,[],()) ⟨0,Nat.zero_le _,rfl⟩ (by simp;omega)
 obtain⟨r1,r2⟩:=r
 simp only at h1 h2
 subst h1;subst h2
 exact⟨k,hr⟩
theorem Zob (x:ITMT):gSts x=stsL x/\ZmW x=true:=by
 have hv:(ZiS x).val=some (stsL x):=by
  have hg1:1<=gLim x.2.2.2.1 1 (gLim x.2.1.2.2.2 3 6)/\gLim x.2.2.2.1 1 (gLim x.2.1.2.2.2 3 6)<=6:=by simp only[gLim,Zfd,RT.val];omega
  obtain⟨m,hm⟩:∃m:Nat,gLim x.2.2.2.1 1 (gLim x.2.1.2.2.2 3 6)=(m:Int):=⟨(gLim x.2.2.2.1 1 (gLim x.2.1.2.2.2 3 6)).toNat,by omega⟩
  obtain⟨k,hk⟩:=Zm8 x (min x.2.2.1 65536).toNat m (by omega) rfl
  have hm':(if (if (if (if 6<x.2.1.2.2.2 then 6 else x.2.1.2.2.2)>3 then (if 6<x.2.1.2.2.2 then 6 else x.2.1.2.2.2) else 3)<x.2.2.2.1 then (if (if 6<x.2.1.2.2.2 then 6 else x.2.1.2.2.2)>3 then (if 6<x.2.1.2.2.2 then 6 else x.2.1.2.2.2) else 3) else x.2.2.2.1)>1 then (if (if (if 6<x.2.1.2.2.2 then 6 else x.2.1.2.2.2)>3 then (if 6<x.2.1.2.2.2 then 6 else x.2.1.2.2.2) else 3)<x.2.2.2.1 then (if (if 6<x.2.1.2.2.2 then 6 else x.2.1.2.2.2)>3 then (if 6<x.2.1.2.2.2 then 6 else x.2.1.2.2.2) else 3) else x.2.2.2.1) else 1)=(m:Int):=hm
  by_cases h1:x.1=1
  ·have e1:(x.1==1)=true:=by simpa using h1
   have e2:(x.1 !=1)=false:=by simp[h1]
   simp only[ZiS,RT.val,hm',hk,e1,okB,getO,stsL,e2,hm,cond_true,cond_false,Bool.not_true,Bool.false_or,Bool.true_or,Int.toNat_natCast]
  ·have e1:(x.1==1)=false:=by simpa using h1
   have e2:(x.1 !=1)=true:=by simp[h1]
   have hT:(gLim x.2.2.2.1 0 65536).toNat=(min x.2.2.2.1 65536).toNat:=by simp only[gLim,Zfd,RT.val];omega
   by_cases hc:x.1=2\/x.1=3\/x.1=4
   ·have e7:(bif x.1==2 then x.1==2 else bif x.1==3 then x.1==3 else x.1==4)=true:=by
     rcases hc with h|h|h<;>rw[h]<;>rfl
    obtain⟨v,hv,hgr⟩:∃v,((x.1=2/\v=8)\/(x.1=3/\v=9)\/(x.1=4/\v=10))/\gRep x=(v,gLim x.2.2.2.1 0 65536):=by
     rcases hc with h|h|h
     ·exact⟨8,.inl ⟨h,rfl⟩,by simp[gRep,ZeQ,RT.val,h]⟩
     ·exact⟨9,.inr (.inl ⟨h,rfl⟩),by simp[gRep,ZeQ,RT.val,h]⟩
     ·exact⟨10,.inr (.inr ⟨h,rfl⟩),by simp[gRep,ZeQ,RT.val,h]⟩
    obtain⟨k2,hk2⟩:=Zmv x v (min x.2.2.2.1 65536).toNat rfl hv
    simp only[ZiS,RT.val,hm',hk,hk2,e1,e7,okB,getO,stsL,e2,hgr,hT,cond_true,cond_false,Bool.not_true,Bool.not_false,Bool.false_or,Bool.true_or]
   ·have h2:(x.1==2)=false:=by simp;omega
    have h3:(x.1==3)=false:=by simp;omega
    have h4:(x.1==4)=false:=by simp;omega
    have hgr:gRep x=(0,0):=by simp only[gRep,ZeQ,RT.val,h2,h3,h4,cond_false]
    simp only[ZiS,RT.val,hm',hk,e1,h2,h3,h4,okB,getO,stsL,e2,hgr,cond_true,cond_false,Bool.not_true,Bool.not_false,Bool.false_or,Bool.true_or]
    rfl
 simp only[gSts,ZmW,hv,okB,getO];exact⟨trivial,Tv⟩
theorem ZnA (x:ITMT):∀t∈stsL x,1<=t/\t<=10:=by
 intro t ht
 unfold stsL at ht
 cases h1:x.1 !=1
 ·rw[h1] at ht
  have hg1:(gLim x.2.2.2.1 1 (gLim x.2.1.2.2.2 3 6)).toNat<=6:=by simp only[gLim,Zfd,RT.val];omega
  simp only[cond_false,stsC,List.mem_flatMap,List.mem_range] at ht
  obtain⟨k,hk,ht⟩:=ht
  rcases List.mem_cons.1 ht with h|h
  ·omega
  ·cases hk1:k==1
   ·rw[hk1] at h;cases h
   ·rw[hk1] at h
    have:=(List.mem_replicate.1 h).2
    omega
 ·rw[h1] at ht
  simp only[cond_true] at ht
  obtain⟨h2,h3⟩:=List.mem_replicate.1 ht
  revert h2 h3
  unfold gRep ZeQ
  cases x.1==2<;>cases x.1==3<;>cases x.1==4<;>simp[RT.val]<;>omega
theorem Zi7 (x:ITMT):(stsL x).length<=6+x.2.2.2.1.toNat+x.2.2.1.toNat:=by
 unfold stsL
 cases h1:x.1 !=1
 ·simp only[cond_false]
  have:=ZkA (min x.2.2.1 65536).toNat (gLim x.2.2.2.1 1 (gLim x.2.1.2.2.2 3 6)).toNat
  have hg1:(gLim x.2.2.2.1 1 (gLim x.2.1.2.2.2 3 6)).toNat<=6:=by simp only[gLim,Zfd,RT.val];omega
  omega
 ·simp only[cond_true,List.length_replicate]
  have:(gRep x).2.toNat<=x.2.2.2.1.toNat:=by
   unfold gRep ZeQ
   simp only[gLim,Zfd,RT.val]
   cases x.1==2<;>cases x.1==3<;>cases x.1==4<;>simp[RT.val]<;>omega
  omega
theorem on8 (k:Int):rOn k=(k==2):=by simp[rOn,rOnT,RT.val]
theorem ZnE (k:Int) (x:ITMT) (t:Int) (h1:1<=t) (h2:t<=10):pinP k x t=Zmx k t x.2.1 x.2.1.2.2.1 x.2.2.2.2.1 x.2.2.2.2.2:=by
 obtain⟨x0,⟨x1,x2,x3,x4⟩,x5,x6,i,o⟩:=x
 simp only[pinP,ZnG,Zk0,Zmx,ZkT,RT.val,on8]
 generalize (k==2)=b
 have:t=1\/t=2\/t=3\/t=4\/t=5\/t=6\/t=7\/t=8\/t=9\/t=10:=by omega
 rcases this with rfl|rfl|rfl|rfl|rfl|rfl|rfl|rfl|rfl|rfl<;>cases b<;>simp<;>(try cases Za9 x1)<;>(try cases ZbN x1)<;>simp
theorem ZlY (k:Int) (l:List ITMT) (N i:Int) (x:ITMT) (out:List PINT) (hb:out.length+(stsL x).length<=most):
  ∃j,runF false Zcb (λ_=>1000000000000) (k,l,N,i,stsL x,iN (stsL x).length,0,x,out,())=some (false,(k,l,N,i,stsL x,iN (stsL x).length,j,x,out++(stsL x).map (pinP k x),())):=by
 have hmm:most=1073741824:=rfl
 obtain⟨r,hr,h1,j,h2⟩:=Zav (fl:=false) (t:=Zcb) (fuel:=λ_=>1000000000000)
  (λa=>∃j:Nat,j<=(stsL x).length/\a=(k,l,N,i,stsL x,iN (stsL x).length,(j:Int),x,out++((stsL x).take j).map (pinP k x),())) (λa=>(stsL x).length-a.2.2.2.2.2.2.1.toNat)
  (λr=>r.1=false/\∃j,r.2=(k,l,N,i,stsL x,iN (stsL x).length,j,x,out++(stsL x).map (pinP k x),()))
  (by
   rintro a ⟨j,hj,rfl⟩
   by_cases hlt:j<(stsL x).length
   ·have k1:decide ((j:Int)<iN (stsL x).length)=true:=by simp[iN];omega
    have k2:ZS (j:Int) (stsL x).length=true:=ZP.2 ⟨by omega,by omega⟩
    have k3:i64.wrap ((j:Int)+1)=(j:Int)+1:=ZH _ (by omega) (by omega)
    obtain⟨t,ht⟩:∃t,(stsL x)[j]? =some t:=⟨_,List.getElem?_eq_getElem hlt⟩
    have hget:R.get (R.int i64) (stsL x) (j:Int)=t:=by simp[R.get,ht]
    have hin:=ZnA x t (List.mem_of_getElem? ht)
    have hp:=ZnE k x t hin.1 hin.2
    have htk:(stsL x).take (j+1)=(stsL x).take j++[t]:=by rw[List.take_add_one,ht];rfl
    have e:(out++((stsL x).take j).map (pinP k x))++[pinP k x t]=out++((stsL x).take (j+1)).map (pinP k x):=by
     rw[htk,List.map_append,List.append_assoc];rfl
    have k4:Nat.ble (out++((stsL x).take (j+1)).map (pinP k x)).length most=true:=by
     rw[Nat.ble_eq];simp only[List.length_append,List.length_map,List.length_take];omega
    refine .inl ⟨(k,l,N,i,stsL x,iN (stsL x).length,(j:Int)+1,x,out++((stsL x).take (j+1)).map (pinP k x),()),?_,⟨j+1,by omega,rfl⟩,by simp;omega⟩
    simp only[Zcb,RT.val,k1,k2,k3,hget,<-hp,e,k4,cond_true,Bool.not_true,Bool.false_or]
   ·have k1:decide ((j:Int)<iN (stsL x).length)=false:=by simp[iN];omega
    have htk:(stsL x).take j=stsL x:=List.take_of_length_le (by omega)
    rw[htk]
    refine .inr (.inl ⟨(k,l,N,i,stsL x,iN (stsL x).length,(j:Int),x,out++(stsL x).map (pinP k x),()),?_,rfl,(j:Int),rfl⟩)
    simp only[Zcb,RT.val,k1,cond_false])
  (k,l,N,i,stsL x,iN (stsL x).length,0,x,out,()) ⟨0,Nat.zero_le _,by simp⟩ (by simp;omega)
 obtain⟨r1,r2⟩:=r
 simp only at h1 h2
 subst h1;subst h2
 exact⟨j,hr⟩
theorem Zoz (k:Int) (l:List ITMT) (hl:l.length<=100000000000) (hb:(expP k l).length<=most):ZlQ k l=expP k l/\ZhL k l=true:=by
 obtain⟨r,hr,h1,j,h2⟩:=Zav (fl:=false) (t:=ZcY) (fuel:=λ_=>1000000000000)
  (λa=>∃j:Nat,j<=l.length/\a=(k,l,iN l.length,(j:Int),expP k (l.take j),())) (λa=>l.length-a.2.2.2.1.toNat)
  (λr=>r.1=false/\∃j,r.2=(k,l,iN l.length,j,expP k l,()))
  (by
   rintro a ⟨j,hj,rfl⟩
   by_cases hlt:j<l.length
   ·have k1:decide ((j:Int)<iN l.length)=true:=by simp[iN];omega
    have k2:ZS (j:Int) l.length=true:=ZP.2 ⟨by omega,by omega⟩
    have k3:i64.wrap ((j:Int)+1)=(j:Int)+1:=ZH _ (by omega) (by omega)
    obtain⟨x,hx⟩:∃x,l[j]? =some x:=⟨_,List.getElem?_eq_getElem hlt⟩
    have hget:R.get ZB l (j:Int)=x:=by simp[R.get,hx]
    have htk:l.take (j+1)=l.take j++[x]:=by rw[List.take_add_one,hx];rfl
    have e:expP k (l.take j)++(stsL x).map (pinP k x)=expP k (l.take (j+1)):=by rw[htk,ZhT]
    have hb2:(expP k (l.take j)).length+(stsL x).length<=most:=by
     have:=ZlZ k (l.take (j+1)) (l.drop (j+1))
     rw[List.take_append_drop,<-e,List.length_append,List.length_map] at this
     omega
    obtain⟨jj,hjj⟩:=ZlY k l (iN l.length) (j:Int) x (expP k (l.take j)) hb2
    rw[e] at hjj
    obtain⟨s1,s2⟩:=Zob x
    refine .inl ⟨(k,l,iN l.length,(j:Int)+1,expP k (l.take (j+1)),()),?_,⟨j+1,by omega,rfl⟩,by simp;omega⟩
    simp only[ZcY,RT.val,k1,k2,hget,s1,s2,hjj,okB,getO,k3,cond_true,Bool.not_true,Bool.false_or]
   ·have k1:decide ((j:Int)<iN l.length)=false:=by simp[iN];omega
    have htk:l.take j=l:=List.take_of_length_le (by omega)
    rw[htk]
    refine .inr (.inl ⟨(k,l,iN l.length,(j:Int),expP k l,()),?_,rfl,(j:Int),rfl⟩)
    simp only[ZcY,RT.val,k1,cond_false])
  (k,l,iN l.length,0,[],()) ⟨0,Nat.zero_le _,by simp[expP]⟩ (by simp;omega)
 obtain⟨r1,r2⟩:=r
 simp only at h1 h2
 subst h1;subst h2
 have hv:(ZhJ k l).val=some (expP k l):=by
  simp only[ZhJ,RT.val,hr,okB,getO,cond_true]
 simp only[ZlQ,ZhL,hv,okB,getO];exact⟨trivial,Tv⟩
theorem Zjm {s:List Int×Int} {k:Int} (h:NB s k) (hk:k<=1000000):Zhh s=true/\NB (Zlb s).2 (k+1):=by
 obtain⟨a,b,_,_⟩:=ZR h hk 2 (by decide) (by decide)
 have hv:(Zhg s).val=some ((Ze s 2).1==1,(Ze s 2).2):=by simp only[Zhg,RT.val,a,cond_true]
 simp only[Zhh,Zlb,hv,okB,getO]
 exact⟨trivial,b⟩
def Znd (y:ITMT):Prop:=y.2.2.2.1<=8/\y.2.2.1<=8
theorem Zj5 (i:Int) (s1:List Int) (s2:Int) (acc:List ITMT) (k:Int) (hk:k<=1000) (h:NB (s1,s2) k) (h0:0<i) (h1:i<=12) (hl:acc.length<=100):
  ∃a',(Zca (i,s1,s2,acc,())).val=some (.cont a')/\a'.1=i-1/\NB (a'.2.1,a'.2.2.1) (k+13)/\∃y,a'.2.2.2.1=acc++[y]/\Znd y:=by
 obtain⟨a1,a2,a3,a4⟩:=ZR h (by omega) 8 (by decide) (by decide)
 obtain⟨b1,b2,b3,b4⟩:=ZR a2 (by omega) 6 (by decide) (by decide)
 obtain⟨c1,c2,c3,c4⟩:=ZR b2 (by omega) 8 (by decide) (by decide)
 obtain⟨d1,d2⟩:=Zjm c2 (by omega)
 obtain⟨e1,e2⟩:=Zjm d2 (by omega)
 obtain⟨f1,f2,f3,f4⟩:=ZR e2 (by omega) 14 (by decide) (by decide)
 obtain⟨g1,g2,_⟩:=ZmH f2 (by omega)
 obtain⟨h1',h2,_⟩:=ZmI g2 (by omega)
 obtain⟨i1,i2,i3,i4⟩:=ZR h2 (by omega) 8 (by decide) (by decide)
 obtain⟨j1,j2,j3,j4⟩:=ZR i2 (by omega) 3 (by decide) (by decide)
 obtain⟨k1,k2,k3,k4⟩:=ZR j2 (by omega) 4 (by decide) (by decide)
 have r1:ZS (Ze (s1,s2) 8).1 8=true:=ZP.2 ⟨a3,by omega⟩
 have r2:ZS (Ze (Ze (s1,s2) 8).2 6).1 6=true:=ZP.2 ⟨b3,by omega⟩
 have w1:i64.wrap (i-1)=i-1:=ZH _ (by omega) (by omega)
 have hi:decide (i>0)=true:=by simp;omega
 have hble:∀y:ITMT,Nat.ble (acc++[y]).length most=true:=λy=>by rw[Nat.ble_eq];simp[most];omega
 have hw:∀v:Int,0<=v->v<6->R.get (R.int i64) [0,0,0,1,3,-1] v<=8:=by
  intro v h0 h1
  have:v=0\/v=1\/v=2\/v=3\/v=4\/v=5:=by omega
  rcases this with rfl|rfl|rfl|rfl|rfl|rfl<;>decide
 have hsh:∀(b:Bool) (p q:Int),p<=8->q<=8->(bif b then p else q)<=8:=λb p q h1 h2=>by cases b<;>assumption
 have hnb:∀(b:Bool) (p q:List Int×Int),NB p (k+13)->NB q (k+13)->NB (bif b then p.1 else q.1,bif b then p.2 else q.2) (k+13):=λb p q h1 h2=>by cases b<;>assumption
 have w2:i64.wrap ((Ze (Ze (Ze (s1,s2) 8).2 6).2 8).1-1)<=8:=by rw[ZH _ (by omega) (by omega)];omega
 have hw2:=hw _ b3 b4
 simp only[Zca,RT.val,List.length_cons,List.length_nil,Nat.zero_add,Nat.reduceAdd,r1,r2,a1,b1,c1,d1,e1,f1,g1,h1',i1,j1,k1,hi,w1,hble,orR,Bool.or_true,Bool.or_false,Bool.not_true,Bool.not_false,Bool.false_or,Bool.true_or,cond_true]
 refine⟨_,rfl,rfl,?_,_,rfl,?_⟩
 ·exact hnb _ _ _ ⟨k2.1,Int.le_trans k2.2 (by omega)⟩ ⟨j2.1,Int.le_trans j2.2 (by omega)⟩
 ·exact⟨hsh _ _ _ (by rw[ZH _ (by omega) (by omega)];omega) w2,hw2⟩
theorem ZiE (n:List Int):Zhv n=true/\(ZeH n).length<=12/\∀y∈ZeH n,Znd y:=by
 obtain⟨a1,a2,a3,a4⟩:=ZR (s:=(n,0)) (k:=0) ⟨Int.le_refl _,Int.le_refl _⟩ (by decide) 12 (by decide) (by decide)
 obtain⟨r,hr,h1,h2,h3⟩:=Zav (fl:=false) (t:=Zca) (fuel:=λ_=>20)
  (λa=>0<=a.1/\a.1+(a.2.2.2.1.length:Int)<=12/\NB (a.2.1,a.2.2.1) (1+13*(a.2.2.2.1.length:Int))/\∀y∈a.2.2.2.1,Znd y) (λa=>a.1.toNat)
  (λr=>r.1=false/\r.2.2.2.2.1.length<=12/\∀y∈r.2.2.2.2.1,Znd y)
  (by
   rintro⟨i,s1,s2,acc,u⟩ ⟨p1,p2,p3,p4⟩
   simp only at p1 p2 p3 p4
   by_cases hi:0<i
   ·obtain⟨a',q1,q2,q3,y,q4,q5⟩:=Zj5 i s1 s2 acc _ (by omega) p3 hi (by omega) (by omega)
    refine .inl ⟨a',q1,⟨by omega,?_,?_,?_⟩,by rw[q2];simp only;omega⟩
    ·rw[q2,q4];simp only[List.length_append,List.length_cons,List.length_nil];omega
    ·rw[q4]
     have e:1+13*(((acc++[y]).length:Nat):Int)=1+13*(acc.length:Int)+13:=by simp only[List.length_append,List.length_cons,List.length_nil];omega
     rw[e];exact q3
    ·rw[q4]
     intro z hz
     rcases List.mem_append.1 hz with hz|hz
     ·exact p4 z hz
     ·rw[List.mem_singleton] at hz;rw[hz];exact q5
   ·have k1:decide (i>0)=false:=by simp;omega
    refine .inr (.inl ⟨(i,s1,s2,acc,()),?_,rfl,by simp only;omega,p4⟩)
    simp only[Zca,RT.val,k1,cond_false])
  ((Ze (n,0) 12).1,(Ze (n,0) 12).2.1,(Ze (n,0) 12).2.2,[],()) ⟨a3,by simp only[List.length_nil];omega,by simpa using a2,λy hy=>by cases hy⟩ (by simp only;omega)
 have hv:(Zht n).val=some r.2.2.2.2.1:=by
  simp only[Zht,RT.val,a1,hr,okB,getO,cond_true]
 refine⟨by simp only[Zhv,hv,okB],?_⟩
 have e:ZeH n=r.2.2.2.2.1:=by simp only[ZeH,hv,getO]
 rw[e]
 exact⟨h2,h3⟩
theorem ZiW (c:Int) (B:Nat):∀l:List ITMT,(∀y∈l,(stsL y).length<=B)->(expP c l).length<=l.length*B
 |[],_=>by simp[expP]
 |y::l,h=>by
  have h1:=ZiW c B l (λz hz=>h z (by simp[hz]))
  have h2:=h y (by simp)
  have e:expP c (y::l)=(stsL y).map (pinP c y)++expP c l:=by simp[expP]
  rw[e,List.length_append,List.length_map,List.length_cons,Nat.add_mul]
  omega
theorem ZmK (c:Int) (n:List Int):(expP c (ZeH n)).length<=264:=by
 obtain⟨_,h2,h3⟩:=ZiE n
 have:=ZiW c 22 (ZeH n) (λy hy=>by
  have h4:=Zi7 y
  obtain⟨h5,h6⟩:=h3 y hy
  omega)
 have h7:(ZeH n).length*22<=12*22:=Nat.mul_le_mul_right 22 h2
 omega
end
end Go.Proofs.Ytlgmapcjapofoaa
