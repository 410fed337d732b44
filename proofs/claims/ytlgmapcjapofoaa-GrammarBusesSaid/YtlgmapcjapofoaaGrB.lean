import Derived.Test.YtlgmapcjapofoaaExpB
import Derived.Test.YtlgmapcjapofoaaS3New
import Derived.RangeFuncNested
import Derived.RangeFuncLeaves
import Derived.Shelf.Abstract
import Derived.WalkKit
import Derived.OwnWalkIn
import Derived.TacticsInMore
import Derived.LoopNIn
import Derived.LoopIn
import Derived.Test.YtlgmapcjapofoaaS3D
import Derived.Test.YtlgmapcjapofoaaProg
import Derived.Test.YtlgmapcjapofoaaS3Box1
set_option linter.unusedVariables false
set_option linter.unusedSimpArgs false
namespace Go.Proofs.Ytlgmapcjapofoaa
open Go Go.S3 Go.Proofs Go.RowKit
noncomputable section
variable {n₀:Nat} {ex:Nat->Prop} {fz:Nat->Nat->Option Value} {M:List Nat} {m:Mem} {W W':World}
def memA (chip:Int) (L:List PINT):Mem:=⟨[[.int false .i64 chip],[.tip 0 0]],[stgP L 0]⟩
theorem init7 {x:Ctx} {m:Mem} {w:World} (hm:MemOk x m w) {chip:Int} (hc:inR .i64 chip) (T T':TypeId):
  Xw w.heap.size (λ_=>False) x.fz [w.heap.size,w.heap.size+1] (memA chip []) ((w.alloc (.cells #[.int .i64 chip] T)).alloc (.cells #[.slice none 0 0] T')):=by
 have h0:=ZjC hm
 have hj:=h0.joinS (g:=stgP [] 0) (s:=⟨none,none,0,ZbW.wid,0,0⟩) (λp cap h=>by simp at h) ⟨rfl,rfl,rfl,λ_=>⟨rfl,rfl⟩,λp cap h=>by simp at h,λ_=>rfl,λh=>by simp[stgP] at h,λh=>by simp[stgP] at h⟩
 have h1:=Zct hj.1 (l:=[.int false .i64 chip]) (C:=[.int .i64 chip]) T ⟨.int _ _ _ _ hc,Tv⟩
 have h2:=Zct h1.1 (l:=[.tip 0 0]) (C:=[.slice none 0 0]) T' ⟨.tip _ _ _ ⟨none,none,0,ZbW.wid,0,0⟩ _ rfl (Nat.le_refl _) (λ_=>rfl) trivial,Tv⟩
 have e:(w.alloc (.cells #[.int .i64 chip] T)).heap.size=w.heap.size+1:=World.size_alloc _ _
 have key:=h2.1
 refine⟨{own:=λk=>w.heap.size<=k/\¬False,M:=[w.heap.size,w.heap.size+1],S:=[⟨none,none,0,ZbW.wid,0,0⟩],fz:=x.fz},⟨rfl,λ_ _ _ h=>h,λ_ _ _ h=>.inl h⟩,rfl,?_⟩
 have k2:=ZjB key (λk=>w.heap.size<=k/\¬False) (λk hk=>⟨key.fresh k hk,id⟩) (λb p hp=>⟨(key.mown b p hp).1,id⟩) (λi s p cap h5 h6=>⟨(key.sown i s p cap h5 h6).1,id⟩)
 have hM:([]++[w.heap.size])++[(w.alloc (.cells #[.int .i64 chip] T)).heap.size]=[w.heap.size,w.heap.size+1]:=by rw[e];rfl
 exact hM▸k2
theorem Zmt {x:ITMT} (h:Zab.ok x) (y:Ctx):RL y (Zab.enc x) [.int .i64 x.1,.int .i64 x.2.1.1,.int .u16 x.2.1.2.1,.int .u8 x.2.1.2.2.1,.int .i64 x.2.1.2.2.2,.int .i64 x.2.2.1,.int .i64 x.2.2.2.1,.bool x.2.2.2.2.1,.bool x.2.2.2.2.2]:=by
 obtain⟨h1,⟨h2,h3,h4,h5⟩,h6,h7,_⟩:=h
 exact⟨.int _ _ _ _ h1,.int _ _ _ _ h2,.int _ _ _ _ h3,.int _ _ _ _ h4,.int _ _ _ _ h5,.int _ _ _ _ h6,.int _ _ _ _ h7,.bool _ _ _,.bool _ _ _,Tv⟩
theorem Xw.item {b0 b1:List A} {st:List Stg} (h:Xw n₀ ex fz M ⟨[b0,b1],st⟩ W) {x:ITMT} (hx:Zab.ok x) (T:TypeId):Xw n₀ ex fz (M++[W.heap.size]) ⟨[b0,b1,Zab.enc x],st⟩ (W.alloc (.cells (Z0 x) T)):=
 h.box T (Zmt hx)
theorem Xw.drop {chip:Int} {L:List PINT} {x:ITMT} {pc po px:Nat} (h:Xw n₀ ex fz [pc,po,px] (memB chip L x 0) W):Xw n₀ ex fz [pc,po] (memA chip L) W:=by
 obtain⟨y,h1,h2,h3⟩:=h
 have hS:Zk 1 y.S=y.S:=by
  have:=h3.sl
  match hy:y.S,this with
  |[s],_=>rfl
  |[],e=>simp[memB] at e
  |_::_::_,e=>simp[memB] at e
 have hc:=h3.cut 2 1 (λb l hl a ha v hv=>by
  match b,hl with
  |0,hl=>
   simp only[memB,Zk,nth,oinj] at hl;subst hl
   simp only[List.mem_singleton] at ha;subst ha
   cases hv;exact .int _ _ _ _ (by assumption)
  |1,hl=>
   simp only[memB,Zk,nth,oinj] at hl;subst hl
   simp only[List.mem_singleton] at ha;subst ha
   cases hv with
   |tip _ _ _ s _ hs hv hval hat=>exact .tip _ _ _ s _ (by rw[hS];exact hs) hv hval hat
  |b+2,hl=>simp[memB,Zk,nth] at hl)
 exact⟨{y with M:=Zk 2 y.M,S:=Zk 1 y.S},⟨h1.own,h1.fzl,h1.fzn⟩,by show Zk 2 y.M=_;rw[h2];rfl,hc⟩
theorem Xw.out {chip:Int} {L:List PINT} {pc po:Nat} (h:Xw n₀ ex fz [pc,po] (memA chip L) W):∃y s,Xc n₀ ex fz y/\y.M=[pc,po]/\y.S=[s]/\MemOk y (memA chip L) W/\W.cell? ⟨po,0,none⟩=some (tipVal s)/\s.ver=0:=by
 obtain⟨y,h1,h2,h3⟩:=h
 obtain⟨s,hs⟩:∃s,y.S=[s]:=by
  have:=h3.sl
  match hy:y.S,this with
  |[s],_=>exact⟨s,rfl⟩
  |[],e=>simp[memA] at e
  |_::_::_,e=>simp[memA] at e
 have hs0:nth y.S 0=some s:=by rw[hs];rfl
 have hst:=h3.stg 0 (stgP L 0) s rfl hs0
 obtain⟨C,T,e1,e2⟩:=h3.box 1 [.tip 0 0] po rfl (by rw[h2];rfl)
 refine⟨y,s,h1,h2,hs,h3,?_,hst.ver⟩
 match C,e2 with
 |[v],e2=>
  have e3:RA y (.tip 0 0) v:=e2.1
  cases e3 with
  |tip _ _ _ s' _ hs' hv hval hat=>
   rw[hs0] at hs';cases hs'
   have:=hval hst.ver
   subst this
   simp only[World.cell?,e1]
   rfl
 |[],e2=>exact e2.elim
 |_::_::_,e2=>exact e2.2.elim
def expP (chip:Int) (l:List ITMT):List PINT:=l.flatMap λy=>(stsL y).map (pinP chip y)
theorem Zki (chip:Int) (l:List ITMT) (y:ITMT):expP chip (l++[y])=expP chip l++(stsL y).map (pinP chip y):=by simp[expP]
theorem Zl6 (chip:Int) (a b:List ITMT):(expP chip a).length<=(expP chip (a++b)).length:=by simp[expP]
def ZmD (fz:Nat->Nat->Option Value) (sv:Value) (l:List ITMT):Prop:=
 (∃a cap,sv=.slice a 0 cap/\l=[])\/∃b off cap,sv=.slice (some ⟨b,off,none⟩) l.length cap/\l.length<=maxLen/\
  ∀j x,l[j]? =some x->∀i,i<9->fz b (off+j*9+i)=some ((Z0 x).getD i undef)
theorem heldI {x:Ctx} {l:List ITMT} {v:Value} {lit full nn:Bool} (h:RA x (.lst Zab lit full nn l) v):ZmD x.fz v l:=by
 cases h with
 |lst0 _ _ _ _ _ _ a cap h1 _ _ _=>exact .inl ⟨a,cap,rfl,h1⟩
 |lst _ _ _ _ _ _ p o cap c h0 hf hcap hml hz hr=>
  refine .inr ⟨p,o,cap,rfl,hml,λj y hy i hi=> ?_⟩
  have hj:j<List.length (α:=ITMT) l:=(List.getElem?_eq_some_iff.1 hy).1
  have hel:elN Zab l j=Zab.enc y:=by
   unfold elN
   have:List.getD (α:=ITMT) l j Zab.dflt=y:=by rw[List.getD_eq_getElem?_getD,hy];rfl
   rw[this]
  have key:∀i a,nth (Zab.enc y) i=some a->x.fz p (o+j*9+i)=some (c j i)/\RA x.bare a (c j i):=λi a ha=>⟨hz j i a hj (by rw[hel];exact ha),hr j i a hj (by rw[hel];exact ha)⟩
  match i,hi with
  |0,_=>obtain⟨k1,k2⟩:=key 0 _ rfl;generalize c j 0=u at*;cases k2;exact k1
  |1,_=>obtain⟨k1,k2⟩:=key 1 _ rfl;generalize c j 1=u at*;cases k2;exact k1
  |2,_=>obtain⟨k1,k2⟩:=key 2 _ rfl;generalize c j 2=u at*;cases k2;exact k1
  |3,_=>obtain⟨k1,k2⟩:=key 3 _ rfl;generalize c j 3=u at*;cases k2;exact k1
  |4,_=>obtain⟨k1,k2⟩:=key 4 _ rfl;generalize c j 4=u at*;cases k2;exact k1
  |5,_=>obtain⟨k1,k2⟩:=key 5 _ rfl;generalize c j 5=u at*;cases k2;exact k1
  |6,_=>obtain⟨k1,k2⟩:=key 6 _ rfl;generalize c j 6=u at*;cases k2;exact k1
  |7,_=>obtain⟨k1,k2⟩:=key 7 _ rfl;generalize c j 7=u at*;cases k2;exact k1
  |8,_=>obtain⟨k1,k2⟩:=key 8 _ rfl;generalize c j 8=u at*;cases k2;exact k1
def mark (D:Nat):Deferred:={target:=.collected D,args:= #[]}
theorem Zcw {F:Fence} {n:Nat} {P:Program} {fn:Func} {tmps:Array Value} {R:Ending->World->Prop} (J:World->Prop)
  (hJ:∀W D,n₀<=D->J W->W.heap[D]? =some (.deferred (some []))->J (W.putObj D (.deferred none))) (hfin:∀W,J W->LeavesIn F n P fn tmps R [] .returning W):
  ∀(ds:List Nat) (W:World),ds.Nodup->(∀D∈ds,n₀<=D/\W.heap[D]? =some (.deferred (some [])))->J W->LeavesInM F n P fn tmps R (ds.map mark) .returning W
 |[],W,_,_,h=>hfin W h
 |D::ds,W,hn,hd,h=>by
  obtain⟨hD0,hD⟩:=hd D (by simp)
  refine⟨by simp,.inl ⟨D,_,rfl,run_takeDeferred hD,Zcw J hJ hfin ds _ (List.nodup_cons.1 hn).2 (λD' h'=> ?_) (hJ W D hD0 h hD)⟩⟩
  have hne:D'≠D:=λe=>(List.nodup_cons.1 hn).1 (e▸h')
  exact⟨(hd D' (by simp[h'])).1,(World.putObj_heap_other hne).trans (hd D' (by simp[h'])).2⟩
theorem Zb7 {w0:World} (h:Z2 w0 W) {row:Option Nat} (hg:W.grownBy W' row) (hr:∀r,row=some r->w0.heap.size<=r):Z2 w0 W':=
 ⟨⟨Nat.le_trans h.1.1 hg.size,λk hk=>(hg.block k (Nat.lt_of_lt_of_le hk h.1.1) λe=>by have:=hr k e.symm;omega).trans (h.1.2 k hk)⟩,hg.os.trans h.2.1,hg.tape.trans h.2.2.1,hg.output.trans h.2.2.2⟩
end
end Go.Proofs.Ytlgmapcjapofoaa
open Go.IntKind (u8 u16 i64)
namespace Go.Proofs.Ytlgmapcjapofoaa
open Go Go.S3 Go.Proofs Go.RowKit Go.Shelf
attribute [local go_sem] Oper.semAt_some
noncomputable section
structure Rd (w0:World) (fz:Nat->Nat->Option Value) (chip:Int) (ds:List Nat) (L:List PINT) (W:World):Prop where
 x:Xw w0.heap.size (λ_=>False) fz [w0.heap.size,w0.heap.size+1] (memA chip L) W
 nd:ds.Nodup
 mks:∀D∈ds,w0.heap.size<=D/\W.heap[D]? =some (.deferred (some []))
 s:Z2 w0 W
set_option maxRecDepth 100000 in
set_option maxHeartbeats 8000000 in
theorem ZmA (n:Nat) (hn:5<=n) (sv:Value) (chip:Int) (l:List ITMT) (fz:Nat->Nat->Option Value) (hl:ZmD fz sv l) (hok:∀y∈l,Zab.ok y) (hm:(expP chip l).length<=most) (w0:World)
  (hx:∀T T',Xw w0.heap.size (λ_=>False) fz [w0.heap.size,w0.heap.size+1] (memA chip []) ((w0.alloc (.cells #[.int .i64 chip] T)).alloc (.cells #[.slice none 0 0] T'))):
  CallsIn Fence.wide n Try.prog 11 #[.int .i64 chip,sv] w0 λe W'=>∃s y,e=.returned (tipVal s)/\s.ver=0/\y.M=[w0.heap.size,w0.heap.size+1]/\y.S=[s]/\Xc w0.heap.size (λ_=>False) fz y/\MemOk y (memA chip (expP chip l)) W'/\Z2 w0 W':=by
 have h1:1<=n:=by omega
 obtain⟨aa,cap,hsv⟩:∃aa cap,sv=.slice aa l.length cap:=by
  rcases hl with ⟨a,cap,e,e2⟩|⟨b,off,cap,e,_⟩
  ·exact⟨a,cap,by rw[e,e2];rfl⟩
  ·exact⟨_,cap,e⟩
 subst hsv
 have hlm:l.length<=maxLen:=by
  rcases hl with ⟨a,cap,e,e2⟩|⟨b,off,cap,e,h,_⟩
  ·rw[e2];exact Nat.zero_le _
  ·exact h
 refine callsIn_of_wp_marks Try.func11 rfl trivial ?_ rfl
 simp only[Try.ntmps11,List.size_toArray,List.length_cons,List.length_nil,Nat.reduceAdd,Nat.reduceSub,Array.replicate_succ,Array.replicate_zero,List.push_toArray,List.append_toArray,List.nil_append,List.cons_append]
 gi_wp2
 refine wpIn_loop (λa W=>∃(j:Nat) (ds:List Nat) (u7 u12 u13 u14 u15 u16 u37:Value),j<=l.length/\a={tmps:= #[.int .i64 chip,.slice aa l.length cap,.pointer (some ⟨w0.heap.size,0,none⟩),undef,.slice none 0 0,.pointer (some ⟨w0.heap.size+1,0,none⟩),undef,u7,undef,.slice aa l.length cap,.int .i64 (l.length:Int),.int .i64 (j:Int),u12,u13,u14,u15,u16,undef,undef,undef,undef,undef,undef,undef,undef,undef,undef,undef,undef,undef,undef,undef,undef,undef,undef,undef,undef,u37,undef],defers:=ds.map mark}/\Rd w0 fz chip ds (expP chip (l.take j)) W) (λa _=>l.length-(intOf (a.tmps.getD 11 undef)).toNat) ?Zgf ?round
 case Zgf=>
  refine⟨0,[],undef,undef,undef,undef,undef,undef,undef,Nat.zero_le _,rfl,⟨hx _ _,List.nodup_nil,λD hD=>by simp at hD,?_⟩⟩
  refine⟨⟨by simp;omega,λk hk=> ?_⟩,rfl,rfl,rfl⟩
  exact (Below.heap_alloc _ _ _ (by simp;omega)).trans (Below.heap_alloc _ _ _ hk)
 case round=>
  rintro a W ⟨j,ds,u7,u12,u13,u14,u15,u16,u37,hj,rfl,hR⟩
  by_cases hlt:j<l.length
  ·obtain⟨b,off,hab,hcf⟩:∃b off,aa=some ⟨b,off,none⟩/\∀j x,l[j]? =some x->∀i,i<9->fz b (off+j*9+i)=some ((Z0 x).getD i undef):=by
    rcases hl with ⟨a,cap,e,e2⟩|⟨b,off,cap,e,_,h⟩
    ·rw[e2] at hlt;simp at hlt
    ·simp only[Value.slice.injEq] at e
     exact⟨b,off,e.1,h⟩
   subst hab
   obtain⟨x,hxj⟩:∃x,l[j]? =some x:=⟨_,List.getElem?_eq_getElem hlt⟩
   have hcell:∀i,i<9->W.cell? ⟨b,off+j*9+i,none⟩=some ((Z0 x).getD i undef):=λi hi=>by
    obtain⟨y,hy1,_,hy3⟩:=hR.x
    exact hy3.fz _ _ _ (hy1.fzl _ _ _ (hcf j x hxj i hi))
   have c0:=hcell 0 (by omega)
   have c1:=hcell 1 (by omega)
   have c2:=hcell 2 (by omega)
   have c3:=hcell 3 (by omega)
   have c4:=hcell 4 (by omega)
   have c5:=hcell 5 (by omega)
   have c6:=hcell 6 (by omega)
   have c7:=hcell 7 (by omega)
   have c8:=hcell 8 (by omega)
   simp[Z0,Array.getD] at c0 c1 c2 c3 c4 c5 c6 c7 c8
   have hf23:Fence.wide.fn 23:=trivial
   gi_wp2_with (gi_at_call 23;refine (Zmf Fence.wide (n-1) trivial rfl x _).mono ?_;rintro e w' ⟨rfl,rfl⟩)
   have hitm:Zab.ok x:=hok x (List.mem_iff_getElem?.2 ⟨j,hxj⟩)
   have hX2:=(Xw.item hR.x hitm 44).block (.cells (Z0 x) 44)
   have hI2:ZcM ((W.alloc (.cells (Z0 x) 44)).alloc (.cells (Z0 x) 44)) (W.heap.size+1) x:=by
    have:=World.alloc_heap_new (W.alloc (.cells (Z0 x) 44)) (.cells (Z0 x) 44)
    rw[World.size_alloc] at this
    exact this
   have hz2:((W.alloc (.cells (Z0 x) 44)).alloc (.cells (Z0 x) 44)).heap.size=W.heap.size+2:=by simp
   have hg2:W.grownBy ((W.alloc (.cells (Z0 x) 44)).alloc (.cells (Z0 x) 44)) none:=by
    have a1:=World.grownBy_alloc W (.cells (Z0 x) 44) none
    have a2:=World.grownBy_alloc (W.alloc (.cells (Z0 x) 44)) (.cells (Z0 x) 44) none
    exact⟨a2.os.trans a1.os,a2.tape.trans a1.tape,a2.output.trans a1.output,Nat.le_trans a1.size a2.size,λk hk hn=>(a2.block k (Nat.lt_of_lt_of_le hk a1.size) hn).trans (a1.block k hk hn)⟩
   rw[World.size_alloc] at hX2
   generalize hW2:(W.alloc (.cells (Z0 x) 44)).alloc (.cells (Z0 x) 44)=W2 at*
   have hs2:Z2 w0 W2:=Zb7 hR.s hg2 (λr e=>by cases e)
   have hm2:∀D∈ds,(w0.heap.size<=D/\D<W2.heap.size)/\W2.heap[D]? =some (.deferred (some [])):=λD hD=>by
    obtain⟨k1,k2⟩:=hR.mks D hD
    have hlt':=(Array.getElem?_eq_some_iff.1 k2).1
    exact⟨⟨k1,by omega⟩,(hg2.block D hlt' (λe=>by cases e)).trans k2⟩
   have hwz:w0.heap.size<=W2.heap.size:=hs2.1.1
   clear c0 c1 c2 c3 c4 c5 c6 c7 c8 hcell hcf
   generalize hL:expP chip (l.take j)=L at*
   have hLn:expP chip (l.take (j+1))=L++(stsL x).map (pinP chip x):=by
    rw[List.take_add_one,hxj]
    simp only[Option.toList_some]
    rw[Zki,hL]
   have hLm:L.length+(stsL x).length<=most:=by
    have:=Zl6 chip (l.take (j+1)) (l.drop (j+1))
    rw[List.take_append_drop,hLn] at this
    simp at this
    omega
   refine wpIn_rangeFunc_ownH (F:=Fence.wide) rfl h1 (gf:=29) (lb:= #[.pointer (some ⟨W.heap.size+1,0,none⟩)]) rfl trivial (enters_of Try.func29 (by kernel_rfl) rfl)
    (Zjf Fence.wide (n-1) trivial trivial trivial rfl (by omega) (W.heap.size+1) x W2 (by omega) hI2) (λh k=>Eq.trans k h) (λW' k o o' hk _ _ _=>World.putObj_heap_other (by omega)) (Below.refl _ _) (λ_=>rfl)
    (λpre W'=>Xw w0.heap.size (λk=>k=W.heap.size+1) fz [w0.heap.size,w0.heap.size+1,W.heap.size] (memB chip (L++pre.map (λt=>pinP chip x t.1)) x 0) W'/\(∀D∈ds,W'.heap[D]? =some (.deferred (some [])))/\Z2 w0 W')
    (λ_ _ _=>False)
    (λpre A C row ⟨k1,k2,k3⟩ hg hr=>⟨k1.grown hg (λr e=>(hr r e).2),λD hD=>(hg.block D (Array.getElem?_eq_some_iff.1 (k2 D hD)).1 (λe=>by have:=(hr D e.symm).1;have:=(hm2 D hD).1.2;omega)).trans (k2 D hD),Zb7 k3 hg (λr e=>Nat.le_trans hwz (hr r e).1)⟩)
    (λ_ _ _ _ _ h _ _=>h) ⟨by rw[List.map_nil,List.append_nil];exact hX2,λD hD=>(hm2 D hD).2,hs2⟩
    (λt a' _=>a'={tmps:= #[.int .i64 chip,.slice (some ⟨b,off,none⟩) l.length cap,.pointer (some ⟨w0.heap.size,0,none⟩),undef,.slice none 0 0,.pointer (some ⟨w0.heap.size+1,0,none⟩),undef,.pointer (some ⟨W.heap.size,0,none⟩),.int .i64 t.1,.slice (some ⟨b,off,none⟩) l.length cap,.int .i64 (l.length:Int),.int .i64 (j:Int),.bool true,.pointer (some ⟨b,off+j*9,none⟩),.agg (Z0 x),.agg (Z0 x),.func (.func 29) #[] #[.pointer (some ⟨W.heap.size+1,0,none⟩)],.int .i64 t.1,undef,undef,undef,undef,undef,undef,undef,undef,undef,undef,undef,undef,undef,undef,undef,undef,undef,undef,undef,u37,undef],defers:=[]})
    (λ_ _ _ _ _ _ hs _ _=>hs) ?assign ?body ?done ?stop
   case assign=>
    rintro y pre t W' K hI hK
    gi_wp2
    exact hK _ _ (KeepsFrom.refl _ _) rfl hI rfl
   case body=>
    rintro y pre t a' W' hy hlp ⟨k1,k2,k3⟩ rfl hlen
    refine wpIn_block ?_
    refine Zmh (chip:=chip) (t:=t.1) (x:=x) (by obtain⟨t,t0,t1⟩:=t;exact⟨by simp[IntKind.min,IntKind.signed,IntKind.bits];omega,by simp[IntKind.max,IntKind.signed,IntKind.bits];omega⟩) (by simp;omega) k1 rfl rfl rfl rfl rfl rfl (λ⟨_,_,h⟩=>h.elim) ?_
    intro a2 W3 hX3 hz3 hb3 ho3 ht3 hp3
    refine⟨⟨hz3,λk o hk ho hn=>(hb3 k (.inr (.inr ⟨o,ho,hn⟩))).trans ho⟩,hb3 _ (.inr (.inl rfl)),by rw[List.map_append,<-List.append_assoc];exact hX3,λD hD=>(hb3 D (.inr (.inr ⟨_,k2 D hD,rfl⟩))).trans (k2 D hD),?_⟩
    exact⟨⟨Nat.le_trans k3.1.1 hz3,λk hk=>(hb3 k (.inl (by omega))).trans (k3.1.2 k hk)⟩,ho3.trans k3.2.1,ht3.trans k3.2.2.1,hp3.trans k3.2.2.2⟩
   case done=>
    rintro D ys W' hD hS ⟨k1,k2,k3⟩ hK
    have hb63:(j:Int)+1<=9223372036854775807:=by
     have:maxLen=9223372036854775807:=by decide
     omega
    have hj0:(0:Int)<=j:=by omega
    have eL:L++ys.map (λt=>pinP chip x t.1)=expP chip (l.take (j+1)):=by
     rw[hLn,<-hS,List.map_map];rfl
    rw[eL] at k1
    gi_wp2
    refine⟨⟨j+1,D::ds,_,_,_,_,_,_,_,hlt,rfl,⟨k1.all.drop,List.nodup_cons.2 ⟨λh=>by have:=(hm2 D h).1.2;omega,hR.nd⟩,λD' h'=> ?_,k3⟩⟩,?_⟩
    ·rcases List.mem_cons.1 h' with h'|h'
     ·subst h';exact⟨by omega,hK⟩
     ·exact⟨(hm2 D' h').1.1,k2 D' h'⟩
    ·simp[intOf]
     omega
   case stop=>
    rintro D c pre W' hD _ hf
    exact hf.elim
  ·have hjl:j=l.length:=by omega
   subst hjl
   obtain⟨y,s,hy1,hy2,hy3,hy4,hy5,hy6⟩:=hR.x.out
   have hm2:=hR.mks
   have hnd:=hR.nd
   have hs2:=hR.s
   rw[List.take_length] at hy4
   gi_wp2
   refine Zcw (n₀:=w0.heap.size) (λW'=>MemOk y (memA chip (expP chip l)) W'/\Z2 w0 W') ?_ ?_ ds _ hnd hm2 ⟨hy4,hs2⟩
   ·rintro W' D hD ⟨k1,k2⟩ hk
    have hg:=grownBy_putObj' W' D (.deferred none)
    exact⟨k1.grown hg (λr e=>by cases e;exact⟨_,hk,rfl⟩),Zb7 k2 hg (λr e=>by cases e;exact hD)⟩
   ·rintro W' ⟨k1,k2⟩
    refine⟨tipVal s,?_,s,y,rfl,hy6,hy2,hy3,hy1,k1,k2⟩
    simp[results,Try.f11,go_sem]
end
end Go.Proofs.Ytlgmapcjapofoaa
namespace Go.Proofs.Ytlgmapcjapofoaa
open Go Go.S3 Go.Proofs Go.RowKit
noncomputable section
abbrev Zmy:List Sh:=[.one (R.int i64),.one (.sl Zab)]
abbrev ZlC:Entry:=newE ZbW 46 Zmy (λa=>some (Nat.ble (expP a.1 a.2).length most)) (λa=>expP a.1 a.2)
set_option maxHeartbeats 1000000 in
theorem Zlc:Za Try.prog 11 ZlC:=by
 refine⟨Try.call11,λvs m=> ?_,λvs m q hq hc x w args hm hv=> ?_⟩
 ·simp only
  split
  ·intro q hq
   simp only[oinj] at hq;subst hq
   exact⟨Nat.le_refl _,λb l hl=>⟨l,hl,rfl,λ_ _=>rfl⟩,by simp,λi g hg=>⟨g,by
    show nth (m.stgs++[_]) i=some g
    rw[Zb,List.getElem?_append_left (Zm hg),<-Zb];exact hg,Nat.le_refl _,λ_=>rfl⟩⟩
  ·intro q hq;simp at hq
 ·simp only at hq
  split at hq
  ·rename_i a ha
   simp only[RT.val,oinj] at hq
   subst hq
   obtain⟨hargs,hin⟩:=ZcG ha hv
   obtain⟨chip,l⟩:=a
   have hlen:(expP chip l).length<=most:=by
    cases hb:Nat.ble (expP chip l).length most with
    |true=>simpa [Nat.ble_eq] using hb
    |false=>simp only[hb] at hc;exact absurd rfl hc
   match args,hargs with
   |[v0,v1],hargs=>
    have hv0:RA x (.int false .i64 chip) v0:=hargs.1
    have hv1:RA x (.lst Zab false false false l) v1:=hargs.2.1
    have hchip:inR .i64 chip:=hin.1
    have hok:∀y∈(l:List ITMT),Zab.ok y:=(hin.2:(R.sl Zab).ok l).2
    cases hv0
    have key:=ZmA 5 (Nat.le_refl _) v1 chip l x.fz (heldI hv1) hok hlen w (λT T'=>init7 hm hchip T T')
    refine (callsIn_wide.1 key).mono ?_
    rintro e w' ⟨s,y,rfl,hver,hM,hS,hxc,hmok,hs⟩
    have hext:Ext (Ctx.own0 w x.fz) {y with own:=(Ctx.own0 w x.fz).own}:=⟨rfl,λb p e=>by simp[Ctx.own0,Zd] at e,λb p e=>by simp[Ctx.own0,Zd] at e,hxc.fzl,λb o v e=>(hxc.fzn b o v e).imp id id⟩
    obtain⟨h3,h4⟩:=ZkE hm hext hmok.fz hs.1
    have hs0:nth y.S 0=some s:=by rw[hS];rfl
    have hok0:=hmok.stg 0 (stgP (expP chip l) 0) s rfl hs0
    have hown:∀p cap,s.blk=some (p,cap)->w.heap.size<=p:=λp cap hp=>by
     have:=(hmok.sown 0 s p cap hs0 hp).1
     rw[hxc.own] at this
     exact this.1
    have hat:atomic (tipVal s):=by unfold tipVal;split<;>trivial
    have hj:=h3.joinS (g:=newG ZbW 46 (expP chip l)) (s:=s)
     (λp cap hp=>by
      have hp:=hown p cap hp
      exact⟨hm.fresh p hp,λb hb=>by have:=hm.M_lt hb;omega,λi s' cap' hs' hb=>by have:=hm.S_lt hs' hb;omega⟩)
     ⟨hver,hok0.n,hok0.wd,hok0.nil,λp cap hp=>by
      obtain⟨C,a1,a2,a3,a4,a5,a6,a7,a8⟩:=hok0.row p cap hp
      refine⟨C,a1,a2,a3,a4,λi j a' hi ha'=> ?_,a6,a7,a8⟩
      obtain⟨v,e1,e2⟩:=a5 i j a' hi ha'
      exact⟨v,e1,e2.plain (λ_ _ _ e=>e) (R.enc_plain _ _ _ (ZZ ha'))⟩,λ_=>hok0.fzn rfl,λh=>by simp at h,λh=>by simp at h⟩
    refine⟨tipVal s,_,rfl,?_,hj.1,h4.trans hj.2,hs.step hm⟩
    refine RA.tip _ _ _ s _ ?_ (Nat.zero_le _) (λ_=>rfl) hat
    rw[Zb,Zs,<-hm.sl];simp
   |[],hargs=>exact hargs.elim
   |[_],hargs=>exact hargs.2.elim
   |_::_::_::_,hargs=>exact hargs.2.2.elim
  ·simp[RT.val] at hq
def Zld:Entry:=frzE ZlC
theorem ZhT:Za Try.prog 11 Zld:=Zmz Zlc
end
end Go.Proofs.Ytlgmapcjapofoaa
open Go Go.S3 Go.Proofs
set_option maxRecDepth 100000
namespace Go.Proofs.Ytlgmapcjapofoaa
noncomputable section
abbrev Zik:List Sh:=[Sh.one (R.int i64),Sh.one (R.int i64)]
abbrev ZfO:Rs:=Rs.one (Sh.one (R.int i64))
def Zeb (x:Int) (n:Int):RT (Option (Int)):=
 .br (IntKind.u64.wrap n !=0) (.leaf (some (i64.wrap (Int.tmod (IntKind.u64.wrap x) (IntKind.u64.wrap n))))) (.leaf none)
def Ze3 (x:Int) (n:Int):Int:=getO ZfO.dflt (Zeb x n).val
def Zec (x:Int) (n:Int):Bool:=okB (Zeb x n).val
def ZfP:Entry:=ZU Zik ZfO (λa=>some (Zec a.1 a.2)) (λa=>Ze3 a.1 a.2)
theorem Zea:Za Try.prog 13 ZfP:=
 pureP 31 [] [] Zik ZfO trivial Try.func13 Try.call13 trivial (t:=λa=>Zeb a.1 a.2)
abbrev ZhF:R:=R.pair (R.sl (R.int i64)) (R.int i64)
abbrev ZjH:List Sh:=[Sh.one (R.int i64)]
abbrev ZhE:Rs:=Rs.one (Sh.one (R.int i64))
def Zd4 (s:List Int×Int) (n:Int):RT (Option (QT2)):=
 let x1:=ZaC (i64.wrap (i64.wrap (s.2+1)-1)) (List.length s.1)
 let x2:Int:=R.get (R.int i64) s.1 (i64.wrap (i64.wrap (s.2+1)-1))
 .br (decide (s.2>=iN (List.length s.1))) (.leaf (some ((0,s.1,i64.wrap (s.2+1))))) (.br (!x1||Zec x2 n) (.br (x1) (.leaf (some ((Ze3 x2 n,s.1,i64.wrap (s.2+1))))) (.leaf none)) (.leaf none))
def Ze (s:List Int×Int) (n:Int):QT2:=getO (ZhE.dflt,ZhF.dflt) (Zd4 s n).val
def ZaN (s:List Int×Int) (n:Int):Bool:=okB (Zd4 s n).val
def Zgu:Entry:=boxE ZhF ZjH ZhE (λa=>some (ZaN a.1 a.2)) (λa=>Ze a.1 a.2)
theorem ZdF:Za Try.prog 15 Zgu:=
 Zga (P:=Try.prog) (n:=31) (k:=8) (l:=[(13,ZfP)]) (ol:=[]) ⟨Zea,Tv⟩ Try.func15 rfl (by kernel_rfl) Try.call15 trivial (rb:=ZhF) (ts:=ZjH) (rs:=ZhE) (t:=λa=>Zd4 a.1 a.2) (λa=>by kernel_rfl)
abbrev ZhH:R:=R.pair (R.sl (R.int i64)) (R.int i64)
abbrev ZjI:List Sh:=[]
abbrev ZhG:Rs:=Rs.one (Sh.one (R.int u8))
def Zd5 (s:List Int×Int):RT (Option (QT2)):=
 let x1:List Int:=[0,1,127,128,255,15,16,153,154,9,102,254,129,85,170,64]
 .br (ZaN s 512) (.br (!decide ((Ze s 512).1>=256)||ZaC (Int.tmod (Ze s 512).1 16) (List.length x1)) (.br (decide ((Ze s 512).1>=256)) (.leaf (some ((R.get (R.int u8) x1 (Int.tmod (Ze s 512).1 16),(Ze s 512).2)))) (.leaf (some ((u8.wrap (Ze s 512).1,(Ze s 512).2))))) (.leaf none)) (.leaf none)
def ZbX (s:List Int×Int):QT2:=getO (ZhG.dflt,ZhH.dflt) (Zd5 s).val
def Ze1 (s:List Int×Int):Bool:=okB (Zd5 s).val
def ZjJ:Entry:=boxE ZhH ZjI ZhG (λa=>some (Ze1 a.1)) (λa=>ZbX a.1)
theorem Zih:Za Try.prog 17 ZjJ:=
 Zga (P:=Try.prog) (n:=15) (k:=8) (l:=[(15,Zgu)]) (ol:=[]) ⟨ZdF,Tv⟩ Try.func17 rfl (by kernel_rfl) Try.call17 trivial (rb:=ZhH) (ts:=ZjI) (rs:=ZhG) (t:=λa=>Zd5 a.1) (λa=>by kernel_rfl)
abbrev ZhD:R:=R.pair (R.sl (R.int i64)) (R.int i64)
abbrev ZjF:List Sh:=[]
abbrev ZhC:Rs:=Rs.one (Sh.one (R.int u16))
def Zcu (s:List Int×Int):RT (Option (QT2)):=
 let x1:List Int:=[0,1,65535,65534,32767,32768,255,256]
 let x2:= !(Ze s 5).1==0||(!ZaN (Ze s 5).2 8||ZaC (Ze (Ze s 5).2 8).1 (List.length x1))
 let x3:= !x2
 let x4:= !(Ze s 5).1==0||ZaN (Ze s 5).2 8
 .br (ZaN s 5) (.br (x3||(!x4||((Ze s 5).1==0||(!(Ze s 5).1==1||ZaN (Ze s 5).2 65536)))) (.br (x3||x4) (.br (x2) (.br ((Ze s 5).1==0) (.leaf (some ((R.get (R.int u16) x1 (Ze (Ze s 5).2 8).1,(Ze (Ze s 5).2 8).2)))) (.br ((Ze s 5).1==1) (.leaf (some ((u16.wrap (Ze (Ze s 5).2 65536).1,(Ze (Ze s 5).2 65536).2)))) (.br (ZaN (Ze s 5).2 64) (.leaf (some ((u16.wrap (Ze (Ze s 5).2 64).1,(Ze (Ze s 5).2 64).2)))) (.leaf none)))) (.leaf none)) (.leaf none)) (.leaf none)) (.leaf none)
def Za0 (s:List Int×Int):QT2:=getO (ZhC.dflt,ZhD.dflt) (Zcu s).val
def Zdk (s:List Int×Int):Bool:=okB (Zcu s).val
def ZjG:Entry:=boxE ZhD ZjF ZhC (λa=>some (Zdk a.1)) (λa=>Za0 a.1)
theorem Zig:Za Try.prog 16 ZjG:=
 Zga (P:=Try.prog) (n:=4135) (k:=8) (l:=[(15,Zgu)]) (ol:=[]) ⟨ZdF,Tv⟩ Try.func16 rfl (by kernel_rfl) Try.call16 trivial (rb:=ZhD) (ts:=ZjF) (rs:=ZhC) (t:=λa=>Zcu a.1) (λa=>by kernel_rfl)
def NB (s:List Int×Int) (k:Int):Prop:=0<=s.2/\s.2<=k
theorem ZgB (x n:Int) (h0:0<n) (h1:n<=4611686018427387904):Zec x n=true/\Ze3 x n=(x%18446744073709551616)%n:=by
 have e:IntKind.wrap .u64 n=n:=ZlJ ⟨by simp[IntKind.min,IntKind.signed];omega,by simp[IntKind.max,IntKind.signed,IntKind.bits];omega⟩
 have e2:IntKind.wrap .u64 x=x%18446744073709551616:=by simp[IntKind.wrap,IntKind.signed,IntKind.bits]
 have hn:(n !=0)=true:=by simp;omega
 have h2:0<=x%18446744073709551616:=Int.emod_nonneg _ (by decide)
 have h3:=Int.emod_nonneg (x%18446744073709551616) (b:=n) (by omega)
 have h4:=Int.emod_lt_of_pos (x%18446744073709551616) (b:=n) h0
 have hv:(Zeb x n).val=some ((x%18446744073709551616)%n):=by
  simp only[Zeb,RT.val,e,e2,hn,cond_true,Int.tmod_eq_emod_of_nonneg h2]
  rw[Zcj _ (by omega) (by omega)]
 exact⟨by simp only[Zec,hv];rfl,by simp only[Ze3,hv,getO]⟩
theorem Zbi {s:List Int×Int} {k:Int} (h:NB s k) (hk:k<=1000000) (n:Int) (h0:0<n) (h1:n<=4611686018427387904):
  ZaN s n=true/\NB (Ze s n).2 (k+1)/\0<=(Ze s n).1/\(Ze s n).1<n:=by
 obtain⟨ha,hb⟩:=h
 have e1:IntKind.wrap .i64 (s.2+1)=s.2+1:=Zcj _ (by omega) (by omega)
 have e2:IntKind.wrap .i64 s.2=s.2:=Zcj _ (by omega) (by omega)
 by_cases hl:(s.1.length:Int)<=s.2
 ·have hv:(Zd4 s n).val=some (0,s.1,s.2+1):=by simp[Zd4,RT.val,iN,hl,e1]
  simp only[ZaN,Ze,hv,okB,getO,NB]
  exact⟨trivial,⟨by omega,by omega⟩,by omega,h0⟩
 ·have hr:ZaC s.2 s.1.length=true:=Zat.2 ⟨ha,by omega⟩
  obtain⟨p1,p2⟩:=ZgB (R.get (R.int i64) s.1 s.2) n h0 h1
  have h3:=Int.emod_nonneg (R.get (R.int i64) s.1 s.2%18446744073709551616) (b:=n) (by omega)
  have h4:=Int.emod_lt_of_pos (R.get (R.int i64) s.1 s.2%18446744073709551616) (b:=n) h0
  have hv:(Zd4 s n).val=some ((R.get (R.int i64) s.1 s.2%18446744073709551616)%n,s.1,s.2+1):=by simp[Zd4,RT.val,iN,hl,e1,e2,hr,p1,p2]
  simp only[ZaN,Ze,hv,okB,getO,NB]
  exact⟨trivial,⟨by omega,by omega⟩,h3,h4⟩
theorem Zk2 {s:List Int×Int} {k:Int} (h:NB s k) (hk:k<=1000000):Ze1 s=true/\NB (ZbX s).2 (k+1)/\inR .u8 (ZbX s).1:=by
 obtain⟨c,b,d0,d1⟩:=Zbi h hk 512 (by decide) (by decide)
 have m0:0<=(Ze s 512).1%16:=Int.emod_nonneg _ (by decide)
 have m1:(Ze s 512).1%16<16:=Int.emod_lt_of_pos _ (by decide)
 have ht:Int.tmod (Ze s 512).1 16=(Ze s 512).1%16:=Int.tmod_eq_emod_of_nonneg d0
 by_cases hn:256<=(Ze s 512).1
 ·have hv:(Zd5 s).val=some (R.get (R.int u8) [0,1,127,128,255,15,16,153,154,9,102,254,129,85,170,64] ((Ze s 512).1%16),(Ze s 512).2):=by
   simp[Zd5,RT.val,c,hn,ht,ZaC,m0,m1]
  simp only[Ze1,ZbX,hv,okB,getO]
  refine⟨trivial,b,?_⟩
  have hall:∀i:Nat,i<16->inR .u8 (([0,1,127,128,255,15,16,153,154,9,102,254,129,85,170,64]:List Int).getD i 0):=by
   intro i hi
   have:∀i:Fin 16,decide (0<=([0,1,127,128,255,15,16,153,154,9,102,254,129,85,170,64]:List Int).getD i 0)&&decide (([0,1,127,128,255,15,16,153,154,9,102,254,129,85,170,64]:List Int).getD i 0<=255):=by decide
   have:=this ⟨i,hi⟩
   rw[Zmu];simpa using this
  exact hall ((Ze s 512).1%16).toNat (by omega)
 ·have hv:(Zd5 s).val=some (IntKind.wrap .u8 (Ze s 512).1,(Ze s 512).2):=by simp[Zd5,RT.val,c,hn]
  simp only[Ze1,ZbX,hv,okB,getO]
  exact⟨trivial,b,Zan _ _⟩
theorem Zk1 {s:List Int×Int} {k:Int} (h:NB s k) (hk:k<=900000):Zdk s=true/\NB (Za0 s).2 (k+2)/\inR .u16 (Za0 s).1:=by
 obtain⟨c,b,d0,d1⟩:=Zbi h (by omega) 5 (by decide) (by decide)
 obtain⟨c8,b8,e0,e1⟩:=Zbi b (by omega) 8 (by decide) (by decide)
 obtain⟨c6,b6,_⟩:=Zbi b (by omega) 65536 (by decide) (by decide)
 obtain⟨c4,b4,_⟩:=Zbi b (by omega) 64 (by decide) (by decide)
 have w:∀{t:List Int×Int},NB t (k+1+1)->NB t (k+2):=λh=>⟨h.1,by have:=h.2;omega⟩
 have hr:ZaC (Ze (Ze s 5).2 8).1 8=true:=Zat.2 ⟨e0,by omega⟩
 by_cases h0:(Ze s 5).1=0
 ·have hv:(Zcu s).val=some (R.get (R.int u16) [0,1,65535,65534,32767,32768,255,256] (Ze (Ze s 5).2 8).1,(Ze (Ze s 5).2 8).2):=by
   simp[Zcu,RT.val,c,h0,c8,hr]
  simp only[Zdk,Za0,hv,okB,getO]
  refine⟨trivial,w b8,?_⟩
  have hall:∀i:Nat,i<8->inR .u16 (([0,1,65535,65534,32767,32768,255,256]:List Int).getD i 0):=by
   intro i hi
   have:∀i:Fin 8,decide (0<=([0,1,65535,65534,32767,32768,255,256]:List Int).getD i 0)&&decide (([0,1,65535,65534,32767,32768,255,256]:List Int).getD i 0<=65535):=by decide
   have:=this ⟨i,hi⟩
   simp only[Bool.and_eq_true,decide_eq_true_eq] at this
   exact⟨by simpa [IntKind.min,IntKind.signed] using this.1,by simpa [IntKind.max,IntKind.signed,IntKind.bits] using this.2⟩
  exact hall (Ze (Ze s 5).2 8).1.toNat (by omega)
 ·by_cases h1:(Ze s 5).1=1
  ·have hv:(Zcu s).val=some (IntKind.wrap .u16 (Ze (Ze s 5).2 65536).1,(Ze (Ze s 5).2 65536).2):=by simp[Zcu,RT.val,c,h1,c6]
   simp only[Zdk,Za0,hv,okB,getO]
   exact⟨trivial,w b6,Zan _ _⟩
  ·have hv:(Zcu s).val=some (IntKind.wrap .u16 (Ze (Ze s 5).2 64).1,(Ze (Ze s 5).2 64).2):=by
    have g0:((Ze s 5).1==0)=false:=by simpa using h0
    have g1:((Ze s 5).1==1)=false:=by simpa using h1
    simp[Zcu,RT.val,c,g0,g1,c4]
   simp only[Zdk,Za0,hv,okB,getO]
   exact⟨trivial,w b4,Zan _ _⟩
abbrev ZgP:List Sh:=[Sh.one (R.sl Zab)]
abbrev Zem:Rs:=Rs.tup [Sh.one (R.int i64),Sh.one (R.int i64),Sh.one (R.int i64),Sh.one (R.int i64),Sh.one (R.int i64)]
def ZiZ:LS:={n:=52,slots:=[(2,.code (Sh.one (R.int i64))),(3,.code (Sh.one (R.int i64))),(4,.code (Sh.one (R.int i64))),(5,.code (Sh.one (R.int i64))),(6,.code (Sh.one (R.int i64))),(10,.code (Sh.one (R.sl Zab))),(11,.code (Sh.one (R.int i64))),(12,.code (Sh.one (R.int i64)))],boxes:=[],stgs:=[]}
def Ze9 (a:QT0):RT (Option (Go1 (QT0))):=
 let x1:ITMT:=R.get Zab a.2.2.2.2.2.1 a.2.2.2.2.2.2.2.1
 let x2:=x1.1
 let x3:=x1.2.2
 let x4:=x3.2.1
 let x5:Int:=if 0>x4 then 0 else x4
 let x6:=x3.1
 let x7:List ITMT×Int×Int×PUnit:=(a.2.2.2.2.2.1,a.2.2.2.2.2.2.1,i64.wrap (a.2.2.2.2.2.2.2.1+1),PUnit.unit)
 let x8:Int×List ITMT×Int×Int×PUnit:=(a.2.2.2.2.1,x7)
 let x9:Int×Int×List ITMT×Int×Int×PUnit:=(a.2.2.2.1,x8)
 .br (decide (a.2.2.2.2.2.2.2.1<a.2.2.2.2.2.2.1)) (.br (ZaC a.2.2.2.2.2.2.2.1 (List.length a.2.2.2.2.2.1)) (.br (x2==1) (.leaf (some (Go1.cont (i64.wrap (a.1+x5),i64.wrap (a.2.1+if 0>x6 then 0 else x6),a.2.2.1,x9)))) (.br (x2==2) (.leaf (some (Go1.cont (a.1,a.2.1,i64.wrap (a.2.2.1+x5),x9)))) (.br (x2==3) (.leaf (some (Go1.cont (a.1,a.2.1,a.2.2.1,i64.wrap (a.2.2.2.1+x5),x8)))) (.leaf (some (Go1.cont (a.1,a.2.1,a.2.2.1,a.2.2.2.1,bif x2==4 then i64.wrap (a.2.2.2.2.1+x5) else a.2.2.2.2.1,x7))))))) (.leaf none)) (.leaf (some (Go1.brk (a.1,a.2.1,a.2.2.1,a.2.2.2.1,a.2.2.2.2.1,a.2.2.2.2.2.1,a.2.2.2.2.2.2.1,a.2.2.2.2.2.2.2.1,PUnit.unit))))
def Zfa:Ora:=ZjM false ZiZ Ze9 (λa=>1000000000000)
theorem ZgQ:ZeG (envX Try.prog [] [] 2269892314111 8) (.block 0 (.loop (Zfg Try.f20.body 0))) Zfa:=
 loopP trivial
def ZfW (l:List ITMT):RT (Option (Int×Int×Int×Int×Int)):=
 let x1:QT0:=(0,0,0,0,0,l,iN (List.length l),0,())
 let x2:=runF false Ze9 (λa=>1000000000000) x1
 let x3:QT0:=(getO (false,x1) x2).2
 let x4:=x3.2
 let x5:=x4.2
 let x6:=x5.2
 .br (okB x2) (.leaf (some ((x3.1,x4.1,x5.1,x6.1,x6.2.1)))) (.leaf none)
def Zj6 (l:List ITMT):Int×Int×Int×Int×Int:=getO Zem.dflt (ZfW l).val
def Zit (l:List ITMT):Bool:=okB (ZfW l).val
def Zis:Entry:=ZU ZgP Zem (λa=>some (Zit a)) (λa=>Zj6 a)
theorem ZiY:Za Try.prog 20 Zis:=
 pureP 2269892314111 [] [(0,Zfa)] ZgP Zem trivial Try.func20 Try.call20 ⟨ZgQ,Tv⟩ (t:=λa=>ZfW a)
abbrev Zir:List Sh:=[Sh.one (R.int i64),Sh.one (R.sl Zab)]
abbrev ZfV:Rs:=Rs.one (Sh.one R.bool)
def Zj3:LS:={n:=96,slots:=[(1,.code (Sh.one (R.sl Zab))),(4,.code (Sh.one R.bool)),(10,.code (Sh.one (R.sl Zab))),(11,.code (Sh.one (R.int i64))),(12,.code (Sh.one (R.int i64)))],boxes:=[],stgs:=[]}
def ZgN (a:List ITMT×Bool×List ITMT×Int×Int×PUnit):RT (Option (Go1 (List ITMT×Bool×List ITMT×Int×Int×PUnit))):=
 let x1:=i64.wrap (a.2.2.2.2.1+1)==iN (List.length a.1)
 let x2:=x1||ZaC (i64.wrap (a.2.2.2.2.1+1)) (List.length a.1)
 let x3:= !x2
 let x4:ITMT:=R.get Zab a.2.2.1 a.2.2.2.2.1
 let x5:=x4.1
 let x6:=x5==1
 let x7:=x6&& !Zmx x4 (x1||(R.get Zab a.1 (i64.wrap (a.2.2.2.2.1+1))).1==4)
 let x8:=x4.2.2
 let x9:=x8.2
 let x10:=(gRep x4).1==0||(decide (x9.1<1)||x8.1 !=0)
 let p1:=x10::x6::x7::x3::(!ZaC a.2.2.2.2.1 (List.length a.2.2.1))::[]
 let x11:=ZaC (i64.wrap (a.2.2.2.2.1-1)) (List.length a.1)
 let x12:= !x11
 let x13:ITMT:=R.get Zab a.1 (i64.wrap (a.2.2.2.2.1-1))
 let x14:=x13.1==x5
 let x15:= !x14
 let x16:=x13.2.2.2.2
 let x17:=x9.2
 let x18:=x16.1==x17.1
 let p2:=(!x18)::x12::x15::x12::(!decide (a.2.2.2.2.1>0))::[]
 let x19:=orR p2 x11
 let x20:= !x19
 let p3:=x20::p1
 let x21:= !decide (a.2.2.2.2.1>0)||(x12||(x15||x11))
 let p4:=(!decide (a.2.2.2.2.1>0))::(!x21)::p3
 let x22:List ITMT×Int×Int×PUnit:=(a.2.2.1,a.2.2.2.1,a.2.2.2.2.1,PUnit.unit)
 .br (decide (a.2.2.2.2.1<a.2.2.2.1)) (.br (orR p4 x11) (.br (orR p3 x21) (.br (orR p1 x19) (.br (!ZaC a.2.2.2.2.1 (List.length a.2.2.1)||x2) (.br (ZaC a.2.2.2.2.1 (List.length a.2.2.1)) (.br (x7) (.leaf (some (Go1.ret (a.1,false,x22)))) (.br (x6) (.leaf (some (Go1.cont (a.1,a.2.1,a.2.2.1,a.2.2.2.1,i64.wrap (a.2.2.2.2.1+1),PUnit.unit)))) (.br (x10) (.leaf (some (Go1.ret (a.1,false,x22)))) (.br (decide (a.2.2.2.2.1>0)&&(x14&&(x18&&x16.2==x17.2))) (.leaf (some (Go1.ret (a.1,false,x22)))) (.leaf (some (Go1.cont (a.1,a.2.1,a.2.2.1,a.2.2.2.1,i64.wrap (a.2.2.2.2.1+1),PUnit.unit)))))))) (.leaf none)) (.leaf none)) (.leaf none)) (.leaf none)) (.leaf none)) (.leaf (some (Go1.brk (a.1,a.2.1,x22))))
def ZgO:Ora:=ZjM true Zj3 ZgN (λa=>1000000000000)
theorem ZhS:ZeG (envX Try.prog [(27,Zkb),(28,Zl2)] [] 1023 8) (.block 0 (.loop (Zfg Try.f21.body 0))) ZgO:=
 loopP ⟨Ziu,Zj7,Tv⟩
def ZhR (k:Int) (l:List ITMT):RT (Option (Bool)):=
 let x1:=runF true ZgN (λa=>1000000000000) (l,false,l,iN (List.length l),0,())
 let x2:=getO (false,l,false,l,iN (List.length l),0,()) x1
 .br (okB x1) (.br x2.1 (.leaf (some x2.2.2.1)) (.leaf (some (true)))) (.leaf none)
def Zmv (k:Int) (l:List ITMT):Bool:=getO ZfV.dflt (ZhR k l).val
def Zj5 (k:Int) (l:List ITMT):Bool:=okB (ZhR k l).val
def Zj4:Entry:=ZU Zir ZfV (λa=>some (Zj5 a.1 a.2)) (λa=>Zmv a.1 a.2)
theorem Zj2:Za Try.prog 21 Zj4:=
 pureP 1023 [(27,Zkb),(28,Zl2)] [(0,ZgO)] Zir ZfV ⟨Ziu,Zj7,Tv⟩ Try.func21 Try.call21 ⟨ZhS,Tv⟩ (t:=λa=>ZhR a.1 a.2)
abbrev Zlw:List Sh:=[]
abbrev ZjT:Rs:=Rs.one (Sh.one R.bool)
def Zk6:RT (Option (Bool)):=
 let x1:List ITMT:=[(1,(1,0,0,4),1,4,false,false)]
 let x2:=expP 2 x1
 let x3:List PINT:=Stg.l (newG ZbW 46 x2)
 let x4:Nat:=List.length x3
 let x5:= !iN x4==5
 let x6:=x5||ZaC 0 x4
 let x7:= !x6
 let x8:= !(R.get (Stg.r (newG ZbW 46 x2)) x3 0).2.2.2.2.2.2.2.1
 let x9:=x5||(x8||ZaC 2 x4)
 let x10:= !x9
 let x11:= !(R.get (Stg.r (newG ZbW 46 x2)) x3 2).1==7
 let x12:=x5||(x8||(x11||ZaC 4 x4))
 let x13:=Zj6 x1
 let p1:=(!x13.2.1==1)::(!x13.1==4)::(!(R.get (Stg.r (newG ZbW 46 x2)) x3 4).1==4)::x11::x8::x5::(!x12)::x10::x7::[]
 .br (Nat.ble (List.length x2) most) (.br (Zit x1) (.br (orR p1 (Zj5 2 x1)) (.br (x7||(x10||x12)) (.br (x7||x9) (.br (x6) (.leaf (some (true))) (.leaf none)) (.leaf none)) (.leaf none)) (.leaf none)) (.leaf none)) (.leaf none)
def kKnG:Bool:=getO ZjT.dflt (Zk6).val
def ZjU:Bool:=okB (Zk6).val
def ZlZ:Entry:=ZU Zlw ZjT (λa=>some (ZjU)) (λa=>kKnG)
theorem ZjS:Za Try.prog 8 ZlZ:=
 pureP 255 [(11,Zld),(20,Zis),(21,Zj4)] [] Zlw ZjT ⟨ZhT,ZiY,Zj2,Tv⟩ Try.func8 Try.call8 trivial (t:=λa=>Zk6)
def Z7:Entry:=.tree (ZaY (envX Try.prog [] [] 7 8) Try.f14)
theorem Zaz:Za Try.prog 14 Z7:=Ze7 (P:=Try.prog) (n:=7) (k:=8) (l:=[]) (ol:=[]) trivial Try.func14 rfl (by kernel_rfl) Try.call14 trivial
abbrev ZjQ:List Sh:=[Sh.one (R.sl (R.int i64)),Sh.one (R.int i64)]
abbrev ZhK:Rs:=Rs.one (Sh.one R.bool)
def Zk4:LS:={n:=108,slots:=[(4,.code (Sh.one R.bool)),(7,.fix (A.loc 1 0)),(8,.tip 0),(43,.code (Sh.one (R.int i64))),(44,.code (Sh.one (R.int i64)))],boxes:=[[.code (.sl (R.int i64)),.code (.int i64)],[.many (RY)]],stgs:=[⟨R.pair (R.int i64) (R.pair (R.int u16) (R.pair (R.int u8) (R.pair R.bool (R.pair R.bool (R.pair R.bool (R.pair R.bool (R.pair R.bool rcLIN))))))),46,true⟩]}
def ZbQ (a:QT1):RT (Option (Go1 (QT1))):=
 let x1:=ZaC a.2.2.1 (List.length a.2.2.2.2.2.2.1)
 let x2:= !x1
 let x3:PINT:=R.get ZbW a.2.2.2.2.2.2.1 a.2.2.1
 let x4:=x3.2
 let x5:=x4.1 !=a.2.2.2.2.2.1.2.1
 let x6:=x3.1 !=i64.wrap (a.2.2.1+1)
 let p1:=x6::x2::x5::x2::[]
 let x7:=x4.2.2.2.2.2.2.2.2.2.2.2.2.2.2
 let x8:=x7.2
 let p2:=x8::x2::p1
 let x9:=orR p2 x1
 let x10:= !x9
 let x11:=orR p1 x1
 let x12:= !x11
 let x13:=x2||(x5||x1)
 let x14:List Int×Int×TY×List PINT×PUnit:=(a.2.2.2.1,a.2.2.2.2.1,a.2.2.2.2.2.1,a.2.2.2.2.2.2.1,PUnit.unit)
 let x15:Int×Int×List Int×Int×TY×List PINT×PUnit:=(a.2.1,a.2.2.1,x14)
 .br (decide (a.2.2.1<a.2.1)) (.br (x10||(x12||(!x13||x1))) (.br (x10||(x12||x13)) (.br (x10||x11) (.br (x9) (.br (x5||(x6||(x8||x7.1))) (.leaf (some (Go1.ret (false,x15)))) (.leaf (some (Go1.cont (a.1,a.2.1,i64.wrap (a.2.2.1+1),x14))))) (.leaf none)) (.leaf none)) (.leaf none)) (.leaf none)) (.leaf (some (Go1.brk (a.1,x15))))
def Zio:Ora:=ZjM true Zk4 ZbQ (λa=>20)
theorem ZiU:ZeG (envX Try.prog [(8,ZlZ),(11,Zld),(13,ZfP),(14,Z7),(15,Zgu),(16,ZjG),(17,ZjJ),(18,Zhn),(19,Zfw)] [] 1023 8) (.block 0 (.loop (Zfg Try.f5.body 0))) Zio:=
 loopP ⟨ZjS,ZhT,Zea,Zaz,ZdF,Zig,Zih,Zgm,ZeT,Tv⟩
def Ze5 (n:List Int) (chip:Int):RT (Option (Bool)):=
 let x1:=i64.wrap (3+(Ze (ZbX (Za0 (Ze (n,0) 12).2).2).2 4).1)
 let x2:Int×Int×Int×Int:=(i64.wrap (1+(Ze (n,0) 12).1),(Za0 (Ze (n,0) 12).2).1,(ZbX (Za0 (Ze (n,0) 12).2).2).1,x1)
 let x3:List PINT:=expP (i64.wrap (1+Ze3 chip 2)) [(1,x2,0,x1,false,false)]
 let x4:List PINT:=Stg.l (newG ZbW 46 x3)
 let x5:=iN (List.length x4)
 let x6:QT1:=(false,x5,0,(Ze (ZbX (Za0 (Ze (n,0) 12).2).2).2 4).2.1,(Ze (ZbX (Za0 (Ze (n,0) 12).2).2).2 4).2.2,x2,x4,())
 let x7:=runF true ZbQ (λa=>20) x6
 let x8:=getO (false,x6) x7
 let x9:=x8.2
 let x10:=x9.2.2.2.2.2
 let x11:=x10.1
 let x12:=x11.1
 let x13:=Zbr x12
 let x14:=x10.2.1
 let x15:=ZaC 2 (List.length x14)
 let x16:=Zav x12
 let x17:Int×Bool×Bool×Bool×Bool×Bool×LINT:=(R.get ZbW x14 2).2.2
 let x18:=x17.1 !=x11.2.2.1
 let x19:=x17.2.2.2.2.2.2.2.2.2.2.2.2.1==x16
 .br (!decide (iN (List.length n)>60)||ZjU) (.br (decide (iN (List.length n)>60)) (.leaf (some (true))) (.br (Zec chip 2) (.br (!ZaN (n,0) 12||(!Zdk (Ze (n,0) 12).2||(!Ze1 (Za0 (Ze (n,0) 12).2).2||ZaN (ZbX (Za0 (Ze (n,0) 12).2).2).2 4))) (.br (!ZaN (n,0) 12||(!Zdk (Ze (n,0) 12).2||Ze1 (Za0 (Ze (n,0) 12).2).2)) (.br (!ZaN (n,0) 12||Zdk (Ze (n,0) 12).2) (.br (ZaN (n,0) 12) (.br (Nat.ble (List.length x3) most) (.br (x5 !=x1) (.leaf (some (false))) (.br (okB x7) (.br x8.1 (.leaf (some x9.1)) (.br (!x13||x15) (.br (x13||(!x16||x15)) (.br (bif x13 then x18 else x16&&x18) (.leaf (some (false))) (.br (!x15||(!x19||ZjU)) (.br (x15) (.leaf (some (x19&&kKnG))) (.leaf none)) (.leaf none))) (.leaf none)) (.leaf none))) (.leaf none))) (.leaf none)) (.leaf none)) (.leaf none)) (.leaf none)) (.leaf none)) (.leaf none))) (.leaf none)
def ZlY (n:List Int) (chip:Int):Bool:=getO ZhK.dflt (Ze5 n chip).val
def ZjR (n:List Int) (chip:Int):Bool:=okB (Ze5 n chip).val
def Zmq:Entry:=ZU ZjQ ZhK (λa=>some (ZjR a.1 a.2)) (λa=>ZlY a.1 a.2)
theorem lGBus_ok:Za Try.prog 5 Zmq:=
 pureP 1023 [(8,ZlZ),(11,Zld),(13,ZfP),(14,Z7),(15,Zgu),(16,ZjG),(17,ZjJ),(18,Zhn),(19,Zfw)] [(0,Zio)] ZjQ ZhK ⟨ZjS,ZhT,Zea,Zaz,ZdF,Zig,Zih,Zgm,ZeT,Tv⟩ Try.func5 Try.call5 ⟨ZiU,Tv⟩ (t:=λa=>Ze5 a.1 a.2)
theorem Zk5:Zk6.val=some true:=by kernel_rfl
theorem ZhL:kKnG=true/\ZjU=true:=by
 simp only[kKnG,ZjU,Zk5,okB,getO];exact⟨trivial,Tv⟩
def busP (c:Int) (x:TY) (m:Nat):List PINT:=(List.range m).map λk=>pinP c (1,x,0,(m:Int),false,false) ((k+1:Nat):Int)
theorem Zl9 (c:Int) (x:TY) (m:Nat) (h3:3<=m) (h6:m<=6) (hx:x.2.2.2=(m:Int)):expP c [(1,x,0,(m:Int),false,false)]=busP c x m:=by
 have hg:gLim (m:Int) 1 (gLim (m:Int) 3 6)=(m:Int):=by simp only[gLim,Zi0,RT.val];omega
 have hs:stsL (1,x,0,(m:Int),false,false)=(List.range m).map λk=>((k+1:Nat):Int):=by
  unfold stsL
  simp only[hx,hg]
  show stsC (min (0:Int) 65536).toNat m=_
  have:∀k:Nat,(bif k==1 then List.replicate (min (0:Int) 65536).toNat (7:Int) else [])=[]:=λk=>by cases k==1<;>rfl
  simp only[stsC,this]
  rw[<-List.map_eq_flatMap]
 simp only[expP,List.flatMap_cons,List.flatMap_nil,List.append_nil,hs,List.map_map,busP]
 rfl
theorem ZlN (c:Int) (y:ITMT) (t:Int) (h1:1<=t) (h6:t<=6):(pinP c y t).1=t/\(pinP c y t).2.1=y.2.1.2.1/\(pinP c y t).2.2.2.2.2.2.2.2.2.2.2.2.2.2.2=(false,false):=by
 have e1:(decide (t>=1)&&decide (t<=7))=true:=by simp;omega
 have e8:(t==8)=false:=by simp;omega
 have e9:(t==9)=false:=by simp;omega
 have e10:(t==10)=false:=by simp;omega
 unfold pinP ZkY Zid
 cases c==2<;>simp[RT.val,e1,e8,e9,e10]
theorem ZkS (c:Int) (y:ITMT):(Zbr y.2.1.1=true->(pinP c y 3).2.2.1=y.2.1.2.2.1)/\(Zbr y.2.1.1=false->Zav y.2.1.1=true->(pinP c y 3).2.2.1=y.2.1.2.2.1)/\(pinP c y 3).2.2.2.2.2.2.2.2.2.2.2.2.2.2.1=Zav y.2.1.1:=by
 unfold pinP ZkY Zid
 cases c==2<;>cases Zbr y.2.1.1<;>cases Zav y.2.1.1<;>simp[RT.val]
theorem ZiD (c:Int) (x:TY) (m i:Nat) (h:i<m):R.get ZbW (busP c x m) (i:Int)=pinP c (1,x,0,(m:Int),false,false) ((i:Int)+1):=by
 simp[R.get,busP,h]
theorem ZiC (c:Int) (x:TY) (m:Nat):(busP c x m).length=m:=by simp[busP]
theorem Zlm (c:Int) (n1:List Int) (n2:Int) (x:TY) (m:Nat) (h6:m<=6):∃i,runF true ZbQ (λ_=>20) (false,(m:Int),0,n1,n2,x,busP c x m,())=some (false,(false,(m:Int),i,n1,n2,x,busP c x m,())):=by
 obtain⟨r,hr,h1,i,h2⟩:=ZkP (fl:=true) (t:=ZbQ) (fuel:=λ_=>20)
  (λa=>∃i:Nat,i<=m/\a=(false,(m:Int),(i:Int),n1,n2,x,busP c x m,())) (λa=>m-a.2.2.1.toNat)
  (λr=>r.1=false/\∃i,r.2=(false,(m:Int),i,n1,n2,x,busP c x m,()))
  (by
   rintro a ⟨i,hi,rfl⟩
   by_cases hlt:i<m
   ·have k1:decide ((i:Int)<(m:Int))=true:=by simp;omega
    have k2:ZaC (i:Int) (busP c x m).length=true:=Zat.2 ⟨by omega,by rw[ZiC];omega⟩
    have k3:i64.wrap ((i:Int)+1)=(i:Int)+1:=Zcj _ (by omega) (by omega)
    obtain⟨p1,p2,p3⟩:=ZlN c (1,x,0,(m:Int),false,false) ((i:Int)+1) (by omega) (by omega)
    refine .inl ⟨(false,(m:Int),(i:Int)+1,n1,n2,x,busP c x m,()),?_,⟨i+1,by omega,rfl⟩,by simp;omega⟩
    simp[ZbQ,RT.val,hlt,k2,k3,ZiD c x m i hlt,p1,p2,p3,orR]
   ·have k1:decide ((i:Int)<(m:Int))=false:=by simp;omega
    refine .inr (.inl ⟨(false,(m:Int),(i:Int),n1,n2,x,busP c x m,()),?_,rfl,(i:Int),rfl⟩)
    simp[ZbQ,RT.val,hlt])
  (false,(m:Int),0,n1,n2,x,busP c x m,()) ⟨0,Nat.zero_le _,rfl⟩ (by simp;omega)
 obtain⟨r1,r2⟩:=r
 simp only at h1 h2
 subst h1;subst h2
 exact⟨i,hr⟩
theorem lGBus_law (n:List Int) (chip:Int) (hc:inR .i64 chip):ZlY n chip=true/\ZjR n chip=true:=by
 have key:(Ze5 n chip).val=some true:=by
  by_cases hn:iN (List.length n)>60
  ·simp[Ze5,RT.val,hn,ZhL.2]
  ·obtain⟨c1,c2⟩:=ZgB chip 2 (by decide) (by decide)
   obtain⟨a1,a2,a3,a4⟩:=Zbi (s:=(n,0)) (k:=0) ⟨Int.le_refl _,Int.le_refl _⟩ (by decide) 12 (by decide) (by decide)
   obtain⟨b1,b2,b3⟩:=Zk1 a2 (by decide)
   obtain⟨d1,d2,d3⟩:=Zk2 b2 (by decide)
   obtain⟨e1,e2,e3,e4⟩:=Zbi d2 (by decide) 4 (by decide) (by decide)
   have w1:i64.wrap (3+(Ze (ZbX (Za0 (Ze (n,0) 12).2).2).2 4).1)=3+(Ze (ZbX (Za0 (Ze (n,0) 12).2).2).2 4).1:=Zcj _ (by omega) (by omega)
   simp only[Ze5,RT.val]
   rw[w1]
   generalize i64.wrap (1+(Ze (n,0) 12).1)=kk at*
   generalize i64.wrap (1+Ze3 chip 2)=cc at*
   generalize (Za0 (Ze (n,0) 12).2).1=at' at*
   generalize (ZbX (Za0 (Ze (n,0) 12).2).2).1=da at*
   generalize (Ze (ZbX (Za0 (Ze (n,0) 12).2).2).2 4).2.1=n1 at*
   generalize (Ze (ZbX (Za0 (Ze (n,0) 12).2).2).2 4).2.2=n2 at*
   generalize (Ze (ZbX (Za0 (Ze (n,0) 12).2).2).2 4).1=v at*
   obtain⟨m,hm⟩:∃m:Nat,3+v=(m:Int):=⟨(3+v).toNat,by omega⟩
   rw[hm]
   have hm3:3<=m:=by omega
   have hm6:m<=6:=by omega
   have hP:=Zl9 cc (kk,at',da,(m:Int)) m hm3 hm6 rfl
   simp only[hP]
   obtain⟨i,hi⟩:=Zlm cc n1 n2 (kk,at',da,(m:Int)) m hm6
   have hlen:=ZiC cc (kk,at',da,(m:Int)) m
   have G2:R.get ZbW (busP cc (kk,at',da,(m:Int)) m) 2=pinP cc (1,(kk,at',da,(m:Int)),0,(m:Int),false,false) 3:=by
    have:=ZiD cc (kk,at',da,(m:Int)) m 2 (by omega)
    simpa using this
   obtain⟨g1,g2,g3⟩:=ZkS cc (1,(kk,at',da,(m:Int)),0,(m:Int),false,false)
   have hR:ZaC 2 m=true:=Zat.2 ⟨by decide,by omega⟩
   have hble:Nat.ble m most=true:=by rw[Nat.ble_eq];simp only[most];omega
   have hiN:iN m=(m:Int):=rfl
   have hnd:decide (iN (List.length n)>60)=false:=by simpa using hn
   simp only[newG,hlen,hnd,hiN,hi,c1,a1,b1,d1,e1,ZhL.1,ZhL.2,G2,hR,hble,okB,getO,g3]
   have hbne:((m:Int) !=(m:Int))=false:=by simp
   simp only[hbne,beq_self_eq_true,Bool.not_false,Bool.not_true,Bool.false_or,Bool.true_or,Bool.or_true,Bool.or_false,Bool.true_and,Bool.and_true,cond_true,cond_false]
   cases hr:Zbr kk<;>cases hw:Zav kk<;>simp_all
 simp only[ZlY,ZjR,key,okB,getO];exact⟨trivial,Tv⟩
end
end Go.Proofs.Ytlgmapcjapofoaa
