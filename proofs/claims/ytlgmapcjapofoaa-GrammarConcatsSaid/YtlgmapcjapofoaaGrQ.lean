import Derived.Test.YtlgmapcjapofoaaExpB
import Derived.Test.YtlgmapcjapofoaaS3New
import Derived.RangeFuncNested
import Derived.RangeFuncLeaves
import Derived.Shelf.Abstract
import Derived.WalkKit
import Derived.OwnWalkIn
import Derived.TacticsInMore
import Derived.LoopNIn
import Derived.LoopIn
import Derived.Test.YtlgmapcjapofoaaS3D
import Derived.Test.YtlgmapcjapofoaaProg
import Derived.Test.YtlgmapcjapofoaaS3Box1
set_option linter.unusedVariables false
set_option linter.unusedSimpArgs false
namespace Go.Proofs.Ytlgmapcjapofoaa
open Go Go.S3 Go.Proofs Go.RowKit
noncomputable section
variable {n₀:Nat} {ex:Nat->Prop} {fz:Nat->Nat->Option Value} {M:List Nat} {m:Mem} {W W':World}
def memA (chip:Int) (L:List PINT):Mem:=⟨[[.int false .i64 chip],[.tip 0 0]],[stgP L 0]⟩
theorem init7 {x:Ctx} {m:Mem} {w:World} (hm:MemOk x m w) {chip:Int} (hc:inR .i64 chip) (T T':TypeId):
  Xw w.heap.size (λ_=>False) x.fz [w.heap.size,w.heap.size+1] (memA chip []) ((w.alloc (.cells #[.int .i64 chip] T)).alloc (.cells #[.slice none 0 0] T')):=by
 have h0:=ZhE hm
 have hj:=h0.joinS (g:=stgP [] 0) (s:=⟨none,none,0,Za5.wid,0,0⟩) (λp cap h=>by simp at h) ⟨rfl,rfl,rfl,λ_=>⟨rfl,rfl⟩,λp cap h=>by simp at h,λ_=>rfl,λh=>by simp[stgP] at h,λh=>by simp[stgP] at h⟩
 have h1:=ZcD hj.1 (l:=[.int false .i64 chip]) (C:=[.int .i64 chip]) T ⟨.int _ _ _ _ hc,Tv⟩
 have h2:=ZcD h1.1 (l:=[.tip 0 0]) (C:=[.slice none 0 0]) T' ⟨.tip _ _ _ ⟨none,none,0,Za5.wid,0,0⟩ _ rfl (Nat.le_refl _) (λ_=>rfl) trivial,Tv⟩
 have e:(w.alloc (.cells #[.int .i64 chip] T)).heap.size=w.heap.size+1:=World.size_alloc _ _
 have key:=h2.1
 refine⟨{own:=λk=>w.heap.size<=k/\¬False,M:=[w.heap.size,w.heap.size+1],S:=[⟨none,none,0,Za5.wid,0,0⟩],fz:=x.fz},⟨rfl,λ_ _ _ h=>h,λ_ _ _ h=>.inl h⟩,rfl,?_⟩
 have k2:=ZjW key (λk=>w.heap.size<=k/\¬False) (λk hk=>⟨key.fresh k hk,id⟩) (λb p hp=>⟨(key.mown b p hp).1,id⟩) (λi s p cap h5 h6=>⟨(key.sown i s p cap h5 h6).1,id⟩)
 have hM:([]++[w.heap.size])++[(w.alloc (.cells #[.int .i64 chip] T)).heap.size]=[w.heap.size,w.heap.size+1]:=by rw[e];rfl
 exact hM▸k2
theorem ZmW {x:ITMT} (h:Zae.ok x) (y:Ctx):RL y (Zae.enc x) [.int .i64 x.1,.int .i64 x.2.1.1,.int .u16 x.2.1.2.1,.int .u8 x.2.1.2.2.1,.int .i64 x.2.1.2.2.2,.int .i64 x.2.2.1,.int .i64 x.2.2.2.1,.bool x.2.2.2.2.1,.bool x.2.2.2.2.2]:=by
 obtain⟨h1,⟨h2,h3,h4,h5⟩,h6,h7,_⟩:=h
 exact⟨.int _ _ _ _ h1,.int _ _ _ _ h2,.int _ _ _ _ h3,.int _ _ _ _ h4,.int _ _ _ _ h5,.int _ _ _ _ h6,.int _ _ _ _ h7,.bool _ _ _,.bool _ _ _,Tv⟩
theorem Xw.item {b0 b1:List A} {st:List Stg} (h:Xw n₀ ex fz M ⟨[b0,b1],st⟩ W) {x:ITMT} (hx:Zae.ok x) (T:TypeId):Xw n₀ ex fz (M++[W.heap.size]) ⟨[b0,b1,Zae.enc x],st⟩ (W.alloc (.cells (Z2 x) T)):=
 h.box T (ZmW hx)
theorem Xw.drop {chip:Int} {L:List PINT} {x:ITMT} {pc po px:Nat} (h:Xw n₀ ex fz [pc,po,px] (memB chip L x 0) W):Xw n₀ ex fz [pc,po] (memA chip L) W:=by
 obtain⟨y,h1,h2,h3⟩:=h
 have hS:Zk 1 y.S=y.S:=by
  have:=h3.sl
  match hy:y.S,this with
  |[s],_=>rfl
  |[],e=>simp[memB] at e
  |_::_::_,e=>simp[memB] at e
 have hc:=h3.cut 2 1 (λb l hl a ha v hv=>by
  match b,hl with
  |0,hl=>
   simp only[memB,Zk,nth,oinj] at hl;subst hl
   simp only[List.mem_singleton] at ha;subst ha
   cases hv;exact .int _ _ _ _ (by assumption)
  |1,hl=>
   simp only[memB,Zk,nth,oinj] at hl;subst hl
   simp only[List.mem_singleton] at ha;subst ha
   cases hv with
   |tip _ _ _ s _ hs hv hval hat=>exact .tip _ _ _ s _ (by rw[hS];exact hs) hv hval hat
  |b+2,hl=>simp[memB,Zk,nth] at hl)
 exact⟨{y with M:=Zk 2 y.M,S:=Zk 1 y.S},⟨h1.own,h1.fzl,h1.fzn⟩,by show Zk 2 y.M=_;rw[h2];rfl,hc⟩
theorem Xw.out {chip:Int} {L:List PINT} {pc po:Nat} (h:Xw n₀ ex fz [pc,po] (memA chip L) W):∃y s,Xc n₀ ex fz y/\y.M=[pc,po]/\y.S=[s]/\MemOk y (memA chip L) W/\W.cell? ⟨po,0,none⟩=some (tipVal s)/\s.ver=0:=by
 obtain⟨y,h1,h2,h3⟩:=h
 obtain⟨s,hs⟩:∃s,y.S=[s]:=by
  have:=h3.sl
  match hy:y.S,this with
  |[s],_=>exact⟨s,rfl⟩
  |[],e=>simp[memA] at e
  |_::_::_,e=>simp[memA] at e
 have hs0:nth y.S 0=some s:=by rw[hs];rfl
 have hst:=h3.stg 0 (stgP L 0) s rfl hs0
 obtain⟨C,T,e1,e2⟩:=h3.box 1 [.tip 0 0] po rfl (by rw[h2];rfl)
 refine⟨y,s,h1,h2,hs,h3,?_,hst.ver⟩
 match C,e2 with
 |[v],e2=>
  have e3:RA y (.tip 0 0) v:=e2.1
  cases e3 with
  |tip _ _ _ s' _ hs' hv hval hat=>
   rw[hs0] at hs';cases hs'
   have:=hval hst.ver
   subst this
   simp only[World.cell?,e1]
   rfl
 |[],e2=>exact e2.elim
 |_::_::_,e2=>exact e2.2.elim
def expP (chip:Int) (l:List ITMT):List PINT:=l.flatMap λy=>(stsL y).map (pinP chip y)
theorem ZkE (chip:Int) (l:List ITMT) (y:ITMT):expP chip (l++[y])=expP chip l++(stsL y).map (pinP chip y):=by simp[expP]
theorem Zmx (chip:Int) (a b:List ITMT):(expP chip a).length<=(expP chip (a++b)).length:=by simp[expP]
def Zm5 (fz:Nat->Nat->Option Value) (sv:Value) (l:List ITMT):Prop:=
 (∃a cap,sv=.slice a 0 cap/\l=[])\/∃b off cap,sv=.slice (some ⟨b,off,none⟩) l.length cap/\l.length<=maxLen/\
  ∀j x,l[j]? =some x->∀i,i<9->fz b (off+j*9+i)=some ((Z2 x).getD i undef)
theorem heldI {x:Ctx} {l:List ITMT} {v:Value} {lit full nn:Bool} (h:RA x (.lst Zae lit full nn l) v):Zm5 x.fz v l:=by
 cases h with
 |lst0 _ _ _ _ _ _ a cap h1 _ _ _=>exact .inl ⟨a,cap,rfl,h1⟩
 |lst _ _ _ _ _ _ p o cap c h0 hf hcap hml hz hr=>
  refine .inr ⟨p,o,cap,rfl,hml,λj y hy i hi=> ?_⟩
  have hj:j<List.length (α:=ITMT) l:=(List.getElem?_eq_some_iff.1 hy).1
  have hel:elN Zae l j=Zae.enc y:=by
   unfold elN
   have:List.getD (α:=ITMT) l j Zae.dflt=y:=by rw[List.getD_eq_getElem?_getD,hy];rfl
   rw[this]
  have key:∀i a,nth (Zae.enc y) i=some a->x.fz p (o+j*9+i)=some (c j i)/\RA x.bare a (c j i):=λi a ha=>⟨hz j i a hj (by rw[hel];exact ha),hr j i a hj (by rw[hel];exact ha)⟩
  match i,hi with
  |0,_=>obtain⟨k1,k2⟩:=key 0 _ rfl;generalize c j 0=u at*;cases k2;exact k1
  |1,_=>obtain⟨k1,k2⟩:=key 1 _ rfl;generalize c j 1=u at*;cases k2;exact k1
  |2,_=>obtain⟨k1,k2⟩:=key 2 _ rfl;generalize c j 2=u at*;cases k2;exact k1
  |3,_=>obtain⟨k1,k2⟩:=key 3 _ rfl;generalize c j 3=u at*;cases k2;exact k1
  |4,_=>obtain⟨k1,k2⟩:=key 4 _ rfl;generalize c j 4=u at*;cases k2;exact k1
  |5,_=>obtain⟨k1,k2⟩:=key 5 _ rfl;generalize c j 5=u at*;cases k2;exact k1
  |6,_=>obtain⟨k1,k2⟩:=key 6 _ rfl;generalize c j 6=u at*;cases k2;exact k1
  |7,_=>obtain⟨k1,k2⟩:=key 7 _ rfl;generalize c j 7=u at*;cases k2;exact k1
  |8,_=>obtain⟨k1,k2⟩:=key 8 _ rfl;generalize c j 8=u at*;cases k2;exact k1
def mark (D:Nat):Deferred:={target:=.collected D,args:= #[]}
theorem ZcH {F:Fence} {n:Nat} {P:Program} {fn:Func} {tmps:Array Value} {R:Ending->World->Prop} (J:World->Prop)
  (hJ:∀W D,n₀<=D->J W->W.heap[D]? =some (.deferred (some []))->J (W.putObj D (.deferred none))) (hfin:∀W,J W->LeavesIn F n P fn tmps R [] .returning W):
  ∀(ds:List Nat) (W:World),ds.Nodup->(∀D∈ds,n₀<=D/\W.heap[D]? =some (.deferred (some [])))->J W->LeavesInM F n P fn tmps R (ds.map mark) .returning W
 |[],W,_,_,h=>hfin W h
 |D::ds,W,hn,hd,h=>by
  obtain⟨hD0,hD⟩:=hd D (by simp)
  refine⟨by simp,.inl ⟨D,_,rfl,run_takeDeferred hD,ZcH J hJ hfin ds _ (List.nodup_cons.1 hn).2 (λD' h'=> ?_) (hJ W D hD0 h hD)⟩⟩
  have hne:D'≠D:=λe=>(List.nodup_cons.1 hn).1 (e▸h')
  exact⟨(hd D' (by simp[h'])).1,(World.putObj_heap_other hne).trans (hd D' (by simp[h'])).2⟩
theorem Zcg {w0:World} (h:Z4 w0 W) {row:Option Nat} (hg:W.grownBy W' row) (hr:∀r,row=some r->w0.heap.size<=r):Z4 w0 W':=
 ⟨⟨Nat.le_trans h.1.1 hg.size,λk hk=>(hg.block k (Nat.lt_of_lt_of_le hk h.1.1) λe=>by have:=hr k e.symm;omega).trans (h.1.2 k hk)⟩,hg.os.trans h.2.1,hg.tape.trans h.2.2.1,hg.output.trans h.2.2.2⟩
end
end Go.Proofs.Ytlgmapcjapofoaa
open Go.IntKind (u8 u16 i64)
namespace Go.Proofs.Ytlgmapcjapofoaa
open Go Go.S3 Go.Proofs Go.RowKit Go.Shelf
attribute [local go_sem] Oper.semAt_some
noncomputable section
structure Rd (w0:World) (fz:Nat->Nat->Option Value) (chip:Int) (ds:List Nat) (L:List PINT) (W:World):Prop where
 x:Xw w0.heap.size (λ_=>False) fz [w0.heap.size,w0.heap.size+1] (memA chip L) W
 nd:ds.Nodup
 mks:∀D∈ds,w0.heap.size<=D/\W.heap[D]? =some (.deferred (some []))
 s:Z4 w0 W
set_option maxRecDepth 100000 in
set_option maxHeartbeats 8000000 in
theorem Zm2 (n:Nat) (hn:5<=n) (sv:Value) (chip:Int) (l:List ITMT) (fz:Nat->Nat->Option Value) (hl:Zm5 fz sv l) (hok:∀y∈l,Zae.ok y) (hm:(expP chip l).length<=most) (w0:World)
  (hx:∀T T',Xw w0.heap.size (λ_=>False) fz [w0.heap.size,w0.heap.size+1] (memA chip []) ((w0.alloc (.cells #[.int .i64 chip] T)).alloc (.cells #[.slice none 0 0] T'))):
  CallsIn Fence.wide n Try.prog 11 #[.int .i64 chip,sv] w0 λe W'=>∃s y,e=.returned (tipVal s)/\s.ver=0/\y.M=[w0.heap.size,w0.heap.size+1]/\y.S=[s]/\Xc w0.heap.size (λ_=>False) fz y/\MemOk y (memA chip (expP chip l)) W'/\Z4 w0 W':=by
 have h1:1<=n:=by omega
 obtain⟨aa,cap,hsv⟩:∃aa cap,sv=.slice aa l.length cap:=by
  rcases hl with ⟨a,cap,e,e2⟩|⟨b,off,cap,e,_⟩
  ·exact⟨a,cap,by rw[e,e2];rfl⟩
  ·exact⟨_,cap,e⟩
 subst hsv
 have hlm:l.length<=maxLen:=by
  rcases hl with ⟨a,cap,e,e2⟩|⟨b,off,cap,e,h,_⟩
  ·rw[e2];exact Nat.zero_le _
  ·exact h
 refine callsIn_of_wp_marks Try.func11 rfl trivial ?_ rfl
 simp only[Try.ntmps11,List.size_toArray,List.length_cons,List.length_nil,Nat.reduceAdd,Nat.reduceSub,Array.replicate_succ,Array.replicate_zero,List.push_toArray,List.append_toArray,List.nil_append,List.cons_append]
 gi_wp2
 refine wpIn_loop (λa W=>∃(j:Nat) (ds:List Nat) (u7 u12 u13 u14 u15 u16 u37:Value),j<=l.length/\a={tmps:= #[.int .i64 chip,.slice aa l.length cap,.pointer (some ⟨w0.heap.size,0,none⟩),undef,.slice none 0 0,.pointer (some ⟨w0.heap.size+1,0,none⟩),undef,u7,undef,.slice aa l.length cap,.int .i64 (l.length:Int),.int .i64 (j:Int),u12,u13,u14,u15,u16,undef,undef,undef,undef,undef,undef,undef,undef,undef,undef,undef,undef,undef,undef,undef,undef,undef,undef,undef,undef,u37,undef],defers:=ds.map mark}/\Rd w0 fz chip ds (expP chip (l.take j)) W) (λa _=>l.length-(intOf (a.tmps.getD 11 undef)).toNat) ?Zgn ?round
 case Zgn=>
  refine⟨0,[],undef,undef,undef,undef,undef,undef,undef,Nat.zero_le _,rfl,⟨hx _ _,List.nodup_nil,λD hD=>by simp at hD,?_⟩⟩
  refine⟨⟨by simp;omega,λk hk=> ?_⟩,rfl,rfl,rfl⟩
  exact (Below.heap_alloc _ _ _ (by simp;omega)).trans (Below.heap_alloc _ _ _ hk)
 case round=>
  rintro a W ⟨j,ds,u7,u12,u13,u14,u15,u16,u37,hj,rfl,hR⟩
  by_cases hlt:j<l.length
  ·obtain⟨b,off,hab,hcf⟩:∃b off,aa=some ⟨b,off,none⟩/\∀j x,l[j]? =some x->∀i,i<9->fz b (off+j*9+i)=some ((Z2 x).getD i undef):=by
    rcases hl with ⟨a,cap,e,e2⟩|⟨b,off,cap,e,_,h⟩
    ·rw[e2] at hlt;simp at hlt
    ·simp only[Value.slice.injEq] at e
     exact⟨b,off,e.1,h⟩
   subst hab
   obtain⟨x,hxj⟩:∃x,l[j]? =some x:=⟨_,List.getElem?_eq_getElem hlt⟩
   have hcell:∀i,i<9->W.cell? ⟨b,off+j*9+i,none⟩=some ((Z2 x).getD i undef):=λi hi=>by
    obtain⟨y,hy1,_,hy3⟩:=hR.x
    exact hy3.fz _ _ _ (hy1.fzl _ _ _ (hcf j x hxj i hi))
   have c0:=hcell 0 (by omega)
   have c1:=hcell 1 (by omega)
   have c2:=hcell 2 (by omega)
   have c3:=hcell 3 (by omega)
   have c4:=hcell 4 (by omega)
   have c5:=hcell 5 (by omega)
   have c6:=hcell 6 (by omega)
   have c7:=hcell 7 (by omega)
   have c8:=hcell 8 (by omega)
   simp[Z2,Array.getD] at c0 c1 c2 c3 c4 c5 c6 c7 c8
   have hf23:Fence.wide.fn 23:=trivial
   gi_wp2_with (gi_at_call 23;refine (ZmG Fence.wide (n-1) trivial rfl x _).mono ?_;rintro e w' ⟨rfl,rfl⟩)
   have hitm:Zae.ok x:=hok x (List.mem_iff_getElem?.2 ⟨j,hxj⟩)
   have hX2:=(Xw.item hR.x hitm 44).block (.cells (Z2 x) 44)
   have hI2:ZcV ((W.alloc (.cells (Z2 x) 44)).alloc (.cells (Z2 x) 44)) (W.heap.size+1) x:=by
    have:=World.alloc_heap_new (W.alloc (.cells (Z2 x) 44)) (.cells (Z2 x) 44)
    rw[World.size_alloc] at this
    exact this
   have hz2:((W.alloc (.cells (Z2 x) 44)).alloc (.cells (Z2 x) 44)).heap.size=W.heap.size+2:=by simp
   have hg2:W.grownBy ((W.alloc (.cells (Z2 x) 44)).alloc (.cells (Z2 x) 44)) none:=by
    have a1:=World.grownBy_alloc W (.cells (Z2 x) 44) none
    have a2:=World.grownBy_alloc (W.alloc (.cells (Z2 x) 44)) (.cells (Z2 x) 44) none
    exact⟨a2.os.trans a1.os,a2.tape.trans a1.tape,a2.output.trans a1.output,Nat.le_trans a1.size a2.size,λk hk hn=>(a2.block k (Nat.lt_of_lt_of_le hk a1.size) hn).trans (a1.block k hk hn)⟩
   rw[World.size_alloc] at hX2
   generalize hW2:(W.alloc (.cells (Z2 x) 44)).alloc (.cells (Z2 x) 44)=W2 at*
   have hs2:Z4 w0 W2:=Zcg hR.s hg2 (λr e=>by cases e)
   have hm2:∀D∈ds,(w0.heap.size<=D/\D<W2.heap.size)/\W2.heap[D]? =some (.deferred (some [])):=λD hD=>by
    obtain⟨k1,k2⟩:=hR.mks D hD
    have hlt':=(Array.getElem?_eq_some_iff.1 k2).1
    exact⟨⟨k1,by omega⟩,(hg2.block D hlt' (λe=>by cases e)).trans k2⟩
   have hwz:w0.heap.size<=W2.heap.size:=hs2.1.1
   clear c0 c1 c2 c3 c4 c5 c6 c7 c8 hcell hcf
   generalize hL:expP chip (l.take j)=L at*
   have hLn:expP chip (l.take (j+1))=L++(stsL x).map (pinP chip x):=by
    rw[List.take_add_one,hxj]
    simp only[Option.toList_some]
    rw[ZkE,hL]
   have hLm:L.length+(stsL x).length<=most:=by
    have:=Zmx chip (l.take (j+1)) (l.drop (j+1))
    rw[List.take_append_drop,hLn] at this
    simp at this
    omega
   refine wpIn_rangeFunc_ownH (F:=Fence.wide) rfl h1 (gf:=29) (lb:= #[.pointer (some ⟨W.heap.size+1,0,none⟩)]) rfl trivial (enters_of Try.func29 (by kernel_rfl) rfl)
    (Zjx Fence.wide (n-1) trivial trivial trivial rfl (by omega) (W.heap.size+1) x W2 (by omega) hI2) (λh k=>Eq.trans k h) (λW' k o o' hk _ _ _=>World.putObj_heap_other (by omega)) (Below.refl _ _) (λ_=>rfl)
    (λpre W'=>Xw w0.heap.size (λk=>k=W.heap.size+1) fz [w0.heap.size,w0.heap.size+1,W.heap.size] (memB chip (L++pre.map (λt=>pinP chip x t.1)) x 0) W'/\(∀D∈ds,W'.heap[D]? =some (.deferred (some [])))/\Z4 w0 W')
    (λ_ _ _=>False)
    (λpre A C row ⟨k1,k2,k3⟩ hg hr=>⟨k1.grown hg (λr e=>(hr r e).2),λD hD=>(hg.block D (Array.getElem?_eq_some_iff.1 (k2 D hD)).1 (λe=>by have:=(hr D e.symm).1;have:=(hm2 D hD).1.2;omega)).trans (k2 D hD),Zcg k3 hg (λr e=>Nat.le_trans hwz (hr r e).1)⟩)
    (λ_ _ _ _ _ h _ _=>h) ⟨by rw[List.map_nil,List.append_nil];exact hX2,λD hD=>(hm2 D hD).2,hs2⟩
    (λt a' _=>a'={tmps:= #[.int .i64 chip,.slice (some ⟨b,off,none⟩) l.length cap,.pointer (some ⟨w0.heap.size,0,none⟩),undef,.slice none 0 0,.pointer (some ⟨w0.heap.size+1,0,none⟩),undef,.pointer (some ⟨W.heap.size,0,none⟩),.int .i64 t.1,.slice (some ⟨b,off,none⟩) l.length cap,.int .i64 (l.length:Int),.int .i64 (j:Int),.bool true,.pointer (some ⟨b,off+j*9,none⟩),.agg (Z2 x),.agg (Z2 x),.func (.func 29) #[] #[.pointer (some ⟨W.heap.size+1,0,none⟩)],.int .i64 t.1,undef,undef,undef,undef,undef,undef,undef,undef,undef,undef,undef,undef,undef,undef,undef,undef,undef,undef,undef,u37,undef],defers:=[]})
    (λ_ _ _ _ _ _ hs _ _=>hs) ?assign ?body ?done ?stop
   case assign=>
    rintro y pre t W' K hI hK
    gi_wp2
    exact hK _ _ (KeepsFrom.refl _ _) rfl hI rfl
   case body=>
    rintro y pre t a' W' hy hlp ⟨k1,k2,k3⟩ rfl hlen
    refine wpIn_block ?_
    refine ZmI (chip:=chip) (t:=t.1) (x:=x) (by obtain⟨t,t0,t1⟩:=t;exact⟨by simp[IntKind.min,IntKind.signed,IntKind.bits];omega,by simp[IntKind.max,IntKind.signed,IntKind.bits];omega⟩) (by simp;omega) k1 rfl rfl rfl rfl rfl rfl (λ⟨_,_,h⟩=>h.elim) ?_
    intro a2 W3 hX3 hz3 hb3 ho3 ht3 hp3
    refine⟨⟨hz3,λk o hk ho hn=>(hb3 k (.inr (.inr ⟨o,ho,hn⟩))).trans ho⟩,hb3 _ (.inr (.inl rfl)),by rw[List.map_append,<-List.append_assoc];exact hX3,λD hD=>(hb3 D (.inr (.inr ⟨_,k2 D hD,rfl⟩))).trans (k2 D hD),?_⟩
    exact⟨⟨Nat.le_trans k3.1.1 hz3,λk hk=>(hb3 k (.inl (by omega))).trans (k3.1.2 k hk)⟩,ho3.trans k3.2.1,ht3.trans k3.2.2.1,hp3.trans k3.2.2.2⟩
   case done=>
    rintro D ys W' hD hS ⟨k1,k2,k3⟩ hK
    have hb63:(j:Int)+1<=9223372036854775807:=by
     have:maxLen=9223372036854775807:=by decide
     omega
    have hj0:(0:Int)<=j:=by omega
    have eL:L++ys.map (λt=>pinP chip x t.1)=expP chip (l.take (j+1)):=by
     rw[hLn,<-hS,List.map_map];rfl
    rw[eL] at k1
    gi_wp2
    refine⟨⟨j+1,D::ds,_,_,_,_,_,_,_,hlt,rfl,⟨k1.all.drop,List.nodup_cons.2 ⟨λh=>by have:=(hm2 D h).1.2;omega,hR.nd⟩,λD' h'=> ?_,k3⟩⟩,?_⟩
    ·rcases List.mem_cons.1 h' with h'|h'
     ·subst h';exact⟨by omega,hK⟩
     ·exact⟨(hm2 D' h').1.1,k2 D' h'⟩
    ·simp[intOf]
     omega
   case stop=>
    rintro D c pre W' hD _ hf
    exact hf.elim
  ·have hjl:j=l.length:=by omega
   subst hjl
   obtain⟨y,s,hy1,hy2,hy3,hy4,hy5,hy6⟩:=hR.x.out
   have hm2:=hR.mks
   have hnd:=hR.nd
   have hs2:=hR.s
   rw[List.take_length] at hy4
   gi_wp2
   refine ZcH (n₀:=w0.heap.size) (λW'=>MemOk y (memA chip (expP chip l)) W'/\Z4 w0 W') ?_ ?_ ds _ hnd hm2 ⟨hy4,hs2⟩
   ·rintro W' D hD ⟨k1,k2⟩ hk
    have hg:=grownBy_putObj' W' D (.deferred none)
    exact⟨k1.grown hg (λr e=>by cases e;exact⟨_,hk,rfl⟩),Zcg k2 hg (λr e=>by cases e;exact hD)⟩
   ·rintro W' ⟨k1,k2⟩
    refine⟨tipVal s,?_,s,y,rfl,hy6,hy2,hy3,hy1,k1,k2⟩
    simp[results,Try.f11,go_sem]
end
end Go.Proofs.Ytlgmapcjapofoaa
namespace Go.Proofs.Ytlgmapcjapofoaa
open Go Go.S3 Go.Proofs Go.RowKit
noncomputable section
abbrev Zm1:List Sh:=[.one (R.int i64),.one (.sl Zae)]
abbrev Zl0:Entry:=newE Za5 46 Zm1 (λa=>some (Nat.ble (expP a.1 a.2).length most)) (λa=>expP a.1 a.2)
set_option maxHeartbeats 1000000 in
theorem Zly:Za Try.prog 11 Zl0:=by
 refine⟨Try.call11,λvs m=> ?_,λvs m q hq hc x w args hm hv=> ?_⟩
 ·simp only
  split
  ·intro q hq
   simp only[oinj] at hq;subst hq
   exact⟨Nat.le_refl _,λb l hl=>⟨l,hl,rfl,λ_ _=>rfl⟩,by simp,λi g hg=>⟨g,by
    show nth (m.stgs++[_]) i=some g
    rw[Zb,List.getElem?_append_left (Zm hg),<-Zb];exact hg,Nat.le_refl _,λ_=>rfl⟩⟩
  ·intro q hq;simp at hq
 ·simp only at hq
  split at hq
  ·rename_i a ha
   simp only[RT.val,oinj] at hq
   subst hq
   obtain⟨hargs,hin⟩:=Zb3 ha hv
   obtain⟨chip,l⟩:=a
   have hlen:(expP chip l).length<=most:=by
    cases hb:Nat.ble (expP chip l).length most with
    |true=>simpa [Nat.ble_eq] using hb
    |false=>simp only[hb] at hc;exact absurd rfl hc
   match args,hargs with
   |[v0,v1],hargs=>
    have hv0:RA x (.int false .i64 chip) v0:=hargs.1
    have hv1:RA x (.lst Zae false false false l) v1:=hargs.2.1
    have hchip:inR .i64 chip:=hin.1
    have hok:∀y∈(l:List ITMT),Zae.ok y:=(hin.2:(R.sl Zae).ok l).2
    cases hv0
    have key:=Zm2 5 (Nat.le_refl _) v1 chip l x.fz (heldI hv1) hok hlen w (λT T'=>init7 hm hchip T T')
    refine (callsIn_wide.1 key).mono ?_
    rintro e w' ⟨s,y,rfl,hver,hM,hS,hxc,hmok,hs⟩
    have hext:Ext (Ctx.own0 w x.fz) {y with own:=(Ctx.own0 w x.fz).own}:=⟨rfl,λb p e=>by simp[Ctx.own0,Zd] at e,λb p e=>by simp[Ctx.own0,Zd] at e,hxc.fzl,λb o v e=>(hxc.fzn b o v e).imp id id⟩
    obtain⟨h3,h4⟩:=Zif hm hext hmok.fz hs.1
    have hs0:nth y.S 0=some s:=by rw[hS];rfl
    have hok0:=hmok.stg 0 (stgP (expP chip l) 0) s rfl hs0
    have hown:∀p cap,s.blk=some (p,cap)->w.heap.size<=p:=λp cap hp=>by
     have:=(hmok.sown 0 s p cap hs0 hp).1
     rw[hxc.own] at this
     exact this.1
    have hat:atomic (tipVal s):=by unfold tipVal;split<;>trivial
    have hj:=h3.joinS (g:=newG Za5 46 (expP chip l)) (s:=s)
     (λp cap hp=>by
      have hp:=hown p cap hp
      exact⟨hm.fresh p hp,λb hb=>by have:=hm.M_lt hb;omega,λi s' cap' hs' hb=>by have:=hm.S_lt hs' hb;omega⟩)
     ⟨hver,hok0.n,hok0.wd,hok0.nil,λp cap hp=>by
      obtain⟨C,a1,a2,a3,a4,a5,a6,a7,a8⟩:=hok0.row p cap hp
      refine⟨C,a1,a2,a3,a4,λi j a' hi ha'=> ?_,a6,a7,a8⟩
      obtain⟨v,e1,e2⟩:=a5 i j a' hi ha'
      exact⟨v,e1,e2.plain (λ_ _ _ e=>e) (R.enc_plain _ _ _ (ZV ha'))⟩,λ_=>hok0.fzn rfl,λh=>by simp at h,λh=>by simp at h⟩
    refine⟨tipVal s,_,rfl,?_,hj.1,h4.trans hj.2,hs.step hm⟩
    refine RA.tip _ _ _ s _ ?_ (Nat.zero_le _) (λ_=>rfl) hat
    rw[Zb,Zr,<-hm.sl];simp
   |[],hargs=>exact hargs.elim
   |[_],hargs=>exact hargs.2.elim
   |_::_::_::_,hargs=>exact hargs.2.2.elim
  ·simp[RT.val] at hq
def Zmu:Entry:=frzE Zl0
theorem Zkx:Za Try.prog 11 Zmu:=Zl1 Zly
end
end Go.Proofs.Ytlgmapcjapofoaa
open Go Go.S3 Go.Proofs
set_option maxRecDepth 100000
namespace Go.Proofs.Ytlgmapcjapofoaa
noncomputable section
abbrev ZiB:List Sh:=[Sh.one (R.int i64),Sh.one (R.int i64)]
abbrev ZfZ:Rs:=Rs.one (Sh.one (R.int i64))
def Zei (x:Int) (n:Int):RT (Option (Int)):=
 .br (IntKind.u64.wrap n !=0) (.leaf (some (i64.wrap (Int.tmod (IntKind.u64.wrap x) (IntKind.u64.wrap n))))) (.leaf none)
def ZbE (x:Int) (n:Int):Int:=getO ZfZ.dflt (Zei x n).val
def Zej (x:Int) (n:Int):Bool:=okB (Zei x n).val
def ZhV:Entry:=Z1 ZiB ZfZ (λa=>some (Zej a.1 a.2)) (λa=>ZbE a.1 a.2)
theorem ZgK:Za Try.prog 13 ZhV:=
 pureP 31 [] [] ZiB ZfZ trivial Try.func13 Try.call13 trivial (t:=λa=>Zei a.1 a.2)
abbrev ZhO:R:=R.pair (R.sl (R.int i64)) (R.int i64)
abbrev Zj1:List Sh:=[Sh.one (R.int i64)]
abbrev ZhN:Rs:=Rs.one (Sh.one (R.int i64))
def Zec (s:List Int×Int) (n:Int):RT (Option (QT2)):=
 let x1:=Zaf (i64.wrap (i64.wrap (s.2+1)-1)) (List.length s.1)
 let x2:Int:=R.get (R.int i64) s.1 (i64.wrap (i64.wrap (s.2+1)-1))
 .br (decide (s.2>=iN (List.length s.1))) (.leaf (some ((0,s.1,i64.wrap (s.2+1))))) (.br (!x1||Zej x2 n) (.br (x1) (.leaf (some ((ZbE x2 n,s.1,i64.wrap (s.2+1))))) (.leaf none)) (.leaf none))
def Ze (s:List Int×Int) (n:Int):QT2:=getO (ZhN.dflt,ZhO.dflt) (Zec s n).val
def ZL (s:List Int×Int) (n:Int):Bool:=okB (Zec s n).val
def Zff:Entry:=boxE ZhO Zj1 ZhN (λa=>some (ZL a.1 a.2)) (λa=>Ze a.1 a.2)
theorem ZcF:Za Try.prog 15 Zff:=
 ZdR (P:=Try.prog) (n:=31) (k:=8) (l:=[(13,ZhV)]) (ol:=[]) ⟨ZgK,Tv⟩ Try.func15 rfl (by kernel_rfl) Try.call15 trivial (rb:=ZhO) (ts:=Zj1) (rs:=ZhN) (t:=λa=>Zec a.1 a.2) (λa=>by kernel_rfl)
abbrev ZhS:R:=R.pair (R.sl (R.int i64)) (R.int i64)
abbrev Zj5:List Sh:=[]
abbrev ZhR:Rs:=Rs.one (Sh.one (R.int u8))
def Zed (s:List Int×Int):RT (Option (QT2)):=
 let x1:List Int:=[0,1,127,128,255,15,16,153,154,9,102,254,129,85,170,64]
 .br (ZL s 512) (.br (!decide ((Ze s 512).1>=256)||Zaf (Int.tmod (Ze s 512).1 16) (List.length x1)) (.br (decide ((Ze s 512).1>=256)) (.leaf (some ((R.get (R.int u8) x1 (Int.tmod (Ze s 512).1 16),(Ze s 512).2)))) (.leaf (some ((u8.wrap (Ze s 512).1,(Ze s 512).2))))) (.leaf none)) (.leaf none)
def Zi6 (s:List Int×Int):QT2:=getO (ZhR.dflt,ZhS.dflt) (Zed s).val
def ZgD (s:List Int×Int):Bool:=okB (Zed s).val
def Zj6:Entry:=boxE ZhS Zj5 ZhR (λa=>some (ZgD a.1)) (λa=>Zi6 a.1)
theorem Zix:Za Try.prog 17 Zj6:=
 ZdR (P:=Try.prog) (n:=15) (k:=8) (l:=[(15,Zff)]) (ol:=[]) ⟨ZcF,Tv⟩ Try.func17 rfl (by kernel_rfl) Try.call17 trivial (rb:=ZhS) (ts:=Zj5) (rs:=ZhR) (t:=λa=>Zed a.1) (λa=>by kernel_rfl)
abbrev ZhL:R:=R.pair (R.sl (R.int i64)) (R.int i64)
abbrev ZjZ:List Sh:=[]
abbrev ZhK:Rs:=Rs.one (Sh.one (R.int u16))
def ZcE (s:List Int×Int):RT (Option (QT2)):=
 let x1:List Int:=[0,1,65535,65534,32767,32768,255,256]
 let x2:= !(Ze s 5).1==0||(!ZL (Ze s 5).2 8||Zaf (Ze (Ze s 5).2 8).1 (List.length x1))
 let x3:= !x2
 let x4:= !(Ze s 5).1==0||ZL (Ze s 5).2 8
 .br (ZL s 5) (.br (x3||(!x4||((Ze s 5).1==0||(!(Ze s 5).1==1||ZL (Ze s 5).2 65536)))) (.br (x3||x4) (.br (x2) (.br ((Ze s 5).1==0) (.leaf (some ((R.get (R.int u16) x1 (Ze (Ze s 5).2 8).1,(Ze (Ze s 5).2 8).2)))) (.br ((Ze s 5).1==1) (.leaf (some ((u16.wrap (Ze (Ze s 5).2 65536).1,(Ze (Ze s 5).2 65536).2)))) (.br (ZL (Ze s 5).2 64) (.leaf (some ((u16.wrap (Ze (Ze s 5).2 64).1,(Ze (Ze s 5).2 64).2)))) (.leaf none)))) (.leaf none)) (.leaf none)) (.leaf none)) (.leaf none)
def ZhM (s:List Int×Int):QT2:=getO (ZhK.dflt,ZhL.dflt) (ZcE s).val
def Zfe (s:List Int×Int):Bool:=okB (ZcE s).val
def Zj0:Entry:=boxE ZhL ZjZ ZhK (λa=>some (Zfe a.1)) (λa=>ZhM a.1)
theorem Ziu:Za Try.prog 16 Zj0:=
 ZdR (P:=Try.prog) (n:=4135) (k:=8) (l:=[(15,Zff)]) (ol:=[]) ⟨ZcF,Tv⟩ Try.func16 rfl (by kernel_rfl) Try.call16 trivial (rb:=ZhL) (ts:=ZjZ) (rs:=ZhK) (t:=λa=>ZcE a.1) (λa=>by kernel_rfl)
abbrev ZhQ:R:=R.pair (R.sl (R.int i64)) (R.int i64)
abbrev Zj2:List Sh:=[]
abbrev ZhP:Rs:=Rs.one (Sh.one R.bool)
def ZgB (s:List Int×Int):RT (Option (Bool×List Int×Int)):=
 .br (ZL s 2) (.leaf (some (((Ze s 2).1==1,(Ze s 2).2)))) (.leaf none)
def Zj4 (s:List Int×Int):Bool×List Int×Int:=getO (ZhP.dflt,ZhQ.dflt) (ZgB s).val
def ZgC (s:List Int×Int):Bool:=okB (ZgB s).val
def Zj3:Entry:=boxE ZhQ Zj2 ZhP (λa=>some (ZgC a.1)) (λa=>Zj4 a.1)
theorem Ziv:Za Try.prog 22 Zj3:=
 ZdR (P:=Try.prog) (n:=7) (k:=8) (l:=[(15,Zff)]) (ol:=[]) ⟨ZcF,Tv⟩ Try.func22 rfl (by kernel_rfl) Try.call22 trivial (rb:=ZhQ) (ts:=Zj2) (rs:=ZhP) (t:=λa=>ZgB a.1) (λa=>by kernel_rfl)
def NB (s:List Int×Int) (k:Int):Prop:=0<=s.2/\s.2<=k
theorem ZgL (x n:Int) (h0:0<n) (h1:n<=4611686018427387904):Zej x n=true/\ZbE x n=(x%18446744073709551616)%n:=by
 have e:IntKind.wrap .u64 n=n:=Zl8 ⟨by simp[IntKind.min,IntKind.signed];omega,by simp[IntKind.max,IntKind.signed,IntKind.bits];omega⟩
 have e2:IntKind.wrap .u64 x=x%18446744073709551616:=by simp[IntKind.wrap,IntKind.signed,IntKind.bits]
 have hn:(n !=0)=true:=by simp;omega
 have h2:0<=x%18446744073709551616:=Int.emod_nonneg _ (by decide)
 have h3:=Int.emod_nonneg (x%18446744073709551616) (b:=n) (by omega)
 have h4:=Int.emod_lt_of_pos (x%18446744073709551616) (b:=n) h0
 have hv:(Zei x n).val=some ((x%18446744073709551616)%n):=by
  simp only[Zei,RT.val,e,e2,hn,cond_true,Int.tmod_eq_emod_of_nonneg h2]
  rw[Zbm _ (by omega) (by omega)]
 exact⟨by simp only[Zej,hv];rfl,by simp only[ZbE,hv,getO]⟩
theorem ZN {s:List Int×Int} {k:Int} (h:NB s k) (hk:k<=1000000) (n:Int) (h0:0<n) (h1:n<=4611686018427387904):
  ZL s n=true/\NB (Ze s n).2 (k+1)/\0<=(Ze s n).1/\(Ze s n).1<n:=by
 obtain⟨ha,hb⟩:=h
 have e1:IntKind.wrap .i64 (s.2+1)=s.2+1:=Zbm _ (by omega) (by omega)
 have e2:IntKind.wrap .i64 s.2=s.2:=Zbm _ (by omega) (by omega)
 by_cases hl:(s.1.length:Int)<=s.2
 ·have hv:(Zec s n).val=some (0,s.1,s.2+1):=by simp[Zec,RT.val,iN,hl,e1]
  simp only[ZL,Ze,hv,okB,getO,NB]
  exact⟨trivial,⟨by omega,by omega⟩,by omega,h0⟩
 ·have hr:Zaf s.2 s.1.length=true:=Zaa.2 ⟨ha,by omega⟩
  obtain⟨p1,p2⟩:=ZgL (R.get (R.int i64) s.1 s.2) n h0 h1
  have h3:=Int.emod_nonneg (R.get (R.int i64) s.1 s.2%18446744073709551616) (b:=n) (by omega)
  have h4:=Int.emod_lt_of_pos (R.get (R.int i64) s.1 s.2%18446744073709551616) (b:=n) h0
  have hv:(Zec s n).val=some ((R.get (R.int i64) s.1 s.2%18446744073709551616)%n,s.1,s.2+1):=by simp[Zec,RT.val,iN,hl,e1,e2,hr,p1,p2]
  simp only[ZL,Ze,hv,okB,getO,NB]
  exact⟨trivial,⟨by omega,by omega⟩,h3,h4⟩
theorem Zln {s:List Int×Int} {k:Int} (h:NB s k) (hk:k<=1000000):ZgD s=true/\NB (Zi6 s).2 (k+1)/\inR .u8 (Zi6 s).1:=by
 obtain⟨c,b,d0,d1⟩:=ZN h hk 512 (by decide) (by decide)
 have m0:0<=(Ze s 512).1%16:=Int.emod_nonneg _ (by decide)
 have m1:(Ze s 512).1%16<16:=Int.emod_lt_of_pos _ (by decide)
 have ht:Int.tmod (Ze s 512).1 16=(Ze s 512).1%16:=Int.tmod_eq_emod_of_nonneg d0
 by_cases hn:256<=(Ze s 512).1
 ·have hv:(Zed s).val=some (R.get (R.int u8) [0,1,127,128,255,15,16,153,154,9,102,254,129,85,170,64] ((Ze s 512).1%16),(Ze s 512).2):=by
   simp[Zed,RT.val,c,hn,ht,Zaf,m0,m1]
  simp only[ZgD,Zi6,hv,okB,getO]
  refine⟨trivial,b,?_⟩
  have hall:∀i:Nat,i<16->inR .u8 (([0,1,127,128,255,15,16,153,154,9,102,254,129,85,170,64]:List Int).getD i 0):=by
   intro i hi
   have:∀i:Fin 16,decide (0<=([0,1,127,128,255,15,16,153,154,9,102,254,129,85,170,64]:List Int).getD i 0)&&decide (([0,1,127,128,255,15,16,153,154,9,102,254,129,85,170,64]:List Int).getD i 0<=255):=by decide
   have:=this ⟨i,hi⟩
   rw[ZmX];simpa using this
  exact hall ((Ze s 512).1%16).toNat (by omega)
 ·have hv:(Zed s).val=some (IntKind.wrap .u8 (Ze s 512).1,(Ze s 512).2):=by simp[Zed,RT.val,c,hn]
  simp only[ZgD,Zi6,hv,okB,getO]
  exact⟨trivial,b,Zas _ _⟩
theorem Zlm {s:List Int×Int} {k:Int} (h:NB s k) (hk:k<=900000):Zfe s=true/\NB (ZhM s).2 (k+2)/\inR .u16 (ZhM s).1:=by
 obtain⟨c,b,d0,d1⟩:=ZN h (by omega) 5 (by decide) (by decide)
 obtain⟨c8,b8,e0,e1⟩:=ZN b (by omega) 8 (by decide) (by decide)
 obtain⟨c6,b6,_⟩:=ZN b (by omega) 65536 (by decide) (by decide)
 obtain⟨c4,b4,_⟩:=ZN b (by omega) 64 (by decide) (by decide)
 have w:∀{t:List Int×Int},NB t (k+1+1)->NB t (k+2):=λh=>⟨h.1,by have:=h.2;omega⟩
 have hr:Zaf (Ze (Ze s 5).2 8).1 8=true:=Zaa.2 ⟨e0,by omega⟩
 by_cases h0:(Ze s 5).1=0
 ·have hv:(ZcE s).val=some (R.get (R.int u16) [0,1,65535,65534,32767,32768,255,256] (Ze (Ze s 5).2 8).1,(Ze (Ze s 5).2 8).2):=by
   simp[ZcE,RT.val,c,h0,c8,hr]
  simp only[Zfe,ZhM,hv,okB,getO]
  refine⟨trivial,w b8,?_⟩
  have hall:∀i:Nat,i<8->inR .u16 (([0,1,65535,65534,32767,32768,255,256]:List Int).getD i 0):=by
   intro i hi
   have:∀i:Fin 8,decide (0<=([0,1,65535,65534,32767,32768,255,256]:List Int).getD i 0)&&decide (([0,1,65535,65534,32767,32768,255,256]:List Int).getD i 0<=65535):=by decide
   have:=this ⟨i,hi⟩
   simp only[Bool.and_eq_true,decide_eq_true_eq] at this
   exact⟨by simpa [IntKind.min,IntKind.signed] using this.1,by simpa [IntKind.max,IntKind.signed,IntKind.bits] using this.2⟩
  exact hall (Ze (Ze s 5).2 8).1.toNat (by omega)
 ·by_cases h1:(Ze s 5).1=1
  ·have hv:(ZcE s).val=some (IntKind.wrap .u16 (Ze (Ze s 5).2 65536).1,(Ze (Ze s 5).2 65536).2):=by simp[ZcE,RT.val,c,h1,c6]
   simp only[Zfe,ZhM,hv,okB,getO]
   exact⟨trivial,w b6,Zas _ _⟩
  ·have hv:(ZcE s).val=some (IntKind.wrap .u16 (Ze (Ze s 5).2 64).1,(Ze (Ze s 5).2 64).2):=by
    have g0:((Ze s 5).1==0)=false:=by simpa using h0
    have g1:((Ze s 5).1==1)=false:=by simpa using h1
    simp[ZcE,RT.val,c,g0,g1,c4]
   simp only[Zfe,ZhM,hv,okB,getO]
   exact⟨trivial,w b4,Zas _ _⟩
abbrev Zg0:List Sh:=[Sh.one (R.sl Zae)]
abbrev Zev:Rs:=Rs.tup [Sh.one (R.int i64),Sh.one (R.int i64),Sh.one (R.int i64),Sh.one (R.int i64),Sh.one (R.int i64)]
def Zjh:LS:={n:=52,slots:=[(2,.code (Sh.one (R.int i64))),(3,.code (Sh.one (R.int i64))),(4,.code (Sh.one (R.int i64))),(5,.code (Sh.one (R.int i64))),(6,.code (Sh.one (R.int i64))),(10,.code (Sh.one (R.sl Zae))),(11,.code (Sh.one (R.int i64))),(12,.code (Sh.one (R.int i64)))],boxes:=[],stgs:=[]}
def Zfm (a:QT0):RT (Option (Go1 (QT0))):=
 let x1:ITMT:=R.get Zae a.2.2.2.2.2.1 a.2.2.2.2.2.2.2.1
 let x2:=x1.1
 let x3:=x1.2.2
 let x4:=x3.2.1
 let x5:Int:=if 0>x4 then 0 else x4
 let x6:=x3.1
 let x7:List ITMT×Int×Int×PUnit:=(a.2.2.2.2.2.1,a.2.2.2.2.2.2.1,i64.wrap (a.2.2.2.2.2.2.2.1+1),PUnit.unit)
 let x8:Int×List ITMT×Int×Int×PUnit:=(a.2.2.2.2.1,x7)
 let x9:Int×Int×List ITMT×Int×Int×PUnit:=(a.2.2.2.1,x8)
 .br (decide (a.2.2.2.2.2.2.2.1<a.2.2.2.2.2.2.1)) (.br (Zaf a.2.2.2.2.2.2.2.1 (List.length a.2.2.2.2.2.1)) (.br (x2==1) (.leaf (some (Go1.cont (i64.wrap (a.1+x5),i64.wrap (a.2.1+if 0>x6 then 0 else x6),a.2.2.1,x9)))) (.br (x2==2) (.leaf (some (Go1.cont (a.1,a.2.1,i64.wrap (a.2.2.1+x5),x9)))) (.br (x2==3) (.leaf (some (Go1.cont (a.1,a.2.1,a.2.2.1,i64.wrap (a.2.2.2.1+x5),x8)))) (.leaf (some (Go1.cont (a.1,a.2.1,a.2.2.1,a.2.2.2.1,bif x2==4 then i64.wrap (a.2.2.2.2.1+x5) else a.2.2.2.2.1,x7))))))) (.leaf none)) (.leaf (some (Go1.brk (a.1,a.2.1,a.2.2.1,a.2.2.2.1,a.2.2.2.2.1,a.2.2.2.2.2.1,a.2.2.2.2.2.2.1,a.2.2.2.2.2.2.2.1,PUnit.unit))))
def Zfn:Ora:=Zja false Zjh Zfm (λa=>1000000000000)
theorem Zg1:ZeL (envX Try.prog [] [] 2269892314111 8) (.block 0 (.loop (ZeH Try.f20.body 0))) Zfn:=
 loopP trivial
def Zf5 (l:List ITMT):RT (Option (Int×Int×Int×Int×Int)):=
 let x1:QT0:=(0,0,0,0,0,l,iN (List.length l),0,())
 let x2:=runF false Zfm (λa=>1000000000000) x1
 let x3:QT0:=(getO (false,x1) x2).2
 let x4:=x3.2
 let x5:=x4.2
 let x6:=x5.2
 .br (okB x2) (.leaf (some ((x3.1,x4.1,x5.1,x6.1,x6.2.1)))) (.leaf none)
def Zks (l:List ITMT):Int×Int×Int×Int×Int:=getO Zev.dflt (Zf5 l).val
def ZiK (l:List ITMT):Bool:=okB (Zf5 l).val
def ZiJ:Entry:=Z1 Zg0 Zev (λa=>some (ZiK a)) (λa=>Zks a)
theorem Zjg:Za Try.prog 20 ZiJ:=
 pureP 2269892314111 [] [(0,Zfn)] Zg0 Zev trivial Try.func20 Try.call20 ⟨Zg1,Tv⟩ (t:=λa=>Zf5 a)
abbrev ZiI:List Sh:=[Sh.one (R.int i64),Sh.one (R.sl Zae)]
abbrev Zf4:Rs:=Rs.one (Sh.one R.bool)
def Zkp:LS:={n:=96,slots:=[(1,.code (Sh.one (R.sl Zae))),(4,.code (Sh.one R.bool)),(10,.code (Sh.one (R.sl Zae))),(11,.code (Sh.one (R.int i64))),(12,.code (Sh.one (R.int i64)))],boxes:=[],stgs:=[]}
def ZgY (a:List ITMT×Bool×List ITMT×Int×Int×PUnit):RT (Option (Go1 (List ITMT×Bool×List ITMT×Int×Int×PUnit))):=
 let x1:=i64.wrap (a.2.2.2.2.1+1)==iN (List.length a.1)
 let x2:=x1||Zaf (i64.wrap (a.2.2.2.2.1+1)) (List.length a.1)
 let x3:= !x2
 let x4:ITMT:=R.get Zae a.2.2.1 a.2.2.2.2.1
 let x5:=x4.1
 let x6:=x5==1
 let x7:=x6&& !Zm0 x4 (x1||(R.get Zae a.1 (i64.wrap (a.2.2.2.2.1+1))).1==4)
 let x8:=x4.2.2
 let x9:=x8.2
 let x10:=(gRep x4).1==0||(decide (x9.1<1)||x8.1 !=0)
 let p1:=x10::x6::x7::x3::(!Zaf a.2.2.2.2.1 (List.length a.2.2.1))::[]
 let x11:=Zaf (i64.wrap (a.2.2.2.2.1-1)) (List.length a.1)
 let x12:= !x11
 let x13:ITMT:=R.get Zae a.1 (i64.wrap (a.2.2.2.2.1-1))
 let x14:=x13.1==x5
 let x15:= !x14
 let x16:=x13.2.2.2.2
 let x17:=x9.2
 let x18:=x16.1==x17.1
 let p2:=(!x18)::x12::x15::x12::(!decide (a.2.2.2.2.1>0))::[]
 let x19:=orR p2 x11
 let x20:= !x19
 let p3:=x20::p1
 let x21:= !decide (a.2.2.2.2.1>0)||(x12||(x15||x11))
 let p4:=(!decide (a.2.2.2.2.1>0))::(!x21)::p3
 let x22:List ITMT×Int×Int×PUnit:=(a.2.2.1,a.2.2.2.1,a.2.2.2.2.1,PUnit.unit)
 .br (decide (a.2.2.2.2.1<a.2.2.2.1)) (.br (orR p4 x11) (.br (orR p3 x21) (.br (orR p1 x19) (.br (!Zaf a.2.2.2.2.1 (List.length a.2.2.1)||x2) (.br (Zaf a.2.2.2.2.1 (List.length a.2.2.1)) (.br (x7) (.leaf (some (Go1.ret (a.1,false,x22)))) (.br (x6) (.leaf (some (Go1.cont (a.1,a.2.1,a.2.2.1,a.2.2.2.1,i64.wrap (a.2.2.2.2.1+1),PUnit.unit)))) (.br (x10) (.leaf (some (Go1.ret (a.1,false,x22)))) (.br (decide (a.2.2.2.2.1>0)&&(x14&&(x18&&x16.2==x17.2))) (.leaf (some (Go1.ret (a.1,false,x22)))) (.leaf (some (Go1.cont (a.1,a.2.1,a.2.2.1,a.2.2.2.1,i64.wrap (a.2.2.2.2.1+1),PUnit.unit)))))))) (.leaf none)) (.leaf none)) (.leaf none)) (.leaf none)) (.leaf none)) (.leaf (some (Go1.brk (a.1,a.2.1,x22))))
def ZgZ:Ora:=Zja true Zkp ZgY (λa=>1000000000000)
theorem Zh6:ZeL (envX Try.prog [(27,Zkw),(28,Zms)] [] 1023 8) (.block 0 (.loop (ZeH Try.f21.body 0))) ZgZ:=
 loopP ⟨ZiL,Zkt,Tv⟩
def Zh5 (k:Int) (l:List ITMT):RT (Option (Bool)):=
 let x1:=runF true ZgY (λa=>1000000000000) (l,false,l,iN (List.length l),0,())
 let x2:=getO (false,l,false,l,iN (List.length l),0,()) x1
 .br (okB x1) (.br x2.1 (.leaf (some x2.2.2.1)) (.leaf (some (true)))) (.leaf none)
def ZmY (k:Int) (l:List ITMT):Bool:=getO Zf4.dflt (Zh5 k l).val
def Zkr (k:Int) (l:List ITMT):Bool:=okB (Zh5 k l).val
def Zkq:Entry:=Z1 ZiI Zf4 (λa=>some (Zkr a.1 a.2)) (λa=>ZmY a.1 a.2)
theorem Zko:Za Try.prog 21 Zkq:=
 pureP 1023 [(27,Zkw),(28,Zms)] [(0,ZgZ)] ZiI Zf4 ⟨ZiL,Zkt,Tv⟩ Try.func21 Try.call21 ⟨Zh6,Tv⟩ (t:=λa=>Zh5 a.1 a.2)
abbrev ZlU:List Sh:=[]
abbrev Zkf:Rs:=Rs.one (Sh.one R.bool)
def Zls:RT (Option (Bool)):=
 let x1:List ITMT:=[(1,(1,0,0,4),1,4,false,false)]
 let x2:=expP 2 x1
 let x3:List PINT:=Stg.l (newG Za5 46 x2)
 let x4:Nat:=List.length x3
 let x5:= !iN x4==5
 let x6:=x5||Zaf 0 x4
 let x7:= !x6
 let x8:= !(R.get (Stg.r (newG Za5 46 x2)) x3 0).2.2.2.2.2.2.2.1
 let x9:=x5||(x8||Zaf 2 x4)
 let x10:= !x9
 let x11:= !(R.get (Stg.r (newG Za5 46 x2)) x3 2).1==7
 let x12:=x5||(x8||(x11||Zaf 4 x4))
 let x13:=Zks x1
 let p1:=(!x13.2.1==1)::(!x13.1==4)::(!(R.get (Stg.r (newG Za5 46 x2)) x3 4).1==4)::x11::x8::x5::(!x12)::x10::x7::[]
 .br (Nat.ble (List.length x2) most) (.br (ZiK x1) (.br (orR p1 (Zkr 2 x1)) (.br (x7||(x10||x12)) (.br (x7||x9) (.br (x6) (.leaf (some (true))) (.leaf none)) (.leaf none)) (.leaf none)) (.leaf none)) (.leaf none)) (.leaf none)
def kKnG:Bool:=getO Zkf.dflt (Zls).val
def Zkg:Bool:=okB (Zls).val
def ZmV:Entry:=Z1 ZlU Zkf (λa=>some (Zkg)) (λa=>kKnG)
theorem Zmp:Za Try.prog 8 ZmV:=
 pureP 255 [(11,Zmu),(20,ZiJ),(21,Zkq)] [] ZlU Zkf ⟨Zkx,Zjg,Zko,Tv⟩ Try.func8 Try.call8 trivial (t:=λa=>Zls)
theorem Zlr:Zls.val=some true:=by kernel_rfl
theorem ZhZ:kKnG=true/\Zkg=true:=by
 simp only[kKnG,Zkg,Zlr,okB,getO];exact⟨trivial,Tv⟩
def Zab:Entry:=.tree (ZaW (envX Try.prog [] [] 7 8) Try.f14)
theorem ZaD:Za Try.prog 14 Zab:=Zfk (P:=Try.prog) (n:=7) (k:=8) (l:=[]) (ol:=[]) trivial Try.func14 rfl (by kernel_rfl) Try.call14 trivial
abbrev Za6:R:=R.pair (R.int i64) (R.pair (RY) (R.pair (R.int i64) (R.pair (R.int i64) (R.pair R.bool R.bool))))
abbrev Za7:Nat:=44
abbrev ZhY:List Sh:=[Sh.one (R.sl (R.int i64))]
def Zlq:LS:={n:=65,slots:=[(3,.fix (A.loc 0 0)),(4,.tip 0),(5,.code (Sh.one (R.int i64)))],boxes:=[[.code (.sl (R.int i64)),.code (.int i64)]],stgs:=[⟨Zae,44,false⟩]}
def ZbZ (a:QT1):RT (Option (Go1 (QT1))):=
 let x1:List Int:=[1,1,1,2,3,4,0,5]
 let x2:=Zaf (Ze (a.2.1,a.2.2.1) 8).1 (List.length x1)
 let x3:= !x2
 let x4:= !ZL (Ze (a.2.1,a.2.2.1) 8).2 6
 let x5:Int:=(Ze (Ze (a.2.1,a.2.2.1) 8).2 6).1
 let x6:List Int:=[0,0,0,1,3,-1]
 let x7:=Zaf x5 (List.length x6)
 let x8:= !x7
 let p1:=x8::x4::x3::(!ZL (a.2.1,a.2.2.1) 8)::[]
 let x9:List Int×Int:=(Ze (Ze (a.2.1,a.2.2.1) 8).2 6).2
 let x10:=ZL x9 8
 let x11:= !x10
 let p4:=x11::p1
 let x12:=Ze x9 8
 let x13:=x12.2
 let x14:=ZgC x13
 let p6:=(!x14)::p4
 let x15:=Zj4 x13
 let x16:=x15.2
 let x17:=orR p6 (ZgC x16)
 let x18:= !x17
 let x19:=orR p4 x14
 let x20:= !x19
 let x21:=orR p1 x10
 let x22:= !x21
 let x23:= !ZL (a.2.1,a.2.2.1) 8||(x3||(x4||x7))
 let x24:= !x23
 let p2:=x24::x22::x20::x18::[]
 let x25:= !ZL (a.2.1,a.2.2.1) 8||(x3||ZL (Ze (a.2.1,a.2.2.1) 8).2 6)
 let x26:= !x25
 let p3:=x26::p2
 let x27:= !ZL (a.2.1,a.2.2.1) 8||x2
 let x28:= !x27
 let p5:=x28::p3
 let p7:=(!ZL (a.2.1,a.2.2.1) 8)::p5
 let x29:=Zj4 x16
 let x30:=x29.2
 let x31:=ZL x30 14
 let x32:= !x31
 let x33:=Ze x30 14
 let x34:=x33.2
 let x35:=Zfe x34
 let x36:= !x35
 let x37:=ZhM x34
 let x38:=x37.2
 let x39:=ZgD x38
 let x40:=Zi6 x38
 let x41:=x40.2
 let x42:=x32||(x36||(!x39||ZL x41 8))
 let x43:= !x42
 let p8:=x43::p7
 let x44:=x32||(x36||x39)
 let x45:= !x44
 let p9:=x45::p8
 let x46:=x32||x35
 let x47:= !x46
 let p10:=x47::p9
 let p11:=x32::p10
 let x48:=Ze x41 8
 let x49:=x48.2
 let x50:=ZL x49 3
 let x51:= !x50
 let p12:=x51::p11
 let x52:=Ze x49 3
 let x53:Int:=R.get (R.int i64) x1 (Ze (a.2.1,a.2.2.1) 8).1
 let x54:=decide (x52.1>0)&&x53==1
 let x55:=x52.2
 let x56:= !x54||ZL x55 4
 let p13:=(!x56)::p12
 let x57:=Ze x55 4
 let x58:=i64.wrap (3+x57.1)
 let x59:List ITMT:=a.2.2.2.1++[(x53,(x33.1,x37.1,x40.1,bif x54 then x58 else x48.1),R.get (R.int i64) x6 x5,bif x54 then x58 else i64.wrap (x12.1-1),x15.1,x29.1)]
 let x60:=x57.2
 .br (decide (a.1>0)) (.br (orR p13 (Nat.ble (List.length x59) most)) (.br (orR p12 x56) (.br (orR p11 x50) (.br (orR p10 x31) (.br (orR p9 x46) (.br (orR p8 x44) (.br (orR p7 x42) (.br (orR p5 (ZL (a.2.1,a.2.2.1) 8)) (.br (orR p3 x27) (.br (orR p2 x25) (.br (x18||(x20||(x22||x23))) (.br (x18||(x20||x21)) (.br (x18||x19) (.br (x17) (.leaf (some (Go1.cont (i64.wrap (a.1-1),bif x54 then x60.1 else x55.1,bif x54 then x60.2 else x55.2,x59,PUnit.unit)))) (.leaf none)) (.leaf none)) (.leaf none)) (.leaf none)) (.leaf none)) (.leaf none)) (.leaf none)) (.leaf none)) (.leaf none)) (.leaf none)) (.leaf none)) (.leaf none)) (.leaf none)) (.leaf none)) (.leaf (some (Go1.brk (a.1,a.2.1,a.2.2.1,a.2.2.2.1,PUnit.unit))))
def ZiG:Ora:=Zja false Zlq ZbZ (λa=>20)
theorem Zjc:ZeL (envX Try.prog [(14,Zab),(15,Zff),(16,Zj0),(17,Zj6),(22,Zj3)] [] 127 8) (.block 0 (.loop (ZeH Try.f9.body 0))) ZiG:=
 loopP ⟨ZaD,ZcF,Ziu,Zix,Ziv,Tv⟩
def ZgQ (n:List Int):RT (Option (List ITMT)):=
 let x1:QT1:=((Ze (n,0) 12).1,(Ze (n,0) 12).2.1,(Ze (n,0) 12).2.2,[],())
 let x2:=runF false ZbZ (λa=>20) x1
 .br (ZL (n,0) 12) (.br (okB x2) (.leaf (some (getO (false,x1) x2).2.2.2.2.1)) (.leaf none)) (.leaf none)
def Zaz (n:List Int):List ITMT:=getO [] (ZgQ n).val
def Zeq (n:List Int):Bool:=okB (ZgQ n).val
def ZlT:Entry:=frzE (newE Za6 Za7 ZhY (λa=>some (Zeq a)) (λa=>Zaz a))
theorem Zke:Za Try.prog 9 (newE Za6 Za7 ZhY (λa=>some (Zeq a)) (λa=>Zaz a)):=
 Zll (P:=Try.prog) (n:=127) (k:=8) (l:=[(14,Zab),(15,Zff),(16,Zj0),(17,Zj6),(22,Zj3)]) (ol:=[(0,ZiG)]) ⟨ZaD,ZcF,Ziu,Zix,Ziv,Tv⟩ Try.func9 rfl (by kernel_rfl) Try.call9 ⟨Zjc,Tv⟩ (r:=Za6) (T:=Za7) (ts:=ZhY) (t:=λa=>ZgQ a) (λa=>by kernel_rfl)
theorem Zlp:Za Try.prog 9 ZlT:=Zl1 Zke
abbrev Zkc:List Sh:=[Sh.one (R.sl (R.int i64)),Sh.one (R.sl (R.int i64)),Sh.one (R.int i64)]
abbrev ZhX:Rs:=Rs.one (Sh.one R.bool)
def Zfi (n:List Int) (m:List Int) (chip:Int):RT (Option (Bool)):=
 let x1:List ITMT:=[]++Stg.l (newG Za6 Za7 (Zaz n))++Stg.l (newG Za6 Za7 (Zaz m))
 let x2:=Nat.ble (List.length x1) most
 let x3:=expP (i64.wrap (1+ZbE chip 2)) x1
 let x4:=expP (i64.wrap (1+ZbE chip 2)) (Stg.l (newG Za6 Za7 (Zaz n)))
 let x5:=Nat.ble (List.length x4) most
 let x6:= !x5
 let x7:List PINT:=[]++Stg.l (newG Za5 46 x4)
 let x8:=Nat.ble (List.length x7) most
 let x9:= !x8
 let x10:=expP (i64.wrap (1+ZbE chip 2)) (Stg.l (newG Za6 Za7 (Zaz m)))
 let x11:=Nat.ble (List.length x10) most
 let x12:= !x11
 let x13:List PINT:=x7++Stg.l (newG Za5 46 x10)
 let x14:=Nat.ble (List.length x13) most
 let x15:= !x14
 let p1:=x15::x12::x9::x6::[]
 let x16:List PINT:=Stg.l (newG Za5 46 x3)
 let x17:=ZbW x16 x13
 let x18:=Zcz x16 x13
 let p2:=(!x18)::(!x17)::p1
 .br (!(decide (iN (List.length n)>150)||decide (iN (List.length m)>150))||Zkg) (.br (decide (iN (List.length n)>150)||decide (iN (List.length m)>150)) (.leaf (some (true))) (.br (!Zeq n||Zeq m) (.br (Zeq n) (.br (Zej chip 2) (.br (!Nat.ble (List.length ([]++Stg.l (newG Za6 Za7 (Zaz n)))) most||(!x2||Nat.ble (List.length x3) most)) (.br (!Nat.ble (List.length ([]++Stg.l (newG Za6 Za7 (Zaz n)))) most||x2) (.br (Nat.ble (List.length ([]++Stg.l (newG Za6 Za7 (Zaz n)))) most) (.br (orR p2 Zkg) (.br (orR p1 x17) (.br (x6||(x9||(x12||x14))) (.br (x6||(x9||x11)) (.br (x6||x8) (.br (x5) (.leaf (some (x18&&kKnG))) (.leaf none)) (.leaf none)) (.leaf none)) (.leaf none)) (.leaf none)) (.leaf none)) (.leaf none)) (.leaf none)) (.leaf none)) (.leaf none)) (.leaf none)) (.leaf none))) (.leaf none)
def Zmo (n:List Int) (m:List Int) (chip:Int):Bool:=getO ZhX.dflt (Zfi n m chip).val
def Zkd (n:List Int) (m:List Int) (chip:Int):Bool:=okB (Zfi n m chip).val
def ZmS:Entry:=Z1 Zkc ZhX (λa=>some (Zkd a.1 a.2.1 a.2.2)) (λa=>Zmo a.1 a.2.1 a.2.2)
theorem lGCat_ok:Za Try.prog 4 ZmS:=
 pureP 2047 [(8,ZmV),(9,ZlT),(10,Ze5),(11,Zmu),(13,ZhV)] [] Zkc ZhX ⟨Zmp,Zlp,Zgs,Zkx,ZgK,Tv⟩ Try.func4 Try.call4 trivial (t:=λa=>Zfi a.1 a.2.1 a.2.2)
theorem ZjG (l:List PINT) (h:l.length<=100000000000):∃i,runF true Z5 (λ_=>1000000000000) (l,l,false,iN l.length,0,())=some (false,(l,l,false,iN l.length,i,())):=by
 obtain⟨r,hr,h1,i,h2⟩:=Zik (fl:=true) (t:=Z5) (fuel:=λ_=>1000000000000)
  (λa=>∃i:Nat,i<=l.length/\a=(l,l,false,iN l.length,(i:Int),())) (λa=>l.length-a.2.2.2.2.1.toNat)
  (λr=>r.1=false/\∃i,r.2=(l,l,false,iN l.length,i,()))
  (by
   rintro a ⟨i,hi,rfl⟩
   by_cases hlt:i<l.length
   ·have k2:Zaf (i:Int) l.length=true:=Zaa.2 ⟨by omega,by omega⟩
    have k3:i64.wrap ((i:Int)+1)=(i:Int)+1:=Zbm _ (by omega) (by omega)
    have k1:decide ((i:Int)<iN l.length)=true:=by simp[iN];omega
    refine .inl ⟨(l,l,false,iN l.length,(i:Int)+1,()),?_,⟨i+1,by omega,rfl⟩,by simp;omega⟩
    simp only[Z5,RT.val,k1,k2,k3,R.eqf_refl,cond_true,cond_false,Bool.not_true,Bool.false_or,Bool.or_true]
   ·have k1:decide ((i:Int)<iN l.length)=false:=by simp[iN];omega
    refine .inr (.inl ⟨(l,l,false,iN l.length,(i:Int),()),?_,rfl,(i:Int),rfl⟩)
    simp only[Z5,RT.val,k1,cond_false])
  (l,l,false,iN l.length,0,()) ⟨0,Nat.zero_le _,rfl⟩ (by simp;omega)
 obtain⟨r1,r2⟩:=r
 simp only at h1 h2
 subst h1;subst h2
 exact⟨i,hr⟩
theorem ZjF (l:List PINT) (h:l.length<=100000000000):Zcz l l=true/\ZbW l l=true:=by
 obtain⟨i,hi⟩:=ZjG l h
 have hb:(iN l.length !=iN l.length)=false:=by simp
 have hv:(Zbd l l).val=some true:=by
  simp only[Zbd,RT.val,hi,hb,okB,getO,cond_false,cond_true]
 simp only[Zcz,ZbW,hv,okB,getO];exact⟨trivial,Tv⟩
theorem Zl9 (w m:Nat):(stsC w m).length<=m+w:=by
 have h:∀m,(stsC w m).length=m+(if 2<=m then w else 0):=by
  intro m
  induction m with
  |zero=>simp[stsC]
  |succ m ih=>
   rw[Zcu,List.length_append,ih]
   by_cases h1:m=1
   ·subst h1;simp;omega
   ·have:(m==1)=false:=by simpa using h1
    rw[this]
    simp only[cond_false,List.length_cons,List.length_nil]
    split<;>split<;>omega
 rw[h];split<;>omega
theorem Zk8 (x:ITMT):(stsL x).length<=6+x.2.2.2.1.toNat+x.2.2.1.toNat:=by
 unfold stsL
 cases h1:x.1 !=1
 ·simp only[cond_false]
  have:=Zl9 (min x.2.2.1 65536).toNat (gLim x.2.2.2.1 1 (gLim x.2.1.2.2.2 3 6)).toNat
  have hg1:(gLim x.2.2.2.1 1 (gLim x.2.1.2.2.2 3 6)).toNat<=6:=by simp only[gLim,Zh7,RT.val];omega
  omega
 ·simp only[cond_true,List.length_replicate]
  have:(gRep x).2.toNat<=x.2.2.2.1.toNat:=by
   unfold gRep Zji
   simp only[gLim,Zh7,RT.val]
   cases x.1==2<;>cases x.1==3<;>cases x.1==4<;>simp[RT.val]<;>omega
  omega
theorem Ziw {s:List Int×Int} {k:Int} (h:NB s k) (hk:k<=1000000):ZgC s=true/\NB (Zj4 s).2 (k+1):=by
 obtain⟨a,b,_,_⟩:=ZN h hk 2 (by decide) (by decide)
 have hv:(ZgB s).val=some ((Ze s 2).1==1,(Ze s 2).2):=by simp only[ZgB,RT.val,a,cond_true]
 simp only[ZgC,Zj4,hv,okB,getO]
 exact⟨trivial,b⟩
def ZlL (y:ITMT):Prop:=y.2.2.2.1<=8/\y.2.2.1<=8
theorem Zi9 (i:Int) (s1:List Int) (s2:Int) (acc:List ITMT) (k:Int) (hk:k<=1000) (h:NB (s1,s2) k) (h0:0<i) (h1:i<=12) (hl:acc.length<=100):
  ∃a',(ZbZ (i,s1,s2,acc,())).val=some (.cont a')/\a'.1=i-1/\NB (a'.2.1,a'.2.2.1) (k+13)/\∃y,a'.2.2.2.1=acc++[y]/\ZlL y:=by
 obtain⟨a1,a2,a3,a4⟩:=ZN h (by omega) 8 (by decide) (by decide)
 obtain⟨b1,b2,b3,b4⟩:=ZN a2 (by omega) 6 (by decide) (by decide)
 obtain⟨c1,c2,c3,c4⟩:=ZN b2 (by omega) 8 (by decide) (by decide)
 obtain⟨d1,d2⟩:=Ziw c2 (by omega)
 obtain⟨e1,e2⟩:=Ziw d2 (by omega)
 obtain⟨f1,f2,f3,f4⟩:=ZN e2 (by omega) 14 (by decide) (by decide)
 obtain⟨g1,g2,_⟩:=Zlm f2 (by omega)
 obtain⟨h1',h2,_⟩:=Zln g2 (by omega)
 obtain⟨i1,i2,i3,i4⟩:=ZN h2 (by omega) 8 (by decide) (by decide)
 obtain⟨j1,j2,j3,j4⟩:=ZN i2 (by omega) 3 (by decide) (by decide)
 obtain⟨k1,k2,k3,k4⟩:=ZN j2 (by omega) 4 (by decide) (by decide)
 have r1:Zaf (Ze (s1,s2) 8).1 8=true:=Zaa.2 ⟨a3,by omega⟩
 have r2:Zaf (Ze (Ze (s1,s2) 8).2 6).1 6=true:=Zaa.2 ⟨b3,by omega⟩
 have w1:i64.wrap (i-1)=i-1:=Zbm _ (by omega) (by omega)
 have hi:decide (i>0)=true:=by simp;omega
 have hble:∀y:ITMT,Nat.ble (acc++[y]).length most=true:=λy=>by rw[Nat.ble_eq];simp[most];omega
 have hw:∀v:Int,0<=v->v<6->R.get (R.int i64) [0,0,0,1,3,-1] v<=8:=by
  intro v h0 h1
  have:v=0\/v=1\/v=2\/v=3\/v=4\/v=5:=by omega
  rcases this with rfl|rfl|rfl|rfl|rfl|rfl<;>decide
 have hsh:∀(b:Bool) (p q:Int),p<=8->q<=8->(bif b then p else q)<=8:=λb p q h1 h2=>by cases b<;>assumption
 have hnb:∀(b:Bool) (p q:List Int×Int),NB p (k+13)->NB q (k+13)->NB (bif b then p.1 else q.1,bif b then p.2 else q.2) (k+13):=λb p q h1 h2=>by cases b<;>assumption
 have w2:i64.wrap ((Ze (Ze (Ze (s1,s2) 8).2 6).2 8).1-1)<=8:=by rw[Zbm _ (by omega) (by omega)];omega
 have hw2:=hw _ b3 b4
 simp only[ZbZ,RT.val,List.length_cons,List.length_nil,Nat.zero_add,Nat.reduceAdd,r1,r2,a1,b1,c1,d1,e1,f1,g1,h1',i1,j1,k1,hi,w1,hble,orR,Bool.or_true,Bool.or_false,Bool.not_true,Bool.not_false,Bool.false_or,Bool.true_or,cond_true]
 refine⟨_,rfl,rfl,?_,_,rfl,?_⟩
 ·exact hnb _ _ _ ⟨k2.1,Int.le_trans k2.2 (by omega)⟩ ⟨j2.1,Int.le_trans j2.2 (by omega)⟩
 ·exact⟨hsh _ _ _ (by rw[Zbm _ (by omega) (by omega)];omega) w2,hw2⟩
theorem ZhU (n:List Int):Zeq n=true/\(Zaz n).length<=12/\∀y∈Zaz n,ZlL y:=by
 obtain⟨a1,a2,a3,a4⟩:=ZN (s:=(n,0)) (k:=0) ⟨Int.le_refl _,Int.le_refl _⟩ (by decide) 12 (by decide) (by decide)
 obtain⟨r,hr,h1,h2,h3⟩:=Zik (fl:=false) (t:=ZbZ) (fuel:=λ_=>20)
  (λa=>0<=a.1/\a.1+(a.2.2.2.1.length:Int)<=12/\NB (a.2.1,a.2.2.1) (1+13*(a.2.2.2.1.length:Int))/\∀y∈a.2.2.2.1,ZlL y) (λa=>a.1.toNat)
  (λr=>r.1=false/\r.2.2.2.2.1.length<=12/\∀y∈r.2.2.2.2.1,ZlL y)
  (by
   rintro⟨i,s1,s2,acc,u⟩ ⟨p1,p2,p3,p4⟩
   simp only at p1 p2 p3 p4
   by_cases hi:0<i
   ·obtain⟨a',q1,q2,q3,y,q4,q5⟩:=Zi9 i s1 s2 acc _ (by omega) p3 hi (by omega) (by omega)
    refine .inl ⟨a',q1,⟨by omega,?_,?_,?_⟩,by rw[q2];simp only;omega⟩
    ·rw[q2,q4];simp only[List.length_append,List.length_cons,List.length_nil];omega
    ·rw[q4]
     have e:1+13*(((acc++[y]).length:Nat):Int)=1+13*(acc.length:Int)+13:=by simp only[List.length_append,List.length_cons,List.length_nil];omega
     rw[e];exact q3
    ·rw[q4]
     intro z hz
     rcases List.mem_append.1 hz with hz|hz
     ·exact p4 z hz
     ·rw[List.mem_singleton] at hz;rw[hz];exact q5
   ·have k1:decide (i>0)=false:=by simp;omega
    refine .inr (.inl ⟨(i,s1,s2,acc,()),?_,rfl,by simp only;omega,p4⟩)
    simp only[ZbZ,RT.val,k1,cond_false])
  ((Ze (n,0) 12).1,(Ze (n,0) 12).2.1,(Ze (n,0) 12).2.2,[],()) ⟨a3,by simp only[List.length_nil];omega,by simpa using a2,λy hy=>by cases hy⟩ (by simp only;omega)
 have hv:(ZgQ n).val=some r.2.2.2.2.1:=by
  simp only[ZgQ,RT.val,a1,hr,okB,getO,cond_true]
 refine⟨by simp only[Zeq,hv,okB],?_⟩
 have e:Zaz n=r.2.2.2.2.1:=by simp only[Zaz,hv,getO]
 rw[e]
 exact⟨h2,h3⟩
theorem ZkF (c:Int) (B:Nat):∀l:List ITMT,(∀y∈l,(stsL y).length<=B)->(expP c l).length<=l.length*B
 |[],_=>by simp[expP]
 |y::l,h=>by
  have h1:=ZkF c B l (λz hz=>h z (by simp[hz]))
  have h2:=h y (by simp)
  have e:expP c (y::l)=(stsL y).map (pinP c y)++expP c l:=by simp[expP]
  rw[e,List.length_append,List.length_map,List.length_cons,Nat.add_mul]
  omega
theorem ZiA (c:Int) (n:List Int):(expP c (Zaz n)).length<=264:=by
 obtain⟨_,h2,h3⟩:=ZhU n
 have:=ZkF c 22 (Zaz n) (λy hy=>by
  have h4:=Zk8 y
  obtain⟨h5,h6⟩:=h3 y hy
  omega)
 have h7:(Zaz n).length*22<=12*22:=Nat.mul_le_mul_right 22 h2
 omega
theorem lGCat_law (n m:List Int) (chip:Int):Zmo n m chip=true/\Zkd n m chip=true:=by
 have hv:(Zfi n m chip).val=some true:=by
  obtain⟨n1,n2,_⟩:=ZhU n
  obtain⟨m1,m2,_⟩:=ZhU m
  obtain⟨c1,_⟩:=ZgL chip 2 (by decide) (by decide)
  by_cases hg:(decide (iN (List.length n)>150)||decide (iN (List.length m)>150))=true
  ·simp only[Zfi,RT.val,hg,ZhZ.2,Bool.or_true,cond_true]
  ·have hg':(decide (iN (List.length n)>150)||decide (iN (List.length m)>150))=false:=by simpa using hg
   have e1:=ZiA (i64.wrap (1+ZbE chip 2)) n
   have e2:=ZiA (i64.wrap (1+ZbE chip 2)) m
   have ea:∀c,expP c (Zaz n++Zaz m)=expP c (Zaz n)++expP c (Zaz m):=λc=>by simp[expP]
   simp only[Zfi,RT.val,hg',newG,List.nil_append,ea]
   generalize hX1:expP (i64.wrap (1+ZbE chip 2)) (Zaz n)=X1 at*
   generalize hX2:expP (i64.wrap (1+ZbE chip 2)) (Zaz m)=X2 at*
   obtain⟨s1,s2⟩:=ZjF (X1++X2) (by rw[List.length_append];omega)
   have b1:Nat.ble X1.length most=true:=by rw[Nat.ble_eq];simp only[most];omega
   have b2:Nat.ble X2.length most=true:=by rw[Nat.ble_eq];simp only[most];omega
   have b3:Nat.ble (X1++X2).length most=true:=by rw[Nat.ble_eq,List.length_append];simp only[most];omega
   have b4:Nat.ble (Zaz n).length most=true:=by rw[Nat.ble_eq];simp only[most];omega
   have b5:Nat.ble (Zaz n++Zaz m).length most=true:=by rw[Nat.ble_eq,List.length_append];simp only[most];omega
   simp only[n1,m1,c1,s1,s2,b1,b2,b3,b4,b5,ZhZ.1,ZhZ.2,orR,Bool.or_true,Bool.or_false,Bool.not_true,Bool.not_false,Bool.false_or,Bool.true_or,cond_true,cond_false,Bool.and_true]
 simp only[Zmo,Zkd,hv,okB,getO];exact⟨trivial,Tv⟩
end
end Go.Proofs.Ytlgmapcjapofoaa
