import Derived.Test.YtlgmapcjapofoaaExpB
import Derived.Test.YtlgmapcjapofoaaS3New
import Derived.RangeFuncNested
import Derived.RangeFuncLeaves
import Derived.Shelf.Abstract
import Derived.WalkKit
import Derived.OwnWalkIn
import Derived.TacticsInMore
import Derived.LoopNIn
import Derived.LoopIn
import Derived.Test.YtlgmapcjapofoaaS3D
import Derived.Test.YtlgmapcjapofoaaProg
import Derived.Test.YtlgmapcjapofoaaS3Box1
set_option linter.unusedVariables false
set_option linter.unusedSimpArgs false
namespace Go.Proofs.Ytlgmapcjapofoaa
open Go Go.S3 Go.Proofs Go.RowKit
noncomputable section
variable {n₀:Nat} {ex:Nat->Prop} {fz:Nat->Nat->Option Value} {M:List Nat} {m:Mem} {W W':World}
def memA (chip:Int) (L:List PINT):Mem:=⟨[[.int false .i64 chip],[.tip 0 0]],[stgP L 0]⟩
theorem init7 {x:Ctx} {m:Mem} {w:World} (hm:MemOk x m w) {chip:Int} (hc:inR .i64 chip) (T T':TypeId):
  Xw w.heap.size (λ_=>False) x.fz [w.heap.size,w.heap.size+1] (memA chip []) ((w.alloc (.cells #[.int .i64 chip] T)).alloc (.cells #[.slice none 0 0] T')):=by
 have h0:=ZiW hm
 have hj:=h0.joinS (g:=stgP [] 0) (s:=⟨none,none,0,ZcB.wid,0,0⟩) (λp cap h=>by simp at h) ⟨rfl,rfl,rfl,λ_=>⟨rfl,rfl⟩,λp cap h=>by simp at h,λ_=>rfl,λh=>by simp[stgP] at h,λh=>by simp[stgP] at h⟩
 have h1:=Zcf hj.1 (l:=[.int false .i64 chip]) (C:=[.int .i64 chip]) T ⟨.int _ _ _ _ hc,Tv⟩
 have h2:=Zcf h1.1 (l:=[.tip 0 0]) (C:=[.slice none 0 0]) T' ⟨.tip _ _ _ ⟨none,none,0,ZcB.wid,0,0⟩ _ rfl (Nat.le_refl _) (λ_=>rfl) trivial,Tv⟩
 have e:(w.alloc (.cells #[.int .i64 chip] T)).heap.size=w.heap.size+1:=World.size_alloc _ _
 have key:=h2.1
 refine⟨{own:=λk=>w.heap.size<=k/\¬False,M:=[w.heap.size,w.heap.size+1],S:=[⟨none,none,0,ZcB.wid,0,0⟩],fz:=x.fz},⟨rfl,λ_ _ _ h=>h,λ_ _ _ h=>.inl h⟩,rfl,?_⟩
 have k2:=ZiV key (λk=>w.heap.size<=k/\¬False) (λk hk=>⟨key.fresh k hk,id⟩) (λb p hp=>⟨(key.mown b p hp).1,id⟩) (λi s p cap h5 h6=>⟨(key.sown i s p cap h5 h6).1,id⟩)
 have hM:([]++[w.heap.size])++[(w.alloc (.cells #[.int .i64 chip] T)).heap.size]=[w.heap.size,w.heap.size+1]:=by rw[e];rfl
 exact hM▸k2
theorem Zly {x:ITMT} (h:Z9.ok x) (y:Ctx):RL y (Z9.enc x) [.int .i64 x.1,.int .i64 x.2.1.1,.int .u16 x.2.1.2.1,.int .u8 x.2.1.2.2.1,.int .i64 x.2.1.2.2.2,.int .i64 x.2.2.1,.int .i64 x.2.2.2.1,.bool x.2.2.2.2.1,.bool x.2.2.2.2.2]:=by
 obtain⟨h1,⟨h2,h3,h4,h5⟩,h6,h7,_⟩:=h
 exact⟨.int _ _ _ _ h1,.int _ _ _ _ h2,.int _ _ _ _ h3,.int _ _ _ _ h4,.int _ _ _ _ h5,.int _ _ _ _ h6,.int _ _ _ _ h7,.bool _ _ _,.bool _ _ _,Tv⟩
theorem Xw.item {b0 b1:List A} {st:List Stg} (h:Xw n₀ ex fz M ⟨[b0,b1],st⟩ W) {x:ITMT} (hx:Z9.ok x) (T:TypeId):Xw n₀ ex fz (M++[W.heap.size]) ⟨[b0,b1,Z9.enc x],st⟩ (W.alloc (.cells (ZX x) T)):=
 h.box T (Zly hx)
theorem Xw.drop {chip:Int} {L:List PINT} {x:ITMT} {pc po px:Nat} (h:Xw n₀ ex fz [pc,po,px] (memB chip L x 0) W):Xw n₀ ex fz [pc,po] (memA chip L) W:=by
 obtain⟨y,h1,h2,h3⟩:=h
 have hS:Zi 1 y.S=y.S:=by
  have:=h3.sl
  match hy:y.S,this with
  |[s],_=>rfl
  |[],e=>simp[memB] at e
  |_::_::_,e=>simp[memB] at e
 have hc:=h3.cut 2 1 (λb l hl a ha v hv=>by
  match b,hl with
  |0,hl=>
   simp only[memB,Zi,nth,oinj] at hl;subst hl
   simp only[List.mem_singleton] at ha;subst ha
   cases hv;exact .int _ _ _ _ (by assumption)
  |1,hl=>
   simp only[memB,Zi,nth,oinj] at hl;subst hl
   simp only[List.mem_singleton] at ha;subst ha
   cases hv with
   |tip _ _ _ s _ hs hv hval hat=>exact .tip _ _ _ s _ (by rw[hS];exact hs) hv hval hat
  |b+2,hl=>simp[memB,Zi,nth] at hl)
 exact⟨{y with M:=Zi 2 y.M,S:=Zi 1 y.S},⟨h1.own,h1.fzl,h1.fzn⟩,by show Zi 2 y.M=_;rw[h2];rfl,hc⟩
theorem Xw.out {chip:Int} {L:List PINT} {pc po:Nat} (h:Xw n₀ ex fz [pc,po] (memA chip L) W):∃y s,Xc n₀ ex fz y/\y.M=[pc,po]/\y.S=[s]/\MemOk y (memA chip L) W/\W.cell? ⟨po,0,none⟩=some (tipVal s)/\s.ver=0:=by
 obtain⟨y,h1,h2,h3⟩:=h
 obtain⟨s,hs⟩:∃s,y.S=[s]:=by
  have:=h3.sl
  match hy:y.S,this with
  |[s],_=>exact⟨s,rfl⟩
  |[],e=>simp[memA] at e
  |_::_::_,e=>simp[memA] at e
 have hs0:nth y.S 0=some s:=by rw[hs];rfl
 have hst:=h3.stg 0 (stgP L 0) s rfl hs0
 obtain⟨C,T,e1,e2⟩:=h3.box 1 [.tip 0 0] po rfl (by rw[h2];rfl)
 refine⟨y,s,h1,h2,hs,h3,?_,hst.ver⟩
 match C,e2 with
 |[v],e2=>
  have e3:RA y (.tip 0 0) v:=e2.1
  cases e3 with
  |tip _ _ _ s' _ hs' hv hval hat=>
   rw[hs0] at hs';cases hs'
   have:=hval hst.ver
   subst this
   simp only[World.cell?,e1]
   rfl
 |[],e2=>exact e2.elim
 |_::_::_,e2=>exact e2.2.elim
def expP (chip:Int) (l:List ITMT):List PINT:=l.flatMap λy=>(stsL y).map (pinP chip y)
theorem Zjy (chip:Int) (l:List ITMT) (y:ITMT):expP chip (l++[y])=expP chip l++(stsL y).map (pinP chip y):=by simp[expP]
theorem Zlc (chip:Int) (a b:List ITMT):(expP chip a).length<=(expP chip (a++b)).length:=by simp[expP]
def ZlH (fz:Nat->Nat->Option Value) (sv:Value) (l:List ITMT):Prop:=
 (∃a cap,sv=.slice a 0 cap/\l=[])\/∃b off cap,sv=.slice (some ⟨b,off,none⟩) l.length cap/\l.length<=maxLen/\
  ∀j x,l[j]? =some x->∀i,i<9->fz b (off+j*9+i)=some ((ZX x).getD i undef)
theorem heldI {x:Ctx} {l:List ITMT} {v:Value} {lit full nn:Bool} (h:RA x (.lst Z9 lit full nn l) v):ZlH x.fz v l:=by
 cases h with
 |lst0 _ _ _ _ _ _ a cap h1 _ _ _=>exact .inl ⟨a,cap,rfl,h1⟩
 |lst _ _ _ _ _ _ p o cap c h0 hf hcap hml hz hr=>
  refine .inr ⟨p,o,cap,rfl,hml,λj y hy i hi=> ?_⟩
  have hj:j<List.length (α:=ITMT) l:=(List.getElem?_eq_some_iff.1 hy).1
  have hel:elN Z9 l j=Z9.enc y:=by
   unfold elN
   have:List.getD (α:=ITMT) l j Z9.dflt=y:=by rw[List.getD_eq_getElem?_getD,hy];rfl
   rw[this]
  have key:∀i a,nth (Z9.enc y) i=some a->x.fz p (o+j*9+i)=some (c j i)/\RA x.bare a (c j i):=λi a ha=>⟨hz j i a hj (by rw[hel];exact ha),hr j i a hj (by rw[hel];exact ha)⟩
  match i,hi with
  |0,_=>obtain⟨k1,k2⟩:=key 0 _ rfl;generalize c j 0=u at*;cases k2;exact k1
  |1,_=>obtain⟨k1,k2⟩:=key 1 _ rfl;generalize c j 1=u at*;cases k2;exact k1
  |2,_=>obtain⟨k1,k2⟩:=key 2 _ rfl;generalize c j 2=u at*;cases k2;exact k1
  |3,_=>obtain⟨k1,k2⟩:=key 3 _ rfl;generalize c j 3=u at*;cases k2;exact k1
  |4,_=>obtain⟨k1,k2⟩:=key 4 _ rfl;generalize c j 4=u at*;cases k2;exact k1
  |5,_=>obtain⟨k1,k2⟩:=key 5 _ rfl;generalize c j 5=u at*;cases k2;exact k1
  |6,_=>obtain⟨k1,k2⟩:=key 6 _ rfl;generalize c j 6=u at*;cases k2;exact k1
  |7,_=>obtain⟨k1,k2⟩:=key 7 _ rfl;generalize c j 7=u at*;cases k2;exact k1
  |8,_=>obtain⟨k1,k2⟩:=key 8 _ rfl;generalize c j 8=u at*;cases k2;exact k1
def mark (D:Nat):Deferred:={target:=.collected D,args:= #[]}
theorem Zch {F:Fence} {n:Nat} {P:Program} {fn:Func} {tmps:Array Value} {R:Ending->World->Prop} (J:World->Prop)
  (hJ:∀W D,n₀<=D->J W->W.heap[D]? =some (.deferred (some []))->J (W.putObj D (.deferred none))) (hfin:∀W,J W->LeavesIn F n P fn tmps R [] .returning W):
  ∀(ds:List Nat) (W:World),ds.Nodup->(∀D∈ds,n₀<=D/\W.heap[D]? =some (.deferred (some [])))->J W->LeavesInM F n P fn tmps R (ds.map mark) .returning W
 |[],W,_,_,h=>hfin W h
 |D::ds,W,hn,hd,h=>by
  obtain⟨hD0,hD⟩:=hd D (by simp)
  refine⟨by simp,.inl ⟨D,_,rfl,run_takeDeferred hD,Zch J hJ hfin ds _ (List.nodup_cons.1 hn).2 (λD' h'=> ?_) (hJ W D hD0 h hD)⟩⟩
  have hne:D'≠D:=λe=>(List.nodup_cons.1 hn).1 (e▸h')
  exact⟨(hd D' (by simp[h'])).1,(World.putObj_heap_other hne).trans (hd D' (by simp[h'])).2⟩
theorem ZbU {w0:World} (h:ZZ w0 W) {row:Option Nat} (hg:W.grownBy W' row) (hr:∀r,row=some r->w0.heap.size<=r):ZZ w0 W':=
 ⟨⟨Nat.le_trans h.1.1 hg.size,λk hk=>(hg.block k (Nat.lt_of_lt_of_le hk h.1.1) λe=>by have:=hr k e.symm;omega).trans (h.1.2 k hk)⟩,hg.os.trans h.2.1,hg.tape.trans h.2.2.1,hg.output.trans h.2.2.2⟩
end
end Go.Proofs.Ytlgmapcjapofoaa
open Go.IntKind (u8 u16 i64)
namespace Go.Proofs.Ytlgmapcjapofoaa
open Go Go.S3 Go.Proofs Go.RowKit Go.Shelf
attribute [local go_sem] Oper.semAt_some
noncomputable section
structure Rd (w0:World) (fz:Nat->Nat->Option Value) (chip:Int) (ds:List Nat) (L:List PINT) (W:World):Prop where
 x:Xw w0.heap.size (λ_=>False) fz [w0.heap.size,w0.heap.size+1] (memA chip L) W
 nd:ds.Nodup
 mks:∀D∈ds,w0.heap.size<=D/\W.heap[D]? =some (.deferred (some []))
 s:ZZ w0 W
set_option maxRecDepth 100000 in
set_option maxHeartbeats 8000000 in
theorem ZlE (n:Nat) (hn:5<=n) (sv:Value) (chip:Int) (l:List ITMT) (fz:Nat->Nat->Option Value) (hl:ZlH fz sv l) (hok:∀y∈l,Z9.ok y) (hm:(expP chip l).length<=most) (w0:World)
  (hx:∀T T',Xw w0.heap.size (λ_=>False) fz [w0.heap.size,w0.heap.size+1] (memA chip []) ((w0.alloc (.cells #[.int .i64 chip] T)).alloc (.cells #[.slice none 0 0] T'))):
  CallsIn Fence.wide n Try.prog 11 #[.int .i64 chip,sv] w0 λe W'=>∃s y,e=.returned (tipVal s)/\s.ver=0/\y.M=[w0.heap.size,w0.heap.size+1]/\y.S=[s]/\Xc w0.heap.size (λ_=>False) fz y/\MemOk y (memA chip (expP chip l)) W'/\ZZ w0 W':=by
 have h1:1<=n:=by omega
 obtain⟨aa,cap,hsv⟩:∃aa cap,sv=.slice aa l.length cap:=by
  rcases hl with ⟨a,cap,e,e2⟩|⟨b,off,cap,e,_⟩
  ·exact⟨a,cap,by rw[e,e2];rfl⟩
  ·exact⟨_,cap,e⟩
 subst hsv
 have hlm:l.length<=maxLen:=by
  rcases hl with ⟨a,cap,e,e2⟩|⟨b,off,cap,e,h,_⟩
  ·rw[e2];exact Nat.zero_le _
  ·exact h
 refine callsIn_of_wp_marks Try.func11 rfl trivial ?_ rfl
 simp only[Try.ntmps11,List.size_toArray,List.length_cons,List.length_nil,Nat.reduceAdd,Nat.reduceSub,Array.replicate_succ,Array.replicate_zero,List.push_toArray,List.append_toArray,List.nil_append,List.cons_append]
 gi_wp2
 refine wpIn_loop (λa W=>∃(j:Nat) (ds:List Nat) (u7 u12 u13 u14 u15 u16 u37:Value),j<=l.length/\a={tmps:= #[.int .i64 chip,.slice aa l.length cap,.pointer (some ⟨w0.heap.size,0,none⟩),undef,.slice none 0 0,.pointer (some ⟨w0.heap.size+1,0,none⟩),undef,u7,undef,.slice aa l.length cap,.int .i64 (l.length:Int),.int .i64 (j:Int),u12,u13,u14,u15,u16,undef,undef,undef,undef,undef,undef,undef,undef,undef,undef,undef,undef,undef,undef,undef,undef,undef,undef,undef,undef,u37,undef],defers:=ds.map mark}/\Rd w0 fz chip ds (expP chip (l.take j)) W) (λa _=>l.length-(intOf (a.tmps.getD 11 undef)).toNat) ?ZfQ ?round
 case ZfQ=>
  refine⟨0,[],undef,undef,undef,undef,undef,undef,undef,Nat.zero_le _,rfl,⟨hx _ _,List.nodup_nil,λD hD=>by simp at hD,?_⟩⟩
  refine⟨⟨by simp;omega,λk hk=> ?_⟩,rfl,rfl,rfl⟩
  exact (Below.heap_alloc _ _ _ (by simp;omega)).trans (Below.heap_alloc _ _ _ hk)
 case round=>
  rintro a W ⟨j,ds,u7,u12,u13,u14,u15,u16,u37,hj,rfl,hR⟩
  by_cases hlt:j<l.length
  ·obtain⟨b,off,hab,hcf⟩:∃b off,aa=some ⟨b,off,none⟩/\∀j x,l[j]? =some x->∀i,i<9->fz b (off+j*9+i)=some ((ZX x).getD i undef):=by
    rcases hl with ⟨a,cap,e,e2⟩|⟨b,off,cap,e,_,h⟩
    ·rw[e2] at hlt;simp at hlt
    ·simp only[Value.slice.injEq] at e
     exact⟨b,off,e.1,h⟩
   subst hab
   obtain⟨x,hxj⟩:∃x,l[j]? =some x:=⟨_,List.getElem?_eq_getElem hlt⟩
   have hcell:∀i,i<9->W.cell? ⟨b,off+j*9+i,none⟩=some ((ZX x).getD i undef):=λi hi=>by
    obtain⟨y,hy1,_,hy3⟩:=hR.x
    exact hy3.fz _ _ _ (hy1.fzl _ _ _ (hcf j x hxj i hi))
   have c0:=hcell 0 (by omega)
   have c1:=hcell 1 (by omega)
   have c2:=hcell 2 (by omega)
   have c3:=hcell 3 (by omega)
   have c4:=hcell 4 (by omega)
   have c5:=hcell 5 (by omega)
   have c6:=hcell 6 (by omega)
   have c7:=hcell 7 (by omega)
   have c8:=hcell 8 (by omega)
   simp[ZX,Array.getD] at c0 c1 c2 c3 c4 c5 c6 c7 c8
   have hf23:Fence.wide.fn 23:=trivial
   gi_wp2_with (gi_at_call 23;refine (Zli Fence.wide (n-1) trivial rfl x _).mono ?_;rintro e w' ⟨rfl,rfl⟩)
   have hitm:Z9.ok x:=hok x (List.mem_iff_getElem?.2 ⟨j,hxj⟩)
   have hX2:=(Xw.item hR.x hitm 44).block (.cells (ZX x) 44)
   have hI2:Zcw ((W.alloc (.cells (ZX x) 44)).alloc (.cells (ZX x) 44)) (W.heap.size+1) x:=by
    have:=World.alloc_heap_new (W.alloc (.cells (ZX x) 44)) (.cells (ZX x) 44)
    rw[World.size_alloc] at this
    exact this
   have hz2:((W.alloc (.cells (ZX x) 44)).alloc (.cells (ZX x) 44)).heap.size=W.heap.size+2:=by simp
   have hg2:W.grownBy ((W.alloc (.cells (ZX x) 44)).alloc (.cells (ZX x) 44)) none:=by
    have a1:=World.grownBy_alloc W (.cells (ZX x) 44) none
    have a2:=World.grownBy_alloc (W.alloc (.cells (ZX x) 44)) (.cells (ZX x) 44) none
    exact⟨a2.os.trans a1.os,a2.tape.trans a1.tape,a2.output.trans a1.output,Nat.le_trans a1.size a2.size,λk hk hn=>(a2.block k (Nat.lt_of_lt_of_le hk a1.size) hn).trans (a1.block k hk hn)⟩
   rw[World.size_alloc] at hX2
   generalize hW2:(W.alloc (.cells (ZX x) 44)).alloc (.cells (ZX x) 44)=W2 at*
   have hs2:ZZ w0 W2:=ZbU hR.s hg2 (λr e=>by cases e)
   have hm2:∀D∈ds,(w0.heap.size<=D/\D<W2.heap.size)/\W2.heap[D]? =some (.deferred (some [])):=λD hD=>by
    obtain⟨k1,k2⟩:=hR.mks D hD
    have hlt':=(Array.getElem?_eq_some_iff.1 k2).1
    exact⟨⟨k1,by omega⟩,(hg2.block D hlt' (λe=>by cases e)).trans k2⟩
   have hwz:w0.heap.size<=W2.heap.size:=hs2.1.1
   clear c0 c1 c2 c3 c4 c5 c6 c7 c8 hcell hcf
   generalize hL:expP chip (l.take j)=L at*
   have hLn:expP chip (l.take (j+1))=L++(stsL x).map (pinP chip x):=by
    rw[List.take_add_one,hxj]
    simp only[Option.toList_some]
    rw[Zjy,hL]
   have hLm:L.length+(stsL x).length<=most:=by
    have:=Zlc chip (l.take (j+1)) (l.drop (j+1))
    rw[List.take_append_drop,hLn] at this
    simp at this
    omega
   refine wpIn_rangeFunc_ownH (F:=Fence.wide) rfl h1 (gf:=29) (lb:= #[.pointer (some ⟨W.heap.size+1,0,none⟩)]) rfl trivial (enters_of Try.func29 (by kernel_rfl) rfl)
    (Ziy Fence.wide (n-1) trivial trivial trivial rfl (by omega) (W.heap.size+1) x W2 (by omega) hI2) (λh k=>Eq.trans k h) (λW' k o o' hk _ _ _=>World.putObj_heap_other (by omega)) (Below.refl _ _) (λ_=>rfl)
    (λpre W'=>Xw w0.heap.size (λk=>k=W.heap.size+1) fz [w0.heap.size,w0.heap.size+1,W.heap.size] (memB chip (L++pre.map (λt=>pinP chip x t.1)) x 0) W'/\(∀D∈ds,W'.heap[D]? =some (.deferred (some [])))/\ZZ w0 W')
    (λ_ _ _=>False)
    (λpre A C row ⟨k1,k2,k3⟩ hg hr=>⟨k1.grown hg (λr e=>(hr r e).2),λD hD=>(hg.block D (Array.getElem?_eq_some_iff.1 (k2 D hD)).1 (λe=>by have:=(hr D e.symm).1;have:=(hm2 D hD).1.2;omega)).trans (k2 D hD),ZbU k3 hg (λr e=>Nat.le_trans hwz (hr r e).1)⟩)
    (λ_ _ _ _ _ h _ _=>h) ⟨by rw[List.map_nil,List.append_nil];exact hX2,λD hD=>(hm2 D hD).2,hs2⟩
    (λt a' _=>a'={tmps:= #[.int .i64 chip,.slice (some ⟨b,off,none⟩) l.length cap,.pointer (some ⟨w0.heap.size,0,none⟩),undef,.slice none 0 0,.pointer (some ⟨w0.heap.size+1,0,none⟩),undef,.pointer (some ⟨W.heap.size,0,none⟩),.int .i64 t.1,.slice (some ⟨b,off,none⟩) l.length cap,.int .i64 (l.length:Int),.int .i64 (j:Int),.bool true,.pointer (some ⟨b,off+j*9,none⟩),.agg (ZX x),.agg (ZX x),.func (.func 29) #[] #[.pointer (some ⟨W.heap.size+1,0,none⟩)],.int .i64 t.1,undef,undef,undef,undef,undef,undef,undef,undef,undef,undef,undef,undef,undef,undef,undef,undef,undef,undef,undef,u37,undef],defers:=[]})
    (λ_ _ _ _ _ _ hs _ _=>hs) ?assign ?body ?done ?stop
   case assign=>
    rintro y pre t W' K hI hK
    gi_wp2
    exact hK _ _ (KeepsFrom.refl _ _) rfl hI rfl
   case body=>
    rintro y pre t a' W' hy hlp ⟨k1,k2,k3⟩ rfl hlen
    refine wpIn_block ?_
    refine Zlk (chip:=chip) (t:=t.1) (x:=x) (by obtain⟨t,t0,t1⟩:=t;exact⟨by simp[IntKind.min,IntKind.signed,IntKind.bits];omega,by simp[IntKind.max,IntKind.signed,IntKind.bits];omega⟩) (by simp;omega) k1 rfl rfl rfl rfl rfl rfl (λ⟨_,_,h⟩=>h.elim) ?_
    intro a2 W3 hX3 hz3 hb3 ho3 ht3 hp3
    refine⟨⟨hz3,λk o hk ho hn=>(hb3 k (.inr (.inr ⟨o,ho,hn⟩))).trans ho⟩,hb3 _ (.inr (.inl rfl)),by rw[List.map_append,<-List.append_assoc];exact hX3,λD hD=>(hb3 D (.inr (.inr ⟨_,k2 D hD,rfl⟩))).trans (k2 D hD),?_⟩
    exact⟨⟨Nat.le_trans k3.1.1 hz3,λk hk=>(hb3 k (.inl (by omega))).trans (k3.1.2 k hk)⟩,ho3.trans k3.2.1,ht3.trans k3.2.2.1,hp3.trans k3.2.2.2⟩
   case done=>
    rintro D ys W' hD hS ⟨k1,k2,k3⟩ hK
    have hb63:(j:Int)+1<=9223372036854775807:=by
     have:maxLen=9223372036854775807:=by decide
     omega
    have hj0:(0:Int)<=j:=by omega
    have eL:L++ys.map (λt=>pinP chip x t.1)=expP chip (l.take (j+1)):=by
     rw[hLn,<-hS,List.map_map];rfl
    rw[eL] at k1
    gi_wp2
    refine⟨⟨j+1,D::ds,_,_,_,_,_,_,_,hlt,rfl,⟨k1.all.drop,List.nodup_cons.2 ⟨λh=>by have:=(hm2 D h).1.2;omega,hR.nd⟩,λD' h'=> ?_,k3⟩⟩,?_⟩
    ·rcases List.mem_cons.1 h' with h'|h'
     ·subst h';exact⟨by omega,hK⟩
     ·exact⟨(hm2 D' h').1.1,k2 D' h'⟩
    ·simp[intOf]
     omega
   case stop=>
    rintro D c pre W' hD _ hf
    exact hf.elim
  ·have hjl:j=l.length:=by omega
   subst hjl
   obtain⟨y,s,hy1,hy2,hy3,hy4,hy5,hy6⟩:=hR.x.out
   have hm2:=hR.mks
   have hnd:=hR.nd
   have hs2:=hR.s
   rw[List.take_length] at hy4
   gi_wp2
   refine Zch (n₀:=w0.heap.size) (λW'=>MemOk y (memA chip (expP chip l)) W'/\ZZ w0 W') ?_ ?_ ds _ hnd hm2 ⟨hy4,hs2⟩
   ·rintro W' D hD ⟨k1,k2⟩ hk
    have hg:=grownBy_putObj' W' D (.deferred none)
    exact⟨k1.grown hg (λr e=>by cases e;exact⟨_,hk,rfl⟩),ZbU k2 hg (λr e=>by cases e;exact hD)⟩
   ·rintro W' ⟨k1,k2⟩
    refine⟨tipVal s,?_,s,y,rfl,hy6,hy2,hy3,hy1,k1,k2⟩
    simp[results,Try.f11,go_sem]
end
end Go.Proofs.Ytlgmapcjapofoaa
namespace Go.Proofs.Ytlgmapcjapofoaa
open Go Go.S3 Go.Proofs Go.RowKit
noncomputable section
abbrev ZlC:List Sh:=[.one (R.int i64),.one (.sl Z9)]
abbrev ZkJ:Entry:=newE ZcB 46 ZlC (λa=>some (Nat.ble (expP a.1 a.2).length most)) (λa=>expP a.1 a.2)
set_option maxHeartbeats 1000000 in
theorem Zkn:Zc Try.prog 11 ZkJ:=by
 refine⟨Try.call11,λvs m=> ?_,λvs m q hq hc x w args hm hv=> ?_⟩
 ·simp only
  split
  ·intro q hq
   simp only[oinj] at hq;subst hq
   exact⟨Nat.le_refl _,λb l hl=>⟨l,hl,rfl,λ_ _=>rfl⟩,by simp,λi g hg=>⟨g,by
    show nth (m.stgs++[_]) i=some g
    rw[Za,List.getElem?_append_left (Zl hg),<-Za];exact hg,Nat.le_refl _,λ_=>rfl⟩⟩
  ·intro q hq;simp at hq
 ·simp only at hq
  split at hq
  ·rename_i a ha
   simp only[RT.val,oinj] at hq
   subst hq
   obtain⟨hargs,hin⟩:=Zds ha hv
   obtain⟨chip,l⟩:=a
   have hlen:(expP chip l).length<=most:=by
    cases hb:Nat.ble (expP chip l).length most with
    |true=>simpa [Nat.ble_eq] using hb
    |false=>simp only[hb] at hc;exact absurd rfl hc
   match args,hargs with
   |[v0,v1],hargs=>
    have hv0:RA x (.int false .i64 chip) v0:=hargs.1
    have hv1:RA x (.lst Z9 false false false l) v1:=hargs.2.1
    have hchip:inR .i64 chip:=hin.1
    have hok:∀y∈(l:List ITMT),Z9.ok y:=(hin.2:(R.sl Z9).ok l).2
    cases hv0
    have key:=ZlE 5 (Nat.le_refl _) v1 chip l x.fz (heldI hv1) hok hlen w (λT T'=>init7 hm hchip T T')
    refine (callsIn_wide.1 key).mono ?_
    rintro e w' ⟨s,y,rfl,hver,hM,hS,hxc,hmok,hs⟩
    have hext:Ext (Ctx.own0 w x.fz) {y with own:=(Ctx.own0 w x.fz).own}:=⟨rfl,λb p e=>by simp[Ctx.own0,Zd] at e,λb p e=>by simp[Ctx.own0,Zd] at e,hxc.fzl,λb o v e=>(hxc.fzn b o v e).imp id id⟩
    obtain⟨h3,h4⟩:=ZjT hm hext hmok.fz hs.1
    have hs0:nth y.S 0=some s:=by rw[hS];rfl
    have hok0:=hmok.stg 0 (stgP (expP chip l) 0) s rfl hs0
    have hown:∀p cap,s.blk=some (p,cap)->w.heap.size<=p:=λp cap hp=>by
     have:=(hmok.sown 0 s p cap hs0 hp).1
     rw[hxc.own] at this
     exact this.1
    have hat:atomic (tipVal s):=by unfold tipVal;split<;>trivial
    have hj:=h3.joinS (g:=newG ZcB 46 (expP chip l)) (s:=s)
     (λp cap hp=>by
      have hp:=hown p cap hp
      exact⟨hm.fresh p hp,λb hb=>by have:=hm.M_lt hb;omega,λi s' cap' hs' hb=>by have:=hm.S_lt hs' hb;omega⟩)
     ⟨hver,hok0.n,hok0.wd,hok0.nil,λp cap hp=>by
      obtain⟨C,a1,a2,a3,a4,a5,a6,a7,a8⟩:=hok0.row p cap hp
      refine⟨C,a1,a2,a3,a4,λi j a' hi ha'=> ?_,a6,a7,a8⟩
      obtain⟨v,e1,e2⟩:=a5 i j a' hi ha'
      exact⟨v,e1,e2.plain (λ_ _ _ e=>e) (R.enc_plain _ _ _ (ZW ha'))⟩,λ_=>hok0.fzn rfl,λh=>by simp at h,λh=>by simp at h⟩
    refine⟨tipVal s,_,rfl,?_,hj.1,h4.trans hj.2,hs.step hm⟩
    refine RA.tip _ _ _ s _ ?_ (Nat.zero_le _) (λ_=>rfl) hat
    rw[Za,Zq,<-hm.sl];simp
   |[],hargs=>exact hargs.elim
   |[_],hargs=>exact hargs.2.elim
   |_::_::_::_,hargs=>exact hargs.2.2.elim
  ·simp[RT.val] at hq
def Zk9:Entry:=frzE ZkJ
theorem Zjr:Zc Try.prog 11 Zk9:=ZlD Zkn
end
end Go.Proofs.Ytlgmapcjapofoaa
open Go Go.S3 Go.Proofs
set_option maxRecDepth 100000
namespace Go.Proofs.Ytlgmapcjapofoaa
noncomputable section
abbrev ZhC:List Sh:=[Sh.one (R.int i64),Sh.one (R.int i64)]
abbrev Zfq:Rs:=Rs.one (Sh.one (R.int i64))
def ZdV (x:Int) (n:Int):RT (Option (Int)):=
 .br (IntKind.u64.wrap n !=0) (.leaf (some (i64.wrap (Int.tmod (IntKind.u64.wrap x) (IntKind.u64.wrap n))))) (.leaf none)
def Zap (x:Int) (n:Int):Int:=getO Zfq.dflt (ZdV x n).val
def ZcI (x:Int) (n:Int):Bool:=okB (ZdV x n).val
def Zi2:Entry:=Z4 ZhC Zfq (λa=>some (ZcI a.1 a.2)) (λa=>Zap a.1 a.2)
theorem Zi1:Zc Try.prog 13 Zi2:=
 pureP 31 [] [] ZhC Zfq trivial Try.func13 Try.call13 trivial (t:=λa=>ZdV a.1 a.2)
theorem ZdU (x n:Int) (h0:0<n) (h1:n<=4611686018427387904):ZcI x n=true/\Zap x n=(x%18446744073709551616)%n:=by
 have e:IntKind.wrap .u64 n=n:=ZkQ ⟨by simp[IntKind.min,IntKind.signed];omega,by simp[IntKind.max,IntKind.signed,IntKind.bits];omega⟩
 have e2:IntKind.wrap .u64 x=x%18446744073709551616:=by simp[IntKind.wrap,IntKind.signed,IntKind.bits]
 have hn:(n !=0)=true:=by simp;omega
 have h2:0<=x%18446744073709551616:=Int.emod_nonneg _ (by decide)
 have h3:=Int.emod_nonneg (x%18446744073709551616) (b:=n) (by omega)
 have h4:=Int.emod_lt_of_pos (x%18446744073709551616) (b:=n) h0
 have hv:(ZdV x n).val=some ((x%18446744073709551616)%n):=by
  simp only[ZdV,RT.val,e,e2,hn,cond_true,Int.tmod_eq_emod_of_nonneg h2]
  rw[Zdo _ (by omega) (by omega)]
 exact⟨by simp only[ZcI,hv];rfl,by simp only[Zap,hv,getO]⟩
abbrev Zgo:List Sh:=[Sh.one (R.sl Z9)]
abbrev Zd5:Rs:=Rs.tup [Sh.one (R.int i64),Sh.one (R.int i64),Sh.one (R.int i64),Sh.one (R.int i64),Sh.one (R.int i64)]
def Zie:LS:={n:=52,slots:=[(2,.code (Sh.one (R.int i64))),(3,.code (Sh.one (R.int i64))),(4,.code (Sh.one (R.int i64))),(5,.code (Sh.one (R.int i64))),(6,.code (Sh.one (R.int i64))),(10,.code (Sh.one (R.sl Z9))),(11,.code (Sh.one (R.int i64))),(12,.code (Sh.one (R.int i64)))],boxes:=[],stgs:=[]}
def ZeO (a:QT0):RT (Option (Go1 (QT0))):=
 let x1:ITMT:=R.get Z9 a.2.2.2.2.2.1 a.2.2.2.2.2.2.2.1
 let x2:=x1.1
 let x3:=x1.2.2
 let x4:=x3.2.1
 let x5:Int:=if 0>x4 then 0 else x4
 let x6:=x3.1
 let x7:List ITMT×Int×Int×PUnit:=(a.2.2.2.2.2.1,a.2.2.2.2.2.2.1,i64.wrap (a.2.2.2.2.2.2.2.1+1),PUnit.unit)
 let x8:Int×List ITMT×Int×Int×PUnit:=(a.2.2.2.2.1,x7)
 let x9:Int×Int×List ITMT×Int×Int×PUnit:=(a.2.2.2.1,x8)
 .br (decide (a.2.2.2.2.2.2.2.1<a.2.2.2.2.2.2.1)) (.br (Zcl a.2.2.2.2.2.2.2.1 (List.length a.2.2.2.2.2.1)) (.br (x2==1) (.leaf (some (Go1.cont (i64.wrap (a.1+x5),i64.wrap (a.2.1+if 0>x6 then 0 else x6),a.2.2.1,x9)))) (.br (x2==2) (.leaf (some (Go1.cont (a.1,a.2.1,i64.wrap (a.2.2.1+x5),x9)))) (.br (x2==3) (.leaf (some (Go1.cont (a.1,a.2.1,a.2.2.1,i64.wrap (a.2.2.2.1+x5),x8)))) (.leaf (some (Go1.cont (a.1,a.2.1,a.2.2.1,a.2.2.2.1,bif x2==4 then i64.wrap (a.2.2.2.2.1+x5) else a.2.2.2.2.1,x7))))))) (.leaf none)) (.leaf (some (Go1.brk (a.1,a.2.1,a.2.2.1,a.2.2.2.1,a.2.2.2.2.1,a.2.2.2.2.2.1,a.2.2.2.2.2.2.1,a.2.2.2.2.2.2.2.1,PUnit.unit))))
def ZeP:Ora:=Zke false Zie ZeO (λa=>1000000000000)
theorem Zgp:ZfK (envX Try.prog [] [] 2269892314111 8) (.block 0 (.loop (ZgF Try.f20.body 0))) ZeP:=
 loopP trivial
def Zfw (l:List ITMT):RT (Option (Int×Int×Int×Int×Int)):=
 let x1:QT0:=(0,0,0,0,0,l,iN (List.length l),0,())
 let x2:=runF false ZeO (λa=>1000000000000) x1
 let x3:QT0:=(getO (false,x1) x2).2
 let x4:=x3.2
 let x5:=x4.2
 let x6:=x5.2
 .br (okB x2) (.leaf (some ((x3.1,x4.1,x5.1,x6.1,x6.2.1)))) (.leaf none)
def Zjm (l:List ITMT):Int×Int×Int×Int×Int:=getO Zd5.dflt (Zfw l).val
def ZhK (l:List ITMT):Bool:=okB (Zfw l).val
def ZhJ:Entry:=Z4 Zgo Zd5 (λa=>some (ZhK a)) (λa=>Zjm a)
theorem Zid:Zc Try.prog 20 ZhJ:=
 pureP 2269892314111 [] [(0,ZeP)] Zgo Zd5 trivial Try.func20 Try.call20 ⟨Zgp,Tv⟩ (t:=λa=>Zfw a)
abbrev ZhI:List Sh:=[Sh.one (R.int i64),Sh.one (R.sl Z9)]
abbrev Zfv:Rs:=Rs.one (Sh.one R.bool)
def Zjj:LS:={n:=96,slots:=[(1,.code (Sh.one (R.sl Z9))),(4,.code (Sh.one R.bool)),(10,.code (Sh.one (R.sl Z9))),(11,.code (Sh.one (R.int i64))),(12,.code (Sh.one (R.int i64)))],boxes:=[],stgs:=[]}
def Zgm (a:List ITMT×Bool×List ITMT×Int×Int×PUnit):RT (Option (Go1 (List ITMT×Bool×List ITMT×Int×Int×PUnit))):=
 let x1:=i64.wrap (a.2.2.2.2.1+1)==iN (List.length a.1)
 let x2:=x1||Zcl (i64.wrap (a.2.2.2.2.1+1)) (List.length a.1)
 let x3:= !x2
 let x4:ITMT:=R.get Z9 a.2.2.1 a.2.2.2.2.1
 let x5:=x4.1
 let x6:=x5==1
 let x7:=x6&& !ZlB x4 (x1||(R.get Z9 a.1 (i64.wrap (a.2.2.2.2.1+1))).1==4)
 let x8:=x4.2.2
 let x9:=x8.2
 let x10:=(gRep x4).1==0||(decide (x9.1<1)||x8.1 !=0)
 let p1:=x10::x6::x7::x3::(!Zcl a.2.2.2.2.1 (List.length a.2.2.1))::[]
 let x11:=Zcl (i64.wrap (a.2.2.2.2.1-1)) (List.length a.1)
 let x12:= !x11
 let x13:ITMT:=R.get Z9 a.1 (i64.wrap (a.2.2.2.2.1-1))
 let x14:=x13.1==x5
 let x15:= !x14
 let x16:=x13.2.2.2.2
 let x17:=x9.2
 let x18:=x16.1==x17.1
 let p2:=(!x18)::x12::x15::x12::(!decide (a.2.2.2.2.1>0))::[]
 let x19:=orR p2 x11
 let x20:= !x19
 let p3:=x20::p1
 let x21:= !decide (a.2.2.2.2.1>0)||(x12||(x15||x11))
 let p4:=(!decide (a.2.2.2.2.1>0))::(!x21)::p3
 let x22:List ITMT×Int×Int×PUnit:=(a.2.2.1,a.2.2.2.1,a.2.2.2.2.1,PUnit.unit)
 .br (decide (a.2.2.2.2.1<a.2.2.2.1)) (.br (orR p4 x11) (.br (orR p3 x21) (.br (orR p1 x19) (.br (!Zcl a.2.2.2.2.1 (List.length a.2.2.1)||x2) (.br (Zcl a.2.2.2.2.1 (List.length a.2.2.1)) (.br (x7) (.leaf (some (Go1.ret (a.1,false,x22)))) (.br (x6) (.leaf (some (Go1.cont (a.1,a.2.1,a.2.2.1,a.2.2.2.1,i64.wrap (a.2.2.2.2.1+1),PUnit.unit)))) (.br (x10) (.leaf (some (Go1.ret (a.1,false,x22)))) (.br (decide (a.2.2.2.2.1>0)&&(x14&&(x18&&x16.2==x17.2))) (.leaf (some (Go1.ret (a.1,false,x22)))) (.leaf (some (Go1.cont (a.1,a.2.1,a.2.2.1,a.2.2.2.1,i64.wrap (a.2.2.2.2.1+1),PUnit.unit)))))))) (.leaf none)) (.leaf none)) (.leaf none)) (.leaf none)) (.leaf none)) (.leaf (some (Go1.brk (a.1,a.2.1,x22))))
def Zgn:Ora:=Zke true Zjj Zgm (λa=>1000000000000)
theorem Zhi:ZfK (envX Try.prog [(27,Zjq),(28,Zk7)] [] 1023 8) (.block 0 (.loop (ZgF Try.f21.body 0))) Zgn:=
 loopP ⟨ZhL,Zjn,Tv⟩
def Zhh (k:Int) (l:List ITMT):RT (Option (Bool)):=
 let x1:=runF true Zgm (λa=>1000000000000) (l,false,l,iN (List.length l),0,())
 let x2:=getO (false,l,false,l,iN (List.length l),0,()) x1
 .br (okB x1) (.br x2.1 (.leaf (some x2.2.2.1)) (.leaf (some (true)))) (.leaf none)
def Zlz (k:Int) (l:List ITMT):Bool:=getO Zfv.dflt (Zhh k l).val
def Zjl (k:Int) (l:List ITMT):Bool:=okB (Zhh k l).val
def Zjk:Entry:=Z4 ZhI Zfv (λa=>some (Zjl a.1 a.2)) (λa=>Zlz a.1 a.2)
theorem Zji:Zc Try.prog 21 Zjk:=
 pureP 1023 [(27,Zjq),(28,Zk7)] [(0,Zgn)] ZhI Zfv ⟨ZhL,Zjn,Tv⟩ Try.func21 Try.call21 ⟨Zhi,Tv⟩ (t:=λa=>Zhh a.1 a.2)
abbrev ZkD:List Sh:=[]
abbrev Zja:Rs:=Rs.one (Sh.one R.bool)
def Zkg:RT (Option (Bool)):=
 let x1:List ITMT:=[(1,(1,0,0,4),1,4,false,false)]
 let x2:=expP 2 x1
 let x3:List PINT:=Stg.l (newG ZcB 46 x2)
 let x4:Nat:=List.length x3
 let x5:= !iN x4==5
 let x6:=x5||Zcl 0 x4
 let x7:= !x6
 let x8:= !(R.get (Stg.r (newG ZcB 46 x2)) x3 0).2.2.2.2.2.2.2.1
 let x9:=x5||(x8||Zcl 2 x4)
 let x10:= !x9
 let x11:= !(R.get (Stg.r (newG ZcB 46 x2)) x3 2).1==7
 let x12:=x5||(x8||(x11||Zcl 4 x4))
 let x13:=Zjm x1
 let p1:=(!x13.2.1==1)::(!x13.1==4)::(!(R.get (Stg.r (newG ZcB 46 x2)) x3 4).1==4)::x11::x8::x5::(!x12)::x10::x7::[]
 .br (Nat.ble (List.length x2) most) (.br (ZhK x1) (.br (orR p1 (Zjl 2 x1)) (.br (x7||(x10||x12)) (.br (x7||x9) (.br (x6) (.leaf (some (true))) (.leaf none)) (.leaf none)) (.leaf none)) (.leaf none)) (.leaf none)) (.leaf none)
def kKnG:Bool:=getO Zja.dflt (Zkg).val
def Zkh:Bool:=okB (Zkg).val
def Zlx:Entry:=Z4 ZkD Zja (λa=>some (Zkh)) (λa=>kKnG)
theorem Zk4:Zc Try.prog 8 Zlx:=
 pureP 255 [(11,Zk9),(20,ZhJ),(21,Zjk)] [] ZkD Zja ⟨Zjr,Zid,Zji,Tv⟩ Try.func8 Try.call8 trivial (t:=λa=>Zkg)
abbrev Zi7:List Sh:=[Sh.one (R.int i64),Sh.one (R.int i64),Sh.one (R.int i64)]
abbrev Zhb:Rs:=Rs.one (Sh.one R.bool)
def Zgd (n:Int) (kind:Int) (chip:Int):RT (Option (Bool)):=
 let x1:List PINT:=expP (i64.wrap (1+Zap chip 2)) [(i64.wrap (2+Zap kind 3),(0,0,0,0),0,i64.wrap (65535+Zap n 3),false,false)]
 let x2:=Nat.ble (List.length x1) most
 let x3:= !x2
 let x4:Int:=if 65536<i64.wrap (65535+Zap n 3) then 65536 else i64.wrap (65535+Zap n 3)
 let x5:=iN (List.length (Stg.l (newG ZcB 46 x1)))==x4
 let x6:= !x5
 let x7:List PINT:=expP (i64.wrap (1+Zap chip 2)) [(1,(2,0,0,3),i64.wrap (65535+Zap n 3),3,false,false)]
 let x8:=x6||Nat.ble (List.length x7) most
 let x9:=iN (List.length (Stg.l (newG ZcB 46 x7)))==i64.wrap (x4+3)
 let p1:=(!x9)::x6::(!x8)::x3::[]
 .br (ZcI n 3) (.br (ZcI kind 3) (.br (ZcI chip 2) (.br (orR p1 Zkh) (.br (x3||x8) (.br (x2) (.leaf (some (x5&&(x9&&kKnG)))) (.leaf none)) (.leaf none)) (.leaf none)) (.leaf none)) (.leaf none)) (.leaf none)
def Zk3 (n:Int) (kind:Int) (chip:Int):Bool:=getO Zhb.dflt (Zgd n kind chip).val
def Zi8 (n:Int) (kind:Int) (chip:Int):Bool:=okB (Zgd n kind chip).val
def Zlu:Entry:=Z4 Zi7 Zhb (λa=>some (Zi8 a.1 a.2.1 a.2.2)) (λa=>Zk3 a.1 a.2.1 a.2.2)
theorem lGLim_ok:Zc Try.prog 6 Zlu:=
 pureP 2047 [(8,Zlx),(11,Zk9),(13,Zi2)] [] Zi7 Zhb ⟨Zk4,Zjr,Zi1,Tv⟩ Try.func6 Try.call6 trivial (t:=λa=>Zgd a.1 a.2.1 a.2.2)
theorem Zkf:Zkg.val=some true:=by kernel_rfl
theorem Zi9:kKnG=true/\Zkh=true:=by
 simp only[kKnG,Zkh,Zkf,okB,getO];exact⟨trivial,Tv⟩
theorem ZhP (chip:Int) (x:ITMT):(expP chip [x]).length=(stsL x).length:=by simp[expP]
theorem lGLim_law (n kind chip:Int) (hn:inR .i64 n) (hk:inR .i64 kind) (hc:inR .i64 chip):Zk3 n kind chip=true/\Zi8 n kind chip=true:=by
 obtain⟨a1,a2⟩:=ZdU n 3 (by decide) (by decide)
 obtain⟨b1,b2⟩:=ZdU kind 3 (by decide) (by decide)
 obtain⟨c1,c2⟩:=ZdU chip 2 (by decide) (by decide)
 have h0:0<=Zap n 3/\Zap n 3<3:=by
  rw[a2];exact⟨Int.emod_nonneg _ (by decide),Int.emod_lt_of_pos _ (by decide)⟩
 have h1:0<=Zap kind 3/\Zap kind 3<3:=by
  rw[b2];exact⟨Int.emod_nonneg _ (by decide),Int.emod_lt_of_pos _ (by decide)⟩
 generalize hp0:Zap n 3=p at*
 generalize hq0:Zap kind 3=q at*
 generalize hr:Zap chip 2=r at*
 have e1:i64.wrap (65535+p)=65535+p:=Zdo _ (by omega) (by omega)
 have e2:i64.wrap (2+q)=2+q:=Zdo _ (by omega) (by omega)
 have key:(Zgd n kind chip).val=some true:=by
  have hp:p=0\/p=1\/p=2:=by omega
  have hq:q=0\/q=1\/q=2:=by omega
  have L1:(expP (i64.wrap (1+r)) [(2+q,(0,0,0,0),0,65535+p,false,false)]).length=(if 65536<65535+p then (65536:Int) else 65535+p).toNat:=by
   rw[ZhP]
   have h1:((2+q) !=1)=true:=by simp;omega
   unfold stsL
   rw[h1]
   simp only[cond_true,List.length_replicate]
   congr 1
   rcases hq with rfl|rfl|rfl<;>simp[gRep,Zif,gLim,Zig,RT.val]<;>omega
  have L2:(expP (i64.wrap (1+r)) [(1,(2,0,0,3),65535+p,3,false,false)]).length=(if 65536<65535+p then (65536:Int) else 65535+p).toNat+3:=by
   rw[ZhP]
   unfold stsL
   have h3:gLim 3 1 (gLim 3 3 6)=3:=by decide
   have h4:min (65535+p) 65536=(if 65536<65535+p then (65536:Int) else 65535+p):=by omega
   simp only[h3,h4]
   show (stsC _ 3).length=_
   simp[stsC,List.range_succ]
  simp only[Zgd,RT.val,a1,b1,c1,hr,hp0,hq0,e1,e2]
  generalize expP (i64.wrap (1+r)) [(2+q,(0,0,0,0),0,65535+p,false,false)]=X1 at*
  generalize expP (i64.wrap (1+r)) [(1,(2,0,0,3),65535+p,3,false,false)]=X2 at*
  generalize hv:(if 65536<65535+p then (65536:Int) else 65535+p)=v at*
  have hv0:65535<=v/\v<=65536:=by omega
  have m1:Nat.ble X1.length most=true:=by rw[Nat.ble_eq,L1];simp only[most];omega
  have m2:Nat.ble X2.length most=true:=by rw[Nat.ble_eq,L2];simp only[most];omega
  have i1:(iN X1.length==v)=true:=by rw[L1];simp[iN];omega
  have i2:(iN X2.length==i64.wrap (v+3))=true:=by
   rw[L2,Zdo _ (by omega) (by omega)];simp[iN];omega
  show (bif true then _ else _)=_
  simp[orR,m1,m2,i1,i2,Zi9.1,Zi9.2]
 simp only[Zk3,Zi8,key,okB,getO];exact⟨trivial,Tv⟩
end
end Go.Proofs.Ytlgmapcjapofoaa
