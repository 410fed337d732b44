import Derived.Test.YtpnjbfjomebppaaGreatExpI
import Derived.Test.YtpnjbfjomebppaaGreatS3Rng
set_option linter.unusedSimpArgs false
set_option linter.unusedVariables false
namespace Go.Proofs.YtpnjbfjomebppaaGreat
open Go Go.S3 Go.Proofs
noncomputable section
def Zsf (i:Nat):Code->Array Oper
 | .seq a b=>let r:=Zsf i a;bif r.size==0 then Zsf i b else r
 | .cond _ a b=>let r:=Zsf i a;bif r.size==0 then Zsf i b else r
 | .block _ c=>Zsf i c
 | .loop c=>Zsf i c
 | .rangeFunc _ _ a b=>let r:=Zsf i a;bif r.size==0 then Zsf i b else r
 | .region j A _=>bif j==i then A else #[]
 |_=> #[]
def reg7:Array Oper:=Zsf 7 (Tryz.f25.body.getD .skip)
def stgP (L:List PINT) (v:Nat):Stg:={r:=Zfv,T:=119,l:=L,ver:=v,fzn:=false,ffz:=false,lit:=false,ub:=0}
def memB (chip:Int) (L:List PINT) (x:ITMT) (v:Nat):Mem:=⟨[[.int false .i64 chip],[.tip 0 v],ZaB.enc x],[stgP L v]⟩
def stB (chip t:Int) (L:List PINT) (x:ITMT):St:={Sl:=[.w .junk,.w .junk,.w (.one (.loc 0 0)),.w .junk,.w .junk,.w (.one (.loc 1 0)),.w .junk,.w (.one (.loc 2 0)),.w (.one (.int false .i64 t)),.w .junk,.w .junk,.w .junk,.w .junk,.w .junk,.w .junk,.w .junk,.w .junk,.w .junk,.w .junk,.w .junk,.w .junk,.w .junk,.w .junk,.w .junk,.w .junk,.w .junk,.w .junk,.w .junk,.w .junk,.w .junk,.w .junk,.w .junk,.w .junk,.w .junk,.w .junk,.w .junk,.w .junk,.w .junk,.w .junk],mem:=memB chip L x 0,dirty:=0,bd:=[],sd:=[]}
def envB:Env:=envX Tryz.prog [(79,ZEu)] [] 15 8
def outB (chip t:Int) (L:List PINT) (x:ITMT):RT Out:=ZcL envB true (Zdq reg7.toList []) reg7.toList reg7.toList 0 false [] [] (stB chip t L x)
def pinP (chip:Int) (x:ITMT) (t:Int):PINT:=ZGL chip (t,x.2.1,x.2.1.2.2.1,x.2.1.2.1,x.2.2.2.2.1,x.2.2.2.2.2)
def brT:RT Out->RT Out
 | .br _ t _=>t
 |t=>t
def brF:RT Out->RT Out
 | .br _ _ t=>t
 |t=>t
theorem ZYQ {t:RT Out} {b:Bool} (e:t=.br b (brT t) (brF t)) (h:b=true):t.val=(brT t).val:=by subst h;exact (congrArg RT.val e).trans rfl
theorem ZV3 (chip t L x):outB chip t L x=.br (Nat.ble (L++[pinP chip x t]).length most) (brT (outB chip t L x)) (brF (outB chip t L x)):=by kernel_rfl
theorem ZYk (chip t L x):(brT (outB chip t L x)).val.k=.normal:=by kernel_rfl
theorem ZYj (chip t L x):(brT (outB chip t L x)).val.s.mem=memB chip (L++[pinP chip x t]) x 1:=by kernel_rfl
theorem ZV2 (chip t L x) (h:(L++[pinP chip x t]).length<=most):(outB chip t L x).val.k=.normal/\(outB chip t L x).val.s.mem=memB chip (L++[pinP chip x t]) x 1:=by have e:(outB chip t L x).val=(brT (outB chip t L x)).val:=ZYQ (ZV3 chip t L x) (by rw[YF];exact h);rw[e];exact⟨ZYk chip t L x,ZYj chip t L x⟩
theorem lex7:lexL reg7.toList=true:=by kernel_rfl
theorem ZYl:∀(j:Nat) (o:Oper),reg7[j]? =some o->∀c,o.op≠ .defer c:=by
 have h:reg7.toList.all (λo=>match o.op with
  | .defer _=>false
  |_=>true)=true:=by kernel_rfl
 intro j o ho c e;have:=YW.1 h o (by rw[Yu] at ho;obtain⟨h1,h2⟩:=ho;rw[<-h2];simp);rw[e] at this;simp at this
theorem ZYn:Tryz.prog.follows .mixedOrders=true:=by kernel_rfl
end
open Go Go.S3 Go.Proofs Go.RowKit
noncomputable section
structure Xc (n₀:Nat) (ex:Nat->Prop) (fz:Nat->Nat->Option Value) (y:Ctx):Prop where
 own:y.own=λk=>n₀<=k/\¬ex k
 fzl:∀b o v,fz b o=some v->y.fz b o=some v
 fzn:∀b o v,y.fz b o=some v->fz b o=some v\/n₀<=b
def Xw (n₀:Nat) (ex:Nat->Prop) (fz:Nat->Nat->Option Value) (M:List Nat) (m:Mem) (W:World):Prop:=∃y:Ctx,Xc n₀ ex fz y/\y.M=M/\MK y m W
variable {n₀:Nat} {ex:Nat->Prop} {fz:Nat->Nat->Option Value} {M:List Nat} {m:Mem} {W W':World}
theorem Xw.grown {row:Option Nat} (h:Xw n₀ ex fz M m W) (hg:W.grownBy W' row) (hr:∀r,row=some r->∃o:Obj,W.heap[r]? =some o/\o.isCells=false):Xw n₀ ex fz M m W':=by obtain⟨y,h1,h2,h3⟩:=h;exact⟨y,h1,h2,h3.grown hg hr⟩
variable {y:Ctx}
theorem ZM8 (h:MK y m W) (P:Nat->Prop) (hf:∀k,W.heap.size<=k->P k) (hm:∀b p,nth y.M b=some p->P p) (hs:∀i s p cap,nth y.S i=some s->s.blk=some (p,cap)->P p):MK {y with own:=P} m W:=
 ⟨hf,h.fz,h.ml,λb l p h1 h2=>by
  obtain⟨C,T,e1,e2⟩:=h.box b l p h1 h2;exact⟨C,T,e1,RL.same (x:=y) (y:={y with own:=P}) rfl rfl rfl e2⟩,λb p hp=>⟨hm b p hp,(h.mown b p hp).2⟩,h.inj,h.sl,
  λi g s h1 h2=>(h.stg i g s h1 h2).ctx (λ_ _ _ h=>h) (λ_ _ _ _=>rfl),λi s p cap h1 h2=>⟨hs i s p cap h1 h2,(h.sown i s p cap h1 h2).2⟩,h.sinj⟩
theorem Xw.block (h:Xw n₀ (λ_=>False) fz M m W) (o:Obj):Xw n₀ (λk=>k=W.heap.size) fz M m (W.alloc o):=by
 obtain⟨y,h1,h2,h3⟩:=h;have h4:=h3.old (ZK.alloc W o);have ho:∀k,y.own k->n₀<=k:=λk hk=>by rw[h1.own] at hk;exact hk.1
 refine⟨{y with own:=λk=>n₀<=k/\¬k=W.heap.size},⟨rfl,h1.fzl,h1.fzn⟩,h2,ZM8 h4 _ (λk hk=> ?_) (λb p hp=> ?_) (λi s p cap h5 h6=> ?_)⟩
 ·rw[World.size_alloc] at hk;exact⟨ho k (h3.fresh k (by omega)),by omega⟩
 ·exact⟨ho p (h3.mown b p hp).1,by have:=h3.M_lt hp;omega⟩
 ·exact⟨ho p (h3.sown i s p cap h5 h6).1,by have:=h3.S_lt h5 h6;omega⟩
theorem Xw.all (h:Xw n₀ ex fz M m W):Xw n₀ (λ_=>False) fz M m W:=by
 obtain⟨y,h1,h2,h3⟩:=h;have ho:∀k,y.own k->n₀<=k/\¬False:=λk hk=>by rw[h1.own] at hk;exact⟨hk.1,id⟩
 exact⟨{y with own:=λk=>n₀<=k/\¬False},⟨rfl,h1.fzl,h1.fzn⟩,h2,ZM8 h3 _ (λk hk=>ho k (h3.fresh k hk)) (λb p hp=>ho p (h3.mown b p hp).1) (λi s p cap h5 h6=>ho p (h3.sown i s p cap h5 h6).1)⟩
theorem Xw.box (h:Xw n₀ ex fz M m W) {l:List A} {C:List Value} (T:TypeId) (hl:∀y:Ctx,RL y l C):Xw n₀ ex fz (M++[W.heap.size]) {m with Bx:=m.Bx++[l]} (W.alloc (.cells C.toArray T)):=by obtain⟨y,h1,h2,h3⟩:=h;exact⟨{y with M:=y.M++[W.heap.size]},⟨h1.own,h1.fzl,h1.fzn⟩,by show y.M++_=_;rw[h2],(Zjb h3 T (hl y)).1⟩
theorem nth3 {l:List Nat} {a b c:Nat} (h:l.length=3) (h0:nth l 0=some a) (h1:nth l 1=some b) (h2:nth l 2=some c):l=[a,b,c]:=by
 match l,h with
 |[x,y,z],_=>
  simp only[nth,oinj] at h0 h1 h2;rw[h0,h1,h2]
variable {chip:Int} {L:List PINT} {x:ITMT}
theorem ZXt (h:MK y (memB chip L x 1) W):∃S',MK {y with S:=S'} (memB chip L x 0) W:=by
 obtain⟨s,hs⟩:∃s,y.S=[s]:=by
  have:=h.sl
  match hy:y.S,this with
  |[s],_=>exact⟨s,rfl⟩
  |[],e=>simp[memB] at e
  |_::_::_,e=>simp[memB] at e
 have hs0:nth y.S 0=some s:=by rw[hs];rfl
 have hle:FzLe y {y with S:=[{s with ver:=0}]}:=λ_ _ _ e=>e
 have hst:=h.stg 0 (stgP L 1) s rfl hs0;refine⟨[{s with ver:=0}],h.fresh,h.fz,h.ml,λb l p h1 h2=> ?_,h.mown,h.inj,rfl,λi g s1 h1 h2=> ?_,λi s1 p cap h1 h2=> ?_,λi i' s1 s2 p c c' h1 h2 h3 h4=> ?_⟩
 ·match b,h1 with
  |0,h1=>
   simp only[memB,nth,oinj] at h1;subst h1;obtain⟨C,T,e1,e2⟩:=h.box 0 _ p rfl h2;exact⟨C,T,e1,RL.plain hle (λa ha=>by simp at ha;subst ha;rfl) e2⟩
  |1,h1=>
   simp only[memB,nth,oinj] at h1;subst h1;obtain⟨C,T,e1,e2⟩:=h.box 1 _ p rfl h2;refine⟨C,T,e1,?_⟩
   match C,e2 with
   |[v],e2=>
    have e3:RA y (.tip 0 1) v:=e2.1;cases e3 with
    |tip _ _ _ s' _ hs' hv hval hat=>
     rw[hs0] at hs';cases hs';exact⟨.tip _ _ _ {s with ver:=0} _ rfl (Ye _) (λ_=>hval hst.ver) hat,Tv⟩
   |[],e2=>exact e2.elim
   |_::_::_,e2=>exact e2.2.elim
  |2,h1=>
   simp only[memB,nth,oinj] at h1;subst h1;obtain⟨C,T,e1,e2⟩:=h.box 2 _ p rfl h2;exact⟨C,T,e1,RL.plain hle (R.enc_plain _ _) e2⟩
  |b+3,h1=>simp[memB,nth] at h1
 ·match i,h1,h2 with
  |0,h1,h2=>
   simp only[memB,nth,oinj] at h1 h2;subst h1;subst h2;exact⟨rfl,hst.n,hst.wd,hst.nil,hst.row,hst.fzn,hst.ffz,hst.ub⟩
  |i+1,h1,_=>simp[memB,nth] at h1
 ·match i,h1 with
  |0,h1=>
   simp only[nth,oinj] at h1;subst h1;exact h.sown 0 s p cap hs0 h2
  |i+1,h1=>simp[nth] at h1
 ·match i,i',h1,h2 with
  |0,0,_,_=>rfl
  |i+1,_,h1,_=>simp[nth] at h1
  |0,i'+1,_,h2=>simp[nth] at h2
set_option maxHeartbeats 1000000 in
theorem ZXs {t:Int} {pc po px:Nat} (ht:inR .i64 t) (hlen:(L++[pinP chip x t]).length<=most) (h:Xw n₀ ex fz [pc,po,px] (memB chip L x 0) W) {a:Act} (ha:a.defers=[]) (hs:a.tmps.size=39)
  (h2:a.tmps.getD 2 undef=.pointer (some ⟨pc,0,none⟩)) (h5:a.tmps.getD 5 undef=.pointer (some ⟨po,0,none⟩)) (h7:a.tmps.getD 7 undef=.pointer (some ⟨px,0,none⟩)) (h8:a.tmps.getD 8 undef=.int .i64 t)
  {l n:Nat} {Q:Exit->Act->World->Prop} (hQ:¬LetsOut Q) (hK:∀a' W',Xw n₀ ex fz [pc,po,px] (memB chip (L++[pinP chip x t]) x 0) W'->W.heap.size<=W'.heap.size->(∀k,(¬n₀<=k\/ex k\/∃o:Obj,W.heap[k]? =some o/\o.isCells=false)->W'.heap[k]? =W.heap[k]?)->
   W'.os=W.os->W'.tape=W.tape->W'.output=W.output->Q .normal a' W'):(Code.region 7 reg7 true).wpIn (Fence.wide.inRound l) n Tryz.prog Q a W:=by
 obtain⟨y,hc,hM,hm⟩:=h;have hmL:=hm.least;have hrel:RH (y.least W) W (y.least W) (stB chip t L x) a W:=by
  refine⟨⟨⟨by rw[hs];rfl,λi v hv=> ?_⟩,hmL,ha⟩,Ext.refl _,Step.refl _ _⟩;have hM':(y.least W).M=[pc,po,px]:=hM
  match i,hv with
  |0,hv=>cases hv;trivial
  |1,hv=>cases hv;trivial
  |2,hv=>cases hv;rw[h2];exact RA.loc _ _ _ _ (by rw[hM'];rfl)
  |3,hv=>cases hv;trivial
  |4,hv=>cases hv;trivial
  |5,hv=>cases hv;rw[h5];exact RA.loc _ _ _ _ (by rw[hM'];rfl)
  |6,hv=>cases hv;trivial
  |7,hv=>cases hv;rw[h7];exact RA.loc _ _ _ _ (by rw[hM'];rfl)
  |8,hv=>cases hv;rw[h8];exact RA.int _ _ _ _ ht
  |i+9,hv=>
   have:v=.w .junk:=by
    have hmem:v∈(List.replicate 30 (V.w .junk)):=by have:=Zbc (l:=List.replicate 30 (V.w .junk)) (n:=i) (a:=v) hv;exact this
    exact (List.mem_replicate.1 hmem).2
   subst this;trivial
 have hev:=ZV2 chip t L x hlen;have hst:Ze0 (stB chip t L x) (outB chip t L x).val=(outB chip t L x).val:=by unfold Ze0;rw[hev.1]
 refine ZCl (E:=envB) (ZbD (l:=[(79,ZEu)]) ⟨ZEt,Tv⟩ [] 15 8) (chg:=true) ZYn lex7 ZYl hQ hrel ?_;show Hold _ _ _ _ (Ze0 (stB chip t L x) (outB chip t L x).val);rw[hst];intro x' a' w' hr' _;rw[hev.1];have hmm:=hr'.r.m;rw[hev.2] at hmm;have hown:∀k,W.heap.size<=k->y.own k:=hm.fresh;have hmost:=hmm.most hr'.e hm.fresh (λb p hp=>(hm.mown b p hp).1) (λi s p cap e1 e2=>(hm.sown i s p cap e1 e2).1) hr'.t.size;obtain⟨S',hret⟩:=ZXt hmost;have hM1:∀b p,nth [pc,po,px] b=some p->nth x'.M b=some p:=λb p hp=>hr'.e.M b p (by show nth y.M b=some p;rw[hM];exact hp)
 have hM2:x'.M=[pc,po,px]:=nth3 (by have:=hmm.ml;simpa [memB] using this) (hM1 0 _ rfl) (hM1 1 _ rfl) (hM1 2 _ rfl);refine hK a' w' ⟨{x' with own:=y.own,S:=S'},⟨hc.own,λb o v e=>hr'.e.fz b o v (hc.fzl b o v e),λb o v e=> ?_⟩,hM2,hret⟩ hr'.t.size (λk hk=>hr'.t.block k λhl=> ?_) hr'.t.os hr'.t.tape hr'.t.output
 ·rcases hr'.e.new b o v e with e|e
  ·exact hc.fzn b o v e
  ·have:y.own b:=by
    rcases e with e|⟨b',e⟩|⟨i,s,cap,e1,e2⟩
    ·exact hm.fresh b e
    ·exact (hm.mown b' b e).1
    ·exact (hm.sown i s b cap e1 e2).1
   rw[hc.own] at this;exact .inr this.1
 ·have hy:y.own k:=by
   rcases hl with e|⟨b',e⟩|⟨i,s,cap,e1,e2⟩
   ·exact hm.fresh k e
   ·exact (hm.mown b' k e).1
   ·exact (hm.sown i s k cap e1 e2).1
  rw[hc.own] at hy;rcases hk with hk|hk|⟨o,ho,hn⟩
  ·exact hk hy.1
  ·exact hy.2 hk
  ·rcases hm.least_cells hl with e|⟨o',ho',hn'⟩
   ·have:=(Yu.1 ho).1;omega
   ·rw[ho] at ho';cases ho';rw[hn] at hn';cases hn'
end
open Go Go.S3 Go.Proofs Go.RowKit
noncomputable section
variable {n₀:Nat} {ex:Nat->Prop} {fz:Nat->Nat->Option Value} {M:List Nat} {m:Mem} {W W':World}
def memA (chip:Int) (L:List PINT):Mem:=⟨[[.int false .i64 chip],[.tip 0 0]],[stgP L 0]⟩
variable {chip:Int}
theorem init7 {x:Ctx} {m:Mem} {w:World} (hm:MK x m w) (hc:inR .i64 chip) (T T':TypeId):
  Xw w.heap.size (λ_=>False) x.fz [w.heap.size,w.heap.size+1] (memA chip []) ((w.alloc (.cells #[.int .i64 chip] T)).alloc (.cells #[.slice none 0 0] T')):=by
 have h0:=Zkm hm;have hj:=h0.joinS (g:=stgP [] 0) (s:=⟨none,none,0,Zfv.wid,0,0⟩) (λp cap h=>by simp at h) ⟨rfl,rfl,rfl,λ_=>⟨rfl,rfl⟩,λp cap h=>by simp at h,λ_=>rfl,λh=>by simp[stgP] at h,λh=>by simp[stgP] at h⟩;have h1:=Zjb hj.1 (l:=[.int false .i64 chip]) (C:=[.int .i64 chip]) T ⟨.int _ _ _ _ hc,Tv⟩;have h2:=Zjb h1.1 (l:=[.tip 0 0]) (C:=[.slice none 0 0]) T' ⟨.tip _ _ _ ⟨none,none,0,Zfv.wid,0,0⟩ _ rfl (Ye _) (λ_=>rfl) trivial,Tv⟩;have e:(w.alloc (.cells #[.int .i64 chip] T)).heap.size=w.heap.size+1:=World.size_alloc _ _;have key:=h2.1;refine⟨{own:=λk=>w.heap.size<=k/\¬False,M:=[w.heap.size,w.heap.size+1],S:=[⟨none,none,0,Zfv.wid,0,0⟩],fz:=x.fz},⟨rfl,λ_ _ _ h=>h,λ_ _ _ h=>.inl h⟩,rfl,?_⟩;have k2:=ZM8 key (λk=>w.heap.size<=k/\¬False) (λk hk=>⟨key.fresh k hk,id⟩) (λb p hp=>⟨(key.mown b p hp).1,id⟩) (λi s p cap h5 h6=>⟨(key.sown i s p cap h5 h6).1,id⟩);have hM:([]++[w.heap.size])++[(w.alloc (.cells #[.int .i64 chip] T)).heap.size]=[w.heap.size,w.heap.size+1]:=by rw[e];rfl
 exact hM▸k2
variable {x:ITMT}
theorem ZYz (h:ZaB.ok x) (y:Ctx):RL y (ZaB.enc x) [.int .i64 x.1,.int .i64 x.2.1.1,.int .u16 x.2.1.2.1,.int .u8 x.2.1.2.2.1,.int .i64 x.2.1.2.2.2,.int .i64 x.2.2.1,.int .i64 x.2.2.2.1,.bool x.2.2.2.2.1,.bool x.2.2.2.2.2]:=by obtain⟨h1,⟨h2,h3,h4,h5⟩,h6,h7,_⟩:=h;exact⟨.int _ _ _ _ h1,.int _ _ _ _ h2,.int _ _ _ _ h3,.int _ _ _ _ h4,.int _ _ _ _ h5,.int _ _ _ _ h6,.int _ _ _ _ h7,.bool _ _ _,.bool _ _ _,Tv⟩
theorem Xw.item {b0 b1:List A} {st:List Stg} (h:Xw n₀ ex fz M ⟨[b0,b1],st⟩ W) (hx:ZaB.ok x) (T:TypeId):Xw n₀ ex fz (M++[W.heap.size]) ⟨[b0,b1,ZaB.enc x],st⟩ (W.alloc (.cells (ZcH x) T)):=
 h.box T (ZYz hx)
variable {L:List PINT} {pc po:Nat}
theorem Xw.drop {px:Nat} (h:Xw n₀ ex fz [pc,po,px] (memB chip L x 0) W):Xw n₀ ex fz [pc,po] (memA chip L) W:=by
 obtain⟨y,h1,h2,h3⟩:=h;have hS:Z0 1 y.S=y.S:=by
  have:=h3.sl
  match hy:y.S,this with
  |[s],_=>rfl
  |[],e=>simp[memB] at e
  |_::_::_,e=>simp[memB] at e
 have hc:=h3.cut 2 1 (λb l hl a ha v hv=>by
  match b,hl with
  |0,hl=>
   simp only[memB,Z0,nth,oinj] at hl;subst hl;simp only[Yac] at ha;subst ha;cases hv;exact .int _ _ _ _ (by assumption)
  |1,hl=>
   simp only[memB,Z0,nth,oinj] at hl;subst hl;simp only[Yac] at ha;subst ha;cases hv with
   |tip _ _ _ s _ hs hv hval hat=>exact .tip _ _ _ s _ (by rw[hS];exact hs) hv hval hat
  |b+2,hl=>simp[memB,Z0,nth] at hl)
 exact⟨{y with M:=Z0 2 y.M,S:=Z0 1 y.S},⟨h1.own,h1.fzl,h1.fzn⟩,by show Z0 2 y.M=_;rw[h2];rfl,hc⟩
theorem Xw.out (h:Xw n₀ ex fz [pc,po] (memA chip L) W):∃y s,Xc n₀ ex fz y/\y.M=[pc,po]/\y.S=[s]/\MK y (memA chip L) W/\W.cell? ⟨po,0,none⟩=some (tipVal s)/\s.ver=0:=by
 obtain⟨y,h1,h2,h3⟩:=h;obtain⟨s,hs⟩:∃s,y.S=[s]:=by
  have:=h3.sl
  match hy:y.S,this with
  |[s],_=>exact⟨s,rfl⟩
  |[],e=>simp[memA] at e
  |_::_::_,e=>simp[memA] at e
 have hs0:nth y.S 0=some s:=by rw[hs];rfl
 have hst:=h3.stg 0 (stgP L 0) s rfl hs0;obtain⟨C,T,e1,e2⟩:=h3.box 1 [.tip 0 0] po rfl (by rw[h2];rfl);refine⟨y,s,h1,h2,hs,h3,?_,hst.ver⟩
 match C,e2 with
 |[v],e2=>
  have e3:RA y (.tip 0 0) v:=e2.1;cases e3 with
  |tip _ _ _ s' _ hs' hv hval hat=>
   rw[hs0] at hs';cases hs';have:=hval hst.ver;subst this;simp only[World.cell?,e1];rfl
 |[],e2=>exact e2.elim
 |_::_::_,e2=>exact e2.2.elim
def expP (chip:Int) (l:List ITMT):List PINT:=l.flatMap λy=>(stsL y).map (pinP chip y)
theorem ZOu (chip:Int) (l:List ITMT) (y:ITMT):expP chip (l++[y])=expP chip l++(stsL y).map (pinP chip y):=by simp[expP]
theorem ZWG (chip:Int) (a b:List ITMT):(expP chip a).length<=(expP chip (a++b)).length:=by simp[expP]
def ZYW (fz:Nat->Nat->Option Value) (sv:Value) (l:List ITMT):Prop:=
 (∃a cap,sv=.slice a 0 cap/\l=[])\/∃b off cap,sv=.slice (some ⟨b,off,none⟩) l.length cap/\l.length<=maxLen/\
  ∀j x,l[j]? =some x->∀i,i<9->fz b (off+j*9+i)=some ((ZcH x).getD i undef)
theorem heldI {x:Ctx} {l:List ITMT} {v:Value} {lit full nn:Bool} (h:RA x (.lst ZaB lit full nn l) v):ZYW x.fz v l:=by
 cases h with
 |lst0 _ _ _ _ _ _ a cap h1 _ _ _=>exact .inl ⟨a,cap,rfl,h1⟩
 |lst _ _ _ _ _ _ p o cap c h0 hf hcap hml hz hr=>
  refine .inr ⟨p,o,cap,rfl,hml,λj y hy i hi=> ?_⟩;have hj:j<List.length (α:=ITMT) l:=(YD.1 hy).1;have hel:elN ZaB l j=ZaB.enc y:=by
   unfold elN;have:List.getD (α:=ITMT) l j ZaB.Df=y:=by rw[Yr,hy];rfl
   rw[this]
  have key:∀i a,nth (ZaB.enc y) i=some a->x.fz p (o+j*9+i)=some (c j i)/\RA x.bare a (c j i):=λi a ha=>⟨hz j i a hj (by rw[hel];exact ha),hr j i a hj (by rw[hel];exact ha)⟩
  match i,hi with
  |0,_=>obtain⟨k1,k2⟩:=key 0 _ rfl;generalize c j 0=u at*;cases k2;exact k1
  |1,_=>obtain⟨k1,k2⟩:=key 1 _ rfl;generalize c j 1=u at*;cases k2;exact k1
  |2,_=>obtain⟨k1,k2⟩:=key 2 _ rfl;generalize c j 2=u at*;cases k2;exact k1
  |3,_=>obtain⟨k1,k2⟩:=key 3 _ rfl;generalize c j 3=u at*;cases k2;exact k1
  |4,_=>obtain⟨k1,k2⟩:=key 4 _ rfl;generalize c j 4=u at*;cases k2;exact k1
  |5,_=>obtain⟨k1,k2⟩:=key 5 _ rfl;generalize c j 5=u at*;cases k2;exact k1
  |6,_=>obtain⟨k1,k2⟩:=key 6 _ rfl;generalize c j 6=u at*;cases k2;exact k1
  |7,_=>obtain⟨k1,k2⟩:=key 7 _ rfl;generalize c j 7=u at*;cases k2;exact k1
  |8,_=>obtain⟨k1,k2⟩:=key 8 _ rfl;generalize c j 8=u at*;cases k2;exact k1
def mark (D:Nat):Deferred:={target:=.collected D,args:= #[]}
theorem Zjm {F:Fence} {n:Nat} {P:Program} {fn:Func} {tmps:Array Value} {R:Ending->World->Prop} (J:World->Prop)
  (hJ:∀W D,n₀<=D->J W->W.heap[D]? =some (.deferred (some []))->J (W.putObj D (.deferred none))) (hfin:∀W,J W->LeavesIn F n P fn tmps R [] .returning W):
  ∀(ds:List Nat) (W:World),ds.Nodup->(∀D∈ds,n₀<=D/\W.heap[D]? =some (.deferred (some [])))->J W->LeavesInM F n P fn tmps R (ds.map mark) .returning W
 |[],W,_,_,h=>hfin W h
 |D::ds,W,hn,hd,h=>by
  obtain⟨hD0,hD⟩:=hd D (by simp);refine⟨by simp,.inl ⟨D,_,rfl,run_takeDeferred hD,Zjm J hJ hfin ds _ (List.nodup_cons.1 hn).2 (λD' h'=> ?_) (hJ W D hD0 h hD)⟩⟩;have hne:D'≠D:=λe=>(List.nodup_cons.1 hn).1 (e▸h')
  exact⟨(hd D' (by simp[h'])).1,(World.putObj_heap_other hne).trans (hd D' (by simp[h'])).2⟩
theorem ZhW {w0:World} (h:Zcr w0 W) {row:Option Nat} (hg:W.grownBy W' row) (hr:∀r,row=some r->w0.heap.size<=r):Zcr w0 W':=
 ⟨⟨Yy h.1.1 hg.size,λk hk=>(hg.block k (YaL hk h.1.1) λe=>by have:=hr k e.symm;omega).trans (h.1.2 k hk)⟩,hg.os.trans h.2.1,hg.tape.trans h.2.2.1,hg.output.trans h.2.2.2⟩
end
end Go.Proofs.YtpnjbfjomebppaaGreat
open Go.IntKind (u8 u16 i64)
namespace Go.Proofs.YtpnjbfjomebppaaGreat
open Go Go.S3 Go.Proofs Go.RowKit Go.Shelf
attribute [local go_sem] Oper.semAt_some
noncomputable section
structure Rd (w0:World) (fz:Nat->Nat->Option Value) (chip:Int) (ds:List Nat) (L:List PINT) (W:World):Prop where
 x:Xw w0.heap.size (λ_=>False) fz [w0.heap.size,w0.heap.size+1] (memA chip L) W
 nd:ds.Nodup
 mks:∀D∈ds,w0.heap.size<=D/\W.heap[D]? =some (.deferred (some []))
 s:Zcr w0 W
set_option maxRecDepth 100000 in
set_option maxHeartbeats 8000000 in
theorem ZYI (n:Nat) (hn:5<=n) (sv:Value) (chip:Int) (l:List ITMT) (fz:Nat->Nat->Option Value) (hl:ZYW fz sv l) (hok:∀y∈l,ZaB.ok y) (hm:(expP chip l).length<=most) (w0:World)
  (hx:∀T T',Xw w0.heap.size (λ_=>False) fz [w0.heap.size,w0.heap.size+1] (memA chip []) ((w0.alloc (.cells #[.int .i64 chip] T)).alloc (.cells #[.slice none 0 0] T'))):
  CallsIn Fence.wide n Tryz.prog 25 #[.int .i64 chip,sv] w0 λe W'=>∃s y,e=.returned (tipVal s)/\s.ver=0/\y.M=[w0.heap.size,w0.heap.size+1]/\y.S=[s]/\Xc w0.heap.size (λ_=>False) fz y/\MK y (memA chip (expP chip l)) W'/\Zcr w0 W':=by
 have h1:1<=n:=by omega
 obtain⟨aa,cap,hsv⟩:∃aa cap,sv=.slice aa l.length cap:=by
  rcases hl with ⟨a,cap,e,e2⟩|⟨b,off,cap,e,_⟩
  ·exact⟨a,cap,by rw[e,e2];rfl⟩
  ·exact⟨_,cap,e⟩
 subst hsv;have hlm:l.length<=maxLen:=by
  rcases hl with ⟨a,cap,e,e2⟩|⟨b,off,cap,e,h,_⟩
  ·rw[e2];exact Yq _
  ·exact h
 refine callsIn_of_wp_marks Tryz.func25 rfl trivial ?_ rfl;simp only[Tryz.ntmps25,Y5,List.length_cons,List.length_nil,Nat.reduceAdd,Nat.reduceSub,Yai,Array.replicate_zero,Yao,Yaj,List.nil_append,List.cons_append];gi_wp2
 refine wpIn_loop (λa W=>∃(j:Nat) (ds:List Nat) (u7 u12 u13 u14 u15 u16 u37:Value),j<=l.length/\a={tmps:= #[.int .i64 chip,.slice aa l.length cap,.pointer (some ⟨w0.heap.size,0,none⟩),undef,.slice none 0 0,.pointer (some ⟨w0.heap.size+1,0,none⟩),undef,u7,undef,.slice aa l.length cap,.int .i64 (l.length:Int),.int .i64 (j:Int),u12,u13,u14,u15,u16,undef,undef,undef,undef,undef,undef,undef,undef,undef,undef,undef,undef,undef,undef,undef,undef,undef,undef,undef,undef,u37,undef],defers:=ds.map mark}/\Rd w0 fz chip ds (expP chip (l.take j)) W) (λa _=>l.length-(intOf (a.tmps.getD 11 undef)).toNat) ?Zag ?round
 case Zag=>
  refine⟨0,[],undef,undef,undef,undef,undef,undef,undef,Yq _,rfl,⟨hx _ _,List.nodup_nil,λD hD=>by simp at hD,?_⟩⟩;refine⟨⟨by simp;omega,λk hk=> ?_⟩,rfl,rfl,rfl⟩;exact (Below.heap_alloc _ _ _ (by simp;omega)).trans (Below.heap_alloc _ _ _ hk)
 case round=>
  rintro a W ⟨j,ds,u7,u12,u13,u14,u15,u16,u37,hj,rfl,hR⟩;by_cases hlt:j<l.length
  ·obtain⟨b,off,hab,hcf⟩:∃b off,aa=some ⟨b,off,none⟩/\∀j x,l[j]? =some x->∀i,i<9->fz b (off+j*9+i)=some ((ZcH x).getD i undef):=by
    rcases hl with ⟨a,cap,e,e2⟩|⟨b,off,cap,e,_,h⟩
    ·rw[e2] at hlt;simp at hlt
    ·simp only[Value.slice.injEq] at e;exact⟨b,off,e.1,h⟩
   subst hab;obtain⟨x,hxj⟩:∃x,l[j]? =some x:=⟨_,Yh hlt⟩;have hcell:∀i,i<9->W.cell? ⟨b,off+j*9+i,none⟩=some ((ZcH x).getD i undef):=λi hi=>by obtain⟨y,hy1,_,hy3⟩:=hR.x;exact hy3.fz _ _ _ (hy1.fzl _ _ _ (hcf j x hxj i hi))
   have c0:=hcell 0 (by omega);have c1:=hcell 1 (by omega);have c2:=hcell 2 (by omega);have c3:=hcell 3 (by omega);have c4:=hcell 4 (by omega);have c5:=hcell 5 (by omega);have c6:=hcell 6 (by omega);have c7:=hcell 7 (by omega);have c8:=hcell 8 (by omega);simp[ZcH,Array.getD] at c0 c1 c2 c3 c4 c5 c6 c7 c8;have hf23:Fence.wide.fn 78:=trivial
   gi_wp2_with (gi_at_call 78;refine (ZXl Fence.wide (n-1) trivial rfl x _).mono ?_;rintro e w' ⟨rfl,rfl⟩)
   have hitm:ZaB.ok x:=hok x (Ya0.2 ⟨j,hxj⟩);have hX2:=(Xw.item hR.x hitm 70).block (.cells (ZcH x) 70);have hI2:ZjO ((W.alloc (.cells (ZcH x) 70)).alloc (.cells (ZcH x) 70)) (W.heap.size+1) x:=by have:=World.alloc_heap_new (W.alloc (.cells (ZcH x) 70)) (.cells (ZcH x) 70);rw[World.size_alloc] at this;exact this
   have hz2:((W.alloc (.cells (ZcH x) 70)).alloc (.cells (ZcH x) 70)).heap.size=W.heap.size+2:=by simp
   have hg2:W.grownBy ((W.alloc (.cells (ZcH x) 70)).alloc (.cells (ZcH x) 70)) none:=by have a1:=World.grownBy_alloc W (.cells (ZcH x) 70) none;have a2:=World.grownBy_alloc (W.alloc (.cells (ZcH x) 70)) (.cells (ZcH x) 70) none;exact⟨a2.os.trans a1.os,a2.tape.trans a1.tape,a2.output.trans a1.output,Yy a1.size a2.size,λk hk hn=>(a2.block k (YaL hk a1.size) hn).trans (a1.block k hk hn)⟩
   rw[World.size_alloc] at hX2;generalize hW2:(W.alloc (.cells (ZcH x) 70)).alloc (.cells (ZcH x) 70)=W2 at*;have hs2:Zcr w0 W2:=ZhW hR.s hg2 (λr e=>by cases e);have hm2:∀D∈ds,(w0.heap.size<=D/\D<W2.heap.size)/\W2.heap[D]? =some (.deferred (some [])):=λD hD=>by obtain⟨k1,k2⟩:=hR.mks D hD;have hlt':=(Yu.1 k2).1;exact⟨⟨k1,by omega⟩,(hg2.block D hlt' (λe=>by cases e)).trans k2⟩
   have hwz:w0.heap.size<=W2.heap.size:=hs2.1.1;clear c0 c1 c2 c3 c4 c5 c6 c7 c8 hcell hcf;generalize hL:expP chip (l.take j)=L at*;have hLn:expP chip (l.take (j+1))=L++(stsL x).map (pinP chip x):=by rw[Yau,hxj];simp only[Option.toList_some];rw[ZOu,hL]
   have hLm:L.length+(stsL x).length<=most:=by have:=ZWG chip (l.take (j+1)) (l.drop (j+1));rw[Yak,hLn] at this;simp at this;omega
   refine wpIn_rangeFunc_ownH (F:=Fence.wide) rfl h1 (gf:=145) (lb:= #[.pointer (some ⟨W.heap.size+1,0,none⟩)]) rfl trivial (enters_of Tryz.func145 (by kernel_rfl) rfl)
    (ZJz Fence.wide (n-1) trivial trivial trivial rfl (by omega) (W.heap.size+1) x W2 (by omega) hI2) (λh k=>Eq.trans k h) (λW' k o o' hk _ _ _=>World.putObj_heap_other (by omega)) (Below.refl _ _) (λ_=>rfl)
    (λpre W'=>Xw w0.heap.size (λk=>k=W.heap.size+1) fz [w0.heap.size,w0.heap.size+1,W.heap.size] (memB chip (L++pre.map (λt=>pinP chip x t.1)) x 0) W'/\(∀D∈ds,W'.heap[D]? =some (.deferred (some [])))/\Zcr w0 W')
    (λ_ _ _=>False)
    (λpre A C row ⟨k1,k2,k3⟩ hg hr=>⟨k1.grown hg (λr e=>(hr r e).2),λD hD=>(hg.block D (Yu.1 (k2 D hD)).1 (λe=>by have:=(hr D e.symm).1;have:=(hm2 D hD).1.2;omega)).trans (k2 D hD),ZhW k3 hg (λr e=>Yy hwz (hr r e).1)⟩)
    (λ_ _ _ _ _ h _ _=>h) ⟨by rw[List.map_nil,YC];exact hX2,λD hD=>(hm2 D hD).2,hs2⟩
    (λt a' _=>a'={tmps:= #[.int .i64 chip,.slice (some ⟨b,off,none⟩) l.length cap,.pointer (some ⟨w0.heap.size,0,none⟩),undef,.slice none 0 0,.pointer (some ⟨w0.heap.size+1,0,none⟩),undef,.pointer (some ⟨W.heap.size,0,none⟩),.int .i64 t.1,.slice (some ⟨b,off,none⟩) l.length cap,.int .i64 (l.length:Int),.int .i64 (j:Int),.bool true,.pointer (some ⟨b,off+j*9,none⟩),.agg (ZcH x),.agg (ZcH x),.func (.func 145) #[] #[.pointer (some ⟨W.heap.size+1,0,none⟩)],.int .i64 t.1,undef,undef,undef,undef,undef,undef,undef,undef,undef,undef,undef,undef,undef,undef,undef,undef,undef,undef,undef,u37,undef],defers:=[]})
    (λ_ _ _ _ _ _ hs _ _=>hs) ?assign ?body ?done ?stop
   case assign=>
    rintro y pre t W' K hI hK;gi_wp2
    exact hK _ _ (KeepsFrom.refl _ _) rfl hI rfl
   case body=>
    rintro y pre t a' W' hy hlp ⟨k1,k2,k3⟩ rfl hlen;refine wpIn_block ?_;refine ZXs (chip:=chip) (t:=t.1) (x:=x) (by obtain⟨t,t0,t1⟩:=t;exact⟨by simp[IntKind.min,IntKind.signed,IntKind.bits];omega,by simp[IntKind.max,IntKind.signed,IntKind.bits];omega⟩) (by simp;omega) k1 rfl rfl rfl rfl rfl rfl (λ⟨_,_,h⟩=>h.elim) ?_;intro a2 W3 hX3 hz3 hb3 ho3 ht3 hp3;refine⟨⟨hz3,λk o hk ho hn=>(hb3 k (.inr (.inr ⟨o,ho,hn⟩))).trans ho⟩,hb3 _ (.inr (.inl rfl)),by rw[List.map_append,<-List.append_assoc];exact hX3,λD hD=>(hb3 D (.inr (.inr ⟨_,k2 D hD,rfl⟩))).trans (k2 D hD),?_⟩;exact⟨⟨Yy k3.1.1 hz3,λk hk=>(hb3 k (.inl (by omega))).trans (k3.1.2 k hk)⟩,ho3.trans k3.2.1,ht3.trans k3.2.2.1,hp3.trans k3.2.2.2⟩
   case done=>
    rintro D ys W' hD hS ⟨k1,k2,k3⟩ hK;have hb63:(j:Int)+1<=9223372036854775807:=by
     have:maxLen=9223372036854775807:=by decide
     omega
    have hj0:(0:Int)<=j:=by omega
    have eL:L++ys.map (λt=>pinP chip x t.1)=expP chip (l.take (j+1)):=by rw[hLn,<-hS,List.map_map];rfl
    rw[eL] at k1;gi_wp2
    refine⟨⟨j+1,D::ds,_,_,_,_,_,_,_,hlt,rfl,⟨k1.all.drop,List.nodup_cons.2 ⟨λh=>by have:=(hm2 D h).1.2;omega,hR.nd⟩,λD' h'=> ?_,k3⟩⟩,?_⟩
    ·rcases Yx.1 h' with h'|h'
     ·subst h';exact⟨by omega,hK⟩
     ·exact⟨(hm2 D' h').1.1,k2 D' h'⟩
    ·simp[intOf];omega
   case stop=>
    rintro D c pre W' hD _ hf;exact hf.elim
  ·have hjl:j=l.length:=by omega
   subst hjl;obtain⟨y,s,hy1,hy2,hy3,hy4,hy5,hy6⟩:=hR.x.out;have hm2:=hR.mks;have hnd:=hR.nd;have hs2:=hR.s;rw[YaD] at hy4;gi_wp2
   refine Zjm (n₀:=w0.heap.size) (λW'=>MK y (memA chip (expP chip l)) W'/\Zcr w0 W') ?_ ?_ ds _ hnd hm2 ⟨hy4,hs2⟩
   ·rintro W' D hD ⟨k1,k2⟩ hk;have hg:=grownBy_putObj' W' D (.deferred none);exact⟨k1.grown hg (λr e=>by cases e;exact⟨_,hk,rfl⟩),ZhW k2 hg (λr e=>by cases e;exact hD)⟩
   ·rintro W' ⟨k1,k2⟩;refine⟨tipVal s,?_,s,y,rfl,hy6,hy2,hy3,hy1,k1,k2⟩;simp[results,Tryz.f25,go_sem]
end
end Go.Proofs.YtpnjbfjomebppaaGreat
namespace Go.Proofs.YtpnjbfjomebppaaGreat
open Go Go.S3 Go.Proofs Go.RowKit
noncomputable section
abbrev Zpo:List Sh:=[.one Kc,.one (.sl ZaB)]
abbrev ZYF:En:=newE Zfv 119 Zpo (λa=>some (Nat.ble (expP a.1 a.2).length most)) (λa=>expP a.1 a.2)
set_option maxHeartbeats 1000000 in
theorem ZFA:Zb Tryz.prog 25 ZYF:=by
 refine⟨Tryz.call25,λvs m=> ?_,λvs m q hq hc x w args hm hv=> ?_⟩
 ·simp only;split
  ·intro q hq;simp only[oinj] at hq;subst hq
   exact⟨Ye _,λb l hl=>⟨l,hl,rfl,λ_ _=>rfl⟩,by simp,λi g hg=>⟨g,by
    show nth (m.Sg++[_]) i=some g
    rw[Zk,Yo (ZZ hg),<-Zk];exact hg,Ye _,λ_=>rfl⟩⟩
  ·intro q hq;simp at hq
 ·simp only at hq;split at hq
  ·rename_i a ha;simp only[RT.val,oinj] at hq;subst hq;obtain⟨hargs,hin⟩:=Zbm ha hv;obtain⟨chip,l⟩:=a;have hlen:(expP chip l).length<=most:=by
    cases hb:Nat.ble (expP chip l).length most with
    |true=>simpa [YF] using hb
    |false=>simp only[hb] at hc;exact absurd rfl hc
   match args,hargs with
   |[v0,v1],hargs=>
    have hv0:RA x (.int false .i64 chip) v0:=hargs.1;have hv1:RA x (.lst ZaB false false false l) v1:=hargs.2.1;have hchip:inR .i64 chip:=hin.1;have hok:∀y∈(l:List ITMT),ZaB.ok y:=(hin.2:(R.sl ZaB).ok l).2;cases hv0;have key:=ZYI 5 (Ye _) v1 chip l x.fz (heldI hv1) hok hlen w (λT T'=>init7 hm hchip T T');refine (callsIn_wide.1 key).mono ?_;rintro e w' ⟨s,y,rfl,hver,hM,hS,hxc,hmok,hs⟩;have hext:Ext (Ctx.own0 w x.fz) {y with own:=(Ctx.own0 w x.fz).own}:=⟨rfl,λb p e=>by simp[Ctx.own0,Zp] at e,λb p e=>by simp[Ctx.own0,Zp] at e,hxc.fzl,λb o v e=>(hxc.fzn b o v e).imp id id⟩;obtain⟨h3,h4⟩:=ZkS hm hext hmok.fz hs.1;have hs0:nth y.S 0=some s:=by rw[hS];rfl
    have hok0:=hmok.stg 0 (stgP (expP chip l) 0) s rfl hs0;have hown:∀p cap,s.blk=some (p,cap)->w.heap.size<=p:=λp cap hp=>by have:=(hmok.sown 0 s p cap hs0 hp).1;rw[hxc.own] at this;exact this.1
    have hat:atomic (tipVal s):=by unfold tipVal;split<;>trivial
    have hj:=h3.joinS (g:=newG Zfv 119 (expP chip l)) (s:=s)
     (λp cap hp=>by
      have hp:=hown p cap hp
      exact⟨hm.fresh p hp,λb hb=>by have:=hm.M_lt hb;omega,λi s' cap' hs' hb=>by have:=hm.S_lt hs' hb;omega⟩)
     ⟨hver,hok0.n,hok0.wd,hok0.nil,λp cap hp=>by
      obtain⟨C,a1,a2,a3,a4,a5,a6,a7,a8⟩:=hok0.row p cap hp;refine⟨C,a1,a2,a3,a4,λi j a' hi ha'=> ?_,a6,a7,a8⟩;obtain⟨v,e1,e2⟩:=a5 i j a' hi ha'
      exact⟨v,e1,e2.plain (λ_ _ _ e=>e) (R.enc_plain _ _ _ (Zbc ha'))⟩,λ_=>hok0.fzn rfl,λh=>by simp at h,λh=>by simp at h⟩
    refine⟨tipVal s,_,rfl,?_,hj.1,h4.trans hj.2,hs.step hm⟩;refine RA.tip _ _ _ s _ ?_ (Yq _) (λ_=>rfl) hat;rw[Zk,Zae,<-hm.sl];simp
   |[],hargs=>exact hargs.elim
   |[_],hargs=>exact hargs.2.elim
   |_::_::_::_,hargs=>exact hargs.2.2.elim
  ·simp[RT.val] at hq
end
open Go Go.S3 Go.Proofs Go.RowKit
noncomputable section
abbrev ZCh:Rs:=.one (.one (.sl Zfv))
def ZFz:En:=Zh Zpo ZCh (λa=>some (Nat.ble (expP a.1 a.2).length most)) (λa=>expP a.1 a.2)
theorem ZYJ (L:List PINT):ZCh.out ⟨[],[newG Zfv 119 L]⟩ (.w (.one (.tip 0 0)))=some L:=rfl
theorem ZuH:Zb Tryz.prog 25 ZFz:=by
 refine⟨ZFA.1,λvs chk v hp hc x m w args hm hv=> ?_⟩;simp only at hp;split at hp
 ·rename_i a ha;simp only[oinj,pinj] at hp;obtain⟨rfl,rfl⟩:=hp;obtain⟨hargs,hin⟩:=Zbm ha hv;have hle:FzLe x (Ctx.own0 w x.fz):=λ_ _ _ e=>e
  have hargs':RVs (Ctx.own0 w x.fz) (ZeE Zpo a) args:=ZcB (Zb3 hle Zpo a (ZaX hargs));have hd:ZjB Zpo (ZeE Zpo a)=some a:=Zyy (by rfl) a;have h2:=ZFA.2.2 (ZeE Zpo a) ZdM {chk:=some (Nat.ble (expP a.1 a.2).length most),v:=.w (.one (.tip 0 0)),m:=⟨[],[newG Zfv 119 (expP a.1 a.2)]⟩,bd:=[],sd:=[]} (by simp only[hd];rfl) hc (Ctx.own0 w x.fz) w args (Zkm hm) hargs';refine h2.mono λe w' hres=> ?_
  obtain⟨val,x1,rfl,hrv,hm1,hext,hst⟩:=hres;obtain⟨x2,m2,hm2,hext2,hrv2⟩:=Rs.out_ok (ZYJ _) hm1 hrv;obtain⟨h3,h4⟩:=ZkS hm (hext.trans hext2) hm2.fz (Zap hst).1;exact⟨val,{x with fz:=x2.fz},rfl,Rs.enc_ctx (x:=x2) (x':={x with fz:=x2.fz}) (λ_ _ _ e=>e) ZCh _ hrv2,h3,h4,Zap hst⟩
 ·simp at hp
end
end Go.Proofs.YtpnjbfjomebppaaGreat
open Go.Proofs.Tryz (prog)
open Go Go.S3 Go.Proofs
set_option maxRecDepth 100000
namespace Go.Proofs.YtpnjbfjomebppaaGreat
noncomputable section
def ZPK:RT (Option (Bool)):=
 let x1:List Int:=[62,5,198,7,50,16,0,118]
 let x2:BRDT:=(2,[(0,65535,true,0)],0,0,0,false,Stg.l (newG ZcN ZrM (Zo4 0 x1)))
 let x3:=Zbo x2 (decX (rep 0 (Int.toNat 160)))
 let x4:=x3.1
 let x5:=x4.2.2.2.2
 let x6:=x5.1.1.2
 let p1:=(!x6.1.1==12)::(!x6.2.2.2.1)::(!iN (Le x4.1)==40)::(!x3.2==0)::[]
 .br (smB x1) (.br (Zzm x2 (rep 0 (Int.toNat 160))) (.br (orR p1 (smC x5.2.1)) (Ls (true)) Ln) Ln) Ln
def tpKn:Bool:=getO ZnL.Df (ZPK).val
def ZPM:Bool:=okB (ZPK).val
def ZPL:En:=Zh ZwN ZnL (λa=>some (ZPM)) (λa=>tpKn)
theorem Zy2:Zb prog 21 ZPL:=
 pureP 15 [(23,ZpO),(59,ZlL),(60,ZKv)] [] _ _ ⟨ZjK,Zj8,ZKu,Tv⟩ Tryz.func21 Tryz.call21 trivial
def ZeO:En:=.tree (Zz (envX prog [] [] 7 8) Tryz.f31)
theorem Zhw:Zb prog 31 ZeO:=Z6 trivial Tryz.func31 rfl (by kernel_rfl) Tryz.call31 trivial
abbrev ZC2:List Sh:=[So (R.sl Kc),So Kc]
abbrev ZrR:Rs:=Rs.tup [Sh.agg (R.Pq Kc (R.Pq rcRG (R.Pq Kc (R.Pq Ka (R.Pq Ka (R.Pq R.bool rcCE)))))),So (R.sl Ka)]
def ZmF (n:List Int) (k:Int):RT (Option (BRDT×List Int)):=
 .br (ZoU (n,0)) (.br (Zl2 (Zcu (n,0)).2 k) (Ls (((Zcu (n,0)).1,(Zgz (Zcu (n,0)).2 k).1))) Ln) Ln
def Z3 (n:List Int) (k:Int):BRDT×List Int:=getO ZrR.Df (ZmF n k).val
def ZmG (n:List Int) (k:Int):Bool:=okB (ZmF n k).val
def ZrS:En:=Zh ZC2 ZrR (λa=>some (ZmG a.1 a.2)) (λa=>Z3 a.1 a.2)
theorem ZmE:Zb prog 22 ZrS:=
 pureP 255 [(31,ZeO),(66,ZNu),(67,ZE6)] [] _ _ ⟨Zhw,ZNs,ZHO,Tv⟩ Tryz.func22 Tryz.call22 trivial
def ZC1 (b:BRDT):RT TC:=
 let x1:TR:=(0,0,0,0,0,0,0,(false,false,false,false,false,false,false),0,0)
 let x2:=ZB (b.1,x1,false,false,false,0,false,false,false,false,false,false,false)
 .Lf ((x2.1,x1,false,false,false,x2.2.2.2.2.2.1,false,false,false,false,false,false,false))
def Zy1 (b:BRDT):TC:=(ZC1 b).val
def ZlC:En:=Zh ZyD ZLt (λ_=>none) (λa=>Zy1 a)
theorem ZjZ:Zb prog 26 ZlC:=
 pureQ 7 [(80,Zi3)] [] _ _ ⟨Zg9,Tv⟩ Tryz.func26 Tryz.call26 trivial
abbrev ZNN:List Sh:=[So (R.sl Kc)]
def ZRG:LS:={n:=104,Sl:=[(3,.fix (A.loc 0 0)),(5,.fix (A.loc 1 0)),(7,.tip 0),(8,.fix .nilsl),(60,.code (So (R.sl ZaB))),(61,.code (So Kc)),(62,.code (So Kc))],Bx:=[[.many (R.Pq Kc (R.Pq rcRG (R.Pq Kc (R.Pq Ka (R.Pq Ka (R.Pq R.bool rcCE))))))],[.many (R.Pq (R.sl Zfv) (R.Pq (R.sl ZaB) (R.Pq (R.sl Zht) (R.Pq (R.sl Zat) (R.Pq (R.Pq Zat (R.Pq Kc (R.Pq (R.sl Ka) (R.Pq (RY) (R.Pq Kc R.bool))))) (R.Pq rcCE (R.Pq Zcc (R.Pq (R.Pq Kb (R.Pq Ka Kc)) (R.Pq Kc (R.sl (R.Pq Ka Ka)))))))))))]],Sg:=[⟨(RY),41,true⟩]}
def Zhi (a:List ITMT×Int×Int×BRDT×RUNT×List TY×PUnit):RT (Option (Go1 (List ITMT×Int×Int×BRDT×RUNT×List TY×PUnit))):=
 let x1:ITMT:=R.get ZaB a.1 a.2.2.1
 let x2:=x1.2
 let x3:=x1.1==1&&decide (x2.2.2.1>=3)
 let x4:List TY:=a.2.2.2.2.2.1++[x2.1]
 .br (decide (a.2.2.1<a.2.1)) (.br (!Zf a.2.2.1 (Le a.1)||(!x3||Nat.ble (Le x4) most)) (.br (Zf a.2.2.1 (Le a.1)) (Ls (Go1.cont (a.1,a.2.1,i64.wrap (a.2.2.1+1),a.2.2.2.1,a.2.2.2.2.1,bif x3 then x4 else a.2.2.2.2.2.1,PUnit.unit))) Ln) Ln) (Ls (Go1.brk (a.1,a.2.1,a.2.2.1,a.2.2.2.1,a.2.2.2.2.1,a.2.2.2.2.2.1,PUnit.unit)))
def ZFp:Ora:=Zbr false ZRG Zhi (λa=>1000000000000)
theorem ZH4:Za1 (envX prog [(19,ZuF),(21,ZPL),(22,ZrS),(23,ZpO),(24,Zg5),(25,ZFz),(26,ZlC),(27,ZjN),(28,Zmg),(29,Zin)] [] 16383 8) (.block 0 (.loop (Z7 Tryz.f4.body 0))) ZFp:=
 loopP ⟨Zpm,Zy2,ZmE,ZjK,Zgm,ZuH,ZjZ,Zih,ZkT,ZhP,Tv⟩
def ZRF:LS:={n:=104,Sl:=[(7,.tip 0),(8,.tip 1),(11,.fix (A.loc 2 0)),(83,.code (So (R.sl Zht))),(84,.code (So Kc)),(85,.code (So Kc))],Bx:=[[.many (R.Pq Kc (R.Pq rcRG (R.Pq Kc (R.Pq Ka (R.Pq Ka (R.Pq R.bool rcCE))))))],[.many (R.Pq (R.sl Zfv) (R.Pq (R.sl ZaB) (R.Pq (R.sl Zht) (R.Pq (R.sl Zat) (R.Pq (R.Pq Zat (R.Pq Kc (R.Pq (R.sl Ka) (R.Pq (RY) (R.Pq Kc R.bool))))) (R.Pq rcCE (R.Pq Zcc (R.Pq (R.Pq Kb (R.Pq Ka Kc)) (R.Pq Kc (R.sl (R.Pq Ka Ka)))))))))))],[.many Zat]],Sg:=[⟨RY,41,true⟩,⟨(RY),41,true⟩]}
def Zhh (a:List EVTT×Int×Int×BRDT×RUNT×TC×List TY×List TY×PUnit):RT (Option (Go1 (List EVTT×Int×Int×BRDT×RUNT×TC×List TY×List TY×PUnit))):=
 let x1:EVTT:=R.get Zht a.1 a.2.2.1
 let x2:=ZJ2 x1
 let x3:List TY:=a.2.2.2.2.2.2.2.1++Zb4 a.2.2.2.2.2.1 x1
 let x4:= !x2||Nat.ble (Le x3) most
 .br (decide (a.2.2.1<a.2.1)) (.br (!Zf a.2.2.1 (Le a.1)||(!x4||x2)) (.br (!Zf a.2.2.1 (Le a.1)||x4) (.br (Zf a.2.2.1 (Le a.1)) (Ls (Go1.cont (a.1,a.2.1,i64.wrap (a.2.2.1+1),a.2.2.2.1,a.2.2.2.2.1,Zb8 a.2.2.2.2.2.1 x1,a.2.2.2.2.2.2.1,x3,PUnit.unit))) Ln) Ln) Ln) (Ls (Go1.brk (a.1,a.2.1,a.2.2.1,a.2.2.2.1,a.2.2.2.2.1,a.2.2.2.2.2.1,a.2.2.2.2.2.2.1,a.2.2.2.2.2.2.2.1,PUnit.unit)))
def ZFo:Ora:=Zbr false ZRF Zhh (λa=>1000000000000)
theorem ZH3:Za1 (envX prog [(19,ZuF),(21,ZPL),(22,ZrS),(23,ZpO),(24,Zg5),(25,ZFz),(26,ZlC),(27,ZjN),(28,Zmg),(29,Zin)] [] 16383 8) (.block 2 (.loop (Z7 Tryz.f4.body 2))) ZFo:=
 loopP ⟨Zpm,Zy2,ZmE,ZjK,Zgm,ZuH,ZjZ,Zih,ZkT,ZhP,Tv⟩
def Zrf (n:List Int):RT (Option (Bool)):=
 let x1:=iN (Le (Zbo (Z3 n 100).1 (decX (Z3 n 100).2)).1.1) !=i64.wrap (Int.tdiv (iN (Le (Z3 n 100).2)) 4)
 let x2:=ZuG (Z3 n 100).1.1 (Zbo (Z3 n 100).1 (decX (Z3 n 100).2)).1.2.1
 let x3:= !x2
 let x4:= !ZFx (Z3 n 100).1.1 (Zbo (Z3 n 100).1 (decX (Z3 n 100).2)).1.2.1
 let p1:=x4::x3::x1::((Zbo (Z3 n 100).1 (decX (Z3 n 100).2)).2 !=0)::[]
 let x5:=expP (Z3 n 100).1.1 (Zbo (Z3 n 100).1 (decX (Z3 n 100).2)).1.2.1
 let x6:=Nat.ble (Le x5) most
 let p2:=(!x6)::p1
 let x7:List ITMT×Int×Int×BRDT×RUNT×List TY×PUnit:=((Zbo (Z3 n 100).1 (decX (Z3 n 100).2)).1.2.1,iN (Le (Zbo (Z3 n 100).1 (decX (Z3 n 100).2)).1.2.1),0,(Z3 n 100).1,(Zbo (Z3 n 100).1 (decX (Z3 n 100).2)).1,[],())
 let x8:=runF false Zhi (λa=>1000000000000) x7
 let x9:BRDT×RUNT×List TY×PUnit:=(getO (false,x7) x8).2.2.2.2
 let x10:=x9.2
 let x11:=x10.1
 let x12:=x11.2.2.1
 let x13:=x9.1
 let x14:List EVTT×Int×Int×BRDT×RUNT×TC×List TY×List TY×PUnit:=(x12,iN (Le x12),0,x13,x11,Zy1 x13,x10.2.1,[],())
 let x15:=runF false Zhh (λa=>1000000000000) x14
 let x16:List TY×List TY×PUnit:=(getO (false,x14) x15).2.2.2.2.2.2.2
 let x17:=x16.2.1
 let x18:=ZGb x17
 let x19:=Ziy RY x17 x16.1
 .br (!decide (iN (Le n)>250)||ZPM) (.br (decide (iN (Le n)>250)) (Ls (true)) (.br (ZmG n 100) (.br (Zzm (Z3 n 100).1 (Z3 n 100).2) (.br (orR p2 (Zg6 x5 (Zbo (Z3 n 100).1 (decX (Z3 n 100).2)).1.1)) (.br (orR p1 x6) (.br ((Zbo (Z3 n 100).1 (decX (Z3 n 100).2)).2 !=0||(x1||x2)) (.br ((Zbo (Z3 n 100).1 (decX (Z3 n 100).2)).2 !=0||(x1||(x4|| !ZiF x5 (Zbo (Z3 n 100).1 (decX (Z3 n 100).2)).1.1))) (Ls (false)) (.br (okB x8) (.br (okB x15) (.br (!x18||(!x19||ZPM)) (.br (x18) (Ls (x19&&tpKn)) Ln) Ln) Ln) Ln)) Ln) Ln) Ln) Ln) Ln)) Ln
def ZWn (n:List Int):Bool:=getO ZnL.Df (Zrf n).val
def ZNO (n:List Int):Bool:=okB (Zrf n).val
def ZYw:En:=Zh ZNN ZnL (λa=>some (ZNO a)) (λa=>ZWn a)
theorem lTGra_ok:Zb prog 4 ZYw:=
 pureP 16383 [(19,ZuF),(21,ZPL),(22,ZrS),(23,ZpO),(24,Zg5),(25,ZFz),(26,ZlC),(27,ZjN),(28,Zmg),(29,Zin)] [(0,ZFp),(2,ZFo)] _ _ ⟨Zpm,Zy2,ZmE,ZjK,Zgm,ZuH,ZjZ,Zih,ZkT,ZhP,Tv⟩ Tryz.func4 Tryz.call4 ⟨ZH4,ZH3,Tv⟩
end
end Go.Proofs.YtpnjbfjomebppaaGreat
open Go Go.S3 Go.Proofs Go.Proofs.Cells
namespace Go.Proofs.YtpnjbfjomebppaaGreat
noncomputable section
def NoD (ev:List EVTT):Prop:=∀e∈ev,e.1≠5
theorem ZPo (k:Int):ZbV k=(k==3||(k==5||k==7)):=rfl
theorem NoD.left {a t:List EVTT} (h:NoD (a++t)):NoD a:=λe he=>h e (List.mem_append_left _ he)
def stC (w:Nat):Nat->List Int
 |0=>[]
 |1=>[1]
 |2=>[1,2]++List.replicate w 7
 |n+1=>stC w n++[((n+1:Nat):Int)]
def stI (y:ITMT):List Int:=
 bif y.1==1 then stC y.2.2.1.toNat y.2.2.2.1.toNat else List.replicate y.2.2.2.1.toNat (bif y.1==2 then 8 else bif y.1==3 then 9 else 10)
def pinI (k:Int) (y:ITMT) (t:Int):PINT:=Zba k t y.2.1 y.2.1.2.2.1 y.2.2.2.2.1 y.2.2.2.2.2
def expX (k:Int) (l:List ITMT):List PINT:=l.flatMap λy=>(stI y).map (pinI k y)
theorem Zhm (k:Int) (l:List ITMT) (y:ITMT):expX k (l++[y])=expX k l++(stI y).map (pinI k y):=by unfold expX;rw[List.flatMap_append];simp
theorem ZQC (k t:Int) (p:TC) (x:TY) (d D D':Int) (i o:Bool) (h:(t==3)=false):Zba k t (ZaF p x d) D i o=Zba k t x D' i o:=by
 have e1:(ZaF p x d).1=x.1:=rfl;have e2:(ZaF p x d).2.1=x.2.1:=rfl;have e3:ZbV x.1=true->(ZaF p x d).2.2.1=x.2.2.1:=λhw=>by
  have:Za2 x.1=false:=by
   rw[ZPo] at hw;by_cases h3:x.1=3
   ·rw[h3];rfl
   by_cases h5:x.1=5
   ·rw[h5];rfl
   by_cases h7:x.1=7
   ·rw[h7];rfl
   have b3:(x.1==3)=false:=by simpa using h3
   have b5:(x.1==5)=false:=by simpa using h5
   have b7:(x.1==7)=false:=by simpa using h7
   rw[b3,b5,b7] at hw;simp at hw
  show (bif Za2 x.1 then d else x.2.2.1)=x.2.2.1;rw[this];rfl
 unfold Zba ZiH;simp only[RT.val,e1,e2,h,YP,Yb];cases hw:(t==2||(t==7||false))&&ZbV x.1
 ·simp only[Yb]
 ·rw[e3 (by simp at hw;exact hw.2)]
theorem pin_3 (k:Int) (p:TC) (x:TY) (d:Int) (i o:Bool):Zba k 3 (ZaF p x d) (ZaF p x d).2.2.1 i o=Zba k 3 x d i o:=by
 have e1:(ZaF p x d).1=x.1:=rfl;have e2:(ZaF p x d).2.1=x.2.1:=rfl;have e3:(ZaF p x d).2.2.1=bif Za2 x.1 then d else x.2.2.1:=rfl
 unfold Zba ZiH;simp only[RT.val,e1,e2,e3];cases Za2 x.1<;>rfl
theorem ZR3 (c:TC) (s:Int) (g:List Int) (l:LINT):(finX c s g l).1=c.1:=by
 unfold finX;cases Zd s
 ·simp only[Yb];unfold finI;dsimp only;cases (Zc c.1 (g.getD 0 0)).1==38
  ·simp only[Yb];cases (Zc c.1 (g.getD 0 0)).1==39<;>rfl
  ·simp only[Ya];rw[ZSU]
 ·rfl
def okS (x:TY):Bool:=decide (3<=x.2.2.2)&&decide (x.2.2.2<=6)
variable {b:Bool} {x y:List TY}
theorem okl (hx:x.all okS=true) (hy:y.all okS=true):(bif b then x else y).all okS=true:=by cases b<;>assumption
theorem okS_c:(bif b then x else y).all okS=bif b then x.all okS else y.all okS:=by cases b<;>rfl
theorem ZWV (c:TC) (inj:Bool) (g:List Int) (i:InsT):(ZgP c inj g i).all okS=true:=by
 have h1:∀k,okS (opC c inj k)=true:=λk=>by unfold opC;cases inj<;>rfl
 have hw:∀a,(Zd6 c a).all okS=true:=λa=>rfl
 have hr:∀a,(ZiD a).all okS=true:=λa=>rfl
 have hp:∀w,(ZcM c w).all okS=true:=λw=>rfl
 have ho:(popX c).all okS=true:=rfl;have ht:(Zcm c inj i).all okS=true:=by unfold Zcm;exact okl (by simp[h1]) (by simp[h1])
 have h32:okS (5,spOf c,c.2.1.2.2.2.2.2.2.1,bif c.1==2 then 3 else 5)=true:=by cases c.1==2<;>rfl
 have he:([]:List TY).all okS=true:=rfl;unfold ZgP;dsimp only;repeat' apply okl
 all_goals (try assumption)
 all_goals (try exact hw _)
 all_goals (try exact hr _)
 all_goals (try exact hp _)
 all_goals (try rfl)
 all_goals (try (simp only[List.all_cons,List.all_append,List.all_nil,h1,hr,hw,hp,ho,ht,h32,Y6,YR,YI];done))
 all_goals (cases inj<;>cases h2:c.1==2<;>simp[okS_c,List.all_append,hr,hw,hp,ho,ht,okS,opC,ZgH,h2];done)
theorem ZU5 (c:TC) (s:Int) (g:List Int):(ZeS c s g).all okS=true:=by
 unfold ZeS;cases Zd s
 ·cases g with
  |nil=>rfl
  |cons o g=>
   simp only[Yb,List.all_cons,ZWV,YR];rfl
 ·rfl
theorem Zul (c:TC) (s:Int) (g:List Int) (h:(Zi c s g).2=true):3<=(Zi c s g).1.2.2.2/\(Zi c s g).1.2.2.2<=6:=by
 unfold Zi pick at h|-;have hlt:g.length<(ZeS c s g).length:=by simpa using h
 have:=YW.1 (ZU5 c s g) ((ZeS c s g).getD g.length (0,0,0,0)) (by
  rw[Yr,Yh hlt]
  exact List.getElem_mem _)
 simpa [okS] using this
theorem ZR0 (k o:Int):3<=Zee k o/\Zee k o<=6:=by unfold Zee ZzH;simp only[RT.val];repeat' (first|(exact⟨by decide,by decide⟩)|(rw[Bool.cond_eq_ite];split))
theorem ZUJ (p:TC) (x:TY) (d:Int) (h:3<=x.2.2.2/\x.2.2.2<=6):3<=(ZaF p x d).2.2.2/\(ZaF p x d).2.2.2<=6:=by
 have e:(ZaF p x d).2.2.2=bif x.1==1||x.1==8 then Zee p.1 (ZaF p x d).2.2.1 else x.2.2.2:=rfl
 rw[e];cases x.1==1||x.1==8
 ·exact h
 ·exact ZR0 _ _
theorem ZQD (k t:Int) (x:TY) (d d':Int) (i o:Bool) (h:(t==3)=false):Zba k t x d i o=Zba k t x d' i o:=by unfold Zba ZiH;simp only[RT.val,h,YP,Yb]
theorem pin_8 (k:Int) (x x':TY) (d d':Int) (i o:Bool):Zba k 8 x d i o=Zba k 8 x' d' i o:=rfl
theorem ZXZ (k:Int) (x x':TY) (d d':Int) (i o:Bool):Zba k 10 x d i o=Zba k 10 x' d' i o:=rfl
theorem ZXY (k:Int) (x x':TY) (d d':Int) (i o:Bool) (h:x.2.1=x'.2.1):Zba k 9 x d i o=Zba k 9 x' d' i o:=by unfold Zba ZiH;simp only[RT.val,show ((9:Int)==8)=false from rfl,show ((9:Int)==9)=true from rfl,Ya,Yb,h]
def okI (y:ITMT):Prop:=
 (y.1=1/\3<=y.2.1.2.2.2/\y.2.1.2.2.2<=6/\1<=y.2.2.2.1/\y.2.2.2.1<=y.2.1.2.2.2/\0<=y.2.2.1/\(0<y.2.2.1->2<=y.2.2.2.1/\Zj y.2.1.1=true))\/
 ((y.1=2\/y.1=3\/y.1=4)/\1<=y.2.2.2.1/\y.2.2.1=0)
def adjI (y z:ITMT):Prop:=(y.1=1->y.2.2.2.1<y.2.1.2.2.2->z.1=4)/\(z.1≠1->¬(y.1=z.1/\y.2.2.2.2.1=z.2.2.2.2.1/\y.2.2.2.2.2=z.2.2.2.2.2))
structure GV (m:Int) (l:List ITMT):Prop where
 ok:∀y∈l,okI y
 adj:∀i:Nat,i+1<l.length->adjI (R.get ZaB l (i:Int)) (R.get ZaB l ((i+1:Nat):Int))
 bd:∀y∈l,y.2.2.2.1<=m/\y.2.2.1<=m
theorem Zfh (l:List ITMT) (z:ITMT) (i:Nat) (h:i<l.length):R.get ZaB (l++[z]) (i:Int)=R.get ZaB l (i:Int):=by simp[R.get,Yo h]
theorem Zjt (l:List ITMT) (z:ITMT):R.get ZaB (l++[z]) (l.length:Int)=z:=by simp[R.get]
variable {m':Int} {l:List ITMT} {z:ITMT}
theorem GV.snoc {m:Int} (h:GV m l) (hm:m<=m') (hz:okI z) (hb:z.2.2.2.1<=m'/\z.2.2.1<=m') (ha:∀l' y,l=l'++[y]->adjI y z):GV m' (l++[z]):=by
 refine⟨λy hy=> ?_,λi hi=> ?_,λy hy=> ?_⟩
 ·rcases Y3.1 hy with hy|hy
  ·exact h.ok y hy
  ·rw[Yac] at hy;subst hy;exact hz
 ·simp only[Yd,List.length_singleton] at hi;by_cases h1:i+1<l.length
  ·rw[Zfh l z i (by omega),Zfh l z (i+1) h1];exact h.adj i h1
  ·have e:i+1=l.length:=by omega
   rw[e,Zjt,Zfh l z i (by omega)];rcases Yaf l with rfl|⟨l',y,rfl⟩
   ·simp at e
   ·rw[Y8] at e|-;have:i=l'.length:=by simp at e;omega
    rw[this,Zjt];exact ha l' y (Y8 ..)
 ·rcases Y3.1 hy with hy|hy
  ·have:=h.bd y hy;omega
  ·rw[Yac] at hy;subst hy;exact hb
theorem GV.split {m:Int} (h:GV m (l++[z])):GV m l/\okI z/\(∀l' y,l=l'++[y]->adjI y z):=by
 refine⟨⟨λy hy=>h.ok y (List.mem_append_left _ hy),λi hi=> ?_,λy hy=>h.bd y (List.mem_append_left _ hy)⟩,h.ok z (by simp),?_⟩
 ·have:=h.adj i (by simp;omega);rw[Zfh l z i (by omega),Zfh l z (i+1) hi] at this;exact this
 ·rintro l' y rfl;have:=h.adj l'.length (by simp);have e:((l'.length+1:Nat):Int)=((l'++[y]).length:Int):=by simp
  rw[e,Zjt,Zfh _ z l'.length (by simp),Zjt] at this;exact this
theorem GV.redo {m:Int} {z':ITMT} (h:GV m (l++[z])) (hm:m<=m') (hz:okI z') (hb:z'.2.2.2.1<=m'/\z'.2.2.1<=m') (h1:z'.1=z.1) (h2:z'.2.2.2.2=z.2.2.2.2):GV m' (l++[z']):=by
 obtain⟨g,_,ha⟩:=h.split;refine g.snoc hm hz hb λl' y e=> ?_
 obtain⟨a1,a2⟩:=ha l' y e;exact⟨by rw[h1];exact a1,by rw[h1,h2];exact a2⟩
def ZNM (c:CORT) (it:List ITMT):Prop:=
 ((c.2.2.2.2.1=2\/c.2.2.2.2.1=3\/c.2.2.2.2.1=7)->∃(l:List ITMT) (w:Int),it=l++[(1,c.2.2.2.1,w,(bif c.2.2.2.2.1==2 then 1 else 2),ZaD c,sodC c)]/\(c.2.2.2.2.1=2->w=0)/\(c.2.2.2.2.1=7->Zj c.2.2.2.1.1=true))/\
 (4<=c.2.2.2.2.1->c.2.2.2.2.1<=6->∃(l:List ITMT) (w:Int),it=l++[(1,c.2.2.2.1,w,c.2.2.2.2.1-1,ZaD c,sodC c)]/\c.2.2.2.2.1<=c.2.2.2.1.2.2.2)/\
 ((c.2.2.2.2.1=1\/c.2.2.2.2.1=8\/c.2.2.2.2.1=9)->∀(l:List ITMT) (y:ITMT),it=l++[y]->(y.1=1->y.2.2.2.1=y.2.1.2.2.2)/\(c.2.2.2.2.1=9->y.1=3->y.2.1.2.1=c.1.2.1.2.2.2.2.2.2.2.2.2))
structure Gr (k m:Int) (c:CORT) (it:List ITMT) (tr:List PINT):Prop where
 chip:c.1.1=k
 ex:expX k it=tr
 gv:GV m it
 la:ZNM c it
theorem ZNH (p:TC) (l:LINT):(Zg p l).2.2.1=p.2.2.1/\(Zg p l).2.2.2.2.2.2.2.2.2.2.2.2=p.2.2.2.2.2.2.2.2.2.2.2.2/\(Zg p l).1=p.1/\(Zg p l).2.1=p.2.1:=by have:=Zvp p l;simp only[unl,pinj] at this;obtain⟨h1,h2,h3,h4,h5,h6,h7⟩:=this;exact⟨h3,by rw[h7],h1,h2⟩
theorem Zyt (p:TC) (s:Int) (g:List Int) (h:Bool) (l:LINT):(endX p s g h l).1.1=p.1:=by
 unfold endX;cases (Zi p s g).2
 ·simp only[Yb];rw[(Zu9 _ _).1,ZR3]
 ·rfl
theorem Zys (p:TC) (s:Int) (g:List Int) (h:Bool) (l:LINT):(endX p s g h l).2.2.2.2.1=8\/(endX p s g h l).2.2.2.2.1=9\/(endX p s g h l).2.2.2.2.1=1:=by
 unfold endX;cases (Zi p s g).2
 ·exact (Zff _ _ _).1
 ·exact (Zff _ _ _).1
variable {c:CORT}
theorem ZFn {y:ITMT} (h:c.2.2.2.2.1=8\/c.2.2.2.2.1=9\/c.2.2.2.2.1=1) (h1:y.1=1) (h2:y.2.2.2.1=y.2.1.2.2.2):ZNM c (l++[y]):=
 ⟨λe=>by omega,λe1 e2=>by omega,λ_ l' y' e=>by
  obtain⟨_,e2⟩:=YaW e rfl;simp only[YaJ,and_true] at e2;subst e2
  exact⟨λ_=>h2,λ_ e3=>by omega⟩⟩
theorem Zjn {y:ITMT} (h:c.2.2.2.2.1=8\/c.2.2.2.2.1=9\/c.2.2.2.2.1=1) (h1:y.1≠1) (h2:c.2.2.2.2.1=9->y.1=3->y.2.1.2.1=c.1.2.1.2.2.2.2.2.2.2.2.2):ZNM c (l++[y]):=
 ⟨λe=>by omega,λe1 e2=>by omega,λ_ l' y' e=>by
  obtain⟨_,e2⟩:=YaW e rfl;simp only[YaJ,and_true] at e2;subst e2
  exact⟨λe3=>(h1 e3).elim,h2⟩⟩
theorem ZPX (y:ITMT) (h:y.1=2\/y.1=3\/y.1=4) (h1:1<=y.2.2.2.1) (h2:y.2.2.2.1<=1000000):stI (ZxM y)=stI y++[bif y.1==2 then 8 else bif y.1==3 then 9 else 10]/\(ZxM y).2.2.2.1=y.2.2.2.1+1:=by
 have w:IntKind.wrap .i64 (y.2.2.2.1+1)=y.2.2.2.1+1:=wrap_i64 _ (by omega) (by omega);have e1:(y.1==1)=false:=by rcases h with h|h|h<;>rw[h]<;>rfl
 unfold stI ZxM;simp only[w,e1,Yb,and_true];have:(y.2.2.2.1+1).toNat=y.2.2.2.1.toNat+1:=by omega
 rw[this,List.replicate_succ']
theorem Zl9 {t:Int} (k:Int) (l:List ITMT) (y z:ITMT) (e:stI z=stI y++[t]) (hp:∀t,pinI k z t=pinI k y t):expX k (l++[z])=expX k (l++[y])++[pinI k y t]:=by rw[Zhm,Zhm,e,List.map_append,Yp];congr 1;have:pinI k z=pinI k y:=funext hp;rw[this];rfl
variable {k:Int} {it:List ITMT} {tr:List PINT}
theorem ZCf {m:Int} (hc:c.1.1=k) (ex:expX k it=tr) (gv:GV m it) (hm0:0<=m) (hm:m<=1000000) (kd t:Int) (hk:(kd=2/\t=8)\/(kd=3/\t=9)\/(kd=4/\t=10)) (x:TY) (X:TY) (d:Int)
  (hX:∀(q:TY) (D:Int),(t=9->q.2.1=X.2.1)->Zba k t q D (ZaD c) (sodC c)=Zba k t X d (ZaD c) (sodC c)) (hx:t=9->x.2.1=X.2.1)
  (hpc:∀l y,it=l++[y]->kd=3->y.1=3->y.2.1.2.1=X.2.1) (hcomp:∀l y,it=l++[y]->y.1=1->y.2.2.2.1<y.2.1.2.2.2->kd=4):
  ∃l z,Zf2 it kd c (kd,x,0,1,ZaD c,sodC c)=l++[z]/\z.1=kd/\(t=9->z.2.1.2.1=X.2.1)/\expX k (l++[z])=tr++[Zba k t X d (ZaD c) (sodC c)]/\GV (m+1) (l++[z]):=by
 have hkd:kd=2\/kd=3\/kd=4:=by omega
 have ht:(bif kd==2 then (8:Int) else bif kd==3 then 9 else 10)=t:=by rcases hk with ⟨rfl,rfl⟩|⟨rfl,rfl⟩|⟨rfl,rfl⟩<;>rfl
 have e1:(kd==1)=false:=by rcases hkd with h|h|h<;>rw[h]<;>rfl
 have hnew:stI (kd,x,0,1,ZaD c,sodC c)=[t]:=by unfold stI;simp only[e1,Yb,ht];rfl
 have hfresh:expX k (it++[(kd,x,0,1,ZaD c,sodC c)])=tr++[Zba k t X d (ZaD c) (sodC c)]:=by rw[Zhm,ex,hnew];show tr++[Zba k t x x.2.2.1 (ZaD c) (sodC c)]=_;rw[hX x x.2.2.1 hx]
 have hz:okI (kd,x,0,1,ZaD c,sodC c):=.inr ⟨hkd,Int.le_refl _,rfl⟩;unfold Zf2;rcases Yaf it with rfl|⟨l',y,rfl⟩
 ·exact⟨[],_,rfl,rfl,hx,hfresh,gv.snoc (by omega) hz ⟨by show (1:Int)<=m+1;omega,by show (0:Int)<=m+1;omega⟩ (λl' y e=>by simp at e)⟩
 ·rw[Y8] at*;simp only[List.getLast?_concat];cases hs:Zzi y kd c
  ·refine⟨_,_,rfl,rfl,hx,hfresh,gv.snoc (by omega) hz ⟨by show (1:Int)<=m+1;omega,by show (0:Int)<=m+1;omega⟩ (λl2 y2 e=> ?_)⟩;obtain⟨_,e2⟩:=YaW e rfl;simp only[YaJ,and_true] at e2;subst e2;refine⟨λa b=>hcomp _ _ rfl a b,λ_ a=> ?_⟩;obtain⟨a1,a2,a3⟩:=a;unfold Zzi at hs;simp only at a1 a2 a3;rw[a1,a2,a3] at hs;simp at hs
  ·simp only[Zzi,Yc,Yaw] at hs;obtain⟨s1,s2,s3⟩:=hs;obtain⟨_,oy,_⟩:=gv.split;have by1:=gv.bd y (by simp);rcases oy with ⟨q,_⟩|⟨_,n1,w0⟩
   ·omega
   ·obtain⟨m1,m2⟩:=ZPX y (by rw[s1];exact hkd) n1 (by omega);rw[s1,ht] at m1;simp only[Ya,Z4];refine⟨l',ZxM y,rfl,s1,λh9=>hpc l' y rfl (by omega) (by omega),?_,?_⟩
    ·rw[Zl9 k l' y (ZxM y) m1 (λt=>rfl),ex];show tr++[Zba k t y.2.1 y.2.1.2.2.1 y.2.2.2.2.1 y.2.2.2.2.2]=_;rw[s2,s3,hX y.2.1 _ (λh9=>hpc l' y rfl (by omega) (by omega))]
    ·exact gv.redo (by omega) (.inr ⟨by rw[show (ZxM y).1=y.1 from rfl,s1];exact hkd,by rw[m2];omega,w0⟩) ⟨by rw[m2];omega,by show y.2.2.1<=m+1;omega⟩ rfl rfl
theorem ZWv {s0:TC} {m:Int} {ev:List EVTT} {cp:List TC} (h:Sem s0 c ev cp it) (g:Gr k m c it tr) (hm0:6<=m) (hm:m<=100000) (l:LINT) (d:Int) (hr:l.2.2.1=false):
  Gr k (m+1) (Zn c l d) (ZbR it c (Zr c (Zq c) d) (Zq c)) (tr++[ZbM c l d]):=by
 obtain⟨hcp,un,nx,rest,nine,cy,hit,ln,pt,ps⟩:=h;clear hit ln un hcp pt ps;obtain⟨chip,ex,gv,la1,la2,la3⟩:=g;obtain⟨p0,s,g,x,n,hd⟩:=c;simp only at nx rest nine cy chip la1 la2 la3;have hb0:(decide (n<1)||decide (n>9))=false:=by simp;omega
 have hst:Zq (p0,s,g,x,n,hd)=n:=by simp only[Zq,Zzw,RT.val,hb0,Yb]
 have hsx:Z2 n=n:=by simp only[Z2,hb0,Yb]
 obtain⟨v1,v2,v3,v4⟩:=ZNH p0 l;have hpin:ZbM (p0,s,g,x,n,hd) l d=Zba k n (Zp9 (p0,s,g,x,n,hd) n) d (ZaD (p0,s,g,x,n,hd)) (sodC (p0,s,g,x,n,hd)):=by unfold ZbM;simp only[hsx,hr,Yb,chip];rfl
 have hhc:(n==9)=false->Zp9 (p0,s,g,x,n,hd) n=x:=λe=>by unfold Zp9;rw[e];rfl
 rw[hst,hpin];have hi':ZaD (Zg p0 l,s,g,x,n,hd)=ZaD (p0,s,g,x,n,hd):=v1;have hcases:n=1\/n=2\/n=3\/(n=4\/n=5\/n=6)\/n=7\/n=8\/n=9:=by omega
 rcases hcases with e|e|e|hk|e|e|e
 ·--T1
  subst e;have hck:Zn (p0,s,g,x,1,hd) l d=(Zg p0 l,s,g,x,2,hd):=by unfold Zn;simp only[hr,hsx];rfl
  obtain⟨c1,c2⟩:=cy (by omega);have hs36:=Zul _ _ _ c2;rw[<-c1] at hs36;rw[hck,Zlk _ _ _ rfl,hhc rfl];have hi:ZbR it (p0,s,g,x,1,hd) x 1=it++[(1,x,0,1,ZaD (p0,s,g,x,1,hd),sodC (p0,s,g,x,1,hd))]:=rfl;rw[hi];refine⟨by show (Zg p0 l).1=k;rw[v3];exact chip,?_,?_,?_⟩
  ·rw[Zhm,ex];show tr++[Zba k 1 x x.2.2.1 _ _]=_;rw[ZQD k 1 x x.2.2.1 d _ _ rfl]
  ·refine gv.snoc (by omega) (.inl ⟨rfl,hs36.1,hs36.2,Int.le_refl _,by show (1:Int)<=x.2.2.2;omega,Int.le_refl _,λe=>by simp at e⟩) ⟨by show (1:Int)<=m+1;omega,by show (0:Int)<=m+1;omega⟩ λl' y e=> ?_
   have:=(la3 (.inl rfl) l' y e).1;exact⟨λa b=>by have:=this a;omega,λa=>(a rfl).elim⟩
  ·refine⟨λ_=>⟨it,0,?_,λ_=>rfl,λe=>by simp at e⟩,λe=>by simp at e,λe=>by simp at e⟩;show _=it++[(1,x,0,1,(Zg p0 l).2.2.1,(Zg p0 l).2.2.2.2.2.2.2.2.2.2.2.2)];rw[v1,v2];rfl
 ·--T2
  subst e;obtain⟨l',w,rfl,w0,_⟩:=la1 (.inl rfl);have hw0:=w0 rfl;subst hw0;obtain⟨c1,c2⟩:=cy (by omega);have hs36:=Zul _ _ _ c2;rw[<-c1] at hs36;have hi:ZbR (l'++[(1,x,0,(bif (2:Int)==2 then (1:Int) else 2),ZaD (p0,s,g,x,2,hd),sodC (p0,s,g,x,2,hd))]) (p0,s,g,x,2,hd) (Zr (p0,s,g,x,2,hd) 2 d) 2=l'++[(1,x,0,2,ZaD (p0,s,g,x,2,hd),sodC (p0,s,g,x,2,hd))]:=by rw[Zlk _ _ _ rfl];show Zbk (l'++[_]) _=_;rw[Z4];rfl
  have hck:Zn (p0,s,g,x,2,hd) l d=(Zg p0 l,s,g,x,bif l.1|| !Zj x.1 then 3 else 7,bif l.1|| !Zj x.1 then l.2.1 else hd):=by unfold Zn;simp only[hr,hsx];show (bif l.1|| !Zj x.1 then _ else _)=_;cases l.1|| !Zj x.1<;>rfl
  rw[hi,hck,hhc rfl];refine⟨by show (Zg p0 l).1=k;rw[v3];exact chip,?_,?_,?_⟩
  ·rw[Zl9 (t:=2) k l' (1,x,0,1,ZaD (p0,s,g,x,2,hd),sodC (p0,s,g,x,2,hd)) (1,x,0,2,ZaD (p0,s,g,x,2,hd),sodC (p0,s,g,x,2,hd)) rfl (λt=>rfl)];rw[show expX k (l'++[(1,x,0,1,ZaD (p0,s,g,x,2,hd),sodC (p0,s,g,x,2,hd))])=tr from ex];show tr++[Zba k 2 x x.2.2.1 _ _]=_;rw[ZQD k 2 x x.2.2.1 d _ _ rfl]
  ·exact gv.redo (by omega) (.inl ⟨rfl,hs36.1,hs36.2,(by show (1:Int)<=2;decide),(by show (2:Int)<=x.2.2.2;omega),Int.le_refl _,λe=>by simp at e⟩) ⟨by show (2:Int)<=m+1;omega,by show (0:Int)<=m+1;omega⟩ rfl rfl
  ·have hk:((bif l.1|| !Zj x.1 then (3:Int) else 7)=3)\/((bif l.1|| !Zj x.1 then (3:Int) else 7)=7/\Zj x.1=true):=by cases l.1<;>cases Zj x.1<;>simp
   generalize (bif l.1|| !Zj x.1 then (3:Int) else 7)=kk at hk;generalize (bif l.1|| !Zj x.1 then l.2.1 else hd)=hh;refine⟨λ_=>⟨l',0,?_,λ_=>rfl,λe=> ?_⟩,λe1 e2=> ?_,λe=> ?_⟩
   ·show _=l'++[(1,x,0,(bif kk==2 then (1:Int) else 2),(Zg p0 l).2.2.1,(Zg p0 l).2.2.2.2.2.2.2.2.2.2.2.2)];have:(kk==2)=false:=by rcases hk with e|⟨e,_⟩<;>rw[e]<;>rfl
    rw[v1,v2,this];rfl
   ·replace e:kk=7:=e;rcases hk with h3|⟨_,h7⟩
    ·omega
    ·exact h7
   ·replace e1:4<=kk:=e1;replace e2:kk<=6:=e2;omega
   ·replace e:kk=1\/kk=8\/kk=9:=e;omega
 ·--T3
  subst e;obtain⟨l',w,rfl,_,_⟩:=la1 (.inr (.inl rfl));obtain⟨c1,c2⟩:=cy (by omega);have hs36:=Zul _ _ _ c2;rw[<-c1] at hs36;generalize hx3:ZaF (Zg p0 l) x d=x3;have hx3':ZaF p0 x d=x3:=by rw[<-ZvY v3];exact hx3
  have hcur:Zr (p0,s,g,x,3,hd) 3 d=x3:=by rw[ZYO _ _ (Zg p0 l) v3];exact hx3
  have h36:=ZUJ p0 x d hs36;rw[hx3'] at h36;obtain⟨oI,oS,oA⟩:∃i o,ZaD (p0,s,g,x,3,hd)=i/\sodC (p0,s,g,x,3,hd)=o:=⟨_,_,rfl,rfl⟩;have hi:ZbR (l'++[(1,x,w,(bif (3:Int)==2 then (1:Int) else 2),ZaD (p0,s,g,x,3,hd),sodC (p0,s,g,x,3,hd))]) (p0,s,g,x,3,hd) (Zr (p0,s,g,x,3,hd) 3 d) 3=l'++[(1,x3,w,3,ZaD (p0,s,g,x,3,hd),sodC (p0,s,g,x,3,hd))]:=by rw[hcur];show Zbk (l'++[_]) _=_;rw[Z4];rfl
  rw[hi,hhc rfl];have okw:=gv.split.2.1;have hbd:=gv.bd _ (List.mem_append_right l' (Yac.2 rfl));have hww:0<=w/\(0<w->Zj x.1=true)/\w<=m:=by
   rcases okw with ⟨_,_,_,_,_,a,b⟩|⟨a,_⟩
   ·exact⟨a,λe=>(b e).2,hbd.2⟩
   ·replace a:(1:Int)=2\/(1:Int)=3\/(1:Int)=4:=a;omega
  have hk3:x3.1=x.1:=by rw[<-hx3'];rfl
  have hgv:GV (m+1) (l'++[(1,x3,w,3,ZaD (p0,s,g,x,3,hd),sodC (p0,s,g,x,3,hd))]):=
   gv.redo (by omega) (.inl ⟨rfl,h36.1,h36.2,(by show (1:Int)<=3;decide),h36.1,hww.1,λe=>⟨(by show (2:Int)<=3;decide),by rw[hk3];exact hww.2.1 e⟩⟩) ⟨by show (3:Int)<=m+1;omega,by show w<=m+1;omega⟩ rfl rfl
  have hex:expX k (l'++[(1,x3,w,3,ZaD (p0,s,g,x,3,hd),sodC (p0,s,g,x,3,hd))])=tr++[Zba k 3 x d (ZaD (p0,s,g,x,3,hd)) (sodC (p0,s,g,x,3,hd))]:=by
   rw[<-ex,Zhm,Zhm,Yp];congr 1;have e2:stI (1,x3,w,3,ZaD (p0,s,g,x,3,hd),sodC (p0,s,g,x,3,hd))=stC w.toNat 2++[3]:=rfl;have e3:stI (1,x,w,(bif (3:Int)==2 then (1:Int) else 2),ZaD (p0,s,g,x,3,hd),sodC (p0,s,g,x,3,hd))=stC w.toNat 2:=rfl;rw[e2,e3,List.map_append];congr 1
   ·refine List.map_congr_left λt ht=> ?_
    have ht3:(t==3)=false:=by
     simp only[stC,Y3,Yx,List.not_mem_nil,or_false,List.mem_replicate] at ht;have:t≠3:=by omega
     simpa using this
    show Zba k t x3 x3.2.2.1 _ _=Zba k t x x.2.2.1 _ _;rw[<-hx3',ZQC k t p0 x d _ x.2.2.1 _ _ ht3]
   ·show [Zba k 3 x3 x3.2.2.1 _ _]=_;rw[<-hx3',pin_3]
  cases hle:le3 x3.2.2.2
  ·have hck:Zn (p0,s,g,x,3,hd) l d=(Zg p0 l,s,g++[x3.2.2.1],x3,4,hd):=by unfold Zn;simp only[hr,hsx,hx3,hle];rfl
   rw[hck];refine⟨by show (Zg p0 l).1=k;rw[v3];exact chip,hex,hgv,λe=>by simp at e,λ_ _=>⟨l',w,?_,?_⟩,λe=>by simp at e⟩
   ·show _=l'++[(1,x3,w,3,(Zg p0 l).2.2.1,(Zg p0 l).2.2.2.2.2.2.2.2.2.2.2.2)];rw[v1,v2];rfl
   ·show (4:Int)<=x3.2.2.2;simp[le3] at hle;omega
  ·have hck:Zn (p0,s,g,x,3,hd) l d=endX (Zg p0 l) s (g++[x3.2.2.1]) hd l:=by unfold Zn;simp only[hr,hsx,hx3,hle];rfl
   rw[hck];refine⟨by rw[Zyt,v3];exact chip,hex,hgv,ZFn (Zys _ _ _ _ _) rfl ?_⟩;show (3:Int)=x3.2.2.2;simp[le3] at hle;omega
 ·--T4,T5,T6
  obtain⟨l',w,rfl,hlo⟩:=la2 (by omega) (by omega);have b1:(n==1)=false:=by rcases hk with rfl|rfl|rfl<;>rfl
  have b2:(n==2)=false:=by rcases hk with rfl|rfl|rfl<;>rfl
  have b3:(n==3)=false:=by rcases hk with rfl|rfl|rfl<;>rfl
  have b7:(n==7)=false:=by rcases hk with rfl|rfl|rfl<;>rfl
  have b8:(n==8)=false:=by rcases hk with rfl|rfl|rfl<;>rfl
  have b9:(n==9)=false:=by rcases hk with rfl|rfl|rfl<;>rfl
  have b10:(n==10)=false:=by rcases hk with rfl|rfl|rfl<;>rfl
  have hclk:Zn (p0,s,g,x,n,hd) l d=bif decide (n<x.2.2.2)&& !(n==6) then (Zg p0 l,s,g,x,n+1,hd) else endX (Zg p0 l) s g hd l:=by unfold Zn;simp only[hr,hsx,b1,b2,b3,b7,b8,b9,YaM,Yb]
  clear hst hsx hpin hb0 la1 la2 la3 rest nine cy;have hi:ZbR (l'++[(1,x,w,n-1,ZaD (p0,s,g,x,n,hd),sodC (p0,s,g,x,n,hd))]) (p0,s,g,x,n,hd) (Zr (p0,s,g,x,n,hd) n d) n=l'++[(1,x,w,n,ZaD (p0,s,g,x,n,hd),sodC (p0,s,g,x,n,hd))]:=by
   rw[Zlk _ _ _ b3];have hkn:Zpa n=1:=by unfold Zpa;simp only[b8,b9,b10,Yb]
   have hcn:cycN (p0,s,g,x,n,hd) n x=x:=by unfold cycN;simp only[b8,b9,b10,Yb]
   unfold ZbR;simp only[hkn,hcn,b1,b7];show Zbk (l'++[_]) _=_;rw[Z4];show l'++[(1,x,w,IntKind.wrap .i64 (n-1+1),ZaD (p0,s,g,x,n,hd),sodC (p0,s,g,x,n,hd))]=_;rw[wrap_i64 _ (by omega) (by omega),show n-1+1=n by omega]
  rw[hi,hhc b9];obtain⟨_,okw,_⟩:=gv.split;have hbd:=gv.bd _ (List.mem_append_right l' (Yac.2 rfl));obtain⟨o1,o2,o3⟩:0<=w/\(0<w->Zj x.1=true)/\w<=m/\3<=x.2.2.2/\x.2.2.2<=6:=by
   rcases okw with ⟨_,q1,q2,_,_,a,b⟩|⟨a,_⟩
   ·exact⟨a,λe=>(b e).2,hbd.2,q1,q2⟩
   ·replace a:(1:Int)=2\/(1:Int)=3\/(1:Int)=4:=a;omega
  have hgv:GV (m+1) (l'++[(1,x,w,n,ZaD (p0,s,g,x,n,hd),sodC (p0,s,g,x,n,hd))]):=
   gv.redo (by omega) (.inl ⟨rfl,o3.2.1,o3.2.2,by show 1<=n;omega,hlo,o1,λe=>⟨by show 2<=n;omega,o2 e⟩⟩) ⟨by show n<=m+1;omega,by show w<=m+1;omega⟩ rfl rfl
  have hex:expX k (l'++[(1,x,w,n,ZaD (p0,s,g,x,n,hd),sodC (p0,s,g,x,n,hd))])=tr++[Zba k n x d (ZaD (p0,s,g,x,n,hd)) (sodC (p0,s,g,x,n,hd))]:=by
   have e2:stI (1,x,w,n,ZaD (p0,s,g,x,n,hd),sodC (p0,s,g,x,n,hd))=stI (1,x,w,n-1,ZaD (p0,s,g,x,n,hd),sodC (p0,s,g,x,n,hd))++[n]:=by rcases hk with rfl|rfl|rfl<;>rfl
   rw[Zl9 k l' _ _ e2 (λt=>rfl),ex];show tr++[Zba k n x x.2.2.1 _ _]=_;rw[ZQD k n x x.2.2.1 d _ _ b3]
  rw[hclk];cases hle:decide (n<x.2.2.2)&& !(n==6)
  ·simp only[Yb];refine⟨by rw[Zyt,v3];exact chip,hex,hgv,ZFn (Zys _ _ _ _ _) rfl ?_⟩;show n=x.2.2.2;simp at hle;by_cases q:n<x.2.2.2
   ·have:=hle q;omega
   ·omega
  ·simp only[Ya];simp at hle;refine⟨by show (Zg p0 l).1=k;rw[v3];exact chip,hex,hgv,λe=>by replace e:n+1=2\/n+1=3\/n+1=7:=e;omega,λ_ _=>⟨l',w,?_,by show n+1<=x.2.2.2;omega⟩,λe=>by replace e:n+1=1\/n+1=8\/n+1=9:=e;omega⟩;show _=l'++[(1,x,w,n+1-1,(Zg p0 l).2.2.1,(Zg p0 l).2.2.2.2.2.2.2.2.2.2.2.2)];rw[v1,v2,show n+1-1=n by omega];rfl
 ·--TWait
  subst e;obtain⟨l',w,rfl,_,w7⟩:=la1 (.inr (.inr rfl));have w7:=w7 rfl;obtain⟨c1,c2⟩:=cy (by omega);have hs36:=Zul _ _ _ c2;rw[<-c1] at hs36;obtain⟨_,okw,_⟩:=gv.split;have hbd:=gv.bd _ (List.mem_append_right l' (Yac.2 rfl));have o1:0<=w:=by
   rcases okw with ⟨_,q1,q2,_,_,a,b⟩|⟨a,_⟩
   ·exact a
   ·replace a:(1:Int)=2\/(1:Int)=3\/(1:Int)=4:=a;omega
  have o2:w<=m:=hbd.2;have hi:ZbR (l'++[(1,x,w,(bif (7:Int)==2 then (1:Int) else 2),ZaD (p0,s,g,x,7,hd),sodC (p0,s,g,x,7,hd))]) (p0,s,g,x,7,hd) (Zr (p0,s,g,x,7,hd) 7 d) 7=l'++[(1,x,w+1,2,ZaD (p0,s,g,x,7,hd),sodC (p0,s,g,x,7,hd))]:=by rw[Zlk _ _ _ rfl];show Zbk (l'++[_]) _=_;rw[Z4];show l'++[(1,x,IntKind.wrap .i64 (w+1),2,ZaD (p0,s,g,x,7,hd),sodC (p0,s,g,x,7,hd))]=_;rw[wrap_i64 _ (by omega) (by omega)]
  have hck:Zn (p0,s,g,x,7,hd) l d=(Zg p0 l,s,g,x,bif l.1|| !Zj x.1 then 3 else 7,bif l.1|| !Zj x.1 then l.2.1 else hd):=by unfold Zn;simp only[hr,hsx];show (bif l.1|| !Zj x.1 then _ else _)=_;cases l.1|| !Zj x.1<;>rfl
  rw[hi,hck,hhc rfl];refine⟨by show (Zg p0 l).1=k;rw[v3];exact chip,?_,?_,?_⟩
  ·have e2:stI (1,x,w+1,2,ZaD (p0,s,g,x,7,hd),sodC (p0,s,g,x,7,hd))=stI (1,x,w,2,ZaD (p0,s,g,x,7,hd),sodC (p0,s,g,x,7,hd))++[7]:=by
    show [1,2]++List.replicate (w+1).toNat 7=[1,2]++List.replicate w.toNat 7++[7];have:(w+1).toNat=w.toNat+1:=by omega
    rw[this,List.replicate_succ',Yp]
   rw[Zl9 k l' _ _ e2 (λt=>rfl)];rw[show expX k (l'++[(1,x,w,2,ZaD (p0,s,g,x,7,hd),sodC (p0,s,g,x,7,hd))])=tr from ex];show tr++[Zba k 7 x x.2.2.1 _ _]=_;rw[ZQD k 7 x x.2.2.1 d _ _ rfl]
  ·exact gv.redo (by omega) (.inl ⟨rfl,hs36.1,hs36.2,(by show (1:Int)<=2;decide),(by show (2:Int)<=x.2.2.2;omega),(by show 0<=w+1;omega),λ_=>⟨(by show (2:Int)<=2;decide),w7⟩⟩) ⟨by show (2:Int)<=m+1;omega,by show w+1<=m+1;omega⟩ rfl rfl
  ·have hk:((bif l.1|| !Zj x.1 then (3:Int) else 7)=3)\/((bif l.1|| !Zj x.1 then (3:Int) else 7)=7):=by cases l.1|| !Zj x.1<;>simp
   generalize (bif l.1|| !Zj x.1 then (3:Int) else 7)=kk at hk;generalize (bif l.1|| !Zj x.1 then l.2.1 else hd)=hh;refine⟨λ_=>⟨l',w+1,?_,λe=> ?_,λe=>w7⟩,λe1 e2=> ?_,λe=> ?_⟩
   ·show _=l'++[(1,x,w+1,(bif kk==2 then (1:Int) else 2),(Zg p0 l).2.2.1,(Zg p0 l).2.2.2.2.2.2.2.2.2.2.2.2)];have:(kk==2)=false:=by rcases hk with e|e<;>rw[e]<;>rfl
    rw[v1,v2,this];rfl
   ·replace e:kk=2:=e;omega
   ·replace e1:4<=kk:=e1;replace e2:kk<=6:=e2;omega
   ·replace e:kk=1\/kk=8\/kk=9:=e;omega
 ·--THold
  subst e;have hck:Zn (p0,s,g,x,8,hd) l d=(Zg p0 l,s,g,x,idlX (Zg p0 l) s l.2.1,hd):=by unfold Zn;simp only[hr,hsx];rfl
  obtain⟨L,z,j1,j2,j3,j4,j5⟩:=ZCf (c:=(p0,s,g,x,8,hd)) chip ex gv (by omega) (by omega) 2 8 (.inl ⟨rfl,rfl⟩) (0,0,0,0) (Zp9 (p0,s,g,x,8,hd) 8) d (λq D _=>pin_8 k _ _ _ _ _ _) (λe=>by simp at e) (λ_ _ _ e=>by simp at e)
   (λl' y e a b=>by have:=(la3 (.inr (.inl rfl)) l' y e).1 a;omega)
  have hi:ZbR it (p0,s,g,x,8,hd) (Zr (p0,s,g,x,8,hd) 8 d) 8=Zf2 it 2 (p0,s,g,x,8,hd) (2,(0,0,0,0),0,1,ZaD (p0,s,g,x,8,hd),sodC (p0,s,g,x,8,hd)):=rfl;rw[hi,j1,hck];refine⟨by show (Zg p0 l).1=k;rw[v3];exact chip,j4,j5,Zjn (Zff _ _ _).1 (by rw[j2];decide) (λ_ e=>by rw[j2] at e;simp at e)⟩
 ·--THalt
  subst e;obtain⟨L,z,j1,j2,j3,j4,j5⟩:=ZCf (c:=(p0,s,g,x,9,hd)) chip ex gv (by omega) (by omega) 3 9 (.inr (.inl ⟨rfl,rfl⟩)) (0,p0.2.1.2.2.2.2.2.2.2.2.2,0,0) (Zp9 (p0,s,g,x,9,hd) 9) d (λq D e=>ZXY k _ _ _ _ _ _ (e rfl)) (λ_=>rfl)
   (λl' y e _ e3=>(la3 (.inr (.inr rfl)) l' y e).2 rfl e3) (λl' y e a b=>by have:=(la3 (.inr (.inr rfl)) l' y e).1 a;omega)
  have hi:ZbR it (p0,s,g,x,9,hd) (Zr (p0,s,g,x,9,hd) 9 d) 9=Zf2 it 3 (p0,s,g,x,9,hd) (3,(0,p0.2.1.2.2.2.2.2.2.2.2.2,0,0),0,1,ZaD (p0,s,g,x,9,hd),sodC (p0,s,g,x,9,hd)):=rfl;have hck:Zn (p0,s,g,x,9,hd) l d=bif ZbQ (Zg p0 l) l==0 then (Zg p0 l,s,g,x,bif l.2.1 then 8 else 9,hd) else (Zo (Zg p0 l) (ZbQ (Zg p0 l) l),ZbQ (Zg p0 l) l,[],(Zi (Zo (Zg p0 l) (ZbQ (Zg p0 l) l)) (ZbQ (Zg p0 l) l) []).1,bif l.2.1 then 8 else 1,hd):=by unfold Zn;simp only[hr,hsx];rfl
  rw[hi,j1,hck];cases hk:ZbQ (Zg p0 l) l==0
  ·simp only[Yb];refine⟨by show (Zo (Zg p0 l) _).1=k;rw[(Zu9 _ _).1,v3];exact chip,j4,j5,Zjn ?_ (by rw[j2];decide) (λe _=> ?_)⟩
   ·show (bif l.2.1 then (8:Int) else 1)=8\/(bif l.2.1 then (8:Int) else 1)=9\/(bif l.2.1 then (8:Int) else 1)=1;cases l.2.1<;>simp
   ·replace e:(bif l.2.1 then (8:Int) else 1)=9:=e;cases hq:l.2.1<;>rw[hq] at e<;>simp at e
  ·simp only[Ya];refine⟨by show (Zg p0 l).1=k;rw[v3];exact chip,j4,j5,Zjn ?_ (by rw[j2];decide) (λe _=> ?_)⟩
   ·show (bif l.2.1 then (8:Int) else 9)=8\/(bif l.2.1 then (8:Int) else 9)=9\/(bif l.2.1 then (8:Int) else 9)=1;cases l.2.1<;>simp
   ·show z.2.1.2.1=(Zg p0 l).2.1.2.2.2.2.2.2.2.2.2;rw[j3 rfl,v4];rfl
theorem ZRW {m:Int} (g:Gr k m c it tr) (hm0:6<=m) (hm:m<=100000) (l:LINT) (d:Int) (hr:l.2.2.1=true) (x:TY):
  Gr k (m+1) (Zn c l d) (ZbR it c x 10) (tr++[ZbM c l d]):=by
 obtain⟨chip,ex,gv,la⟩:=g;have hck:Zn c l d=ZpM (ZB c.1) 0:=by unfold Zn;rw[hr];rfl
 have hpin:ZbM c l d=Zba k 10 (Zp9 c (Z2 c.2.2.2.2.1)) 0 (ZaD c) (sodC c):=by unfold ZbM;simp only[hr,Ya,chip];rfl
 obtain⟨L,z,j1,j2,j3,j4,j5⟩:=ZCf (c:=c) chip ex gv (by omega) (by omega) 4 10 (.inr (.inr ⟨rfl,rfl⟩)) (0,0,0,0) (Zp9 c (Z2 c.2.2.2.2.1)) 0 (λq D _=>ZXZ k _ _ _ _ _ _) (λe=>by simp at e) (λ_ _ _ e=>by simp at e) (λ_ _ _ _ _=>rfl);have hi:ZbR it c x 10=Zf2 it 4 c (4,(0,0,0,0),0,1,ZaD c,sodC c):=rfl;rw[hi,j1,hck,hpin];exact⟨chip,j4,j5,Zjn (.inr (.inr rfl)) (by rw[j2];decide) (λe=>by replace e:(1:Int)=9:=e;simp at e)⟩
theorem ZRV (b:BRDT) (s0:TC) (k m:Int) (st:STT) (i:INPT) (h:Sem s0 st.1.1 st.2.2.2.1 st.2.2.2.2 st.2.2.1) (g:Gr k m st.1.1 st.2.2.1 st.2.1) (hm0:6<=m) (hm:m<=100000):
  Gr k (m+1) (Zcl b s0 st i).1.1 (Zcl b s0 st i).2.2.1 (Zcl b s0 st i).2.1:=by
 have hcore:(Zaj b st.1 i).1.1=Zn st.1.1 (Zbs b (Zu b st.1 i) i) (busS b (Zu b st.1 i) i).2:=Zhq b st.1 i;have hpin:(Zaj b st.1 i).2.1=ZbM st.1.1 (Zbs b (Zu b st.1 i) i) (busS b (Zu b st.1 i) i).2:=by show ZbM (busS b (Zu b st.1 i) i).1.1 _ _=_;rw[(Zhr b (Zu b st.1 i) i).1];rfl
 show Gr k (m+1) (Zaj b st.1 i).1.1 (ZbR st.2.2.1 st.1.1 (Zr st.1.1 (nowS st.1 i) (busS b (Zu b st.1 i) i).2) (nowS st.1 i)) (st.2.1++[(Zaj b st.1 i).2.1]);rw[hcore,hpin];have hl2:(Zbs b (Zu b st.1 i) i).2.2.1=i.2.2.1:=rfl;generalize Zbs b (Zu b st.1 i) i=l at hl2|-;generalize (busS b (Zu b st.1 i) i).2=d;cases hr:i.2.2.1
 ·have hnow:nowS st.1 i=Zq st.1.1:=by unfold nowS;rw[hr];rfl
  rw[hnow];exact ZWv h g hm0 hm l d (by rw[hl2,hr])
 ·have hnow:nowS st.1 i=10:=by unfold nowS;rw[hr];rfl
  rw[hnow];exact ZRW g hm0 hm l d (by rw[hl2,hr]) _
theorem ZOc (b:BRDT) (s0:TC) (k:Int):∀(l:List INPT) (m:Int) (st:STT),Sem s0 st.1.1 st.2.2.2.1 st.2.2.2.2 st.2.2.1->Gr k m st.1.1 st.2.2.1 st.2.1->6<=m->m+l.length<=100000->
  Gr k (m+l.length) (ZbN b s0 st l).1.1 (ZbN b s0 st l).2.2.1 (ZbN b s0 st l).2.1
 |[],m,st,h,g,_,_=>by
  have e:m+(([]:List INPT).length:Int)=m:=by simp
  rw[e];exact g
 |i::l,m,st,h,g,h1,h2=>by
  simp only[List.length_cons] at h2|-;have:=ZOc b s0 k l (m+1) (Zcl b s0 st i) (ZvR b s0 st i h) (ZRV b s0 k m st i h g h1 (by omega)) (by omega) (by omega);have e:m+1+(l.length:Int)=m+((l.length+1:Nat):Int):=by omega
  rw[e] at this;exact this
theorem ZP2 (b:BRDT) (l:List INPT) (hg:smG b.2.1=true) (hm:b.2.2.2.2.2.2.length<=100000) (hl:l.length<=1000):
  expX b.1 (Zbo b l).1.2.1=(Zbo b l).1.1/\GV 2000 (Zbo b l).1.2.1:=by
 unfold Zbo;cases hx:(wNew b).2 !=0
 ·have hw:=ZE3 b hg hm hx;obtain⟨hs,hi⟩:=ZFt b hw;have hch:(ZaS b).1.1.1.1=b.1:=by unfold ZaS;rw[hw];rfl
  have hn:(ZaS b).1.1.2.2.2.2.1=1:=by unfold ZaS;rw[hw];rfl
  have g0:Gr b.1 6 (ZaS b).1.1 (ZaS b).2.2.1 (ZaS b).2.1:=by refine⟨hch,rfl,⟨λy hy=>(by cases hy),λi hi=>(by simp[ZaS] at hi),λy hy=>(by cases hy)⟩,⟨λe=>(by rw[hn] at e;simp at e),λe=>(by rw[hn] at e;simp at e),λ_ l y e=>(by simp[ZaS] at e)⟩⟩
  have hf:=ZOc b (ZM b) b.1 l 6 (ZaS b) hi g0 (by omega) (by omega);have e1:∀st,(endS (ZM b) st).2.1=st.2.2.1:=λst=>by unfold endS;cases Zef st.1.1<;>rfl
  have e2:∀st,(endS (ZM b) st).1=st.2.1:=λst=>by unfold endS;cases Zef st.1.1<;>rfl
  show expX b.1 (endS (ZM b) (ZbN b (ZM b) (ZaS b) l)).2.1=(endS (ZM b) (ZbN b (ZM b) (ZaS b) l)).1/\GV 2000 (endS (ZM b) (ZbN b (ZM b) (ZaS b) l)).2.1;rw[e1,e2];exact⟨hf.ex,hf.gv.ok,hf.gv.adj,λy hy=>by have:=hf.gv.bd y hy;omega⟩
 ·exact⟨rfl,⟨λy hy=>(by cases hy),λi hi=>(by simp at hi),λy hy=>(by cases hy)⟩⟩
