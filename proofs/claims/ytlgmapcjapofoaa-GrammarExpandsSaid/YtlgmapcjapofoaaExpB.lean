import Derived.Test.YtlgmapcjapofoaaExpI
import Derived.Test.YtlgmapcjapofoaaS3Rng
set_option linter.unusedSimpArgs false
set_option linter.unusedVariables false
namespace Go.Proofs.Ytlgmapcjapofoaa
open Go Go.S3 Go.Proofs
noncomputable section
def Zf2 (i:Nat):Code->Array Oper
 | .seq a b=>let r:=Zf2 i a;bif r.size==0 then Zf2 i b else r
 | .cond _ a b=>let r:=Zf2 i a;bif r.size==0 then Zf2 i b else r
 | .block _ c=>Zf2 i c
 | .loop c=>Zf2 i c
 | .rangeFunc _ _ a b=>let r:=Zf2 i a;bif r.size==0 then Zf2 i b else r
 | .region j A _=>bif j==i then A else #[]
 |_=> #[]
def reg7:Array Oper:=Zf2 7 (Try.f11.body.getD .skip)
def stgP (L:List PINT) (v:Nat):Stg:={r:=ZaR,T:=46,l:=L,ver:=v,fzn:=false,ffz:=false,lit:=false,ub:=0}
def memB (chip:Int) (L:List PINT) (x:ITMT) (v:Nat):Mem:=⟨[[.int false .i64 chip],[.tip 0 v],ZB.enc x],[stgP L v]⟩
def stB (chip t:Int) (L:List PINT) (x:ITMT):St:={slots:=[.w .junk,.w .junk,.w (.one (.loc 0 0)),.w .junk,.w .junk,.w (.one (.loc 1 0)),.w .junk,.w (.one (.loc 2 0)),.w (.one (.int false .i64 t)),.w .junk,.w .junk,.w .junk,.w .junk,.w .junk,.w .junk,.w .junk,.w .junk,.w .junk,.w .junk,.w .junk,.w .junk,.w .junk,.w .junk,.w .junk,.w .junk,.w .junk,.w .junk,.w .junk,.w .junk,.w .junk,.w .junk,.w .junk,.w .junk,.w .junk,.w .junk,.w .junk,.w .junk,.w .junk,.w .junk],mem:=memB chip L x 0,dirty:=0,bd:=[],sd:=[]}
def envB:Env:=envX Try.prog [(24,Zk2)] [] 15 8
def outB (chip t:Int) (L:List PINT) (x:ITMT):RT Out:=Zac envB true (Zax reg7.toList []) reg7.toList reg7.toList 0 false [] [] (stB chip t L x)
def pinP (chip:Int) (x:ITMT) (t:Int):PINT:=ZnG chip (t,x.2.1,x.2.1.2.2.1,x.2.1.2.1,x.2.2.2.2.1,x.2.2.2.2.2)
def brT:RT Out->RT Out
 | .br _ t _=>t
 |t=>t
def brF:RT Out->RT Out
 | .br _ _ t=>t
 |t=>t
theorem ZoA {t:RT Out} {b:Bool} (e:t=.br b (brT t) (brF t)) (h:b=true):t.val=(brT t).val:=by
 subst h
 exact (congrArg RT.val e).trans rfl
theorem ZnJ (chip t L x):outB chip t L x=.br (Nat.ble (L++[pinP chip x t]).length most) (brT (outB chip t L x)) (brF (outB chip t L x)):=by kernel_rfl
theorem Zok (chip t L x):(brT (outB chip t L x)).val.k=.normal:=by kernel_rfl
theorem Zoj (chip t L x):(brT (outB chip t L x)).val.s.mem=memB chip (L++[pinP chip x t]) x 1:=by kernel_rfl
theorem ZnI (chip t L x) (h:(L++[pinP chip x t]).length<=most):(outB chip t L x).val.k=.normal/\(outB chip t L x).val.s.mem=memB chip (L++[pinP chip x t]) x 1:=by
 have e:(outB chip t L x).val=(brT (outB chip t L x)).val:=ZoA (ZnJ chip t L x) (by rw[Nat.ble_eq];exact h)
 rw[e]
 exact⟨Zok chip t L x,Zoj chip t L x⟩
theorem lex7:lexL reg7.toList=true:=by kernel_rfl
theorem Zol:∀(j:Nat) (o:Oper),reg7[j]? =some o->∀c,o.op≠ .defer c:=by
 have h:reg7.toList.all (λo=>match o.op with
  | .defer _=>false
  |_=>true)=true:=by kernel_rfl
 intro j o ho c e
 have:=List.all_eq_true.1 h o (by rw[Array.getElem?_eq_some_iff] at ho;obtain⟨h1,h2⟩:=ho;rw[<-h2];simp)
 rw[e] at this
 simp at this
theorem Zon:Try.prog.follows .mixedOrders=true:=by kernel_rfl
end
open Go Go.S3 Go.Proofs Go.RowKit
noncomputable section
structure Xc (n₀:Nat) (ex:Nat->Prop) (fz:Nat->Nat->Option Value) (y:Ctx):Prop where
 own:y.own=λk=>n₀<=k/\¬ex k
 fzl:∀b o v,fz b o=some v->y.fz b o=some v
 fzn:∀b o v,y.fz b o=some v->fz b o=some v\/n₀<=b
def Xw (n₀:Nat) (ex:Nat->Prop) (fz:Nat->Nat->Option Value) (M:List Nat) (m:Mem) (W:World):Prop:=∃y:Ctx,Xc n₀ ex fz y/\y.M=M/\MemOk y m W
variable {n₀:Nat} {ex:Nat->Prop} {fz:Nat->Nat->Option Value} {M:List Nat} {m:Mem} {W W':World}
theorem Xw.grown {row:Option Nat} (h:Xw n₀ ex fz M m W) (hg:W.grownBy W' row) (hr:∀r,row=some r->∃o:Obj,W.heap[r]? =some o/\o.isCells=false):Xw n₀ ex fz M m W':=by
 obtain⟨y,h1,h2,h3⟩:=h
 exact⟨y,h1,h2,h3.grown hg hr⟩
theorem Zk3 {y:Ctx} (h:MemOk y m W) (P:Nat->Prop) (hf:∀k,W.heap.size<=k->P k) (hm:∀b p,nth y.M b=some p->P p) (hs:∀i s p cap,nth y.S i=some s->s.blk=some (p,cap)->P p):MemOk {y with own:=P} m W:=
 ⟨hf,h.fz,h.ml,λb l p h1 h2=>by
  obtain⟨C,T,e1,e2⟩:=h.box b l p h1 h2
  exact⟨C,T,e1,RL.same (x:=y) (y:={y with own:=P}) rfl rfl rfl e2⟩,λb p hp=>⟨hm b p hp,(h.mown b p hp).2⟩,h.inj,h.sl,
  λi g s h1 h2=>(h.stg i g s h1 h2).ctx (λ_ _ _ h=>h) (λ_ _ _ _=>rfl),λi s p cap h1 h2=>⟨hs i s p cap h1 h2,(h.sown i s p cap h1 h2).2⟩,h.sinj⟩
theorem Xw.block (h:Xw n₀ (λ_=>False) fz M m W) (o:Obj):Xw n₀ (λk=>k=W.heap.size) fz M m (W.alloc o):=by
 obtain⟨y,h1,h2,h3⟩:=h
 have h4:=h3.old (Zh.alloc W o)
 have ho:∀k,y.own k->n₀<=k:=λk hk=>by rw[h1.own] at hk;exact hk.1
 refine⟨{y with own:=λk=>n₀<=k/\¬k=W.heap.size},⟨rfl,h1.fzl,h1.fzn⟩,h2,Zk3 h4 _ (λk hk=> ?_) (λb p hp=> ?_) (λi s p cap h5 h6=> ?_)⟩
 ·rw[World.size_alloc] at hk
  exact⟨ho k (h3.fresh k (by omega)),by omega⟩
 ·exact⟨ho p (h3.mown b p hp).1,by have:=h3.M_lt hp;omega⟩
 ·exact⟨ho p (h3.sown i s p cap h5 h6).1,by have:=h3.S_lt h5 h6;omega⟩
theorem Xw.all (h:Xw n₀ ex fz M m W):Xw n₀ (λ_=>False) fz M m W:=by
 obtain⟨y,h1,h2,h3⟩:=h
 have ho:∀k,y.own k->n₀<=k/\¬False:=λk hk=>by rw[h1.own] at hk;exact⟨hk.1,id⟩
 exact⟨{y with own:=λk=>n₀<=k/\¬False},⟨rfl,h1.fzl,h1.fzn⟩,h2,Zk3 h3 _ (λk hk=>ho k (h3.fresh k hk)) (λb p hp=>ho p (h3.mown b p hp).1) (λi s p cap h5 h6=>ho p (h3.sown i s p cap h5 h6).1)⟩
theorem Xw.box (h:Xw n₀ ex fz M m W) {l:List A} {C:List Value} (T:TypeId) (hl:∀y:Ctx,RL y l C):Xw n₀ ex fz (M++[W.heap.size]) {m with boxes:=m.boxes++[l]} (W.alloc (.cells C.toArray T)):=by
 obtain⟨y,h1,h2,h3⟩:=h
 exact⟨{y with M:=y.M++[W.heap.size]},⟨h1.own,h1.fzl,h1.fzn⟩,by show y.M++_=_;rw[h2],(ZcP h3 T (hl y)).1⟩
theorem nth3 {l:List Nat} {a b c:Nat} (h:l.length=3) (h0:nth l 0=some a) (h1:nth l 1=some b) (h2:nth l 2=some c):l=[a,b,c]:=by
 match l,h with
 |[x,y,z],_=>
  simp only[nth,oinj] at h0 h1 h2
  rw[h0,h1,h2]
theorem Zoe {y:Ctx} {chip:Int} {L:List PINT} {x:ITMT} (h:MemOk y (memB chip L x 1) W):∃S',MemOk {y with S:=S'} (memB chip L x 0) W:=by
 obtain⟨s,hs⟩:∃s,y.S=[s]:=by
  have:=h.sl
  match hy:y.S,this with
  |[s],_=>exact⟨s,rfl⟩
  |[],e=>simp[memB] at e
  |_::_::_,e=>simp[memB] at e
 have hs0:nth y.S 0=some s:=by rw[hs];rfl
 have hle:FzLe y {y with S:=[{s with ver:=0}]}:=λ_ _ _ e=>e
 have hst:=h.stg 0 (stgP L 1) s rfl hs0
 refine⟨[{s with ver:=0}],h.fresh,h.fz,h.ml,λb l p h1 h2=> ?_,h.mown,h.inj,rfl,λi g s1 h1 h2=> ?_,λi s1 p cap h1 h2=> ?_,λi i' s1 s2 p c c' h1 h2 h3 h4=> ?_⟩
 ·match b,h1 with
  |0,h1=>
   simp only[memB,nth,oinj] at h1;subst h1
   obtain⟨C,T,e1,e2⟩:=h.box 0 _ p rfl h2
   exact⟨C,T,e1,RL.plain hle (λa ha=>by simp at ha;subst ha;rfl) e2⟩
  |1,h1=>
   simp only[memB,nth,oinj] at h1;subst h1
   obtain⟨C,T,e1,e2⟩:=h.box 1 _ p rfl h2
   refine⟨C,T,e1,?_⟩
   match C,e2 with
   |[v],e2=>
    have e3:RA y (.tip 0 1) v:=e2.1
    cases e3 with
    |tip _ _ _ s' _ hs' hv hval hat=>
     rw[hs0] at hs';cases hs'
     exact⟨.tip _ _ _ {s with ver:=0} _ rfl (Nat.le_refl _) (λ_=>hval hst.ver) hat,Tv⟩
   |[],e2=>exact e2.elim
   |_::_::_,e2=>exact e2.2.elim
  |2,h1=>
   simp only[memB,nth,oinj] at h1;subst h1
   obtain⟨C,T,e1,e2⟩:=h.box 2 _ p rfl h2
   exact⟨C,T,e1,RL.plain hle (R.enc_plain _ _) e2⟩
  |b+3,h1=>simp[memB,nth] at h1
 ·match i,h1,h2 with
  |0,h1,h2=>
   simp only[memB,nth,oinj] at h1 h2;subst h1;subst h2
   exact⟨rfl,hst.n,hst.wd,hst.nil,hst.row,hst.fzn,hst.ffz,hst.ub⟩
  |i+1,h1,_=>simp[memB,nth] at h1
 ·match i,h1 with
  |0,h1=>
   simp only[nth,oinj] at h1;subst h1
   exact h.sown 0 s p cap hs0 h2
  |i+1,h1=>simp[nth] at h1
 ·match i,i',h1,h2 with
  |0,0,_,_=>rfl
  |i+1,_,h1,_=>simp[nth] at h1
  |0,i'+1,_,h2=>simp[nth] at h2
set_option maxHeartbeats 1000000 in
theorem Zod {chip t:Int} {L:List PINT} {x:ITMT} {pc po px:Nat} (ht:inR .i64 t) (hlen:(L++[pinP chip x t]).length<=most) (h:Xw n₀ ex fz [pc,po,px] (memB chip L x 0) W) {a:Act} (ha:a.defers=[]) (hs:a.tmps.size=39)
  (h2:a.tmps.getD 2 undef=.pointer (some ⟨pc,0,none⟩)) (h5:a.tmps.getD 5 undef=.pointer (some ⟨po,0,none⟩)) (h7:a.tmps.getD 7 undef=.pointer (some ⟨px,0,none⟩)) (h8:a.tmps.getD 8 undef=.int .i64 t)
  {l n:Nat} {Q:Exit->Act->World->Prop} (hQ:¬LetsOut Q) (hK:∀a' W',Xw n₀ ex fz [pc,po,px] (memB chip (L++[pinP chip x t]) x 0) W'->W.heap.size<=W'.heap.size->(∀k,(¬n₀<=k\/ex k\/∃o:Obj,W.heap[k]? =some o/\o.isCells=false)->W'.heap[k]? =W.heap[k]?)->
   W'.os=W.os->W'.tape=W.tape->W'.output=W.output->Q .normal a' W'):(Code.region 7 reg7 true).wpIn (Fence.wide.inRound l) n Try.prog Q a W:=by
 obtain⟨y,hc,hM,hm⟩:=h
 have hmL:=hm.least
 have hrel:RelH (y.least W) W (y.least W) (stB chip t L x) a W:=by
  refine⟨⟨⟨by rw[hs];rfl,λi v hv=> ?_⟩,hmL,ha⟩,Ext.refl _,Step.refl _ _⟩
  have hM':(y.least W).M=[pc,po,px]:=hM
  match i,hv with
  |0,hv=>cases hv;trivial
  |1,hv=>cases hv;trivial
  |2,hv=>cases hv;rw[h2];exact RA.loc _ _ _ _ (by rw[hM'];rfl)
  |3,hv=>cases hv;trivial
  |4,hv=>cases hv;trivial
  |5,hv=>cases hv;rw[h5];exact RA.loc _ _ _ _ (by rw[hM'];rfl)
  |6,hv=>cases hv;trivial
  |7,hv=>cases hv;rw[h7];exact RA.loc _ _ _ _ (by rw[hM'];rfl)
  |8,hv=>cases hv;rw[h8];exact RA.int _ _ _ _ ht
  |i+9,hv=>
   have:v=.w .junk:=by
    have hmem:v∈(List.replicate 30 (V.w .junk)):=by
     have:=Z1 (l:=List.replicate 30 (V.w .junk)) (n:=i) (a:=v) hv
     exact this
    exact (List.mem_replicate.1 hmem).2
   subst this;trivial
 have hev:=ZnI chip t L x hlen
 have hst:Zbc (stB chip t L x) (outB chip t L x).val=(outB chip t L x).val:=by unfold Zbc;rw[hev.1]
 refine ZiY (E:=envB) (Zbb (l:=[(24,Zk2)]) ⟨ZmD,Tv⟩ [] 15 8) (chg:=true) Zon lex7 Zol hQ hrel ?_
 show Hold _ _ _ _ (Zbc (stB chip t L x) (outB chip t L x).val)
 rw[hst]
 intro x' a' w' hr' _
 rw[hev.1]
 have hmm:=hr'.r.m
 rw[hev.2] at hmm
 have hown:∀k,W.heap.size<=k->y.own k:=hm.fresh
 have hmost:=hmm.most hr'.e hm.fresh (λb p hp=>(hm.mown b p hp).1) (λi s p cap e1 e2=>(hm.sown i s p cap e1 e2).1) hr'.t.size
 obtain⟨S',hret⟩:=Zoe hmost
 have hM1:∀b p,nth [pc,po,px] b=some p->nth x'.M b=some p:=λb p hp=>hr'.e.M b p (by show nth y.M b=some p;rw[hM];exact hp)
 have hM2:x'.M=[pc,po,px]:=nth3 (by have:=hmm.ml;simpa [memB] using this) (hM1 0 _ rfl) (hM1 1 _ rfl) (hM1 2 _ rfl)
 refine hK a' w' ⟨{x' with own:=y.own,S:=S'},⟨hc.own,λb o v e=>hr'.e.fz b o v (hc.fzl b o v e),λb o v e=> ?_⟩,hM2,hret⟩ hr'.t.size (λk hk=>hr'.t.block k λhl=> ?_) hr'.t.os hr'.t.tape hr'.t.output
 ·rcases hr'.e.new b o v e with e|e
  ·exact hc.fzn b o v e
  ·have:y.own b:=by
    rcases e with e|⟨b',e⟩|⟨i,s,cap,e1,e2⟩
    ·exact hm.fresh b e
    ·exact (hm.mown b' b e).1
    ·exact (hm.sown i s b cap e1 e2).1
   rw[hc.own] at this
   exact .inr this.1
 ·have hy:y.own k:=by
   rcases hl with e|⟨b',e⟩|⟨i,s,cap,e1,e2⟩
   ·exact hm.fresh k e
   ·exact (hm.mown b' k e).1
   ·exact (hm.sown i s k cap e1 e2).1
  rw[hc.own] at hy
  rcases hk with hk|hk|⟨o,ho,hn⟩
  ·exact hk hy.1
  ·exact hy.2 hk
  ·rcases hm.least_cells hl with e|⟨o',ho',hn'⟩
   ·have:=(Array.getElem?_eq_some_iff.1 ho).1;omega
   ·rw[ho] at ho';cases ho';rw[hn] at hn';cases hn'
end
end Go.Proofs.Ytlgmapcjapofoaa
