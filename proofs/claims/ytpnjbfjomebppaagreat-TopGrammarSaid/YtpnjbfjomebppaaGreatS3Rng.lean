import Derived.Test.YtpnjbfjomebppaaGreatS3Rows
import Derived.RangeFuncNested
import Derived.OrdersIn
set_option linter.unusedVariables false
set_option linter.unusedSimpArgs false
namespace Go.S3
variable {a:Act}
theorem ZF4 {l n:Nat} {P:Program} {o:Oper} {next:Act->World->Prop} {Q:Exit->Act->World->Prop} {r:Result Next} (h:o.upon P a next Q r):o.uponIn (Fence.wide.inRound l) n P a next Q r:=by
 cases r with
 |ok x w'=>
  cases x with
  |value v=>exact h
  |skip=>exact h
  |defer d=>exact h
  |enter f args=>exact⟨λe=>by simp[Fence.wide,Fence.inRound] at e,callsIn_wide.2 h⟩
  |row row args=>exact⟨λe=>by simp[Fence.wide,Fence.inRound] at e,λc cs _=>by obtain⟨v,w2,h1,h2⟩:=h c cs;exact⟨v,w2,h1,stepsIn_wide.2 h2⟩⟩
  |_=>exact h.elim
 |halt x w'=>
  cases x with
  |panic v=>exact h
  |_=>exact h.elim
section
variable {l n:Nat} {P:Program} {ops:Array Oper} {Q:Exit->Act->World->Prop}
theorem ZFV (hd:∀(j:Nat) (o:Oper),ops[j]? =some o->∀c,o.op≠ .defer c) (hQ:¬LetsOut Q) {i:Nat} {K:Act->World->Prop} {w:World} (h:wpOp P ops Q i K a w):wpOpIn (Fence.wide.inRound l) n P ops Q i K a w:=by
 unfold wpOp at h;unfold wpOpIn;split
 ·rename_i hi;rw[hi] at h;exact h
 ·rename_i o hi;rw[hi] at h;simp only at h;split
  ·rename_i hw;rw[YZ hw] at h;rcases h with h|h
   ·refine⟨λ_ _=>trivial,?_⟩;rw[Oper.semAt_eq _ _ _ (hd i o hi)];exact ZF4 h
   ·exact absurd h.2 hQ
  ·rename_i hw;rw[Y1 hw] at h;exact⟨λ_ _=>trivial,h⟩
theorem Zmj (hd:∀(j:Nat) (o:Oper),ops[j]? =some o->∀c,o.op≠ .defer c) (hQ:¬LetsOut Q):∀(fuel:Nat) (listed:Array Bool) (a:Act) (w:World),wpAny P .any ops Q fuel listed a w->wpAnyIn (Fence.wide.inRound l) n P .any ops Q fuel listed a w
 |0,_,_,_,h=>h
 |fuel+1,listed,a,w,h=>⟨h.1,λi hi=>wpOpIn_mono (λa w=>Zmj hd hQ fuel _ a w) (ZFV hd hQ (h.2 i hi))⟩
end
variable {E:Env} {x0 x:Ctx} {w0 w:World} {s:St} {A:Array Oper} {chg:Bool}
theorem ZOJ (hE:ZbE E) {Q:Exit->Act->World->Prop} (hlex:lexL A.toList=true)
  (hr:RH x0 w0 x s a w) (h:Hold x0 w0 x Q (Ze0 s (ZcL E chg (Zdq A.toList []) A.toList A.toList 0 false [] [] s).val)):wpAny E.P .any A Q A.size (Array.replicate A.size false) a {w with drawn:=w.drawn+1}:=by
 have hk:(ZcL E chg (Zdq A.toList []) A.toList A.toList 0 false [] [] s).val.k≠ .stop:=by intro hk;unfold Ze0 at h;rw[hk] at h;exact Hold.stop hr h
 obtain⟨S,T,h1,h2,h3,h4⟩:=Zz6 (λ_ _ h=>ZpH h) A.toList 0 false [] [] s hk;simp only[Ys] at h2 h3 h4;have hlen:A.toList.length=A.size:=by simp
 rw[hlen] at h2 h4;rw[h2] at h;simp only[Ze0] at h;have hst:∀k o,A[k]? =some o->ZgR E chg A.toList (S k) (T k) o (S (k+1)):=λk o ho=>h3 k o (by rw[Zk];simpa using ho)
 have hnth:∀(k:Nat) (o:Oper),A[k]? =some o->nth A.toList k=some o:=λk o ho=>by rw[Zk];simpa using ho
 have hfr:∀f of d,f<A.size->(T f).isFresh->A[f]? =some of->of.dst=some d->∀l ol,f<l->A[l]? =some ol->ol.dst≠some d/\(tbit (Zkx A.toList ol) d=true->∀c,c<f->(T c).isChain->Waits A.toList c l):=by intro f of d hf hT ho hd l ol hl hol;have:=(h4 f hf).fr (by rw[Ys];exact hT) of d (hnth f of ho) hd l ol hl (hnth l ol hol);simp only[Ys] at this;exact⟨this.1,λhm=>(this.2 hm).2⟩
 have hrd:∀j,j<A.size->(T j).isRead->(∀c,c<j->¬(T c).isFresh)\/(∀c,c<j->(T c).isChain->ZaK (T c).touch (T j).loc=true)\/∀c,c<j->(T c).isChain->Waits A.toList c j:=by intro j hj hT;have:=(h4 j hj).rd (by rw[Ys];exact hT);simp only[Ys] at this;exact this.imp (λh=>h.2) (λh=>h.imp (λh=>h.2) λh=>h.2)
 refine ZNX hst hE hlex (λk k' hk hk' hb=>by have:=(h4 k hk).bd k' hk';simp only[Ys] at this;exact this hb) hfr hrd (x0:=x0) (x:=x) (w0:=w0) (λx' a' w' hr' hxx=> ?_) A.size _ a _ ?_ ?_
 ·exact h x' a' w' hr' hxx
 ·have hr':=hr.same (Zcr.drew w);have hno:∀i,¬ZO (Array.replicate A.size false) i:=by intro i hi;unfold ZO at hi;rw[YL,Array.getElem?_replicate] at hi;split at hi<;>simp at hi
  have hcl:∀j oj,A[j]? =some oj->ZO (Array.replicate A.size false) j->∀e∈oj.after,Region.binds .any e=true->ZO (Array.replicate A.size false) e.on:=λj oj _ hl=>absurd hl (hno j)
  obtain⟨x',kc,q1,q2⟩:=ZBH hst hfr (x:=x) (P:=λ_=>0) hcl A.size 0 x (by omega) ⟨Yq _,λc _ _=>⟨λh=>by omega,λh=>absurd h (hno c)⟩,λc _ _ h=>by omega,by rw[h1];exact hr'.r.m,hr.e,ExtM.refl x,hr'.t,λc _ _ _ _ _ _ _ h=>absurd h (hno c),
   λc _ _ _ _ _ h=>absurd h (hno c),λt k v hk' hwt _ hv=>by
    refine ZlD hst (k:=0) (k':=k) (Yq _) hk' (λi oi hi hd hb=>hno i ((hwt i oi hi hd).1 hb.2)) (λv hv=> ?_) v hv;rw[h1] at hv
    exact hr.r.f.slot t v hv⟩
  exact⟨by simp,hcl,by rw[h1];exact hr.r.f.size.symm,hr.r.d,x',kc,_,q1,q2⟩
 ·unfold ZgT;have:=List.length_filter_le (λi=> !(Array.replicate A.size false).getD i false) (List.range A.size);simpa using this
theorem ZCl (hE:ZbE E) {id l n:Nat} {Q:Exit->Act->World->Prop} (hP:E.P.follows .mixedOrders=true) (hlex:lexL A.toList=true)
  (hd:∀(j:Nat) (o:Oper),A[j]? =some o->∀c,o.op≠ .defer c) (hQ:¬LetsOut Q)
  (hr:RH x0 w0 x s a w) (h:Hold x0 w0 x Q (Ze0 s (ZcL E chg (Zdq A.toList []) A.toList A.toList 0 false [] [] s).val)):(Code.region id A true).wpIn (Fence.wide.inRound l) n E.P Q a w:=
 wpIn_region_any hP (Zmj hd hQ _ _ _ _ (ZOJ hE hlex hr h))
variable {m:Mem}
theorem MK.grown {W W':World} {row:Option Nat} (h:MK x m W) (hg:W.grownBy W' row) (hr:∀r,row=some r->∃o:Obj,W.heap[r]? =some o/\o.isCells=false):MK x m W':=by
 have key:∀(p:Nat) (o:Obj),W.heap[p]? =some o->o.isCells=true->W'.heap[p]? =some o:=λp o ho hc=>by refine (hg.block p (Yu.1 ho).1 λe=> ?_).trans ho;obtain⟨o',h1,h2⟩:=hr p e.symm;rw[ho] at h1;cases h1;rw[hc] at h2;cases h2
 exact⟨λk hk=>h.fresh k (Yy hg.size hk),λb o v e=>cell_kept (h.fz b o v e) hg hr,h.ml,λb l p h1 h2=>by
  obtain⟨C,T,e1,e2⟩:=h.box b l p h1 h2;exact⟨C,T,key p _ e1 rfl,e2⟩,h.mown,h.inj,h.sl,λi g s h1 h2=>by
  have k:=h.stg i g s h1 h2
  exact⟨k.ver,k.n,k.wd,k.nil,λp cap hb=>by
   obtain⟨C,c1,c2⟩:=k.row p cap hb
   exact⟨C,key p _ c1 rfl,c2⟩,k.fzn,k.ffz,k.ub⟩,h.sown,h.sinj⟩
def Ctx.least (x:Ctx) (w:World):Ctx:={x with own:=λk=>w.heap.size<=k\/(∃b,nth x.M b=some k)\/∃i s cap,nth x.S i=some s/\s.blk=some (k,cap)}
theorem MK.least {x:Ctx} {m:Mem} {w:World} (h:MK x m w):MK (x.least w) m w:=
 ⟨λk hk=>.inl hk,h.fz,h.ml,λb l p h1 h2=>by
  obtain⟨C,T,e1,e2⟩:=h.box b l p h1 h2;exact⟨C,T,e1,RL.same (x:=x) (y:=x.least w) rfl rfl rfl e2⟩,λb p hp=>⟨.inr (.inl ⟨b,hp⟩),(h.mown b p hp).2⟩,h.inj,h.sl,
  λi g s h1 h2=>(h.stg i g s h1 h2).ctx (λ_ _ _ h=>h) (λ_ _ _ _=>rfl),λi s p cap h1 h2=>⟨.inr (.inr ⟨i,s,cap,h1,h2⟩),(h.sown i s p cap h1 h2).2⟩,h.sinj⟩
theorem MK.least_cells (h:MK x m w) {k:Nat} (hk:(x.least w).own k):w.heap.size<=k\/∃o:Obj,w.heap[k]? =some o/\o.isCells=true:=by
 rcases hk with hk|⟨b,hb⟩|⟨i,s,cap,hs,hb⟩
 ·exact .inl hk
 ·obtain⟨l,hl⟩:=ZcR (l:=m.Bx) (n:=b) (by rw[<-h.ml];exact ZZ hb);obtain⟨C,T,e1,_⟩:=h.box b l k hl hb;exact .inr ⟨_,e1,rfl⟩
 ·obtain⟨g,hg⟩:=h.stg_of hs;obtain⟨C,c1,_⟩:=(h.stg i g s hg hs).row k cap hb;exact .inr ⟨_,c1,rfl⟩
theorem MK.most {y:Ctx} {w':World} (h:MK y m w') (hx:Ext (x.least w) y) (hf:∀k,w.heap.size<=k->x.own k) (hm:∀b p,nth x.M b=some p->x.own p) (hs:∀i s p cap,nth x.S i=some s->s.blk=some (p,cap)->x.own p) (hsz:w.heap.size<=w'.heap.size):MK {y with own:=x.own} m w':=by
 have ho:∀k,y.own k->x.own k:=λk hk=>by
  rw[hx.own] at hk;rcases hk with hk|⟨b,hb⟩|⟨i,s,cap,h1,h2⟩
  ·exact hf k hk
  ·exact hm b k hb
  ·exact hs i s k cap h1 h2
 exact⟨λk hk=>hf k (Yy hsz hk),h.fz,h.ml,λb l p h1 h2=>by
  obtain⟨C,T,e1,e2⟩:=h.box b l p h1 h2;exact⟨C,T,e1,RL.same (x:=y) (y:={y with own:=x.own}) rfl rfl rfl e2⟩,λb p hp=>⟨ho p (h.mown b p hp).1,(h.mown b p hp).2⟩,h.inj,h.sl,
  λi g s h1 h2=>(h.stg i g s h1 h2).ctx (λ_ _ _ h=>h) (λ_ _ _ _=>rfl),λi s p cap h1 h2=>⟨ho p (h.sown i s p cap h1 h2).1,(h.sown i s p cap h1 h2).2⟩,h.sinj⟩
theorem MK.cut (h:MK x m w) (nb ns:Nat) (hb:∀b l,nth (Z0 nb m.Bx) b=some l->∀a∈l,∀v,RA x a v->RA {x with M:=Z0 nb x.M,S:=Z0 ns x.S} a v):
  MK {x with M:=Z0 nb x.M,S:=Z0 ns x.S} ⟨Z0 nb m.Bx,Z0 ns m.Sg⟩ w:=by
 have hRL:∀{l:List A} {C:List Value},(∀a∈l,∀v,RA x a v->RA {x with M:=Z0 nb x.M,S:=Z0 ns x.S} a v)->RL x l C->RL {x with M:=Z0 nb x.M,S:=Z0 ns x.S} l C:=by
  intro l
  induction l with
  |nil=>intro C _ hC;cases C with|nil=>trivial|cons _ _=>exact hC.elim
  |cons a l ih=>
   intro C ha hC;cases C with
   |nil=>exact hC.elim
   |cons v C=>exact⟨ha a (by simp) v hC.1,ih (λa' h'=>ha a' (by simp[h'])) hC.2⟩
 refine⟨h.fresh,h.fz,by simp[ZdB,h.ml],λb l p h1 h2=> ?_,λb p hp=>h.mown b p (ZN hp).2,λb b' p h1 h2=>h.inj b b' p (ZN h1).2 (ZN h2).2,by simp[ZdB,h.sl],
  λi g s h1 h2=>(h.stg i g s (ZN h1).2 (ZN h2).2).ctx (λ_ _ _ h=>h) (λ_ _ _ _=>rfl),λi s p cap h1 h2=>⟨(h.sown i s p cap (ZN h1).2 h2).1,λb hb=>(h.sown i s p cap (ZN h1).2 h2).2 b (ZN hb).2⟩,
  λi i' s s' p c c' h1 h2 e1 e2=>h.sinj i i' s s' p c c' (ZN h1).2 (ZN h2).2 e1 e2⟩
 obtain⟨C,T,e1,e2⟩:=h.box b l p (ZN h1).2 (ZN h2).2;exact⟨C,T,e1,hRL (hb b l h1) e2⟩
