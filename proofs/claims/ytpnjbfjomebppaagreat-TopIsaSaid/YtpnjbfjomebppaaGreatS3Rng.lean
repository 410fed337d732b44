import Derived.Test.YtpnjbfjomebppaaGreatS3Rows
import Derived.RangeFuncNested
import Derived.OrdersIn
set_option linter.unusedVariables false
set_option linter.unusedSimpArgs false
namespace Go.S3
section
variable {l n:Nat} {P:Program} {ops:Array Oper} {Q:Exit->Act->World->Prop}
end
def Ctx.least (x:Ctx) (w:World):Ctx:={x with own:=λk=>w.heap.size<=k\/(∃b,nth x.M b=some k)\/∃i s cap,nth x.S i=some s/\s.blk=some (k,cap)}
theorem MK.least {x:Ctx} {m:Mem} {w:World} (h:MK x m w):MK (x.least w) m w:=
 ⟨λk hk=>.inl hk,h.fz,h.ml,λb l p h1 h2=>by
  obtain⟨C,T,e1,e2⟩:=h.box b l p h1 h2;exact⟨C,T,e1,RL.same (x:=x) (y:=x.least w) rfl rfl rfl e2⟩,λb p hp=>⟨.inr (.inl ⟨b,hp⟩),(h.mown b p hp).2⟩,h.inj,h.sl,
  λi g s h1 h2=>(h.stg i g s h1 h2).ctx (λ_ _ _ h=>h) (λ_ _ _ _=>rfl),λi s p cap h1 h2=>⟨.inr (.inr ⟨i,s,cap,h1,h2⟩),(h.sown i s p cap h1 h2).2⟩,h.sinj⟩
variable {x:Ctx} {m:Mem} {w:World}
theorem MK.most {y:Ctx} {w':World} (h:MK y m w') (hx:Ext (x.least w) y) (hf:∀k,w.heap.size<=k->x.own k) (hm:∀b p,nth x.M b=some p->x.own p) (hs:∀i s p cap,nth x.S i=some s->s.blk=some (p,cap)->x.own p) (hsz:w.heap.size<=w'.heap.size):MK {y with own:=x.own} m w':=by
 have ho:∀k,y.own k->x.own k:=λk hk=>by
  rw[hx.own] at hk;rcases hk with hk|⟨b,hb⟩|⟨i,s,cap,h1,h2⟩
  ·exact hf k hk
  ·exact hm b k hb
  ·exact hs i s k cap h1 h2
 exact⟨λk hk=>hf k (Yz hsz hk),h.fz,h.ml,λb l p h1 h2=>by
  obtain⟨C,T,e1,e2⟩:=h.box b l p h1 h2;exact⟨C,T,e1,RL.same (x:=y) (y:={y with own:=x.own}) rfl rfl rfl e2⟩,λb p hp=>⟨ho p (h.mown b p hp).1,(h.mown b p hp).2⟩,h.inj,h.sl,
  λi g s h1 h2=>(h.stg i g s h1 h2).ctx (λ_ _ _ h=>h) (λ_ _ _ _=>rfl),λi s p cap h1 h2=>⟨ho p (h.sown i s p cap h1 h2).1,(h.sown i s p cap h1 h2).2⟩,h.sinj⟩
theorem MK.cut (h:MK x m w) (nb ns:Nat) (hb:∀b l,nth (Z6 nb m.Bx) b=some l->∀a∈l,∀v,RA x a v->RA {x with M:=Z6 nb x.M,S:=Z6 ns x.S} a v):
  MK {x with M:=Z6 nb x.M,S:=Z6 ns x.S} ⟨Z6 nb m.Bx,Z6 ns m.Sg⟩ w:=by
 have hRL:∀{l:List A} {C:List Value},(∀a∈l,∀v,RA x a v->RA {x with M:=Z6 nb x.M,S:=Z6 ns x.S} a v)->RL x l C->RL {x with M:=Z6 nb x.M,S:=Z6 ns x.S} l C:=by
  intro l
  induction l with
  |nil=>intro C _ hC;cases C with|nil=>trivial|cons _ _=>exact hC.elim
  |cons a l ih=>
   intro C ha hC;cases C with
   |nil=>exact hC.elim
   |cons v C=>exact⟨ha a (by simp) v hC.1,ih (λa' h'=>ha a' (by simp[h'])) hC.2⟩
 refine⟨h.fresh,h.fz,by simp[ZdG,h.ml],λb l p h1 h2=> ?_,λb p hp=>h.mown b p (ZP hp).2,λb b' p h1 h2=>h.inj b b' p (ZP h1).2 (ZP h2).2,by simp[ZdG,h.sl],
  λi g s h1 h2=>(h.stg i g s (ZP h1).2 (ZP h2).2).ctx (λ_ _ _ h=>h) (λ_ _ _ _=>rfl),λi s p cap h1 h2=>⟨(h.sown i s p cap (ZP h1).2 h2).1,λb hb=>(h.sown i s p cap (ZP h1).2 h2).2 b (ZP hb).2⟩,
  λi i' s s' p c c' h1 h2 e1 e2=>h.sinj i i' s s' p c c' (ZP h1).2 (ZP h2).2 e1 e2⟩
 obtain⟨C,T,e1,e2⟩:=h.box b l p (ZP h1).2 (ZP h2).2;exact⟨C,T,e1,hRL (hb b l h1) e2⟩
