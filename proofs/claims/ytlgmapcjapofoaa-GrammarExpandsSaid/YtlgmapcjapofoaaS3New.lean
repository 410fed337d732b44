import Derived.Test.YtlgmapcjapofoaaS3Box1
set_option linter.unusedVariables false
set_option linter.unusedSimpArgs false
namespace Go.S3
theorem MemOk.joinS {x:Ctx} {m:Mem} {w:World} (hb:MemOk x m w) {g:Stg} {s:SI} (hblk:∀p cap,s.blk=some (p,cap)->x.own p/\(∀b,nth x.M b≠some p)/\∀i s' cap',nth x.S i=some s'->s'.blk≠some (p,cap')) (hok:StgOk {x with S:=x.S++[s]} g s w):
  MemOk {x with S:=x.S++[s]} {m with stgs:=m.stgs++[g]} w/\Ext x {x with S:=x.S++[s]}:=by
 have hx:Ext x {x with S:=x.S++[s]}:=⟨rfl,λ_ _ e=>e,λi s1 e=>⟨s1,ZV e,.refl s1⟩,λ_ _ _ e=>e,λ_ _ _ e=>.inl e⟩
 refine⟨⟨hb.fresh,hb.fz,hb.ml,?_,hb.mown,hb.inj,by simp[hb.sl],?_,?_,?_⟩,hx⟩
 ·intro b l p hl hp
  obtain⟨C,T,h1,h2⟩:=hb.box b l p hl hp
  exact⟨C,T,h1,h2.mono hx⟩
 ·intro i g1 s1 hg1 hs1
  have hs1:nth (x.S++[s]) i=some s1:=hs1
  have hsl:=hb.sl
  rcases Zc hg1 with e|⟨e1,e2⟩<;>rcases Zc hs1 with f|⟨f1,f2⟩
  ·exact (hb.stg i g1 s1 e f).ctx (λ_ _ _ h=>h) (λ_ _ _ _=>rfl)
  ·have:=Zn e;omega
  ·have:=Zn f;omega
  ·subst e2;subst f2;exact hok
 ·intro i s1 p cap hs1 he
  have hs1:nth (x.S++[s]) i=some s1:=hs1
  rcases Zc hs1 with f|⟨f1,f2⟩
  ·exact hb.sown i s1 p cap f he
  ·subst f2
   exact⟨(hblk p cap he).1,(hblk p cap he).2.1⟩
 ·intro i i' s1 s2 p c1 c2 h1 h2 e1 e2
  have h1:nth (x.S++[s]) i=some s1:=h1
  have h2:nth (x.S++[s]) i'=some s2:=h2
  rcases Zc h1 with f|⟨f1,f2⟩<;>rcases Zc h2 with k|⟨k1,k2⟩
  ·exact hb.sinj i i' s1 s2 p c1 c2 f k e1 e2
  ·subst k2
   exact absurd e1 ((hblk p c2 e2).2.2 i s1 c1 f)
  ·subst f2
   exact absurd e2 ((hblk p c1 e1).2.2 i' s2 c2 k)
  ·omega
abbrev newG (r:R) (T:TypeId) (l:List r.den):Stg:=⟨r,T,l,0,false,false,false,0⟩
def newE (r:R) (T:TypeId) (ts:List Sh) (pre:HL ts->Option Bool) (F:HL ts->List r.den):Entry:=.tree λvs m=>match Zi0 ts vs with
 |some a=>.leaf (some {chk:=pre a,v:=.w (.one (.tip (len m.stgs) 0)),m:={m with stgs:=m.stgs++[newG r T (F a)]},bd:=[],sd:=[]})
 |none=>.leaf none
def Zng (r:R) (T:TypeId) (q:Res):Option (List r.den):=match q.v with
 | .w (.one (.tip h ver))=>match Z4 q.m h ver with
  |some g=>match R.same g.r r,Nat.beq g.T T,g.fzn with
   |some e,true,false=>some (EqR.cast e.slc g.l)
   |_,_,_=>none
  |none=>none
 |_=>none
def Zn3 (E:Env) (fn:Func) (r:R) (T:TypeId) (ts:List Sh) (a:HL ts):RT (Option (List r.den)):=(Za1 E fn (Zfe ts a) Zc4).map fun
 |some q=>Zng r T q
 |none=>none
theorem ZnL {E:Env} (hE:Z3 E) {f:FuncId} {fn:Func} {c:Code} (hf:E.P.funcs[f]? =some fn) (hb:fn.body=some c) (hl:Zr E c) (hcall:ZE E.P f)
  {r:R} {T:TypeId} {ts:List Sh} {pre:HL ts->Option Bool} {F:HL ts->List r.den} (h:∀a,okHL ts a->pre a≠some false->(Zn3 E fn r T ts a).val=some (F a)):
  Za E.P f (newE r T ts pre F):=by
 refine⟨hcall,λvs m=> ?_,λvs m q hq hc x w args hm hv=> ?_⟩
 ·simp only
  split
  ·intro q hq
   simp only[oinj] at hq;subst hq
   exact⟨Nat.le_refl _,λb l hl=>⟨l,hl,rfl,λ_ _=>rfl⟩,by simp,λi g hg=>⟨g,by
    show nth (m.stgs++[_]) i=some g
    rw[Zb,List.getElem?_append_left (Zn hg),<-Zb];exact hg,Nat.le_refl _,λ_=>rfl⟩⟩
  ·intro q hq;simp at hq
 ·simp only at hq
  split at hq
  ·rename_i a ha
   simp only[RT.val,oinj] at hq
   subst hq
   obtain⟨hargs,hin⟩:=Zcf ha hv
   have h1:=h a hin hc
   unfold Zn3 at h1
   rw[RT.val_map] at h1
   split at h1
   ·rename_i q hr
    have hle:FzLe x (Ctx.own0 w x.fz):=λ_ _ _ e=>e
    have hargs':RVs (Ctx.own0 w x.fz) (Zfe ts a) args:=Zci (ZbW hle ts a (Za4 hargs))
    have h2:=ZbC hE hf hb hl (Zio hm) hargs' hr
    refine h2.mono λe w' hres=> ?_
    obtain⟨val,x1,rfl,hrv,hm1,hext,hst⟩:=hres
    unfold Zng at h1
    split at h1
    ·rename_i hh ver hqv
     split at h1
     ·rename_i g hg
      split at h1
      ·rename_i e hsame hT hfz
       simp only[oinj] at h1
       obtain⟨hg1,hg2⟩:=ZF hg
       rw[hqv] at hrv
       have hra:RA x1 (.tip hh ver) val:=hrv
       obtain⟨h3,h4⟩:=Zi3 hm hext hm1.fz (ZaI hst).1
       cases hra with
       |tip _ _ _ s _ hs hvle hval hat=>
        have hok:=hm1.stg hh g s hg1 hs
        have hva:=hval (by rw[hok.ver,hg2])
        have hTe:g.T=T:=Nat.eq_of_beq_eq_true hT
        obtain⟨gr,gT,gl,gv,gf,gff,glit,gub⟩:=g
        simp only at e hsame hT hfz h1 hTe
        cases e
        have h1':gl=F a:=h1
        subst hTe
        have hown:∀p cap,s.blk=some (p,cap)->w.heap.size<=p:=λp cap hp=>by
         have:=(hm1.sown hh s p cap hs hp).1
         rw[hext.own] at this
         exact this
        have hj:=h3.joinS (g:=newG _ gT (F a)) (s:={s with ver:=0}) (λp cap hp=>by
          have hp:=hown p cap hp
          exact⟨hm.fresh p hp,λb hb=>by have:=hm.M_lt hb;omega,λi s' cap' hs' hb=>by have:=hm.S_lt hs' hb;omega⟩)
         ⟨rfl,by rw[<-h1'];exact hok.n,hok.wd,hok.nil,λp cap hp=>by
          obtain⟨C,a1,a2,a3,a4,a5,a6,a7,a8⟩:=hok.row p cap hp
          refine⟨C,a1,a2,a3,a4,λi j a' hi ha'=> ?_,a6,a7,a8⟩
          obtain⟨v,e1,e2⟩:=a5 i j a' hi (by rw[h1'];exact ha')
          exact⟨v,e1,e2.plain (λ_ _ _ e=>e) (R.enc_plain _ _ _ (Z1 ha'))⟩,λ_=>hok.fzn hfz,λh=>by simp at h,λh=>by simp at h⟩
        refine⟨val,_,rfl,?_,hj.1,h4.trans hj.2,?_⟩
        ·refine RA.tip _ _ _ {s with ver:=0} _ ?_ (Nat.le_refl _) (λ_=>hva) hat
         rw[Zb,Zs,<-hm.sl];simp
        ·exact (ZaI hst).step hm
      ·simp at h1
     ·simp at h1
    ·simp at h1
   ·simp at h1
  ·simp[RT.val] at hq
section
variable {P:Program} {l:List (FuncId×Entry)} {ol:List (Nat×Ora)} {n k:Nat} {f:FuncId} {fn:Func}
theorem ZmG (hl:Ze7 P l) (hf:P.funcs[f]? =some fn) (hb:fn.body.isSome=true) (hn:ZaV (Zl (fn.body.getD .skip))=true) (hcall:ZE P f) (hol:AllL (envX P l ol n k) fn.body ol)
  {r:R} {T:TypeId} {ts:List Sh} {t:HL ts->RT (Option (List r.den))} (h:∀a,Zn3 (envX P l ol n k) fn r T ts a=t a):
  Za P f (newE r T ts (λa=>okO (t a).val) (λa=>getO [] (t a).val)):=by
 obtain⟨c,hc,hlo⟩:=ZeC hb hn hol
 exact ZnL (E:=envX P l ol n k) (Zbb hl ol n k) hf hc hlo hcall λa _ hp=>by rw[h a];exact Zgl hp
end
theorem ZlS {s s':St} {a a':A} (h:Zw s a=some (a',s')):s'.bd=s.bd:=by
 unfold Zw at h
 split at h
 ·split at h
  ·split at h
   ·simp only[oinj,pinj] at h;rw[<-h.2]
   ·simp only[oinj,pinj] at h;rw[<-h.2]
  ·simp at h
 ·simp at h
 ·simp only[oinj,pinj] at h;rw[<-h.2]
theorem ZlR:∀{l l':List A} {s s':St},Zv s l=some (l',s')->s'.bd=s.bd
 |[],l',s,s',h=>by simp only[Zv,oinj,pinj] at h;rw[<-h.2]
 |a::l,l',s,s',h=>by
  simp only[Zv] at h
  split at h
  ·rename_i b s1 h1
   split at h
   ·rename_i r s2 h2
    simp only[oinj,pinj] at h
    rw[<-h.2,ZlR h2,ZlS h1]
   ·simp at h
  ·simp at h
theorem ZnZ {s s':St} {v v':V} (h:ZI s v=some (v',s')):s'.bd=s.bd:=by
 cases v with
 |tup t=>simp only[ZI,oinj,pinj] at h;rw[<-h.2]
 |w w=>
  simp only[ZI] at h
  split at h
  ·rename_i w1 s1 h1
   simp only[oinj,pinj] at h
   rw[<-h.2]
   cases w with
   |one a=>
    simp only[Zz] at h1
    split at h1
    ·rename_i b s2 h2
     simp only[oinj,pinj] at h1
     rw[<-h1.2];exact ZlS h2
    ·simp at h1
   |agg l=>
    simp only[Zz] at h1
    split at h1
    ·rename_i b s2 h2
     simp only[oinj,pinj] at h1
     rw[<-h1.2];exact ZlR h2
    ·simp at h1
   |junk=>simp only[Zz,oinj,pinj] at h1;rw[<-h1.2]
  ·simp at h
theorem Znt:∀{l l':List V} {s s':St},Zp s l=some (l',s')->s'.bd=s.bd
 |[],l',s,s',h=>by simp only[Zp,oinj,pinj] at h;rw[<-h.2]
 |a::l,l',s,s',h=>by
  simp only[Zp] at h
  split at h
  ·rename_i b s1 h1
   split at h
   ·rename_i r s2 h2
    simp only[oinj,pinj] at h
    rw[<-h.2,Znt h2,ZnZ h1]
   ·simp at h
  ·simp at h
def frzE:Entry->Entry
 | .tree g=>.tree λvs m=>match Zp (Zj4 m) vs with
  |some (us,s)=>(g us s.mem).map fun
   |some q=>some {q with sd:=Zcj s.sd q.sd}
   |none=>none
  |none=>.leaf none
 |e=>e
theorem Zns {P:Program} {f:FuncId} {g:List V->Mem->RT (Option Res)} (h:Za P f (.tree g)):Za P f (frzE (.tree g)):=by
 refine⟨h.1,λvs m=> ?_,λvs m q hp hc x w args hm hv=> ?_⟩
 ·simp only
  split
  ·rename_i us s hs
   have k:=ZaK hs
   refine RT.All.map ((h.2.1 us s.mem).mono λr hr q hq=> ?_)
   split at hq
   ·rename_i q0
    simp only[oinj] at hq;subst hq
    have k2:=hr q0 rfl
    refine⟨Nat.le_trans k.bl k2.bl,λb l hl=> ?_,Nat.le_trans k.gl k2.gl,λi g0 hg0=> ?_⟩
    ·obtain⟨l1,h1,h2,h3⟩:=k.box b l hl
     obtain⟨l2,h4,h5,h6⟩:=k2.box b l1 h1
     have hbd:s.bd=[]:=Znt hs
     refine⟨l2,h4,h5.trans h2,λj hj=>(h6 j hj).trans (h3 j ?_).2⟩
     rw[hbd];rfl
    ·obtain⟨g1,h1,h2,h3⟩:=k.stg i g0 hg0
     obtain⟨g2,h4,h5,h6⟩:=k2.stg i g1 h1
     refine⟨g2,h4,Nat.le_trans h2 h5,λhj=> ?_⟩
     rw[Zan,Bool.or_eq_false_iff] at hj
     exact (h6 hj.2).trans (h3 hj.1).2
   ·simp at hq
  ·intro q hq;simp at hq
 ·simp only at hp
  split at hp
  ·rename_i us s hs
   rw[RT.val_map] at hp
   obtain⟨x1,m1,e1,r1,k1⟩:=Zbx (s:=Zj4 m) hm hv hs
   split at hp
   ·rename_i q0 hq0
    simp only[oinj] at hp;subst hp
    refine (h.2.2 us s.mem q0 hq0 hc x1 w args m1 r1).mono λe w' hres=> ?_
    obtain⟨val,x2,rfl,a1,a2,a3,a4⟩:=hres
    exact⟨val,x2,rfl,a1,a2,e1.trans a3,⟨a4.os,a4.tape,a4.output,a4.size,λk hk=>a4.block k (by rw[e1.own];exact hk)⟩⟩
   ·simp at hp
  ·simp[RT.val] at hp
end Go.S3
