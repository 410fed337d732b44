import Derived.Test.YtpnjbfjomebppaaGreatS3Box1
set_option linter.unusedVariables false
set_option linter.unusedSimpArgs false
namespace Go.S3
variable {x:Ctx} {w:World}
theorem MK.joinS {m:Mem} (hb:MK x m w) {g:Stg} {s:SI} (hblk:∀p cap,s.blk=some (p,cap)->x.own p/\(∀b,nth x.M b≠some p)/\∀i s' cap',nth x.S i=some s'->s'.blk≠some (p,cap')) (hok:StgOk {x with S:=x.S++[s]} g s w):
  MK {x with S:=x.S++[s]} {m with Sg:=m.Sg++[g]} w/\Ext x {x with S:=x.S++[s]}:=by
 have hx:Ext x {x with S:=x.S++[s]}:=⟨rfl,λ_ _ e=>e,λi s1 e=>⟨s1,ZbG e,.refl s1⟩,λ_ _ _ e=>e,λ_ _ _ e=>.inl e⟩;refine⟨⟨hb.fresh,hb.fz,hb.ml,?_,hb.mown,hb.inj,by simp[hb.sl],?_,?_,?_⟩,hx⟩
 ·intro b l p hl hp;obtain⟨C,T,h1,h2⟩:=hb.box b l p hl hp;exact⟨C,T,h1,h2.mono hx⟩
 ·intro i g1 s1 hg1 hs1;have hs1:nth (x.S++[s]) i=some s1:=hs1;have hsl:=hb.sl;rcases Zv hg1 with e|⟨e1,e2⟩<;>rcases Zv hs1 with f|⟨f1,f2⟩
  ·exact (hb.stg i g1 s1 e f).ctx (λ_ _ _ h=>h) (λ_ _ _ _=>rfl)
  ·have:=Z0 e;omega
  ·have:=Z0 f;omega
  ·subst e2;subst f2;exact hok
 ·intro i s1 p cap hs1 he;have hs1:nth (x.S++[s]) i=some s1:=hs1;rcases Zv hs1 with f|⟨f1,f2⟩
  ·exact hb.sown i s1 p cap f he
  ·subst f2;exact⟨(hblk p cap he).1,(hblk p cap he).2.1⟩
 ·intro i i' s1 s2 p c1 c2 h1 h2 e1 e2;have h1:nth (x.S++[s]) i=some s1:=h1;have h2:nth (x.S++[s]) i'=some s2:=h2;rcases Zv h1 with f|⟨f1,f2⟩<;>rcases Zv h2 with k|⟨k1,k2⟩
  ·exact hb.sinj i i' s1 s2 p c1 c2 f k e1 e2
  ·subst k2;exact absurd e1 ((hblk p c2 e2).2.2 i s1 c1 f)
  ·subst f2;exact absurd e2 ((hblk p c1 e1).2.2 i' s2 c2 k)
  ·omega
abbrev newG (r:R) (T:TypeId) (l:List r.den):Stg:=⟨r,T,l,0,false,false,false,0⟩
def newE (r:R) (T:TypeId) (ts:List Sh) (pre:HL ts->Option Bool) (F:HL ts->List r.den):En:=.tree λvs m=>match ZkI ts vs with
 |some a=>.Lf (some {chk:=pre a,v:=.w (.one (.tip (len m.Sg) 0)),m:={m with Sg:=m.Sg++[newG r T (F a)]},bd:=[],sd:=[]})
 |none=>.Lf none
def Zy8 (r:R) (T:TypeId) (q:Res):Option (List r.den):=match q.v with
 | .w (.one (.tip h ver))=>match ZaT q.m h ver with
  |some g=>match R.same g.r r,Nat.beq g.T T,g.fzn with
   |some e,true,false=>some (EqR.cast e.slc g.l)
   |_,_,_=>none
  |none=>none
 |_=>none
def Z0M (E:Env) (fn:Func) (r:R) (T:TypeId) (ts:List Sh) (a:HL ts):RT (Option (List r.den)):=(ZM E fn (ZfT ts a) Zes).map fun
 |some q=>Zy8 r T q
 |none=>none
variable {E:Env} {c:Code} {r:R} {T:TypeId} {ts:List Sh}
theorem Z0i (hE:Zbw E) {f:FuncId} {fn:Func} (hf:E.P.funcs[f]? =some fn) (hb:fn.body=some c) (hl:Z1 E c) (hcall:ZR E.P f)
 {pre:HL ts->Option Bool} {F:HL ts->List r.den} (h:∀a,okHL ts a->pre a≠some false->(Z0M E fn r T ts a).val=some (F a)):
  Za E.P f (newE r T ts pre F):=by
 refine⟨hcall,λvs m=> ?_,λvs m q hq hc x w args hm hv=> ?_⟩
 ·simp only;split
  ·intro q hq;simp only[oinj] at hq;subst hq
   exact⟨Ye _,λb l hl=>⟨l,hl,rfl,λ_ _=>rfl⟩,by simp,λi g hg=>⟨g,by
    show nth (m.Sg++[_]) i=some g
    rw[Zm,Yl (Z0 hg),<-Zm];exact hg,Ye _,λ_=>rfl⟩⟩
  ·intro q hq;simp at hq
 ·simp only at hq;split at hq
  ·rename_i a ha;simp only[RT.val,oinj] at hq;subst hq;obtain⟨hargs,hin⟩:=ZbX ha hv;have h1:=h a hin hc;unfold Z0M at h1;rw[RT.val_map] at h1;split at h1
   ·rename_i q hr;have hle:FzLe x (Ctx.own0 w x.fz):=λ_ _ _ e=>e
    have hargs':RVs (Ctx.own0 w x.fz) (ZfT ts a) args:=Zc5 (Zct hle ts a (Zbp hargs));have h2:=Zba hE hf hb hl (ZEa hm) hargs' hr;refine h2.mono λe w' hres=> ?_
    obtain⟨val,x1,rfl,hrv,hm1,hext,hst⟩:=hres;unfold Zy8 at h1;split at h1
    ·rename_i hh ver hqv;split at h1
     ·rename_i g hg;split at h1
      ·rename_i e hsame hT hfz;simp only[oinj] at h1;obtain⟨hg1,hg2⟩:=ZW hg;rw[hqv] at hrv;have hra:RA x1 (.tip hh ver) val:=hrv;obtain⟨h3,h4⟩:=ZET hm hext hm1.fz (ZbO hst).1;cases hra with
       |tip _ _ _ s _ hs hvle hval hat=>
        have hok:=hm1.stg hh g s hg1 hs;have hva:=hval (by rw[hok.ver,hg2]);have hTe:g.T=T:=Y7 hT;obtain⟨gr,gT,gl,gv,gf,gff,glit,gub⟩:=g;simp only at e hsame hT hfz h1 hTe;cases e;have h1':gl=F a:=h1;subst hTe;have hown:∀p cap,s.blk=some (p,cap)->w.heap.size<=p:=λp cap hp=>by have:=(hm1.sown hh s p cap hs hp).1;rw[hext.own] at this;exact this
        have hj:=h3.joinS (g:=newG _ gT (F a)) (s:={s with ver:=0}) (λp cap hp=>by
          have hp:=hown p cap hp
          exact⟨hm.fresh p hp,λb hb=>by have:=hm.M_lt hb;omega,λi s' cap' hs' hb=>by have:=hm.S_lt hs' hb;omega⟩)
         ⟨rfl,by rw[<-h1'];exact hok.n,hok.wd,hok.nil,λp cap hp=>by
          obtain⟨C,a1,a2,a3,a4,a5,a6,a7,a8⟩:=hok.row p cap hp;refine⟨C,a1,a2,a3,a4,λi j a' hi ha'=> ?_,a6,a7,a8⟩;obtain⟨v,e1,e2⟩:=a5 i j a' hi (by rw[h1'];exact ha')
          exact⟨v,e1,e2.plain (λ_ _ _ e=>e) (R.enc_plain _ _ _ (Zbl ha'))⟩,λ_=>hok.fzn hfz,λh=>by simp at h,λh=>by simp at h⟩
        refine⟨val,_,rfl,?_,hj.1,h4.trans hj.2,?_⟩
        ·refine RA.tip _ _ _ {s with ver:=0} _ ?_ (Ye _) (λ_=>hva) hat;rw[Zm,Z9,<-hm.sl];simp
        ·exact (ZbO hst).step hm
      ·simp at h1
     ·simp at h1
    ·simp at h1
   ·simp at h1
  ·simp[RT.val] at hq
def ZLq (rb:R) (r:R) (T:TypeId) (ts:List Sh) (pre:rb.den×HL ts->Option Bool) (F:rb.den×HL ts->List r.den×rb.den):En:=
 .tree λvs m=>match vs with
  | .w (.one (.loc b 0))::rest=>match nth m.Bx b with
   |some row=>match rb.decW row with
    |some y=>match ZkI ts rest with
     |some a=>.Lf (some {chk:=pre (y,a),v:=.w (.one (.tip (len m.Sg) 0)),m:={Bx:=setN m.Bx b (rb.enc (F (y,a)).2),Sg:=m.Sg++[newG r T (F (y,a)).1]},bd:=ZAm [] b 0 rb.wid,sd:=[]})
     |none=>.Lf none
    |none=>.Lf none
   |none=>.Lf none
  |_=>.Lf none
def ZRv (rb r:R) (T:TypeId) (q:Res):Option (List r.den×rb.den):=match Zy8 r T q with
 |some u=>match nth q.m.Bx 0 with
  |some row=>match rb.decW row with
   |some y=>some (u,y)
   |none=>none
  |none=>none
 |none=>none
def ZSI (E:Env) (fn:Func) (rb r:R) (T:TypeId) (ts:List Sh) (a:rb.den×HL ts):RT (Option (List r.den×rb.den)):=(ZM E fn (.w (.one (.loc 0 0))::ZfT ts a.2) ⟨[rb.enc a.1],[]⟩).map fun
 |some q=>ZRv rb r T q
 |none=>none
theorem ZLp (rb:R) (r:R) (T:TypeId) (ts:List Sh) (pre:rb.den×HL ts->Option Bool) (F:rb.den×HL ts->List r.den×rb.den) (vs:List V) (m:Mem):
  match ZLq rb r T ts pre F with
  | .tree g=>(g vs m).All (λr=>∀q,r=some q->KeepC m q)
  |_=>False:=by
 simp only[ZLq];split
 ·rename_i b rest;split
  ·rename_i row hrow;split
   ·rename_i y hy;split
    ·rename_i a ha;intro q hq;simp only[oinj] at hq;subst hq
     refine⟨by simp[ZN],λb' l hl=> ?_,by simp,λi g hg=>⟨g,by
      show nth (m.Sg++[_]) i=some g
      rw[Zm,Yl (Z0 hg),<-Zm];exact hg,Ye _,λ_=>rfl⟩⟩
     by_cases hbb:b=b'
     ·subst hbb;rw[hrow] at hl;simp only[oinj] at hl;subst hl;refine⟨_,ZK hrow,by rw[R.enc_len,R.decW_len hy],λj hj=> ?_⟩;rw[ZdI] at hj;simp[memP] at hj;rw[Zm,Zm,YO (by rw[R.enc_len];exact hj),YO (by rw[R.decW_len hy];exact hj)]
     ·exact⟨l,by rw[ZG hbb];exact hl,rfl,λ_ _=>rfl⟩
    ·intro q hq;simp at hq
   ·intro q hq;simp at hq
  ·intro q hq;simp at hq
 ·intro q hq;simp at hq
theorem ZLk {q:Res} {u:List r.den} {val:Value} (hm:MK x q.m w) (hv:RV x q.v val) (h:Zy8 r T q=some u):
  ∃s:SI,s.ver=0/\val=tipVal s/\atomic val/\(∀p cap,s.blk=some (p,cap)->x.own p/\∀b,nth x.M b≠some p)/\∀x':Ctx,x'.fz=x.fz->StgOk x' (newG r T u) s w:=by
 unfold Zy8 at h;split at h
 ·rename_i hh ver hqv;split at h
  ·rename_i g hg;split at h
   ·rename_i e hsame hT hfz;simp only[oinj] at h;obtain⟨hg1,hg2⟩:=ZW hg;rw[hqv] at hv;have hra:RA x (.tip hh ver) val:=hv;cases hra with
    |tip _ _ _ s _ hs hvle hval hat=>
     have hok:=hm.stg hh g s hg1 hs;have hva:=hval (by rw[hok.ver,hg2]);have hTe:g.T=T:=Y7 hT;obtain⟨gr,gT,gl,gv,gf,gff,glit,gub⟩:=g;simp only at e hsame hT hfz h hTe;cases e;have h1':gl=u:=h;subst hTe;refine⟨{s with ver:=0},rfl,hva,hat,λp cap hp=>hm.sown hh s p cap hs hp,λx' hx'=>⟨rfl,by rw[<-h1'];exact hok.n,hok.wd,hok.nil,λp cap hp=> ?_,λ_=>hok.fzn hfz,λh=>by simp at h,λh=>by simp at h⟩⟩;obtain⟨C,a1,a2,a3,a4,a5,a6,a7,a8⟩:=hok.row p cap hp;refine⟨C,a1,a2,a3,a4,λi j a' hi ha'=> ?_,a6,by rw[hx'];exact a7,by rw[hx'];exact a8⟩;obtain⟨v,e1,e2⟩:=a5 i j a' hi (by rw[h1'];exact ha');exact⟨v,e1,e2.plain (λb o v e=>by show x'.fz b o=some v;rw[hx'];exact e) (R.enc_plain _ _ _ (Zbl ha'))⟩
   ·simp at h
  ·simp at h
 ·simp at h
variable {rb:R}
theorem ZVs (hE:Zbw E) {f:FuncId} {fn:Func} (hf:E.P.funcs[f]? =some fn) (hb:fn.body=some c) (hl:Z1 E c) (hcall:ZR E.P f)
 {pre:rb.den×HL ts->Option Bool} {F:rb.den×HL ts->List r.den×rb.den} (h:∀a,rb.ok a.1->okHL ts a.2->pre a≠some false->(ZSI E fn rb r T ts a).val=some (F a)):
  Za E.P f (ZLq rb r T ts pre F):=by
 refine⟨hcall,λvs m=>ZLp rb r T ts pre F vs m,λvs m q hp hc x w args hm hv=> ?_⟩;simp only at hp;split at hp
 ·rename_i b rest;split at hp
  ·rename_i row hrow;split at hp
   ·rename_i y hy;split at hp
    ·rename_i a ha;simp only[RT.val,oinj] at hp;subst hp
     match args,hv with
     |v::args,hv=>
      obtain⟨p,hp⟩:=hm.M_of hrow;have hv1:RA x (.loc b 0) v:=hv.1;have hve:v=.pointer (some ⟨p,0,none⟩):=by
       cases hv1 with
       |loc _ _ _ q hq=>rw[hp] at hq;simp only[oinj] at hq;subst hq;rfl
      subst hve;obtain⟨hargs,hin⟩:=ZbX ha hv.2;obtain⟨C0,T0,e1,e2⟩:=hm.box b row p hrow hp;have hyok:rb.ok y:=R.ok_of rb y x C0 (R.decW_ok hy e2);have h1:=h (y,a) hyok hin hc;unfold ZSI at h1;rw[RT.val_map] at h1;split at h1
      ·rename_i q hr;have hargs':RVs (Ctx.own1 w x.fz p) (.w (.one (.loc 0 0))::ZfT ts a) (.pointer (some ⟨p,0,none⟩)::args):=
        ⟨RA.loc _ _ _ _ rfl,Zc5 (Zct (x:=x) (x':=Ctx.own1 w x.fz p) (λ_ _ _ e=>e) ts a (Zbp hargs))⟩
       have h2:=Zba hE hf hb hl (ZRu hm hrow hp hy) hargs' hr;refine h2.mono λe w' hres=> ?_
       obtain⟨val,x1,rfl,hrv,hm1,hext,hst⟩:=hres;unfold ZRv at h1;split at h1
       ·rename_i u hu;split at h1
        ·rename_i row' hrow';split at h1
         ·rename_i y' hy';simp only[oinj] at h1;obtain⟨s,s0,hva,hat,hown,hsok⟩:=ZLk hm1 hrv hu;obtain⟨C,T',hc1,hc2⟩:=hm1.box 0 row' p hrow' (hext.M 0 p rfl);obtain⟨q1,q2,q3⟩:=ZIy hm hrow hp (row1:=row) hext hm1 hst hc1 (R.decW_ok hy' hc2) (R.enc_plain rb y');have hp0:nth x1.M 0=some p:=hext.M 0 p rfl
          have hj:=q1.joinS (g:=newG r T u) (s:=s) (λp' cap hp'=>by
           obtain⟨o1,o2⟩:=hown p' cap hp';rw[hext.own] at o1;have hne:p'≠p:=λe=>o2 0 (by rw[e];exact hp0)
           have hge:w.heap.size<=p':=by
            rcases o1 with o|o
            ·exact o
            ·exact absurd o hne
           exact⟨hm.fresh p' hge,λb hb=>by have:=hm.M_lt hb;omega,λi s' cap' hs' hb=>by have:=hm.S_lt hs' hb;omega⟩) (hsok _ rfl)
          rw[<-h1];refine⟨val,_,rfl,?_,hj.1,q2.trans hj.2,q3⟩;refine RA.tip _ _ _ s _ ?_ (Ys _) (λ_=>hva) hat;rw[Zm,Z9,<-hm.sl];simp
         ·simp at h1
        ·simp at h1
       ·simp at h1
      ·simp at h1
     |[],hv=>exact hv.elim
    ·simp[RT.val] at hp
   ·simp[RT.val] at hp
  ·simp[RT.val] at hp
 ·simp[RT.val] at hp
section
variable {P:Program} {l:List (FuncId×En)} {ol:List (Nat×Ora)} {n k:Nat} {f:FuncId} {fn:Func}
theorem ZlT (hl:Zc3 P l) (hf:P.funcs[f]? =some fn) (hb:fn.body.isSome=true) (hn:ZbH (ZL (fn.body.getD .skip))=true) (hcall:ZR P f) (hol:AllL (envX P l ol n k) fn.body ol)
 {t:HL ts->RT (Option (List r.den))} (h:∀a,Z0M (envX P l ol n k) fn r T ts a=t a):
  Za P f (newE r T ts (λa=>okO (t a).val) (λa=>getO [] (t a).val)):=by obtain⟨c,hc,hlo⟩:=ZcT hb hn hol;exact Z0i (E:=envX P l ol n k) (Zbv hl ol n k) hf hc hlo hcall λa _ hp=>by rw[h a];exact Zfo hp
theorem ZRC (hl:Zc3 P l) (hf:P.funcs[f]? =some fn) (hb:fn.body.isSome=true) (hn:ZbH (ZL (fn.body.getD .skip))=true) (hcall:ZR P f) (hol:AllL (envX P l ol n k) fn.body ol)
 {t:rb.den×HL ts->RT (Option (List r.den×rb.den))} (h:∀a,ZSI (envX P l ol n k) fn rb r T ts a=t a):
  Za P f (ZLq rb r T ts (λa=>okO (t a).val) (λa=>getO ([],rb.Df) (t a).val)):=by obtain⟨c,hc,hlo⟩:=ZcT hb hn hol;exact ZVs (E:=envX P l ol n k) (Zbv hl ol n k) hf hc hlo hcall λa _ _ hp=>by rw[h a];exact Zfo hp
end
variable {s s':St}
theorem ZSB {a a':A} (h:Zat s a=some (a',s')):s'.bd=s.bd:=by
 unfold Zat at h;split at h
 ·split at h
  ·split at h
   ·simp only[oinj,pinj] at h;rw[<-h.2]
   ·simp only[oinj,pinj] at h;rw[<-h.2]
  ·simp at h
 ·simp at h
 ·simp only[oinj,pinj] at h;rw[<-h.2]
theorem ZSA:∀{l l':List A} {s s':St},Zas s l=some (l',s')->s'.bd=s.bd
 |[],l',s,s',h=>by simp only[Zas,oinj,pinj] at h;rw[<-h.2]
 |a::l,l',s,s',h=>by
  simp only[Zas] at h;split at h
  ·rename_i b s1 h1;split at h
   ·rename_i r s2 h2;simp only[oinj,pinj] at h;rw[<-h.2,ZSA h2,ZSB h1]
   ·simp at h
  ·simp at h
theorem Z0G {v v':V} (h:Za9 s v=some (v',s')):s'.bd=s.bd:=by
 cases v with
 |tup t=>simp only[Za9,oinj,pinj] at h;rw[<-h.2]
 |w w=>
  simp only[Za9] at h;split at h
  ·rename_i w1 s1 h1;simp only[oinj,pinj] at h;rw[<-h.2];cases w with
   |one a=>
    simp only[ZaC] at h1;split at h1
    ·rename_i b s2 h2;simp only[oinj,pinj] at h1;rw[<-h1.2];exact ZSB h2
    ·simp at h1
   |agg l=>
    simp only[ZaC] at h1;split at h1
    ·rename_i b s2 h2;simp only[oinj,pinj] at h1;rw[<-h1.2];exact ZSA h2
    ·simp at h1
   |junk=>simp only[ZaC,oinj,pinj] at h1;rw[<-h1.2]
  ·simp at h
theorem ZXS:∀{l l':List V} {s s':St},Z7 s l=some (l',s')->s'.bd=s.bd
 |[],l',s,s',h=>by simp only[Z7,oinj,pinj] at h;rw[<-h.2]
 |a::l,l',s,s',h=>by
  simp only[Z7] at h;split at h
  ·rename_i b s1 h1;split at h
   ·rename_i r s2 h2;simp only[oinj,pinj] at h;rw[<-h.2,ZXS h2,Z0G h1]
   ·simp at h
  ·simp at h
def frzE:En->En
 | .tree g=>.tree λvs m=>match Z7 (ZLA m) vs with
  |some (us,s)=>(g us s.mem).map fun
   |some q=>some {q with sd:=Zhs s.sd q.sd}
   |none=>none
  |none=>.Lf none
 |e=>e
theorem ZzV {P:Program} {f:FuncId} {g:List V->Mem->RT (Option Res)} (h:Za P f (.tree g)):Za P f (frzE (.tree g)):=by
 refine⟨h.1,λvs m=> ?_,λvs m q hp hc x w args hm hv=> ?_⟩
 ·simp only;split
  ·rename_i us s hs;have k:=Zdz hs;refine RT.All.map ((h.2.1 us s.mem).mono λr hr q hq=> ?_);split at hq
   ·rename_i q0;simp only[oinj] at hq;subst hq;have k2:=hr q0 rfl;refine⟨YS k.bl k2.bl,λb l hl=> ?_,YS k.gl k2.gl,λi g0 hg0=> ?_⟩
    ·obtain⟨l1,h1,h2,h3⟩:=k.box b l hl;obtain⟨l2,h4,h5,h6⟩:=k2.box b l1 h1;have hbd:s.bd=[]:=ZXS hs;refine⟨l2,h4,h5.trans h2,λj hj=>(h6 j hj).trans (h3 j ?_).2⟩;rw[hbd];rfl
    ·obtain⟨g1,h1,h2,h3⟩:=k.stg i g0 hg0;obtain⟨g2,h4,h5,h6⟩:=k2.stg i g1 h1;refine⟨g2,h4,YS h2 h5,λhj=> ?_⟩;rw[ZcR,Yp] at hj;exact (h6 hj.2).trans (h3 hj.1).2
   ·simp at hq
  ·intro q hq;simp at hq
 ·simp only at hp;split at hp
  ·rename_i us s hs;rw[RT.val_map] at hp;obtain⟨x1,m1,e1,r1,k1⟩:=Zfw (s:=ZLA m) hm hv hs;split at hp
   ·rename_i q0 hq0;simp only[oinj] at hp;subst hp;refine (h.2.2 us s.mem q0 hq0 hc x1 w args m1 r1).mono λe w' hres=> ?_
    obtain⟨val,x2,rfl,a1,a2,a3,a4⟩:=hres;exact⟨val,x2,rfl,a1,a2,e1.trans a3,⟨a4.os,a4.tape,a4.output,a4.size,λk hk=>a4.block k (by rw[e1.own];exact hk)⟩⟩
   ·simp at hp
  ·simp[RT.val] at hp
theorem ZLo {P:Program} {f:FuncId} {pre pre':HL ts->Option Bool} {F G:HL ts->List r.den} (h:Za P f (newE r T ts pre F)) (hp:∀a,okHL ts a->pre' a≠some false->pre a≠some false/\F a=G a):Za P f (newE r T ts pre' G):=by
 refine⟨h.1,λvs m=> ?_,λvs m q hq hc x w args hm hv=> ?_⟩
 ·simp only;split
  ·intro q hq;simp only[oinj] at hq;subst hq
   exact⟨Ye _,λb l hl=>⟨l,hl,rfl,λ_ _=>rfl⟩,by simp,λi g hg=>⟨g,by
    show nth (m.Sg++[_]) i=some g
    rw[Zm,Yl (Z0 hg),<-Zm];exact hg,Ye _,λ_=>rfl⟩⟩
  ·intro q hq;simp at hq
 ·simp only at hq;split at hq
  ·rename_i a ha;simp only[RT.val,oinj] at hq;subst hq;obtain⟨_,hin⟩:=ZbX ha hv;obtain⟨k1,k2⟩:=hp a hin hc;rw[<-k2];exact h.2.2 vs m {chk:=pre a,v:=.w (.one (.tip (len m.Sg) 0)),m:={m with Sg:=m.Sg++[newG r T (F a)]},bd:=[],sd:=[]} (by simp only[ha,RT.val]) k1 x w args hm hv
  ·simp[RT.val] at hq
