import Derived.Test.YtpnjbfjomebppaaGreatS3D
set_option linter.unusedVariables false
set_option linter.unusedSimpArgs false
namespace Go.S3
def Z0x (g:FuncId):V->Bool
 | .w (.one (.clo f []))=>Nat.beq f g
 |_=>false
def cutF (g:FuncId):List V->Option (List V)
 |[]=>none
 |v::r=>match Zwv r with
  |true=>match Z0x g v with
   |true=>some []
   |false=>none
  |false=>match cutF g r with
   |some l=>some (v::l)
   |none=>none
def cloV (g:FuncId):V:=.w (.one (.clo g []))
theorem ZX4 {a b:R} (e:EqR a b) {x:a.den} (h:a.ok x):b.ok (e.cast x):=by cases e;exact h
variable {g:FuncId}
theorem ZVC {v:V} (h:Z0x g v=true):v=cloV g:=by
 unfold Z0x at h;split at h
 ·simp only[Yr] at h;subst h;rfl
 ·simp at h
variable {x:Ctx}
theorem ZS0 {x':Ctx} {v:Value} (h:RA x (.clo g []) v):RA x' (.clo g []) v:=by
 cases h with
 |clo _ _ _ cs c hl hc hr=>exact .clo _ _ _ cs c hl (λj a h=>by simp[Zs] at h) (λj a h=>by simp[Zs] at h)
theorem ZwL {x:Ctx} {g:FuncId}:∀{vs us:List V} {args:List Value},cutF g vs=some us->RVs x vs args->∃args' v,args=args'++[v]/\RVs x us args'/\RA x (.clo g []) v
 |[],us,args,h,_=>by simp[cutF] at h
 |v::r,us,args,h,hv=>by
  match args,hv with
  |u::args,hv=>
   simp only[cutF] at h;split at h
   ·rename_i hn;split at h
    ·rename_i hc;simp only[oinj] at h;subst h;have hr:r=[]:=by cases r<;>simp_all [Zwv]
     subst hr;have:=ZVC hc;subst this
     match args,hv.2 with
     |[],_=>exact⟨[],u,rfl,trivial,hv.1⟩
    ·simp at h
   ·split at h
    ·rename_i l hl;simp only[oinj] at h;subst h;obtain⟨args',w,rfl,h1,h2⟩:=ZwL hl hv.2;exact⟨u::args',w,rfl,⟨hv.1,h1⟩,h2⟩
    ·simp at h
theorem ZwY {x:Ctx}:∀{us:List V} {args:List Value} {a:V} {v:Value},RVs x us args->RV x a v->RVs x (us++[a]) (args++[v])
 |[],[],_,_,_,h=>⟨h,Tv⟩
 |_::_,_::_,_,_,h,k=>⟨h.1,ZwY h.2 k⟩
 |[],_::_,_,_,h,_=>h.elim
 |_::_,[],_,_,h,_=>h.elim
def Zde (r:R) (T:TypeId) (l:List r.den):Stg:=⟨r,T,l,0,false,false,false,0⟩
def Ctx.ownS (w:World) (fz:Nat->Nat->Option Value) (s:SI):Ctx:={own:=λk=>w.heap.size<=k\/∃cap,s.blk=some (k,cap),M:=[],S:=[{s with ver:=0}],fz:=fz}
variable {m:Mem} {w:World} {h:Nat} {s:SI} {r:R}
theorem Z0d (hm:MK x m w) {g:Stg} (hg:nth m.Sg h=some g) (hs:nth x.S h=some s) {e:EqR g.r r} (hf:g.fzn=false):
  MK (Ctx.ownS w x.fz s) ⟨[],[Zde r g.T (e.slc.cast g.l)]⟩ w:=by
 have ho:=hm.stg h g s hg hs;refine⟨λk hk=>.inl hk,hm.fz,rfl,λb l p h=>by simp[Zs] at h,λb p h=>by simp[Ctx.ownS,Zs] at h,λb b' p h=>by simp[Ctx.ownS,Zs] at h,rfl,λi g1 s1 h1 h2=> ?_,λi s1 p cap h1 h2=> ?_,λi i' s1 s2 p c1 c2 h1 h2 _ _=> ?_⟩
 ·have e1:i=0/\g1=Zde r g.T (e.slc.cast g.l):=by cases i with
   |zero=>exact⟨rfl,by simpa [nth] using h1.symm⟩
   |succ i=>simp[nth] at h1
  obtain⟨rfl,rfl⟩:=e1;have e2:s1={s with ver:=0}:=by simpa [Ctx.ownS,nth] using h2.symm
  subst e2;have hfc:=ho.fzn hf;obtain⟨gr,gT,gl,gv,gf,gff,glit,gub⟩:=g;cases e
  exact⟨rfl,ho.n,ho.wd,ho.nil,λp cap hp=>by
   obtain⟨C,k1,k2,k3,k4,k5,k6,k7,k8⟩:=ho.row p cap hp
   exact⟨C,k1,k2,k3,k4,λi j a hi ha=>by
    obtain⟨v,f1,f2⟩:=k5 i j a hi ha
    exact⟨v,f1,f2.plain (x':=(Ctx.ownS w x.fz s).bare) (λ_ _ _ e=>e) (R.enc_plain _ _ _ (Zbl ha))⟩,k6,k7,k8⟩,λ_=>hfc,λh=>by simp[Zde] at h,λh=>by simp[Zde] at h⟩
 ·cases i with
  |zero=>
   have e2:s1={s with ver:=0}:=by simpa [Ctx.ownS,nth] using h1.symm
   subst e2;exact⟨.inr ⟨cap,h2⟩,λb=>by simp[Ctx.ownS,Zs]⟩
  |succ i=>simp[Ctx.ownS,nth] at h1
 ·cases i with
  |zero=>cases i' with
   |zero=>rfl
   |succ i=>simp[Ctx.ownS,nth] at h2
  |succ i=>simp[Ctx.ownS,nth] at h1
theorem ZV7 {m1:Mem} {w':World} {x2:Ctx} (hm:MK x m w) {g g1:Stg} (hg:nth m.Sg h=some g) (hs:nth x.S h=some s) {e:EqR g.r r} (hx:Ext (Ctx.ownS w x.fz s) x2) (hm1:MK x2 m1 w') (hst:Step (Ctx.ownS w x.fz s) w w') (hg1:nth m1.Sg 0=some g1) (hv:g1.ver=0) (e1:EqR g1.r r) (hT:g1.T=g.T) (hf:g1.fzn=false):
  MK {x with fz:=x2.fz} {m with Sg:=setN m.Sg h ⟨r,g.T,e1.slc.cast g1.l,g.ver,false,false,false,g.ub⟩} w'/\Ext x {x with fz:=x2.fz}/\Step x w w':=by
 have ho:=hm.stg h g s hg hs;obtain⟨s2,hs2,hle⟩:=hx.S 0 {s with ver:=0} rfl;have ho1:=hm1.stg 0 g1 s2 hg1 hs2;obtain⟨q1,q2,q3,q4⟩:=hle.same (by have:=ho1.ver;simp only;omega);simp only at q1 q2 q3 q4
 have hold:∀k,k<w.heap.size->(∀cap,s.blk≠some (k,cap))->w'.heap[k]? =w.heap[k]? :=λk hk hne=>hst.block k (by
  simp only[Ctx.ownS];rintro (h|⟨c,h⟩)
  ·omega
  ·exact hne c h)
 have hfz:∀b o,(∀cap,s.blk≠some (b,cap))->b<w.heap.size->x2.fz b o=x.fz b o:=by
  intro k o hne hk;cases h:x2.fz k o with
  |some v=>
   rcases hx.new k o v h with e|e
   ·exact e.symm
   ·simp only[Ctx.ownS] at e;rcases e with e|⟨c,e⟩
    ·omega
    ·exact absurd e (hne c)
  |none=>
   cases h':x.fz k o with
   |none=>rfl
   |some v=>rw[hx.fz k o v h'] at h;simp at h
 have hsame:setN x.S h s=x.S:=by
  rw[ZN];refine List.ext_getElem? λi=> ?_
  by_cases hi:h=i
  ·subst hi;rw[Yao (Z0 hs),<-Zm,hs]
  ·rw[Yac hi]
 have hok:StgOk {x with S:=setN x.S h s,fz:=x2.fz} ⟨r,g.T,e1.slc.cast g1.l,g.ver,false,false,false,g.ub⟩ s w':=by
  have hn:e1.slc.cast g1.l=e1.slc.cast g1.l:=rfl;have hlen1:g1.l.length=s.n:=by have:=ho1.n;omega
  have hlen:g.l.length=s.n:=ho.n.symm;have hub:=ho.ub;have hver:=ho.ver;have hw:s.w=r.wid:=by have:=ho.wd;cases e;exact this
  have hfc:=ho1.fzn hf;obtain⟨r1,T1,l1,v1,f1,ff1,lit1,ub1⟩:=g1;cases e1;simp only at hT hlen1;refine⟨hver,by simpa [EqR.slc,EqR.cast] using hlen1.symm,hw,λhb=> ?_,λp cap hp=> ?_,λ_=> ?_,λh=>by simp at h,λh=> ?_⟩
  ·have:=ho1.nil (by rw[q1];exact hb);exact⟨by omega,(ho.nil hb).2⟩
  ·obtain⟨C,k1,k2,k3,k4,k5,k6,k7,k8⟩:=ho1.row p cap (by rw[q1];exact hp);refine⟨C,by rw[<-hT];exact k1,k2,by omega,k4,λi j a hi ha=> ?_,?_,λo ho'=> ?_,λo _=>k8 o (by omega)⟩
   ·obtain⟨v,f1,f2⟩:=k5 i j a (by omega) ha;exact⟨v,f1,f2.plain (x':=Ctx.bare _) (λ_ _ _ e=>e) (R.enc_plain _ _ _ (Zbl ha))⟩
   ·have:s.fc=0:=by
     by_cases hg0:s.fc=0
     ·exact hg0
     ·exfalso;obtain⟨C0,j1,j2,j3,j4,j5,j6,j7,j8⟩:=ho.row p cap hp;have e7:=j7 0 (by omega);have hlt:p<w.heap.size:=Zh7 j1;have hc0:0<C0.length:=by rw[j2];have:s.fc<=s.n*g.r.wid:=j6;have h2:s.n*g.r.wid<=cap*g.r.wid:=YH _ j3;omega
      rw[Yi hc0] at e7;have:=hx.fz p 0 _ e7;rw[k8 0 (by omega)] at this;simp at this
    omega
   ·exfalso;obtain⟨C0,j1,j2,j3,j4,j5,j6,j7,j8⟩:=ho.row p cap hp;have e7:=j7 o ho';have hc0:o<C0.length:=by rw[j2];have:s.fc<=s.n*g.r.wid:=j6;have h2:s.n*g.r.wid<=cap*g.r.wid:=YH _ j3;omega
    rw[Yi hc0] at e7;have:=hx.fz p o _ e7;rw[k8 o (by omega)] at this;simp at this
  ·by_cases hb:s.blk=none
   ·exact (ho.nil hb).2
   ·obtain⟨⟨p,cap⟩,hp⟩:=Option.ne_none_iff_exists'.1 hb;obtain⟨C,k1,k2,k3,k4,k5,k6,k7,k8⟩:=ho1.row p cap (by rw[q1];exact hp);obtain⟨C0,j1,j2,j3,j4,j5,j6,j7,j8⟩:=ho.row p cap hp;by_cases hg0:s.fc=0
    ·exact hg0
    ·exfalso;have e7:=j7 0 (by omega);have hc0:0<C0.length:=by rw[j2];have:s.fc<=s.n*g.r.wid:=j6;have h2:s.n*g.r.wid<=cap*g.r.wid:=YH _ j3;omega
     rw[Yi hc0] at e7;have:=hx.fz p 0 _ e7;rw[k8 0 (by omega)] at this;simp at this
  ·have:=hub h;simp only[EqR.slc,EqR.cast];omega
 obtain⟨r1,r2⟩:=hm.setS (s':=s) (fz':=x2.fz) hg hs (SLe.refl s) hst.size hold hx.fz hfz hm1.fz (λp cap hp=>.inl ⟨cap,hp⟩) hok;rw[hsame] at r1 r2;refine⟨r1,r2,hst.os,hst.tape,hst.output,hst.size,λk hk=>hst.block k λe=>hk ?_⟩;rcases e with e|⟨c,e⟩
 ·exact hm.fresh k e
 ·exact (hm.sown h s k c hs e).1
def stE (r:R) (T:TypeId) (g0:FuncId) (ts:List Sh) (pre:List r.den×HL ts->Option Bool) (F:List r.den×HL ts->List r.den):En:=
 .tree λvs m=>match vs with
  | .w (.one (.tip h ver))::rest=>match ZaT m h ver with
   |some g=>match R.same g.r r,Nat.beq g.T T&& !g.fzn with
    |some e,true=>match cutF g0 rest with
     |some us=>match ZkI ts us with
      |some a=>.Lf (some {chk:=pre (e.slc.cast g.l,a),v:=.tup [],m:={m with Sg:=setN m.Sg h ⟨r,T,F (e.slc.cast g.l,a),g.ver,false,false,false,g.ub⟩},bd:=[],sd:=[h]})
      |none=>.Lf none
     |none=>.Lf none
    |_,_=>.Lf none
   |none=>.Lf none
  |_=>.Lf none
def Z15 (r:R) (T:TypeId) (q:Res):Option (List r.den):=match q.v with
 | .tup []=>match ZaT q.m 0 0 with
  |some g=>match R.same g.r r,Nat.beq g.T T&& !g.fzn with
   |some e,true=>some (e.slc.cast g.l)
   |_,_=>none
  |none=>none
 |_=>none
def evSt (E:Env) (fn:Func) (r:R) (T:TypeId) (g0:FuncId) (ts:List Sh) (a:List r.den×HL ts):RT (Option (List r.den)):=(ZM E fn (.w (.one (.tip 0 0))::(ZfT ts a.2++[cloV g0])) ⟨[],[Zde r T a.1]⟩).map fun
 |some q=>Z15 r T q
 |none=>none
theorem Zs1 (r:R) (T:TypeId) (g0:FuncId) (ts:List Sh) (pre:List r.den×HL ts->Option Bool) (F:List r.den×HL ts->List r.den) (vs:List V) (m:Mem):
  match stE r T g0 ts pre F with
  | .tree g=>(g vs m).All (λq=>∀p,q=some p->KeepC m p)
  |_=>False:=by
 simp only[stE];split
 ·rename_i h ver rest;split
  ·rename_i g hg;obtain⟨hg,hgv⟩:=ZW hg;split
   ·split
    ·split
     ·intro q hq;simp only[oinj] at hq;subst hq;refine⟨Ye _,λb l hl=>⟨l,hl,rfl,λ_ _=>rfl⟩,by simp[ZN],λi g1 h1=> ?_⟩;by_cases hi:h=i
      ·subst hi;rw[hg] at h1;simp only[oinj] at h1;subst h1;exact⟨_,ZK hg,Ye _,λh=>by simp[memN] at h⟩
      ·exact⟨g1,by rw[ZG hi];exact h1,Ye _,λ_=>rfl⟩
     ·intro q hq;simp at hq
    ·intro q hq;simp at hq
   ·intro q hq;simp at hq
  ·intro q hq;simp at hq
 ·intro q hq;simp at hq
variable {T:TypeId} {g0:FuncId} {ts:List Sh}
theorem ZWE {E:Env} (hE:Zbw E) {f:FuncId} {fn:Func} {c:Code} (hf:E.P.funcs[f]? =some fn) (hb:fn.body=some c) (hl:Z1 E c) (hcall:ZR E.P f)
 {pre:List r.den×HL ts->Option Bool} {F:List r.den×HL ts->List r.den} (h:∀a,(R.sl r).ok a.1->okHL ts a.2->pre a≠some false->(evSt E fn r T g0 ts a).val=some (F a)):
  Za E.P f (stE r T g0 ts pre F):=by
 refine⟨hcall,λvs m=>Zs1 r T g0 ts pre F vs m,λvs m q hp hc x w args hm hv=> ?_⟩;simp only at hp;split at hp
 ·rename_i h0 ver rest;split at hp
  ·rename_i g hg;obtain⟨hg,hgv⟩:=ZW hg;split at hp
   ·rename_i _ _ e he hT;simp only[Yb,Yr,YK] at hT;obtain⟨hT,hfz⟩:=hT;subst hT;split at hp
    ·rename_i us hus;split at hp
     ·rename_i a ha;simp only[RT.val,oinj] at hp;subst hp
      match args,hv with
      |v::args,hv=>
       obtain⟨s,hs⟩:=hm.S_of hg;have ho:=hm.stg h0 g s hg hs;have hv1:RA x (.tip h0 ver) v:=hv.1;have hve:v=tipVal s:=by
        cases hv1 with
        |tip _ _ _ s' _ hs' hv' hval hat=>
         rw[hs] at hs';simp only[oinj] at hs';subst hs';exact hval (by rw[ho.ver,hgv])
       subst hve;obtain⟨args',u,rfl,hv2,hu⟩:=ZwL hus hv.2;obtain⟨hargs,hin⟩:=ZbX ha hv2;have hlok:(R.sl r).ok (e.slc.cast g.l):=ZX4 e.slc (ZmJ ho);have h1:=h (e.slc.cast g.l,a) hlok hin hc;unfold evSt at h1;rw[RT.val_map] at h1;split at h1
       ·rename_i q hq;have hargs':RVs (Ctx.ownS w x.fz s) (.w (.one (.tip 0 0))::(ZfT ts a++[cloV g0])) (tipVal s::(args'++[u])):=
         ⟨RA.tip _ _ _ {s with ver:=0} _ rfl (Ye _) (λ_=>rfl) (by unfold tipVal;split<;>trivial),ZwY (Zc5 (Zct (x:=x) (x':=Ctx.ownS w x.fz s) (λ_ _ _ e=>e) ts a (Zbp hargs))) (ZS0 hu)⟩
        have h2:=Zba hE hf hb hl (Z0d hm hg hs (r:=r) (e:=e) hfz) hargs' hq;refine h2.mono λe' w' hres=> ?_
        obtain⟨val,x1,rfl,hrv,hm1,hext,hst⟩:=hres;unfold Z15 at h1;split at h1
        ·rename_i hqv;split at h1
         ·rename_i g1 hg1;obtain⟨hg1,hg1v⟩:=ZW hg1;split at h1
          ·rename_i _ _ e1 he1 hT1;simp only[Yb,Yr,YK] at hT1;simp only[oinj] at h1;obtain⟨q1,q2,q3⟩:=ZV7 hm hg hs (e:=e) hext hm1 hst hg1 hg1v e1 hT1.1 hT1.2;rw[hqv] at hrv;rw[<-h1];exact⟨val,{x with fz:=x1.fz},rfl,by obtain⟨C,e,hC⟩:=hrv;exact⟨C,e,by cases C<;>first|trivial|exact hC.elim⟩,q1,q2,q3⟩
          ·simp at h1
         ·simp at h1
        ·simp at h1
       ·simp at h1
      |[],hv=>exact hv.elim
     ·simp[RT.val] at hp
    ·simp[RT.val] at hp
   ·simp[RT.val] at hp
  ·simp[RT.val] at hp
 ·simp[RT.val] at hp
section
variable {P:Program} {l:List (FuncId×En)} {ol:List (Nat×Ora)} {n k:Nat} {f:FuncId} {fn:Func}
theorem ZmL (hl:Zc3 P l) (hf:P.funcs[f]? =some fn) (hb:fn.body.isSome=true) (hn:ZbH (ZL (fn.body.getD .skip))=true) (hcall:ZR P f) (hol:AllL (envX P l ol n k) fn.body ol)
 {t:List r.den×HL ts->RT (Option (List r.den))} (h:∀a,evSt (envX P l ol n k) fn r T g0 ts a=t a):
  Za P f (stE r T g0 ts (λa=>okO (t a).val) (λa=>getO [] (t a).val)):=by obtain⟨c,hc,hlo⟩:=ZcT hb hn hol;exact ZWE (E:=envX P l ol n k) (Zbv hl ol n k) hf hc hlo hcall λa _ _ hp=>by rw[h a];exact Zfo hp
theorem Z1j (hl:Zc3 P l) (hf:P.funcs[f]? =some fn) (hb:fn.body.isSome=true) (hn:ZbH (ZL (fn.body.getD .skip))=true) (hcall:ZR P f) (hol:AllL (envX P l ol n k) fn.body ol)
 {t:List r.den×HL ts->RT (Option (List r.den))} {pre:List r.den×HL ts->Option Bool} {F:List r.den×HL ts->List r.den} (h:∀a,evSt (envX P l ol n k) fn r T g0 ts a=t a) (hF:∀a,(R.sl r).ok a.1->okHL ts a.2->pre a≠some false->(t a).val=some (F a)):Za P f (stE r T g0 ts pre F):=by obtain⟨c,hc,hlo⟩:=ZcT hb hn hol;exact ZWE (E:=envX P l ol n k) (Zbv hl ol n k) hf hc hlo hcall λa h1 h2 h3=>by rw[h a];exact hF a h1 h2 h3
end
theorem Za.st_congr {P:Program} {f:FuncId} {pre pre':List r.den×HL ts->Option Bool} {F G:List r.den×HL ts->List r.den} (h:Za P f (stE r T g0 ts pre F)) (hp:∀a,(R.sl r).ok a.1->okHL ts a.2->pre' a≠some false->pre a≠some false/\F a=G a):Za P f (stE r T g0 ts pre' G):=by
 refine⟨h.1,λvs m=>Zs1 r T g0 ts pre' G vs m,λvs m q hq hc x w args hm hv=> ?_⟩;simp only at hq;split at hq
 ·rename_i h0 ver rest;split at hq
  ·rename_i g hg;split at hq
   ·rename_i _ _ e he hT;split at hq
    ·rename_i us hus;split at hq
     ·rename_i a ha;simp only[RT.val,oinj] at hq;subst hq
      match args,hv with
      |v::args,hv=>
       obtain⟨hg',_⟩:=ZW hg;obtain⟨s,hs⟩:=hm.S_of hg';obtain⟨args',u,rfl,hv2,hu⟩:=ZwL hus hv.2;obtain⟨hargs,hin⟩:=ZbX ha hv2;have hlok:(R.sl r).ok (e.slc.cast g.l):=ZX4 e.slc (ZmJ (hm.stg h0 g s hg' hs));obtain⟨k1,k2⟩:=hp (e.slc.cast g.l,a) hlok hin hc;have key:=h.2.2 (.w (.one (.tip h0 ver))::rest) m {chk:=pre (e.slc.cast g.l,a),v:=.tup [],m:={m with Sg:=setN m.Sg h0 ⟨r,T,F (e.slc.cast g.l,a),g.ver,false,false,false,g.ub⟩},bd:=[],sd:=[h0]} (by simp only[hg,he,hT,hus,ha,RT.val]) k1 x w (v::(args'++[u])) hm hv;simp only[k2] at key;exact key
      |[],hv=>exact hv.elim
     ·simp[RT.val] at hq
    ·simp[RT.val] at hq
   ·simp[RT.val] at hq
  ·simp[RT.val] at hq
 ·simp[RT.val] at hq
theorem Za.st_never {P:Program} {f:FuncId} (hcall:ZR P f) {pre:List r.den×HL ts->Option Bool} {F:List r.den×HL ts->List r.den} (hp:∀a,pre a=some false):Za P f (stE r T g0 ts pre F):=by
 refine⟨hcall,λvs m=>Zs1 r T g0 ts pre F vs m,λvs m q hq hc=> ?_⟩;exfalso;simp only at hq;split at hq
 ·split at hq
  ·split at hq
   ·split at hq
    ·split at hq
     ·simp only[RT.val,oinj] at hq;subst hq;exact hc (hp _)
     ·simp[RT.val] at hq
    ·simp[RT.val] at hq
   ·simp[RT.val] at hq
  ·simp[RT.val] at hq
 ·simp[RT.val] at hq
