import Derived.Test.YteaflmalcclnoaaGreatDoorS3D
import Derived.Laws.IdiomCopy
import Derived.RangeFuncNested
import Derived.OrdersIn
import Derived.Shelf.Strings.SplitCore
import Derived.Shelf.Strings.Search3
import Derived.Shelf.Strings.Count
import Derived.Shelf.Small.Strs
import Derived.Lib.SplitLaws
import Derived.Lib.IndexBytes
set_option linter.unusedVariables false
set_option linter.unusedSimpArgs false
namespace Go.S3
variable {x:Ctx} {r:R} {v:Value}
theorem RA.nil_or {lit full nn:Bool} {l:List r.den} (h:RA x (.lst r lit full nn l) v):(l=[]/\RA x .nilsl v)\/RA x (.lst r lit full true l) v:=by
 cases h with
 |lst0 _ _ _ _ _ _ a cap h hf hn hz=>
  cases a with
  |some a=>exact .inr (.lst0 x r lit full true _ (some a) cap h hf (λ_=>rfl) hz)
  |none=>rw[hz rfl];exact .inl ⟨h,.nilsl x⟩
 |lst _ _ _ _ _ _ p o cap c h hf hcap hml hz hr=>exact .inr (.lst x r lit full true _ p o cap c h hf hcap hml hz hr)
def evOf (E:Env) (fn:Func) (rs:Rs) (vs:List V):RT (Option rs.den):=(Zo E fn vs ZdF).map fun
 |some r=>rs.out r.m r.v
 |none=>none
section
variable {P:Program} {l:List (FuncId×En)} {ol:List (Nat×Ora)} {n k:Nat} {f:FuncId} {fn:Func}
theorem ZRs (hl:ZdM P l) (hf:P.funcs[f]? =some fn) (hb:fn.body.isSome=true) (hn:ZbH (ZC (fn.body.getD .skip))=true) (hcall:Zy P f) (hol:AllL (envX P l ol n k) fn.body ol)
 {rs:Rs} {pre:List r.den->Bool} {F:List r.den->rs.den} (h0:(evOf (envX P l ol n k) fn rs [.w (.one .nilsl)]).val=some (F [])) (h1:∀a,pre a=true->(evOf (envX P l ol n k) fn rs [.w (.one (.lst r false false true a))]).val=some (F a)):
  Za P f (Zf [.one (.sl r)] rs (λa=>some (pre a)) F):=by
 obtain⟨c,hc,hlo⟩:=ZcG hb hn hol;have hE:=ZaT hl ol n k;refine⟨hcall,λvs chk v hp hck x m w args hm hv=> ?_⟩;simp only at hp;split at hp
 ·rename_i a ha;simp only[oinj,pinj] at hp;obtain⟨rfl,rfl⟩:=hp;have hpre:pre a=true:=by
   cases h:pre a with
   |true=>rfl
   |false=>rw[h] at hck;exact absurd rfl hck
  obtain⟨hargs,hin⟩:=Zax ha hv;have hle:FzLe x (Ctx.own0 w x.fz):=λ_ _ _ e=>e
  have hargs':RVs (Ctx.own0 w x.fz) (Zdj [.one (.sl r)] a) args:=Zch (ZbJ hle [.one (.sl r)] a (ZaD hargs));have key:∃us,RVs (Ctx.own0 w x.fz) us args/\(evOf (envX P l ol n k) fn rs us).val=some (F a):=by
   match args,hargs' with
   |[u],hu=>
    have hu1:RA (Ctx.own0 w x.fz) (.lst r false false false a) u:=hu.1;rcases hu1.nil_or with ⟨rfl,h⟩|h
    ·exact⟨[.w (.one .nilsl)],⟨h,Tv⟩,h0⟩
    ·exact⟨[.w (.one (.lst r false false true a))],⟨h,Tv⟩,h1 a hpre⟩
  obtain⟨us,hus,h2⟩:=key;unfold evOf at h2;rw[RT.val_map] at h2;split at h2
  ·rename_i q hr;have h3:=ZaC hE hf hc hlo (Zij hm) hus hr;refine h3.mono λe w' hres=> ?_
   obtain⟨val,x1,rfl,hrv,hm1,hext,hst⟩:=hres;obtain⟨x2,m2,hm2,hext2,hrv2⟩:=Rs.out_ok h2 hm1 hrv;obtain⟨h3,h4⟩:=Ziu hm (hext.trans hext2) hm2.fz (Zab hst).1;exact⟨val,{x with fz:=x2.fz},rfl,Rs.enc_ctx (x:=x2) (x':={x with fz:=x2.fz}) (λ_ _ _ e=>e) rs _ hrv2,h3,h4,Zab hst⟩
  ·simp at h2
 ·simp at hp
end
abbrev ZhZ (r:R) (T:TypeId) (l:List r.den):Stg:=⟨r,T,l,0,false,false,false,0⟩
def Zf3 (r:R) (T:TypeId) (m:Mem) (chk:Option Bool) (l:List r.den):Res:=
 {chk:=chk,v:=.w (.one (.tip (len m.Sg) 0)),m:={m with Sg:=m.Sg++[⟨r,T,l,0,false,false,false,0⟩]},bd:=[],sd:=[]}
def Zrj (r:R) (T:TypeId):En:=.tree λvs m=>match vs with
 |[.w (.one (.lst r' _ _ _ l))]=>match R.same r' r with
  |some e=>.Lf (some (Zf3 r T m (some (Nat.ble l.length most)) (e.slc.cast l)))
  |none=>.Lf none
 |[.w (.one .nilsl)]=>.Lf (some (Zf3 r T m none []))
 |_=>.Lf none
theorem ZjK (r:R) (T:TypeId) (m:Mem) (chk:Option Bool) (l:List r.den):KeepC m (Zf3 r T m chk l):=
 ⟨Ye _,λb l hl=>⟨l,hl,rfl,λ_ _=>rfl⟩,by simp[Zf3],λi g hg=>⟨g,by
  show nth (m.Sg++[_]) i=some g
  rw[Zi,Yp (ZZ hg),<-Zi];exact hg,Ye _,λ_=>rfl⟩⟩
theorem ZCe (r:R) (T:TypeId) (vs:List V) (m:Mem):match Zrj r T with
  | .tree g=>(g vs m).All (λq=>∀p,q=some p->KeepC m p)
  |_=>False:=by
 simp only[Zrj];split
 ·split
  ·intro q hq;simp only[oinj] at hq;subst hq;exact ZjK ..
  ·intro q hq;simp at hq
 ·intro q hq;simp only[oinj] at hq;subst hq;exact ZjK ..
 ·intro q hq;simp at hq
variable {m:Mem} {w:World}
theorem ZWp (hm:MK x m w) (r:R) (T:TypeId):∃x',MK x' {m with Sg:=m.Sg++[ZhZ r T []]} w/\Ext x x'/\RA x' (.tip (len m.Sg) 0) (.slice none 0 0):=by
 have h1:=hm.addS (g:=ZhZ r T []) (s:=Zgh r) (ZI.refl w) (λp cap h=>by simp[Zgh] at h)
   ⟨rfl,rfl,rfl,λ_=>⟨rfl,rfl⟩,λp cap h=>by simp[Zgh] at h,λ_=>rfl,λh=>by simp[ZhZ] at h,λh=>by simp[ZhZ] at h⟩
 refine⟨_,h1.1,h1.2,.tip _ _ _ (Zgh r) _ ?_ (Ye _) (λ_=>rfl) trivial⟩;rw[Zi,Zad,<-hm.sl];simp
variable {E:Env} {c:Code} {T:TypeId}
theorem ZSu (hE:Zbx E) {f:FuncId} {fn:Func} (hf:E.P.funcs[f]? =some fn) (hb:fn.body=some c) (hl:Z3 E c) (hcall:Zy E.P f) (h0:∀m,∃q,(Zo E fn [.w (.one .nilsl)] m).val=some q/\q.v=.w (.one .nilsl)/\q.m=m) (h1:∀m l,Nat.ble l.length most=true->∃q,(Zo E fn [.w (.one (.lst r false false true l))] m).val=some q/\q.v=.w (.one (.tip (len m.Sg) 0))/\q.m={m with Sg:=m.Sg++[ZhZ r T l]}):
  Za E.P f (Zrj r T):=by
 have nilc:∀x m w v,MK x m w->RA x .nilsl v->Calls E.P f [v].toArray w (λe w'=>∃val x',e=.returned val/\RV x' (Zf3 r T m none []).v val/\MK x' (Zf3 r T m none []).m w'/\Ext x x'/\Step x w w'):=by
  intro x m w v hm hv;obtain⟨q,e1,e2,e3⟩:=h0 m;refine (ZaC hE hf hb hl hm (vs:=[.w (.one .nilsl)]) (args:=[v]) ⟨hv,Tv⟩ e1).mono λe w' hres=> ?_
  obtain⟨val,x1,rfl,hrv,hm1,hext,hst⟩:=hres;rw[e3] at hm1;rw[e2] at hrv;obtain⟨x2,a1,a2,a3⟩:=ZWp hm1 r T;cases hrv;exact⟨_,x2,rfl,a3,a1,hext.trans a2,hst⟩
 refine⟨hcall,λvs m=>ZCe r T vs m,λvs m q hq hc x w args hm hv=> ?_⟩;simp only at hq;split at hq
 ·rename_i r' lit full nn l;split at hq
  ·rename_i e he;simp only[RT.val,oinj] at hq;subst hq;cases e;have hle:Nat.ble l.length most=true:=by
    cases h:Nat.ble l.length most with
    |true=>rfl
    |false=>simp[Zf3,h] at hc
   match args,hv with
   |[v],hv=>
    have hv1:RA x (.lst r lit full nn l) v:=hv.1;rcases hv1.nil_or with ⟨rfl,h⟩|h
    ·exact nilc x m w v hm h
    ·obtain⟨q,e1,e2,e3⟩:=h1 m l hle;refine (ZaC hE hf hb hl hm (vs:=[.w (.one (.lst r false false true l))]) (args:=[v]) ⟨h.lst_weak (λe=>by simp at e) (λe=>rfl),Tv⟩ e1).mono λe w' hres=> ?_
     obtain⟨val,x1,rfl,hrv,hm1,hext,hst⟩:=hres;rw[e3] at hm1;rw[e2] at hrv;exact⟨val,x1,rfl,hrv,hm1,hext,hst⟩
  ·simp[RT.val] at hq
 ·simp only[RT.val,oinj] at hq;subst hq
  match args,hv with
  |[v],hv=>exact nilc x m w v hm hv.1
 ·simp[RT.val] at hq
theorem Zri {P:Program} {l:List (FuncId×En)} {ol:List (Nat×Ora)} {n k:Nat} {f:FuncId} {fn:Func} (hl:ZdM P l) (hf:P.funcs[f]? =some fn) (hb:fn.body.isSome=true) (hn:ZbH (ZC (fn.body.getD .skip))=true) (hcall:Zy P f) (hol:AllL (envX P l ol n k) fn.body ol) (h0:∀m,∃q,(Zo (envX P l ol n k) fn [.w (.one .nilsl)] m).val=some q/\q.v=.w (.one .nilsl)/\q.m=m) (h1:∀m l',Nat.ble l'.length most=true->∃q,(Zo (envX P l ol n k) fn [.w (.one (.lst r false false true l'))] m).val=some q/\q.v=.w (.one (.tip (len m.Sg) 0))/\q.m={m with Sg:=m.Sg++[ZhZ r T l']}):
  Za P f (Zrj r T):=by obtain⟨c,hc,hlo⟩:=ZcG hb hn hol;exact ZSu (E:=envX P l ol n k) (ZaT hl ol n k) hf hc hlo hcall h0 h1
section
variable {P:Program} {l:List (FuncId×En)} {ol:List (Nat×Ora)} {n k:Nat} {f:FuncId} {fn:Func}
end
def ZWL (g:FuncId):V->Bool
 | .w (.one (.clo f []))=>Nat.beq f g
 |_=>false
def cutF (g:FuncId):List V->Option (List V)
 |[]=>none
 |v::r=>match Zut r with
  |true=>match ZWL g v with
   |true=>some []
   |false=>none
  |false=>match cutF g r with
   |some l=>some (v::l)
   |none=>none
def cloV (g:FuncId):V:=.w (.one (.clo g []))
theorem ZT7 {a b:R} (e:EqR a b) {x:a.den} (h:a.ok x):b.ok (e.cast x):=by cases e;exact h
theorem ZRJ {g:FuncId} {v:V} (h:ZWL g v=true):v=cloV g:=by
 unfold ZWL at h;split at h
 ·simp only[Yt] at h;subst h;rfl
 ·simp at h
theorem ZOW {x':Ctx} {g:FuncId} (h:RA x (.clo g []) v):RA x' (.clo g []) v:=by
 cases h with
 |clo _ _ _ cs c hl hc hr=>exact .clo _ _ _ cs c hl (λj a h=>by simp[Zn] at h) (λj a h=>by simp[Zn] at h)
theorem ZuQ {x:Ctx} {g:FuncId}:∀{vs us:List V} {args:List Value},cutF g vs=some us->RVs x vs args->∃args' v,args=args'++[v]/\RVs x us args'/\RA x (.clo g []) v
 |[],us,args,h,_=>by simp[cutF] at h
 |v::r,us,args,h,hv=>by
  match args,hv with
  |u::args,hv=>
   simp only[cutF] at h;split at h
   ·rename_i hn;split at h
    ·rename_i hc;simp only[oinj] at h;subst h;have hr:r=[]:=by cases r<;>simp_all [Zut]
     subst hr;have:=ZRJ hc;subst this
     match args,hv.2 with
     |[],_=>exact⟨[],u,rfl,trivial,hv.1⟩
    ·simp at h
   ·split at h
    ·rename_i l hl;simp only[oinj] at h;subst h;obtain⟨args',w,rfl,h1,h2⟩:=ZuQ hl hv.2;exact⟨u::args',w,rfl,⟨hv.1,h1⟩,h2⟩
    ·simp at h
theorem Zu1 {x:Ctx}:∀{us:List V} {args:List Value} {a:V} {v:Value},RVs x us args->RV x a v->RVs x (us++[a]) (args++[v])
 |[],[],_,_,_,h=>⟨h,Tv⟩
 |_::_,_::_,_,_,h,k=>⟨h.1,Zu1 h.2 k⟩
 |[],_::_,_,_,h,_=>h.elim
 |_::_,[],_,_,h,_=>h.elim
def ZdI (r:R) (T:TypeId) (l:List r.den):Stg:=⟨r,T,l,0,false,false,false,0⟩
def Ctx.ownS (w:World) (fz:Nat->Nat->Option Value) (s:SI):Ctx:={own:=λk=>w.heap.size<=k\/∃cap,s.blk=some (k,cap),M:=[],S:=[{s with ver:=0}],fz:=fz}
variable {h:Nat} {g:Stg} {s:SI}
theorem ZWg (hm:MK x m w) (hg:nth m.Sg h=some g) (hs:nth x.S h=some s) {e:EqR g.r r} (hf:g.fzn=false):
  MK (Ctx.ownS w x.fz s) ⟨[],[ZdI r g.T (e.slc.cast g.l)]⟩ w:=by
 have ho:=hm.stg h g s hg hs;refine⟨λk hk=>.inl hk,hm.fz,rfl,λb l p h=>by simp[Zn] at h,λb p h=>by simp[Ctx.ownS,Zn] at h,λb b' p h=>by simp[Ctx.ownS,Zn] at h,rfl,λi g1 s1 h1 h2=> ?_,λi s1 p cap h1 h2=> ?_,λi i' s1 s2 p c1 c2 h1 h2 _ _=> ?_⟩
 ·have e1:i=0/\g1=ZdI r g.T (e.slc.cast g.l):=by cases i with
   |zero=>exact⟨rfl,by simpa [nth] using h1.symm⟩
   |succ i=>simp[nth] at h1
  obtain⟨rfl,rfl⟩:=e1;have e2:s1={s with ver:=0}:=by simpa [Ctx.ownS,nth] using h2.symm
  subst e2;have hfc:=ho.fzn hf;obtain⟨gr,gT,gl,gv,gf,gff,glit,gub⟩:=g;cases e
  exact⟨rfl,ho.n,ho.wd,ho.nil,λp cap hp=>by
   obtain⟨C,k1,k2,k3,k4,k5,k6,k7,k8⟩:=ho.row p cap hp
   exact⟨C,k1,k2,k3,k4,λi j a hi ha=>by
    obtain⟨v,f1,f2⟩:=k5 i j a hi ha
    exact⟨v,f1,f2.plain (x':=(Ctx.ownS w x.fz s).bare) (λ_ _ _ e=>e) (R.enc_plain _ _ _ (Zbd ha))⟩,k6,k7,k8⟩,λ_=>hfc,λh=>by simp[ZdI] at h,λh=>by simp[ZdI] at h⟩
 ·cases i with
  |zero=>
   have e2:s1={s with ver:=0}:=by simpa [Ctx.ownS,nth] using h1.symm
   subst e2;exact⟨.inr ⟨cap,h2⟩,λb=>by simp[Ctx.ownS,Zn]⟩
  |succ i=>simp[Ctx.ownS,nth] at h1
 ·cases i with
  |zero=>cases i' with
   |zero=>rfl
   |succ i=>simp[Ctx.ownS,nth] at h2
  |succ i=>simp[Ctx.ownS,nth] at h1
variable {w':World}
theorem ZSC {m1:Mem} {x2:Ctx} (hm:MK x m w) {g1:Stg} (hg:nth m.Sg h=some g) (hs:nth x.S h=some s) {e:EqR g.r r} (hx:Ext (Ctx.ownS w x.fz s) x2) (hm1:MK x2 m1 w') (hst:Step (Ctx.ownS w x.fz s) w w') (hg1:nth m1.Sg 0=some g1) (hv:g1.ver=0) (e1:EqR g1.r r) (hT:g1.T=g.T) (hf:g1.fzn=false):
  MK {x with fz:=x2.fz} {m with Sg:=setN m.Sg h ⟨r,g.T,e1.slc.cast g1.l,g.ver,false,false,false,g.ub⟩} w'/\Ext x {x with fz:=x2.fz}/\Step x w w':=by
 have ho:=hm.stg h g s hg hs;obtain⟨s2,hs2,hle⟩:=hx.S 0 {s with ver:=0} rfl;have ho1:=hm1.stg 0 g1 s2 hg1 hs2;obtain⟨q1,q2,q3,q4⟩:=hle.same (by have:=ho1.ver;simp only;omega);simp only at q1 q2 q3 q4
 have hold:∀k,k<w.heap.size->(∀cap,s.blk≠some (k,cap))->w'.heap[k]? =w.heap[k]? :=λk hk hne=>hst.block k (by
  simp only[Ctx.ownS];rintro (h|⟨c,h⟩)
  ·omega
  ·exact hne c h)
 have hfz:∀b o,(∀cap,s.blk≠some (b,cap))->b<w.heap.size->x2.fz b o=x.fz b o:=by
  intro k o hne hk;cases h:x2.fz k o with
  |some v=>
   rcases hx.new k o v h with e|e
   ·exact e.symm
   ·simp only[Ctx.ownS] at e;rcases e with e|⟨c,e⟩
    ·omega
    ·exact absurd e (hne c)
  |none=>
   cases h':x.fz k o with
   |none=>rfl
   |some v=>rw[hx.fz k o v h'] at h;simp at h
 have hsame:setN x.S h s=x.S:=by
  rw[ZH];refine List.ext_getElem? λi=> ?_
  by_cases hi:h=i
  ·subst hi;rw[Yay (ZZ hs),<-Zi,hs]
  ·rw[Yao hi]
 have hok:StgOk {x with S:=setN x.S h s,fz:=x2.fz} ⟨r,g.T,e1.slc.cast g1.l,g.ver,false,false,false,g.ub⟩ s w':=by
  have hn:e1.slc.cast g1.l=e1.slc.cast g1.l:=rfl;have hlen1:g1.l.length=s.n:=by have:=ho1.n;omega
  have hlen:g.l.length=s.n:=ho.n.symm;have hub:=ho.ub;have hver:=ho.ver;have hw:s.w=r.wid:=by have:=ho.wd;cases e;exact this
  have hfc:=ho1.fzn hf;obtain⟨r1,T1,l1,v1,f1,ff1,lit1,ub1⟩:=g1;cases e1;simp only at hT hlen1;refine⟨hver,by simpa [EqR.slc,EqR.cast] using hlen1.symm,hw,λhb=> ?_,λp cap hp=> ?_,λ_=> ?_,λh=>by simp at h,λh=> ?_⟩
  ·have:=ho1.nil (by rw[q1];exact hb);exact⟨by omega,(ho.nil hb).2⟩
  ·obtain⟨C,k1,k2,k3,k4,k5,k6,k7,k8⟩:=ho1.row p cap (by rw[q1];exact hp);refine⟨C,by rw[<-hT];exact k1,k2,by omega,k4,λi j a hi ha=> ?_,?_,λo ho'=> ?_,λo _=>k8 o (by omega)⟩
   ·obtain⟨v,f1,f2⟩:=k5 i j a (by omega) ha;exact⟨v,f1,f2.plain (x':=Ctx.bare _) (λ_ _ _ e=>e) (R.enc_plain _ _ _ (Zbd ha))⟩
   ·have:s.fc=0:=by
     by_cases hg0:s.fc=0
     ·exact hg0
     ·exfalso;obtain⟨C0,j1,j2,j3,j4,j5,j6,j7,j8⟩:=ho.row p cap hp;have e7:=j7 0 (by omega);have hlt:p<w.heap.size:=Zin j1;have hc0:0<C0.length:=by rw[j2];have:s.fc<=s.n*g.r.wid:=j6;have h2:s.n*g.r.wid<=cap*g.r.wid:=YS _ j3;omega
      rw[Yg hc0] at e7;have:=hx.fz p 0 _ e7;rw[k8 0 (by omega)] at this;simp at this
    omega
   ·exfalso;obtain⟨C0,j1,j2,j3,j4,j5,j6,j7,j8⟩:=ho.row p cap hp;have e7:=j7 o ho';have hc0:o<C0.length:=by rw[j2];have:s.fc<=s.n*g.r.wid:=j6;have h2:s.n*g.r.wid<=cap*g.r.wid:=YS _ j3;omega
    rw[Yg hc0] at e7;have:=hx.fz p o _ e7;rw[k8 o (by omega)] at this;simp at this
  ·by_cases hb:s.blk=none
   ·exact (ho.nil hb).2
   ·obtain⟨⟨p,cap⟩,hp⟩:=Option.ne_none_iff_exists'.1 hb;obtain⟨C,k1,k2,k3,k4,k5,k6,k7,k8⟩:=ho1.row p cap (by rw[q1];exact hp);obtain⟨C0,j1,j2,j3,j4,j5,j6,j7,j8⟩:=ho.row p cap hp;by_cases hg0:s.fc=0
    ·exact hg0
    ·exfalso;have e7:=j7 0 (by omega);have hc0:0<C0.length:=by rw[j2];have:s.fc<=s.n*g.r.wid:=j6;have h2:s.n*g.r.wid<=cap*g.r.wid:=YS _ j3;omega
     rw[Yg hc0] at e7;have:=hx.fz p 0 _ e7;rw[k8 0 (by omega)] at this;simp at this
  ·have:=hub h;simp only[EqR.slc,EqR.cast];omega
 obtain⟨r1,r2⟩:=hm.setS (s':=s) (fz':=x2.fz) hg hs (SLe.refl s) hst.size hold hx.fz hfz hm1.fz (λp cap hp=>.inl ⟨cap,hp⟩) hok;rw[hsame] at r1 r2;refine⟨r1,r2,hst.os,hst.tape,hst.output,hst.size,λk hk=>hst.block k λe=>hk ?_⟩;rcases e with e|⟨c,e⟩
 ·exact hm.fresh k e
 ·exact (hm.sown h s k c hs e).1
def stE (r:R) (T:TypeId) (g0:FuncId) (ts:List Sh) (pre:List r.den×HL ts->Option Bool) (F:List r.den×HL ts->List r.den):En:=
 .tree λvs m=>match vs with
  | .w (.one (.tip h ver))::rest=>match ZaY m h ver with
   |some g=>match R.same g.r r,Nat.beq g.T T&& !g.fzn with
    |some e,true=>match cutF g0 rest with
     |some us=>match Zip ts us with
      |some a=>.Lf (some {chk:=pre (e.slc.cast g.l,a),v:=.tup [],m:={m with Sg:=setN m.Sg h ⟨r,T,F (e.slc.cast g.l,a),g.ver,false,false,false,g.ub⟩},bd:=[],sd:=[h]})
      |none=>.Lf none
     |none=>.Lf none
    |_,_=>.Lf none
   |none=>.Lf none
  |_=>.Lf none
def ZYE (r:R) (T:TypeId) (q:Res):Option (List r.den):=match q.v with
 | .tup []=>match ZaY q.m 0 0 with
  |some g=>match R.same g.r r,Nat.beq g.T T&& !g.fzn with
   |some e,true=>some (e.slc.cast g.l)
   |_,_=>none
  |none=>none
 |_=>none
def evSt (E:Env) (fn:Func) (r:R) (T:TypeId) (g0:FuncId) (ts:List Sh) (a:List r.den×HL ts):RT (Option (List r.den)):=(Zo E fn (.w (.one (.tip 0 0))::(Zdj ts a.2++[cloV g0])) ⟨[],[ZdI r T a.1]⟩).map fun
 |some q=>ZYE r T q
 |none=>none
theorem ZrK (r:R) (T:TypeId) (g0:FuncId) (ts:List Sh) (pre:List r.den×HL ts->Option Bool) (F:List r.den×HL ts->List r.den) (vs:List V) (m:Mem):
  match stE r T g0 ts pre F with
  | .tree g=>(g vs m).All (λq=>∀p,q=some p->KeepC m p)
  |_=>False:=by
 simp only[stE];split
 ·rename_i h ver rest;split
  ·rename_i g hg;obtain⟨hg,hgv⟩:=ZR hg;split
   ·split
    ·split
     ·intro q hq;simp only[oinj] at hq;subst hq;refine⟨Ye _,λb l hl=>⟨l,hl,rfl,λ_ _=>rfl⟩,by simp[ZH],λi g1 h1=> ?_⟩;by_cases hi:h=i
      ·subst hi;rw[hg] at h1;simp only[oinj] at h1;subst h1;exact⟨_,ZE hg,Ye _,λh=>by simp[memN] at h⟩
      ·exact⟨g1,by rw[ZB hi];exact h1,Ye _,λ_=>rfl⟩
     ·intro q hq;simp at hq
    ·intro q hq;simp at hq
   ·intro q hq;simp at hq
  ·intro q hq;simp at hq
 ·intro q hq;simp at hq
variable {g0:FuncId} {ts:List Sh}
theorem ZSV (hE:Zbx E) {f:FuncId} {fn:Func} (hf:E.P.funcs[f]? =some fn) (hb:fn.body=some c) (hl:Z3 E c) (hcall:Zy E.P f)
 {pre:List r.den×HL ts->Option Bool} {F:List r.den×HL ts->List r.den} (h:∀a,(R.sl r).ok a.1->okHL ts a.2->pre a≠some false->(evSt E fn r T g0 ts a).val=some (F a)):
  Za E.P f (stE r T g0 ts pre F):=by
 refine⟨hcall,λvs m=>ZrK r T g0 ts pre F vs m,λvs m q hp hc x w args hm hv=> ?_⟩;simp only at hp;split at hp
 ·rename_i h0 ver rest;split at hp
  ·rename_i g hg;obtain⟨hg,hgv⟩:=ZR hg;split at hp
   ·rename_i _ _ e he hT;simp only[Yb,Yt,YJ] at hT;obtain⟨hT,hfz⟩:=hT;subst hT;split at hp
    ·rename_i us hus;split at hp
     ·rename_i a ha;simp only[RT.val,oinj] at hp;subst hp
      match args,hv with
      |v::args,hv=>
       obtain⟨s,hs⟩:=hm.S_of hg;have ho:=hm.stg h0 g s hg hs;have hv1:RA x (.tip h0 ver) v:=hv.1;have hve:v=tipVal s:=by
        cases hv1 with
        |tip _ _ _ s' _ hs' hv' hval hat=>
         rw[hs] at hs';simp only[oinj] at hs';subst hs';exact hval (by rw[ho.ver,hgv])
       subst hve;obtain⟨args',u,rfl,hv2,hu⟩:=ZuQ hus hv.2;obtain⟨hargs,hin⟩:=Zax ha hv2;have hlok:(R.sl r).ok (e.slc.cast g.l):=ZT7 e.slc (ZmD ho);have h1:=h (e.slc.cast g.l,a) hlok hin hc;unfold evSt at h1;rw[RT.val_map] at h1;split at h1
       ·rename_i q hq;have hargs':RVs (Ctx.ownS w x.fz s) (.w (.one (.tip 0 0))::(Zdj ts a++[cloV g0])) (tipVal s::(args'++[u])):=
         ⟨RA.tip _ _ _ {s with ver:=0} _ rfl (Ye _) (λ_=>rfl) (by unfold tipVal;split<;>trivial),Zu1 (Zch (ZbJ (x:=x) (x':=Ctx.ownS w x.fz s) (λ_ _ _ e=>e) ts a (ZaD hargs))) (ZOW hu)⟩
        have h2:=ZaC hE hf hb hl (ZWg hm hg hs (r:=r) (e:=e) hfz) hargs' hq;refine h2.mono λe' w' hres=> ?_
        obtain⟨val,x1,rfl,hrv,hm1,hext,hst⟩:=hres;unfold ZYE at h1;split at h1
        ·rename_i hqv;split at h1
         ·rename_i g1 hg1;obtain⟨hg1,hg1v⟩:=ZR hg1;split at h1
          ·rename_i _ _ e1 he1 hT1;simp only[Yb,Yt,YJ] at hT1;simp only[oinj] at h1;obtain⟨q1,q2,q3⟩:=ZSC hm hg hs (e:=e) hext hm1 hst hg1 hg1v e1 hT1.1 hT1.2;rw[hqv] at hrv;rw[<-h1];exact⟨val,{x with fz:=x1.fz},rfl,by obtain⟨C,e,hC⟩:=hrv;exact⟨C,e,by cases C<;>first|trivial|exact hC.elim⟩,q1,q2,q3⟩
          ·simp at h1
         ·simp at h1
        ·simp at h1
       ·simp at h1
      |[],hv=>exact hv.elim
     ·simp[RT.val] at hp
    ·simp[RT.val] at hp
   ·simp[RT.val] at hp
  ·simp[RT.val] at hp
 ·simp[RT.val] at hp
section
variable {P:Program} {l:List (FuncId×En)} {ol:List (Nat×Ora)} {n k:Nat} {f:FuncId} {fn:Func}
theorem ZmF (hl:ZdM P l) (hf:P.funcs[f]? =some fn) (hb:fn.body.isSome=true) (hn:ZbH (ZC (fn.body.getD .skip))=true) (hcall:Zy P f) (hol:AllL (envX P l ol n k) fn.body ol)
 {t:List r.den×HL ts->RT (Option (List r.den))} (h:∀a,evSt (envX P l ol n k) fn r T g0 ts a=t a):
  Za P f (stE r T g0 ts (λa=>okO (t a).val) (λa=>getO [] (t a).val)):=by obtain⟨c,hc,hlo⟩:=ZcG hb hn hol;exact ZSV (E:=envX P l ol n k) (ZaT hl ol n k) hf hc hlo hcall λa _ _ hp=>by rw[h a];exact Ze3 hp
theorem ZXK (hl:ZdM P l) (hf:P.funcs[f]? =some fn) (hb:fn.body.isSome=true) (hn:ZbH (ZC (fn.body.getD .skip))=true) (hcall:Zy P f) (hol:AllL (envX P l ol n k) fn.body ol)
 {t:List r.den×HL ts->RT (Option (List r.den))} {pre:List r.den×HL ts->Option Bool} {F:List r.den×HL ts->List r.den} (h:∀a,evSt (envX P l ol n k) fn r T g0 ts a=t a) (hF:∀a,(R.sl r).ok a.1->okHL ts a.2->pre a≠some false->(t a).val=some (F a)):Za P f (stE r T g0 ts pre F):=by obtain⟨c,hc,hlo⟩:=ZcG hb hn hol;exact ZSV (E:=envX P l ol n k) (ZaT hl ol n k) hf hc hlo hcall λa h1 h2 h3=>by rw[h a];exact hF a h1 h2 h3
end
theorem Za.st_congr {P:Program} {f:FuncId} {pre pre':List r.den×HL ts->Option Bool} {F G:List r.den×HL ts->List r.den} (h:Za P f (stE r T g0 ts pre F)) (hp:∀a,(R.sl r).ok a.1->okHL ts a.2->pre' a≠some false->pre a≠some false/\F a=G a):Za P f (stE r T g0 ts pre' G):=by
 refine⟨h.1,λvs m=>ZrK r T g0 ts pre' G vs m,λvs m q hq hc x w args hm hv=> ?_⟩;simp only at hq;split at hq
 ·rename_i h0 ver rest;split at hq
  ·rename_i g hg;split at hq
   ·rename_i _ _ e he hT;split at hq
    ·rename_i us hus;split at hq
     ·rename_i a ha;simp only[RT.val,oinj] at hq;subst hq
      match args,hv with
      |v::args,hv=>
       obtain⟨hg',_⟩:=ZR hg;obtain⟨s,hs⟩:=hm.S_of hg';obtain⟨args',u,rfl,hv2,hu⟩:=ZuQ hus hv.2;obtain⟨hargs,hin⟩:=Zax ha hv2;have hlok:(R.sl r).ok (e.slc.cast g.l):=ZT7 e.slc (ZmD (hm.stg h0 g s hg' hs));obtain⟨k1,k2⟩:=hp (e.slc.cast g.l,a) hlok hin hc;have key:=h.2.2 (.w (.one (.tip h0 ver))::rest) m {chk:=pre (e.slc.cast g.l,a),v:=.tup [],m:={m with Sg:=setN m.Sg h0 ⟨r,T,F (e.slc.cast g.l,a),g.ver,false,false,false,g.ub⟩},bd:=[],sd:=[h0]} (by simp only[hg,he,hT,hus,ha,RT.val]) k1 x w (v::(args'++[u])) hm hv;simp only[k2] at key;exact key
      |[],hv=>exact hv.elim
     ·simp[RT.val] at hq
    ·simp[RT.val] at hq
   ·simp[RT.val] at hq
  ·simp[RT.val] at hq
 ·simp[RT.val] at hq
theorem Za.st_never {P:Program} {f:FuncId} (hcall:Zy P f) {pre:List r.den×HL ts->Option Bool} {F:List r.den×HL ts->List r.den} (hp:∀a,pre a=some false):Za P f (stE r T g0 ts pre F):=by
 refine⟨hcall,λvs m=>ZrK r T g0 ts pre F vs m,λvs m q hq hc=> ?_⟩;exfalso;simp only at hq;split at hq
 ·split at hq
  ·split at hq
   ·split at hq
    ·split at hq
     ·simp only[RT.val,oinj] at hq;subst hq;exact hc (hp _)
     ·simp[RT.val] at hq
    ·simp[RT.val] at hq
   ·simp[RT.val] at hq
  ·simp[RT.val] at hq
 ·simp[RT.val] at hq
variable {P:Program}
theorem ZcR (w:World) (dT sT ty elem:TypeId) (k b o dLen dCap:Nat) (a:Addr) (sLen sCap:Nat) (cs:List Value) (hu:P.underlying dT=some (.slice elem)) (hs:(P.info? elem).map (·.size)=some k) (hn:cs.length=Nat.min sLen dLen*k) (hsrc:∀j v,cs[j]? =some v->w.cell? (a.add j)=some v) (hc:∀j,j<cs.length->(w.cell? ⟨b,o+j,none⟩).isSome=true) (hf:∀j,j<cs.length->w.frozen? ⟨b,o+j,none⟩=false) (h1:∀v∈cs,v.oneCell'=true):(Builtin.copy_ #[dT,sT] ty #[.slice (some ⟨b,o,none⟩) dLen dCap,.slice (some a) sLen sCap]).run P w=.ok (goInt (Nat.min sLen dLen)) (w.setCells b o cs):=by
 have hl:=run_loadCells_list (P:=P) w a cs hsrc;have hst:=run_storeCells_cells (P:=P) b o cs 0 w (by simpa using hc) (by simpa using hf) h1;cases hq:P.info? elem with
 |none=>simp[hq] at hs
 |some i=>
  have hi:i.size=k:=by simpa [hq] using hs
  simp only[Nat.add_zero] at hst;simp[Builtin.copy_,run_underlying hu,Builtin.lenOf,Builtin.firstCells,sizeOf,typeInfo,hq,hi,<-hn,hl,hst]
theorem ZmK (w:World) (t e ty:TypeId) (z:Value) (ht:P.underlying t=some (.slice e)) (hv:∀w,(zeroValue e).run P w=.ok z w) (b o n c:Nat) (hn:0<n) (zs:List Value) (hzs:(Builtin.zeroCells z.cells n).toList=zs) (h1:∀v∈zs,v.oneCell'=true) (hc:∀j,j<zs.length->(w.cell? ⟨b,o+j,none⟩).isSome=true) (hf:∀j,j<zs.length->w.frozen? ⟨b,o+j,none⟩=false):(Builtin.clear_ #[t] ty #[.slice (some ⟨b,o,none⟩) n c]).run P w=.ok (.tuple #[]) (w.setCells b o zs):=by have hst:=run_storeCells_cells (P:=P) b o zs 0 w (by simpa using hc) (by simpa using hf) h1;simp only[Nat.add_zero] at hst;obtain⟨m,rfl⟩:∃m,n=m+1:=⟨n-1,by omega⟩;simp[Builtin.clear_,run_underlying ht,hv,hzs,hst]
theorem ZvG (w:World) (b o:Nat) (vs:List Value) (C:List Value) (T:TypeId) (hb:w.heap[b]? =some (.cells C.toArray T (0,0))) (hl:o+vs.length<=C.length) (h1:∀v∈vs,v.oneCell'=true):
  w.setCells b o vs=w.setRow b (C.take o++vs++C.drop (o+vs.length)).toArray:=by
 have hc:∀j,j<vs.length->w.cell? ⟨b,o+0+j,none⟩=C[o+j]? :=λj _=>by rw[Zaj hb];rfl
 have hf:∀j,j<vs.length->w.frozen? ⟨b,o+0+j,none⟩=false:=λj _=>by simp[World.frozen?,hb]
 have e1:=run_storeCells_cells (P:=default) b o vs 0 w (λj hj=>by rw[hc j hj,Yg (by omega)];rfl) hf h1;have e2:=run_storeCells_at default b o T vs 0 C.toArray w hb (by simpa using hl) h1;rw[e1] at e2;simpa using e2
variable {C:List Value}
theorem ZbA {b o:Nat} {vs:List Value} (hb:w.heap[b]? =some (.cells C.toArray T (0,0))) (hl:o+vs.length<=C.length) (h1:∀v∈vs,v.oneCell'=true):(w.setCells b o vs).heap[b]? =some (.cells (C.take o++vs++C.drop (o+vs.length)).toArray T (0,0)):=by rw[ZvG w b o vs C T hb hl h1];exact setRow_heap w b _ _ T (0,0) hb
theorem ZaI (b:Nat):∀(vs:List Value) (o:Nat) (w:World) (k:Nat),k≠b->(w.setCells b o vs).heap[k]? =w.heap[k]?
 |[],_,_,_,_=>rfl
 |v::r,o,w,k,h=>by rw[World.setCells,ZaI b r (o+1) _ k h];exact RowKit.Below.heap_setCell w ⟨b,o,none⟩ v k h
theorem Za8 (b:Nat):∀(vs:List Value) (o:Nat) (w:World),(w.setCells b o vs).heap.size=w.heap.size
 |[],_,_=>rfl
 |v::r,o,w=>by rw[World.setCells,Za8 b r (o+1)];simp[World.setCell]
theorem Za9 (b:Nat):∀(vs:List Value) (o:Nat) (w:World),(w.setCells b o vs).os=w.os/\(w.setCells b o vs).tape=w.tape/\(w.setCells b o vs).output=w.output
 |[],_,_=>⟨rfl,rfl,rfl⟩
 |v::r,o,w=>by rw[World.setCells];exact Za9 b r (o+1) _
theorem ZXR (hm:MK x m w) (hg:nth m.Sg h=some g) (hs:nth x.S h=some s) (hf:g.fzn=false) (h1:w'.os=w.os) (h2:w'.tape=w.tape) (h3:w'.output=w.output) (hsz:w.heap.size<=w'.heap.size) (hoth:∀k,k<w.heap.size->(∀cap,s.blk≠some (k,cap))->w'.heap[k]? =w.heap[k]?)
  {l:List g.r.den} {p cap:Nat} (hblk:(∃c,s.blk=some (p,c))\/w.heap.size<=p) (hrow:w'.heap[p]? =some (.cells C.toArray g.T (0,0))) (hC:C.length=cap*g.r.wid) (hn:l.length<=cap) (hcap:cap<=maxLen) (hel:∀i j a,i<l.length->nth (elN g.r l i) j=some a->∃v,C[i*g.r.wid+j]? =some v/\RA x.bare a v):
  ∃x',MK x' {m with Sg:=setN m.Sg h ⟨g.r,g.T,l,g.ver+1,false,false,false,0⟩} w'/\Ext x x'/\Step x w w'/\RA x' (.tip h (g.ver+1)) (.slice (some ⟨p,0,none⟩) l.length cap):=by
 have ho:=hm.stg h g s hg hs;have hver:=ho.ver;have hfc:=ho.fzn hf;have hnofz:∀p' c',s.blk=some (p',c')->∀o,x.fz p' o=none:=λp' c' e o=>by obtain⟨C0,_,_,_,_,_,_,_,c8⟩:=ho.row p' c' e;exact c8 o (by omega)
 have hp:x.own p/\∀o,x.fz p o=none:=by
  rcases hblk with ⟨c,e⟩|e
  ·exact⟨(hm.sown h s p c hs e).1,hnofz p c e⟩
  ·exact⟨hm.fresh p e,λo=>by
    cases hz:x.fz p o with
    |none=>rfl
    |some v=>have:=hm.fz_lt hz;omega⟩
 have key:=hm.setS (w':=w') (g':=⟨g.r,g.T,l,g.ver+1,false,false,false,0⟩) (s':=⟨some (p,cap),none,l.length,s.w,g.ver+1,0⟩) (fz':=x.fz) hg hs
  ⟨by simp;omega,λe=>by simp at e;omega⟩ hsz hoth (λ_ _ _ e=>e) (λ_ _ _ _=>rfl) (λb o v e=>by
   have hb:∀c,s.blk≠some (b,c):=λc e'=>by rw[hnofz b c e' o] at e;simp at e
   rw[World.cell?_of_block (w:=w) (a:=⟨b,o,none⟩) (hoth b (hm.fz_lt e) hb)]
   exact hm.fz b o v e) (λp' c' e=>by
   simp only[oinj,pinj] at e;obtain⟨rfl,rfl⟩:=e
   exact hblk)
  ⟨rfl,rfl,ho.wd,λe=>by simp at e,λp' c' e=>by
   simp only[oinj,pinj] at e;obtain⟨rfl,rfl⟩:=e
   exact⟨C,hrow,hC,hn,hcap,λi j a hi ha=>by
    obtain⟨v,f1,f2⟩:=hel i j a hi ha
    exact⟨v,f1,f2.plain (x':=Ctx.bare _) (λ_ _ _ e=>e) (R.enc_plain _ _ _ (Zbd ha))⟩,Yr _,λo h=>by simp at h,λo _=>hp.2 o⟩,
   λ_=>rfl,λe=>by simp at e,λe=>by simp at e⟩
 refine⟨_,key.1,key.2,⟨h1,h2,h3,hsz,λk hk=> ?_⟩,.tip _ _ _ _ _ (ZE hs) (Ye _) (λ_=>rfl) trivial⟩;refine hoth k ?_ ?_
 ·rcases Yae k w.heap.size with e|e
  ·exact e
  ·exact absurd (hm.fresh k e) hk
 ·intro c e;exact hk (hm.sown h s k c hs e).1
end Go.S3
namespace Go.S3
structure RowsOk (x:Ctx) (r:R) (l:List r.den) (news:List Value):Prop where
 len:news.length=l.length*r.wid
 row:∀i j b,i<l.length->nth (elN r l i) j=some b->∃u,news[i*r.wid+j]? =some u/\RA x.bare b u
variable {r:R} {i:Nat}
theorem ZR9 {l:List r.den} {k:Nat} (h:i<k):elN r (l.take k) i=elN r l i:=by simp only[elN,Yl,YI,YX h]
theorem ZSa {l:List r.den} {k:Nat}:elN r (l.drop k) i=elN r l (k+i):=by simp only[elN,Yl,YN]
theorem RowsOk.nil (x:Ctx) (r:R):RowsOk x r [] []:=⟨by simp,λi j b h=>by simp at h⟩
variable {x:Ctx} {a:List Value}
theorem RowsOk.append {l l':List r.den} {b:List Value} (h:RowsOk x r l a) (k:RowsOk x r l' b):RowsOk x r (l++l') (a++b):=by
 refine⟨by rw[Yd,Yd,h.len,k.len,YaM],λi j d hi hd=> ?_⟩;have hj:=ZjD hd;rw[Yd] at hi;by_cases hl:i<l.length
 ·rw[ZE9 hl] at hd;obtain⟨u,e1,e2⟩:=h.row i j d hl hd;refine⟨u,?_,e2⟩;rw[Yp];· exact e1
  rw[h.len];exact Zd1 hl hd
 ·rw[ZxQ (by omega)] at hd;obtain⟨u,e1,e2⟩:=k.row (i-l.length) j d (by omega) hd;refine⟨u,?_,e2⟩;have e:i*r.wid=l.length*r.wid+(i-l.length)*r.wid:=by rw[<-Nat.add_mul];congr 1;omega
  rw[YT (by rw[h.len];have:=YS r.wid (show l.length<=i by omega);omega),h.len];rw[show i*r.wid+j-l.length*r.wid=(i-l.length)*r.wid+j by omega];exact e1
theorem RowsOk.take {l:List r.den} (h:RowsOk x r l a) (k:Nat):RowsOk x r (l.take k) (a.take (k*r.wid)):=by
 refine⟨?_,λi j b hi hb=> ?_⟩
 ·rw[YH,YH,h.len,Nat.min_def,Nat.min_def];by_cases hk:k<=l.length
  ·rw[YX hk,YX (YS _ hk)]
  ·rw[Y3 hk];split
   ·rename_i h1;have:=YS r.wid (show l.length<=k by omega);omega
   ·rfl
 ·rw[YH] at hi;rw[ZR9 (by omega)] at hb;obtain⟨u,e1,e2⟩:=h.row i j b (by omega) hb;refine⟨u,?_,e2⟩;have hj:=ZjD hb;rw[YI,YX];· exact e1
  have:=YS r.wid (show i+1<=k by omega);rw[YaM] at this;omega
theorem RowsOk.drop {l:List r.den} (h:RowsOk x r l a) (k:Nat):RowsOk x r (l.drop k) (a.drop (k*r.wid)):=by refine⟨by rw[YO,YO,h.len,Nat.sub_mul],λi j b hi hb=> ?_⟩;rw[YO] at hi;rw[ZSa] at hb;obtain⟨u,e1,e2⟩:=h.row (k+i) j b (by omega) hb;refine⟨u,?_,e2⟩;rw[YN,show k*r.wid+(i*r.wid+j)=(k+i)*r.wid+j by rw[YaM];omega];exact e1
theorem RowsOk.pre {l:List r.den} (h:RowsOk x r l a) (rest:List Value):∀i j b,i<l.length->nth (elN r l i) j=some b->∃u,(a++rest)[i*r.wid+j]? =some u/\RA x.bare b u:=λi j b hi hb=>by obtain⟨u,e1,e2⟩:=h.row i j b hi hb;exact⟨u,by rw[Yp (by rw[h.len];exact Zd1 hi hb)];exact e1,e2⟩
variable {g:Stg} {w:World} {p:Nat}
theorem RowsOk.of_tip {s:SI} (h:StgOk x g s w) {cap:Nat} {C:List Value} (hrow:w.heap[p]? =some (.cells C.toArray g.T (0,0))) (hb:s.blk=some (p,cap)):
  RowsOk x g.r g.l (C.take (g.l.length*g.r.wid))/\C.length=cap*g.r.wid/\g.l.length<=cap/\cap<=maxLen:=by
 obtain⟨C',c1,c2,c3,c4,c5,c6,c7,c8⟩:=h.row p cap hb;rw[hrow] at c1;have hC:C=C':=by simp only[oinj,Obj.cells.injEq,and_true] at c1;have:=congrArg Array.toList c1;simpa using this
 subst hC;have hn:=h.n;refine⟨⟨?_,λi j b hi hbb=> ?_⟩,c2,by omega,c4⟩
 ·rw[YH,Ya7];rw[c2];exact YS _ (by omega)
 ·obtain⟨v,e1,e2⟩:=c5 i j b (by omega) hbb;exact⟨v,by rw[YI,YX (Zd1 hi hbb)];exact e1,e2⟩
theorem RowsOk.one {l:List r.den} (h:RowsOk x r l a) (hw:0<r.wid):∀u∈a,u.oneCell'=true:=by
 intro u hu;obtain⟨k,hk⟩:=YaB hu;have hlt:=(YE.1 hk).1;rw[h.len] at hlt;have h1:k/r.wid<l.length:=(Nat.div_lt_iff_lt_mul hw).2 hlt;obtain⟨b,hb⟩:=ZOq (r:=r) (l:=l) (i:=k/r.wid) (Nat.mod_lt k hw);obtain⟨u',e1,e2⟩:=h.row _ _ b h1 hb;have:k/r.wid*r.wid+k%r.wid=k:=by rw[Nat.mul_comm];exact Nat.div_add_mod k r.wid
 rw[this,hk] at e1;simp only[oinj] at e1;subst e1;exact ZqW e2
variable {T:TypeId}
theorem ZfY {C:Array Value} (h:w.heap[p]? =some (.cells C T (0,0))) (o:Nat):w.frozen? ⟨p,o,none⟩=false:=by simp[World.frozen?,h]
variable {m:Mem}
theorem MK.joinS (hb:MK x m w) {s:SI} (hblk:∀p cap,s.blk=some (p,cap)->x.own p/\(∀b,nth x.M b≠some p)/\∀i s' cap',nth x.S i=some s'->s'.blk≠some (p,cap')) (hok:StgOk {x with S:=x.S++[s]} g s w):
  MK {x with S:=x.S++[s]} {m with Sg:=m.Sg++[g]} w/\Ext x {x with S:=x.S++[s]}:=by
 have hx:Ext x {x with S:=x.S++[s]}:=⟨rfl,λ_ _ e=>e,λi s1 e=>⟨s1,ZbX e,.refl s1⟩,λ_ _ _ e=>e,λ_ _ _ e=>.inl e⟩;refine⟨⟨hb.fresh,hb.fz,hb.ml,?_,hb.mown,hb.inj,by simp[hb.sl],?_,?_,?_⟩,hx⟩
 ·intro b l p hl hp;obtain⟨C,T,h1,h2⟩:=hb.box b l p hl hp;exact⟨C,T,h1,h2.mono hx⟩
 ·intro i g1 s1 hg1 hs1;have hs1:nth (x.S++[s]) i=some s1:=hs1;have hsl:=hb.sl;rcases Zs hg1 with e|⟨e1,e2⟩<;>rcases Zs hs1 with f|⟨f1,f2⟩
  ·exact (hb.stg i g1 s1 e f).ctx (λ_ _ _ h=>h) (λ_ _ _ _=>rfl)
  ·have:=ZZ e;omega
  ·have:=ZZ f;omega
  ·subst e2;subst f2;exact hok
 ·intro i s1 p cap hs1 he;have hs1:nth (x.S++[s]) i=some s1:=hs1;rcases Zs hs1 with f|⟨f1,f2⟩
  ·exact hb.sown i s1 p cap f he
  ·subst f2;exact⟨(hblk p cap he).1,(hblk p cap he).2.1⟩
 ·intro i i' s1 s2 p c1 c2 h1 h2 e1 e2;have h1:nth (x.S++[s]) i=some s1:=h1;have h2:nth (x.S++[s]) i'=some s2:=h2;rcases Zs h1 with f|⟨f1,f2⟩<;>rcases Zs h2 with k|⟨k1,k2⟩
  ·exact hb.sinj i i' s1 s2 p c1 c2 f k e1 e2
  ·subst k2;exact absurd e1 ((hblk p c2 e2).2.2 i s1 c1 f)
  ·subst f2;exact absurd e2 ((hblk p c1 e1).2.2 i' s2 c2 k)
  ·omega
abbrev newG (r:R) (T:TypeId) (l:List r.den):Stg:=⟨r,T,l,0,false,false,false,0⟩
def newE (r:R) (T:TypeId) (ts:List Sh) (pre:HL ts->Option Bool) (F:HL ts->List r.den):En:=.tree λvs m=>match Zip ts vs with
 |some a=>.Lf (some {chk:=pre a,v:=.w (.one (.tip (len m.Sg) 0)),m:={m with Sg:=m.Sg++[newG r T (F a)]},bd:=[],sd:=[]})
 |none=>.Lf none
def ZwO (r:R) (T:TypeId) (q:Res):Option (List r.den):=match q.v with
 | .w (.one (.tip h ver))=>match ZaY q.m h ver with
  |some g=>match R.same g.r r,Nat.beq g.T T,g.fzn with
   |some e,true,false=>some (EqR.cast e.slc g.l)
   |_,_,_=>none
  |none=>none
 |_=>none
def ZW2 (E:Env) (fn:Func) (r:R) (T:TypeId) (ts:List Sh) (a:HL ts):RT (Option (List r.den)):=(Zo E fn (Zdj ts a) ZdF).map fun
 |some q=>ZwO r T q
 |none=>none
variable {E:Env} {c:Code} {ts:List Sh}
theorem ZWr (hE:Zbx E) {f:FuncId} {fn:Func} (hf:E.P.funcs[f]? =some fn) (hb:fn.body=some c) (hl:Z3 E c) (hcall:Zy E.P f)
 {pre:HL ts->Option Bool} {F:HL ts->List r.den} (h:∀a,okHL ts a->pre a≠some false->(ZW2 E fn r T ts a).val=some (F a)):
  Za E.P f (newE r T ts pre F):=by
 refine⟨hcall,λvs m=> ?_,λvs m q hq hc x w args hm hv=> ?_⟩
 ·simp only;split
  ·intro q hq;simp only[oinj] at hq;subst hq
   exact⟨Ye _,λb l hl=>⟨l,hl,rfl,λ_ _=>rfl⟩,by simp,λi g hg=>⟨g,by
    show nth (m.Sg++[_]) i=some g
    rw[Zi,Yp (ZZ hg),<-Zi];exact hg,Ye _,λ_=>rfl⟩⟩
  ·intro q hq;simp at hq
 ·simp only at hq;split at hq
  ·rename_i a ha;simp only[RT.val,oinj] at hq;subst hq;obtain⟨hargs,hin⟩:=Zax ha hv;have h1:=h a hin hc;unfold ZW2 at h1;rw[RT.val_map] at h1;split at h1
   ·rename_i q hr;have hle:FzLe x (Ctx.own0 w x.fz):=λ_ _ _ e=>e
    have hargs':RVs (Ctx.own0 w x.fz) (Zdj ts a) args:=Zch (ZbJ hle ts a (ZaD hargs));have h2:=ZaC hE hf hb hl (Zij hm) hargs' hr;refine h2.mono λe w' hres=> ?_
    obtain⟨val,x1,rfl,hrv,hm1,hext,hst⟩:=hres;unfold ZwO at h1;split at h1
    ·rename_i hh ver hqv;split at h1
     ·rename_i g hg;split at h1
      ·rename_i e hsame hT hfz;simp only[oinj] at h1;obtain⟨hg1,hg2⟩:=ZR hg;rw[hqv] at hrv;have hra:RA x1 (.tip hh ver) val:=hrv;obtain⟨h3,h4⟩:=Ziu hm hext hm1.fz (Zab hst).1;cases hra with
       |tip _ _ _ s _ hs hvle hval hat=>
        have hok:=hm1.stg hh g s hg1 hs;have hva:=hval (by rw[hok.ver,hg2]);have hTe:g.T=T:=Yad hT;obtain⟨gr,gT,gl,gv,gf,gff,glit,gub⟩:=g;simp only at e hsame hT hfz h1 hTe;cases e;have h1':gl=F a:=h1;subst hTe;have hown:∀p cap,s.blk=some (p,cap)->w.heap.size<=p:=λp cap hp=>by have:=(hm1.sown hh s p cap hs hp).1;rw[hext.own] at this;exact this
        have hj:=h3.joinS (g:=newG _ gT (F a)) (s:={s with ver:=0}) (λp cap hp=>by
          have hp:=hown p cap hp
          exact⟨hm.fresh p hp,λb hb=>by have:=hm.M_lt hb;omega,λi s' cap' hs' hb=>by have:=hm.S_lt hs' hb;omega⟩)
         ⟨rfl,by rw[<-h1'];exact hok.n,hok.wd,hok.nil,λp cap hp=>by
          obtain⟨C,a1,a2,a3,a4,a5,a6,a7,a8⟩:=hok.row p cap hp;refine⟨C,a1,a2,a3,a4,λi j a' hi ha'=> ?_,a6,a7,a8⟩;obtain⟨v,e1,e2⟩:=a5 i j a' hi (by rw[h1'];exact ha')
          exact⟨v,e1,e2.plain (λ_ _ _ e=>e) (R.enc_plain _ _ _ (Zbd ha'))⟩,λ_=>hok.fzn hfz,λh=>by simp at h,λh=>by simp at h⟩
        refine⟨val,_,rfl,?_,hj.1,h4.trans hj.2,?_⟩
        ·refine RA.tip _ _ _ {s with ver:=0} _ ?_ (Ye _) (λ_=>hva) hat;rw[Zi,Zad,<-hm.sl];simp
        ·exact (Zab hst).step hm
      ·simp at h1
     ·simp at h1
    ·simp at h1
   ·simp at h1
  ·simp[RT.val] at hq
def ZHl (rb:R) (r:R) (T:TypeId) (ts:List Sh) (pre:rb.den×HL ts->Option Bool) (F:rb.den×HL ts->List r.den×rb.den):En:=
 .tree λvs m=>match vs with
  | .w (.one (.loc b 0))::rest=>match nth m.Bx b with
   |some row=>match rb.decW row with
    |some y=>match Zip ts rest with
     |some a=>.Lf (some {chk:=pre (y,a),v:=.w (.one (.tip (len m.Sg) 0)),m:={Bx:=setN m.Bx b (rb.enc (F (y,a)).2),Sg:=m.Sg++[newG r T (F (y,a)).1]},bd:=Zyh [] b 0 rb.wid,sd:=[]})
     |none=>.Lf none
    |none=>.Lf none
   |none=>.Lf none
  |_=>.Lf none
def ZMO (rb r:R) (T:TypeId) (q:Res):Option (List r.den×rb.den):=match ZwO r T q with
 |some u=>match nth q.m.Bx 0 with
  |some row=>match rb.decW row with
   |some y=>some (u,y)
   |none=>none
  |none=>none
 |none=>none
def ZOk (E:Env) (fn:Func) (rb r:R) (T:TypeId) (ts:List Sh) (a:rb.den×HL ts):RT (Option (List r.den×rb.den)):=(Zo E fn (.w (.one (.loc 0 0))::Zdj ts a.2) ⟨[rb.enc a.1],[]⟩).map fun
 |some q=>ZMO rb r T q
 |none=>none
theorem ZHk (rb:R) (r:R) (T:TypeId) (ts:List Sh) (pre:rb.den×HL ts->Option Bool) (F:rb.den×HL ts->List r.den×rb.den) (vs:List V) (m:Mem):
  match ZHl rb r T ts pre F with
  | .tree g=>(g vs m).All (λr=>∀q,r=some q->KeepC m q)
  |_=>False:=by
 simp only[ZHl];split
 ·rename_i b rest;split
  ·rename_i row hrow;split
   ·rename_i y hy;split
    ·rename_i a ha;intro q hq;simp only[oinj] at hq;subst hq
     refine⟨by simp[ZH],λb' l hl=> ?_,by simp,λi g hg=>⟨g,by
      show nth (m.Sg++[_]) i=some g
      rw[Zi,Yp (ZZ hg),<-Zi];exact hg,Ye _,λ_=>rfl⟩⟩
     by_cases hbb:b=b'
     ·subst hbb;rw[hrow] at hl;simp only[oinj] at hl;subst hl;refine⟨_,ZE hrow,by rw[R.enc_len,R.decW_len hy],λj hj=> ?_⟩;rw[Zd8] at hj;simp[memP] at hj;rw[Zi,Zi,Y0 (by rw[R.enc_len];exact hj),Y0 (by rw[R.decW_len hy];exact hj)]
     ·exact⟨l,by rw[ZB hbb];exact hl,rfl,λ_ _=>rfl⟩
    ·intro q hq;simp at hq
   ·intro q hq;simp at hq
  ·intro q hq;simp at hq
 ·intro q hq;simp at hq
theorem ZHf {q:Res} {u:List r.den} {val:Value} (hm:MK x q.m w) (hv:RV x q.v val) (h:ZwO r T q=some u):
  ∃s:SI,s.ver=0/\val=tipVal s/\atomic val/\(∀p cap,s.blk=some (p,cap)->x.own p/\∀b,nth x.M b≠some p)/\∀x':Ctx,x'.fz=x.fz->StgOk x' (newG r T u) s w:=by
 unfold ZwO at h;split at h
 ·rename_i hh ver hqv;split at h
  ·rename_i g hg;split at h
   ·rename_i e hsame hT hfz;simp only[oinj] at h;obtain⟨hg1,hg2⟩:=ZR hg;rw[hqv] at hv;have hra:RA x (.tip hh ver) val:=hv;cases hra with
    |tip _ _ _ s _ hs hvle hval hat=>
     have hok:=hm.stg hh g s hg1 hs;have hva:=hval (by rw[hok.ver,hg2]);have hTe:g.T=T:=Yad hT;obtain⟨gr,gT,gl,gv,gf,gff,glit,gub⟩:=g;simp only at e hsame hT hfz h hTe;cases e;have h1':gl=u:=h;subst hTe;refine⟨{s with ver:=0},rfl,hva,hat,λp cap hp=>hm.sown hh s p cap hs hp,λx' hx'=>⟨rfl,by rw[<-h1'];exact hok.n,hok.wd,hok.nil,λp cap hp=> ?_,λ_=>hok.fzn hfz,λh=>by simp at h,λh=>by simp at h⟩⟩;obtain⟨C,a1,a2,a3,a4,a5,a6,a7,a8⟩:=hok.row p cap hp;refine⟨C,a1,a2,a3,a4,λi j a' hi ha'=> ?_,a6,by rw[hx'];exact a7,by rw[hx'];exact a8⟩;obtain⟨v,e1,e2⟩:=a5 i j a' hi (by rw[h1'];exact ha');exact⟨v,e1,e2.plain (λb o v e=>by show x'.fz b o=some v;rw[hx'];exact e) (R.enc_plain _ _ _ (Zbd ha'))⟩
   ·simp at h
  ·simp at h
 ·simp at h
variable {rb:R}
theorem ZRu (hE:Zbx E) {f:FuncId} {fn:Func} (hf:E.P.funcs[f]? =some fn) (hb:fn.body=some c) (hl:Z3 E c) (hcall:Zy E.P f)
 {pre:rb.den×HL ts->Option Bool} {F:rb.den×HL ts->List r.den×rb.den} (h:∀a,rb.ok a.1->okHL ts a.2->pre a≠some false->(ZOk E fn rb r T ts a).val=some (F a)):
  Za E.P f (ZHl rb r T ts pre F):=by
 refine⟨hcall,λvs m=>ZHk rb r T ts pre F vs m,λvs m q hp hc x w args hm hv=> ?_⟩;simp only at hp;split at hp
 ·rename_i b rest;split at hp
  ·rename_i row hrow;split at hp
   ·rename_i y hy;split at hp
    ·rename_i a ha;simp only[RT.val,oinj] at hp;subst hp
     match args,hv with
     |v::args,hv=>
      obtain⟨p,hp⟩:=hm.M_of hrow;have hv1:RA x (.loc b 0) v:=hv.1;have hve:v=.pointer (some ⟨p,0,none⟩):=by
       cases hv1 with
       |loc _ _ _ q hq=>rw[hp] at hq;simp only[oinj] at hq;subst hq;rfl
      subst hve;obtain⟨hargs,hin⟩:=Zax ha hv.2;obtain⟨C0,T0,e1,e2⟩:=hm.box b row p hrow hp;have hyok:rb.ok y:=R.ok_of rb y x C0 (R.decW_ok hy e2);have h1:=h (y,a) hyok hin hc;unfold ZOk at h1;rw[RT.val_map] at h1;split at h1
      ·rename_i q hr;have hargs':RVs (Ctx.own1 w x.fz p) (.w (.one (.loc 0 0))::Zdj ts a) (.pointer (some ⟨p,0,none⟩)::args):=
        ⟨RA.loc _ _ _ _ rfl,Zch (ZbJ (x:=x) (x':=Ctx.own1 w x.fz p) (λ_ _ _ e=>e) ts a (ZaD hargs))⟩
       have h2:=ZaC hE hf hb hl (ZMN hm hrow hp hy) hargs' hr;refine h2.mono λe w' hres=> ?_
       obtain⟨val,x1,rfl,hrv,hm1,hext,hst⟩:=hres;unfold ZMO at h1;split at h1
       ·rename_i u hu;split at h1
        ·rename_i row' hrow';split at h1
         ·rename_i y' hy';simp only[oinj] at h1;obtain⟨s,s0,hva,hat,hown,hsok⟩:=ZHf hm1 hrv hu;obtain⟨C,T',hc1,hc2⟩:=hm1.box 0 row' p hrow' (hext.M 0 p rfl);obtain⟨q1,q2,q3⟩:=ZFs hm hrow hp (row1:=row) hext hm1 hst hc1 (R.decW_ok hy' hc2) (R.enc_plain rb y');have hp0:nth x1.M 0=some p:=hext.M 0 p rfl
          have hj:=q1.joinS (g:=newG r T u) (s:=s) (λp' cap hp'=>by
           obtain⟨o1,o2⟩:=hown p' cap hp';rw[hext.own] at o1;have hne:p'≠p:=λe=>o2 0 (by rw[e];exact hp0)
           have hge:w.heap.size<=p':=by
            rcases o1 with o|o
            ·exact o
            ·exact absurd o hne
           exact⟨hm.fresh p' hge,λb hb=>by have:=hm.M_lt hb;omega,λi s' cap' hs' hb=>by have:=hm.S_lt hs' hb;omega⟩) (hsok _ rfl)
          rw[<-h1];refine⟨val,_,rfl,?_,hj.1,q2.trans hj.2,q3⟩;refine RA.tip _ _ _ s _ ?_ (Yr _) (λ_=>hva) hat;rw[Zi,Zad,<-hm.sl];simp
         ·simp at h1
        ·simp at h1
       ·simp at h1
      ·simp at h1
     |[],hv=>exact hv.elim
    ·simp[RT.val] at hp
   ·simp[RT.val] at hp
  ·simp[RT.val] at hp
 ·simp[RT.val] at hp
section
variable {P:Program} {l:List (FuncId×En)} {ol:List (Nat×Ora)} {n k:Nat} {f:FuncId} {fn:Func}
theorem ZlU (hl:ZdM P l) (hf:P.funcs[f]? =some fn) (hb:fn.body.isSome=true) (hn:ZbH (ZC (fn.body.getD .skip))=true) (hcall:Zy P f) (hol:AllL (envX P l ol n k) fn.body ol)
 {t:HL ts->RT (Option (List r.den))} (h:∀a,ZW2 (envX P l ol n k) fn r T ts a=t a):
  Za P f (newE r T ts (λa=>okO (t a).val) (λa=>getO [] (t a).val)):=by obtain⟨c,hc,hlo⟩:=ZcG hb hn hol;exact ZWr (E:=envX P l ol n k) (ZaT hl ol n k) hf hc hlo hcall λa _ hp=>by rw[h a];exact Ze3 hp
theorem ZMW (hl:ZdM P l) (hf:P.funcs[f]? =some fn) (hb:fn.body.isSome=true) (hn:ZbH (ZC (fn.body.getD .skip))=true) (hcall:Zy P f) (hol:AllL (envX P l ol n k) fn.body ol)
 {t:rb.den×HL ts->RT (Option (List r.den×rb.den))} (h:∀a,ZOk (envX P l ol n k) fn rb r T ts a=t a):
  Za P f (ZHl rb r T ts (λa=>okO (t a).val) (λa=>getO ([],rb.Df) (t a).val)):=by obtain⟨c,hc,hlo⟩:=ZcG hb hn hol;exact ZRu (E:=envX P l ol n k) (ZaT hl ol n k) hf hc hlo hcall λa _ _ hp=>by rw[h a];exact Ze3 hp
end
variable {s s':St}
theorem ZN9 {a a':A} (h:Zau s a=some (a',s')):s'.bd=s.bd:=by
 unfold Zau at h;split at h
 ·split at h
  ·split at h
   ·simp only[oinj,pinj] at h;rw[<-h.2]
   ·simp only[oinj,pinj] at h;rw[<-h.2]
  ·simp at h
 ·simp at h
 ·simp only[oinj,pinj] at h;rw[<-h.2]
theorem ZN8:∀{l l':List A} {s s':St},Zat s l=some (l',s')->s'.bd=s.bd
 |[],l',s,s',h=>by simp only[Zat,oinj,pinj] at h;rw[<-h.2]
 |a::l,l',s,s',h=>by
  simp only[Zat] at h;split at h
  ·rename_i b s1 h1;split at h
   ·rename_i r s2 h2;simp only[oinj,pinj] at h;rw[<-h.2,ZN8 h2,ZN9 h1]
   ·simp at h
  ·simp at h
theorem ZWU {v v':V} (h:Zbe s v=some (v',s')):s'.bd=s.bd:=by
 cases v with
 |tup t=>simp only[Zbe,oinj,pinj] at h;rw[<-h.2]
 |w w=>
  simp only[Zbe] at h;split at h
  ·rename_i w1 s1 h1;simp only[oinj,pinj] at h;rw[<-h.2];cases w with
   |one a=>
    simp only[ZaF] at h1;split at h1
    ·rename_i b s2 h2;simp only[oinj,pinj] at h1;rw[<-h1.2];exact ZN9 h2
    ·simp at h1
   |agg l=>
    simp only[ZaF] at h1;split at h1
    ·rename_i b s2 h2;simp only[oinj,pinj] at h1;rw[<-h1.2];exact ZN8 h2
    ·simp at h1
   |junk=>simp only[ZaF,oinj,pinj] at h1;rw[<-h1.2]
  ·simp at h
theorem ZTP:∀{l l':List V} {s s':St},Zac s l=some (l',s')->s'.bd=s.bd
 |[],l',s,s',h=>by simp only[Zac,oinj,pinj] at h;rw[<-h.2]
 |a::l,l',s,s',h=>by
  simp only[Zac] at h;split at h
  ·rename_i b s1 h1;split at h
   ·rename_i r s2 h2;simp only[oinj,pinj] at h;rw[<-h.2,ZTP h2,ZWU h1]
   ·simp at h
  ·simp at h
def frzE:En->En
 | .tree g=>.tree λvs m=>match Zac (ZHv m) vs with
  |some (us,s)=>(g us s.mem).map fun
   |some q=>some {q with sd:=ZhI s.sd q.sd}
   |none=>none
  |none=>.Lf none
 |e=>e
theorem ZxD {P:Program} {f:FuncId} {g:List V->Mem->RT (Option Res)} (h:Za P f (.tree g)):Za P f (frzE (.tree g)):=by
 refine⟨h.1,λvs m=> ?_,λvs m q hp hc x w args hm hv=> ?_⟩
 ·simp only;split
  ·rename_i us s hs;have k:=Zd0 hs;refine RT.All.map ((h.2.1 us s.mem).mono λr hr q hq=> ?_);split at hq
   ·rename_i q0;simp only[oinj] at hq;subst hq;have k2:=hr q0 rfl;refine⟨YD k.bl k2.bl,λb l hl=> ?_,YD k.gl k2.gl,λi g0 hg0=> ?_⟩
    ·obtain⟨l1,h1,h2,h3⟩:=k.box b l hl;obtain⟨l2,h4,h5,h6⟩:=k2.box b l1 h1;have hbd:s.bd=[]:=ZTP hs;refine⟨l2,h4,h5.trans h2,λj hj=>(h6 j hj).trans (h3 j ?_).2⟩;rw[hbd];rfl
    ·obtain⟨g1,h1,h2,h3⟩:=k.stg i g0 hg0;obtain⟨g2,h4,h5,h6⟩:=k2.stg i g1 h1;refine⟨g2,h4,YD h2 h5,λhj=> ?_⟩;rw[Zdf,Yq] at hj;exact (h6 hj.2).trans (h3 hj.1).2
   ·simp at hq
  ·intro q hq;simp at hq
 ·simp only at hp;split at hp
  ·rename_i us s hs;rw[RT.val_map] at hp;obtain⟨x1,m1,e1,r1,k1⟩:=ZfZ (s:=ZHv m) hm hv hs;split at hp
   ·rename_i q0 hq0;simp only[oinj] at hp;subst hp;refine (h.2.2 us s.mem q0 hq0 hc x1 w args m1 r1).mono λe w' hres=> ?_
    obtain⟨val,x2,rfl,a1,a2,a3,a4⟩:=hres;exact⟨val,x2,rfl,a1,a2,e1.trans a3,⟨a4.os,a4.tape,a4.output,a4.size,λk hk=>a4.block k (by rw[e1.own];exact hk)⟩⟩
   ·simp at hp
  ·simp[RT.val] at hp
theorem ZHj {P:Program} {f:FuncId} {pre pre':HL ts->Option Bool} {F G:HL ts->List r.den} (h:Za P f (newE r T ts pre F)) (hp:∀a,okHL ts a->pre' a≠some false->pre a≠some false/\F a=G a):Za P f (newE r T ts pre' G):=by
 refine⟨h.1,λvs m=> ?_,λvs m q hq hc x w args hm hv=> ?_⟩
 ·simp only;split
  ·intro q hq;simp only[oinj] at hq;subst hq
   exact⟨Ye _,λb l hl=>⟨l,hl,rfl,λ_ _=>rfl⟩,by simp,λi g hg=>⟨g,by
    show nth (m.Sg++[_]) i=some g
    rw[Zi,Yp (ZZ hg),<-Zi];exact hg,Ye _,λ_=>rfl⟩⟩
  ·intro q hq;simp at hq
 ·simp only at hq;split at hq
  ·rename_i a ha;simp only[RT.val,oinj] at hq;subst hq;obtain⟨_,hin⟩:=Zax ha hv;obtain⟨k1,k2⟩:=hp a hin hc;rw[<-k2];exact h.2.2 vs m {chk:=pre a,v:=.w (.one (.tip (len m.Sg) 0)),m:={m with Sg:=m.Sg++[newG r T (F a)]},bd:=[],sd:=[]} (by simp only[ha,RT.val]) k1 x w args hm hv
  ·simp[RT.val] at hq
def ZKr (g0:FuncId) (ts:List Sh) (rs:Rs) (pre:HL ts->Option Bool) (F:HL ts->rs.den):En:=
 .pure λvs=>match cutF g0 vs with
  |some us=>match Zip ts us with
   |some a=>some (pre a,rs.enc (F a))
   |none=>none
  |none=>none
def ZOh (E:Env) (fn:Func) (g0:FuncId) (ts:List Sh) (rs:Rs) (a:HL ts):RT (Option rs.den):=(Zo E fn (Zdj ts a++[cloV g0]) ZdF).map fun
 |some r=>rs.out r.m r.v
 |none=>none
variable {g0:FuncId} {rs:Rs}
theorem ZKq (hE:Zbx E) {f:FuncId} {fn:Func} (hf:E.P.funcs[f]? =some fn) (hb:fn.body=some c) (hl:Z3 E c) (hcall:Zy E.P f)
 {pre:HL ts->Option Bool} {F:HL ts->rs.den} (h:∀a,okHL ts a->pre a≠some false->(ZOh E fn g0 ts rs a).val=some (F a)):
  Za E.P f (ZKr g0 ts rs pre F):=by
 refine⟨hcall,λvs chk v hp hc x m w args hm hv=> ?_⟩;simp only at hp;split at hp
 ·rename_i us hus;split at hp
  ·rename_i a ha;simp only[oinj,pinj] at hp;obtain⟨rfl,rfl⟩:=hp;obtain⟨args',u,rfl,hv2,hu⟩:=ZuQ hus hv;obtain⟨hargs,hin⟩:=Zax ha hv2;have h1:=h a hin hc;unfold ZOh at h1;rw[RT.val_map] at h1;split at h1
   ·rename_i r hr;have hle:FzLe x (Ctx.own0 w x.fz):=λ_ _ _ e=>e
    have hargs':RVs (Ctx.own0 w x.fz) (Zdj ts a++[cloV g0]) (args'++[u]):=Zu1 (Zch (ZbJ hle ts a (ZaD hargs))) (ZOW hu);have h2:=ZaC hE hf hb hl (Zij hm) hargs' hr;refine h2.mono λe w' hres=> ?_
    obtain⟨val,x1,rfl,hrv,hm1,hext,hst⟩:=hres;obtain⟨x2,m2,hm2,hext2,hrv2⟩:=Rs.out_ok h1 hm1 hrv;obtain⟨h3,h4⟩:=Ziu hm (hext.trans hext2) hm2.fz (Zab hst).1;exact⟨val,{x with fz:=x2.fz},rfl,Rs.enc_ctx (x:=x2) (x':={x with fz:=x2.fz}) (λ_ _ _ e=>e) rs _ hrv2,h3,h4,Zab hst⟩
   ·simp at h1
  ·simp at hp
 ·simp at hp
section
variable {P:Program} {l:List (FuncId×En)} {ol:List (Nat×Ora)} {n k:Nat} {f:FuncId} {fn:Func}
theorem ZFW (hl:ZdM P l) (hf:P.funcs[f]? =some fn) (hb:fn.body.isSome=true) (hn:ZbH (ZC (fn.body.getD .skip))=true) (hcall:Zy P f) (hol:AllL (envX P l ol n k) fn.body ol)
 {t:HL ts->RT (Option rs.den)} (h:∀a,ZOh (envX P l ol n k) fn g0 ts rs a=t a):Za P f (ZKr g0 ts rs (λa=>okO (t a).val) (λa=>getO rs.Df (t a).val)):=by obtain⟨c,hc,hlo⟩:=ZcG hb hn hol;exact ZKq (E:=envX P l ol n k) (ZaT hl ol n k) hf hc hlo hcall λa _ hp=>by rw[h a];exact Ze3 hp
end
theorem ZFA {l n:Nat} {P:Program} {o:Oper} {a:Act} {next:Act->World->Prop} {Q:Exit->Act->World->Prop} {r:Result Next} (h:o.upon P a next Q r):o.uponIn (Fence.wide.inRound l) n P a next Q r:=by
 cases r with
 |ok x w'=>
  cases x with
  |value v=>exact h
  |skip=>exact h
  |defer d=>exact h
  |enter f args=>exact⟨λe=>by simp[Fence.wide,Fence.inRound] at e,callsIn_wide.2 h⟩
  |row row args=>exact⟨λe=>by simp[Fence.wide,Fence.inRound] at e,λc cs _=>by obtain⟨v,w2,h1,h2⟩:=h c cs;exact⟨v,w2,h1,stepsIn_wide.2 h2⟩⟩
  |_=>exact h.elim
 |halt x w'=>
  cases x with
  |panic v=>exact h
  |_=>exact h.elim
section
variable {l n:Nat} {P:Program} {ops:Array Oper} {Q:Exit->Act->World->Prop}
theorem ZFu (hd:∀(j:Nat) (o:Oper),ops[j]? =some o->∀c,o.op≠ .defer c) (hQ:¬LetsOut Q) {K:Act->World->Prop} {a:Act} (h:wpOp P ops Q i K a w):wpOpIn (Fence.wide.inRound l) n P ops Q i K a w:=by
 unfold wpOp at h;unfold wpOpIn;split
 ·rename_i hi;rw[hi] at h;exact h
 ·rename_i o hi;rw[hi] at h;simp only at h;split
  ·rename_i hw;rw[YX hw] at h;rcases h with h|h
   ·refine⟨λ_ _=>trivial,?_⟩;rw[Oper.semAt_eq _ _ _ (hd i o hi)];exact ZFA h
   ·exact absurd h.2 hQ
  ·rename_i hw;rw[Y3 hw] at h;exact⟨λ_ _=>trivial,h⟩
theorem Zmc (hd:∀(j:Nat) (o:Oper),ops[j]? =some o->∀c,o.op≠ .defer c) (hQ:¬LetsOut Q):∀(fuel:Nat) (listed:Array Bool) (a:Act) (w:World),wpAny P .any ops Q fuel listed a w->wpAnyIn (Fence.wide.inRound l) n P .any ops Q fuel listed a w
 |0,_,_,_,h=>h
 |fuel+1,listed,a,w,h=>⟨h.1,λi hi=>wpOpIn_mono (λa w=>Zmc hd hQ fuel _ a w) (ZFu hd hQ (h.2 i hi))⟩
end
variable {x0:Ctx} {w0:World} {A:Array Oper} {chg:Bool}
theorem ZOv (hE:Zbx E) {a:Act} {Q:Exit->Act->World->Prop} (hlex:lexL A.toList=true) (hr:RH x0 w0 x s a w) (h:Hold x0 w0 x Q (Zfd s (ZcN E chg (Zdq A.toList []) A.toList A.toList 0 false [] [] s).val)):wpAny E.P .any A Q A.size (Array.replicate A.size false) a {w with drawn:=w.drawn+1}:=by
 have hk:(ZcN E chg (Zdq A.toList []) A.toList A.toList 0 false [] [] s).val.k≠ .stop:=by intro hk;unfold Zfd at h;rw[hk] at h;exact Hold.stop hr h
 obtain⟨S,T,h1,h2,h3,h4⟩:=ZzA (λ_ _ h=>Zpw h) A.toList 0 false [] [] s hk;simp only[Yu] at h2 h3 h4;have hlen:A.toList.length=A.size:=by simp
 rw[hlen] at h2 h4;rw[h2] at h;simp only[Zfd] at h;have hst:∀k o,A[k]? =some o->Zg7 E chg A.toList (S k) (T k) o (S (k+1)):=λk o ho=>h3 k o (by rw[Zi];simpa using ho)
 have hnth:∀(k:Nat) (o:Oper),A[k]? =some o->nth A.toList k=some o:=λk o ho=>by rw[Zi];simpa using ho
 have hfr:∀f of d,f<A.size->(T f).isFresh->A[f]? =some of->of.dst=some d->∀l ol,f<l->A[l]? =some ol->ol.dst≠some d/\(tbit (Zkx A.toList ol) d=true->∀c,c<f->(T c).isChain->Waits A.toList c l):=by intro f of d hf hT ho hd l ol hl hol;have:=(h4 f hf).fr (by rw[Yu];exact hT) of d (hnth f of ho) hd l ol hl (hnth l ol hol);simp only[Yu] at this;exact⟨this.1,λhm=>(this.2 hm).2⟩
 have hrd:∀j,j<A.size->(T j).isRead->(∀c,c<j->¬(T c).isFresh)\/(∀c,c<j->(T c).isChain->ZaK (T c).touch (T j).loc=true)\/∀c,c<j->(T c).isChain->Waits A.toList c j:=by intro j hj hT;have:=(h4 j hj).rd (by rw[Yu];exact hT);simp only[Yu] at this;exact this.imp (λh=>h.2) (λh=>h.imp (λh=>h.2) λh=>h.2)
 refine ZNM hst hE hlex (λk k' hk hk' hb=>by have:=(h4 k hk).bd k' hk';simp only[Yu] at this;exact this hb) hfr hrd (x0:=x0) (x:=x) (w0:=w0) (λx' a' w' hr' hxx=> ?_) A.size _ a _ ?_ ?_
 ·exact h x' a' w' hr' hxx
 ·have hr':=hr.same (Zb5.drew w);have hno:∀i,¬ZM (Array.replicate A.size false) i:=by intro i hi;unfold ZM at hi;rw[YL,Array.getElem?_replicate] at hi;split at hi<;>simp at hi
  have hcl:∀j oj,A[j]? =some oj->ZM (Array.replicate A.size false) j->∀e∈oj.after,Region.binds .any e=true->ZM (Array.replicate A.size false) e.on:=λj oj _ hl=>absurd hl (hno j)
  obtain⟨x',kc,q1,q2⟩:=ZBc hst hfr (x:=x) (P:=λ_=>0) hcl A.size 0 x (by omega) ⟨Yr _,λc _ _=>⟨λh=>by omega,λh=>absurd h (hno c)⟩,λc _ _ h=>by omega,by rw[h1];exact hr'.r.m,hr.e,ExtM.refl x,hr'.t,λc _ _ _ _ _ _ _ h=>absurd h (hno c),
   λc _ _ _ _ _ h=>absurd h (hno c),λt k v hk' hwt _ hv=>by
    refine Zly hst (k:=0) (k':=k) (Yr _) hk' (λi oi hi hd hb=>hno i ((hwt i oi hi hd).1 hb.2)) (λv hv=> ?_) v hv;rw[h1] at hv
    exact hr.r.f.slot t v hv⟩
  exact⟨by simp,hcl,by rw[h1];exact hr.r.f.size.symm,hr.r.d,x',kc,_,q1,q2⟩
 ·unfold Zg9;have:=List.length_filter_le (λi=> !(Array.replicate A.size false).getD i false) (List.range A.size);simpa using this
theorem ZBV (hE:Zbx E) {a:Act} {id l n:Nat} {Q:Exit->Act->World->Prop} (hP:E.P.follows .mixedOrders=true) (hlex:lexL A.toList=true) (hd:∀(j:Nat) (o:Oper),A[j]? =some o->∀c,o.op≠ .defer c) (hQ:¬LetsOut Q) (hr:RH x0 w0 x s a w) (h:Hold x0 w0 x Q (Zfd s (ZcN E chg (Zdq A.toList []) A.toList A.toList 0 false [] [] s).val)):(Code.region id A true).wpIn (Fence.wide.inRound l) n E.P Q a w:=
 wpIn_region_any hP (Zmc hd hQ _ _ _ _ (ZOv hE hlex hr h))
theorem MK.grown {W W':World} {row:Option Nat} (h:MK x m W) (hg:W.grownBy W' row) (hr:∀r,row=some r->∃o:Obj,W.heap[r]? =some o/\o.isCells=false):MK x m W':=by
 have key:∀(p:Nat) (o:Obj),W.heap[p]? =some o->o.isCells=true->W'.heap[p]? =some o:=λp o ho hc=>by refine (hg.block p (Yv.1 ho).1 λe=> ?_).trans ho;obtain⟨o',h1,h2⟩:=hr p e.symm;rw[ho] at h1;cases h1;rw[hc] at h2;cases h2
 exact⟨λk hk=>h.fresh k (YD hg.size hk),λb o v e=>cell_kept (h.fz b o v e) hg hr,h.ml,λb l p h1 h2=>by
  obtain⟨C,T,e1,e2⟩:=h.box b l p h1 h2;exact⟨C,T,key p _ e1 rfl,e2⟩,h.mown,h.inj,h.sl,λi g s h1 h2=>by
  have k:=h.stg i g s h1 h2
  exact⟨k.ver,k.n,k.wd,k.nil,λp cap hb=>by
   obtain⟨C,c1,c2⟩:=k.row p cap hb
   exact⟨C,key p _ c1 rfl,c2⟩,k.fzn,k.ffz,k.ub⟩,h.sown,h.sinj⟩
def Ctx.least (x:Ctx) (w:World):Ctx:={x with own:=λk=>w.heap.size<=k\/(∃b,nth x.M b=some k)\/∃i s cap,nth x.S i=some s/\s.blk=some (k,cap)}
theorem MK.least {x:Ctx} {m:Mem} {w:World} (h:MK x m w):MK (x.least w) m w:=
 ⟨λk hk=>.inl hk,h.fz,h.ml,λb l p h1 h2=>by
  obtain⟨C,T,e1,e2⟩:=h.box b l p h1 h2;exact⟨C,T,e1,RL.same (x:=x) (y:=x.least w) rfl rfl rfl e2⟩,λb p hp=>⟨.inr (.inl ⟨b,hp⟩),(h.mown b p hp).2⟩,h.inj,h.sl,
  λi g s h1 h2=>(h.stg i g s h1 h2).ctx (λ_ _ _ h=>h) (λ_ _ _ _=>rfl),λi s p cap h1 h2=>⟨.inr (.inr ⟨i,s,cap,h1,h2⟩),(h.sown i s p cap h1 h2).2⟩,h.sinj⟩
theorem MK.least_cells (h:MK x m w) {k:Nat} (hk:(x.least w).own k):w.heap.size<=k\/∃o:Obj,w.heap[k]? =some o/\o.isCells=true:=by
 rcases hk with hk|⟨b,hb⟩|⟨i,s,cap,hs,hb⟩
 ·exact .inl hk
 ·obtain⟨l,hl⟩:=ZcT (l:=m.Bx) (n:=b) (by rw[<-h.ml];exact ZZ hb);obtain⟨C,T,e1,_⟩:=h.box b l k hl hb;exact .inr ⟨_,e1,rfl⟩
 ·obtain⟨g,hg⟩:=h.stg_of hs;obtain⟨C,c1,_⟩:=(h.stg i g s hg hs).row k cap hb;exact .inr ⟨_,c1,rfl⟩
theorem MK.most {y:Ctx} {w':World} (h:MK y m w') (hx:Ext (x.least w) y) (hf:∀k,w.heap.size<=k->x.own k) (hm:∀b p,nth x.M b=some p->x.own p) (hs:∀i s p cap,nth x.S i=some s->s.blk=some (p,cap)->x.own p) (hsz:w.heap.size<=w'.heap.size):MK {y with own:=x.own} m w':=by
 have ho:∀k,y.own k->x.own k:=λk hk=>by
  rw[hx.own] at hk;rcases hk with hk|⟨b,hb⟩|⟨i,s,cap,h1,h2⟩
  ·exact hf k hk
  ·exact hm b k hb
  ·exact hs i s k cap h1 h2
 exact⟨λk hk=>hf k (YD hsz hk),h.fz,h.ml,λb l p h1 h2=>by
  obtain⟨C,T,e1,e2⟩:=h.box b l p h1 h2;exact⟨C,T,e1,RL.same (x:=y) (y:={y with own:=x.own}) rfl rfl rfl e2⟩,λb p hp=>⟨ho p (h.mown b p hp).1,(h.mown b p hp).2⟩,h.inj,h.sl,
  λi g s h1 h2=>(h.stg i g s h1 h2).ctx (λ_ _ _ h=>h) (λ_ _ _ _=>rfl),λi s p cap h1 h2=>⟨ho p (h.sown i s p cap h1 h2).1,(h.sown i s p cap h1 h2).2⟩,h.sinj⟩
theorem MK.cut (h:MK x m w) (nb ns:Nat) (hb:∀b l,nth (Z0 nb m.Bx) b=some l->∀a∈l,∀v,RA x a v->RA {x with M:=Z0 nb x.M,S:=Z0 ns x.S} a v):
  MK {x with M:=Z0 nb x.M,S:=Z0 ns x.S} ⟨Z0 nb m.Bx,Z0 ns m.Sg⟩ w:=by
 have hRL:∀{l:List A} {C:List Value},(∀a∈l,∀v,RA x a v->RA {x with M:=Z0 nb x.M,S:=Z0 ns x.S} a v)->RL x l C->RL {x with M:=Z0 nb x.M,S:=Z0 ns x.S} l C:=by
  intro l
  induction l with
  |nil=>intro C _ hC;cases C with|nil=>trivial|cons _ _=>exact hC.elim
  |cons a l ih=>
   intro C ha hC;cases C with
   |nil=>exact hC.elim
   |cons v C=>exact⟨ha a (by simp) v hC.1,ih (λa' h'=>ha a' (by simp[h'])) hC.2⟩
 refine⟨h.fresh,h.fz,by simp[ZdE,h.ml],λb l p h1 h2=> ?_,λb p hp=>h.mown b p (ZJ hp).2,λb b' p h1 h2=>h.inj b b' p (ZJ h1).2 (ZJ h2).2,by simp[ZdE,h.sl],
  λi g s h1 h2=>(h.stg i g s (ZJ h1).2 (ZJ h2).2).ctx (λ_ _ _ h=>h) (λ_ _ _ _=>rfl),λi s p cap h1 h2=>⟨(h.sown i s p cap (ZJ h1).2 h2).1,λb hb=>(h.sown i s p cap (ZJ h1).2 h2).2 b (ZJ hb).2⟩,
  λi i' s s' p c c' h1 h2 e1 e2=>h.sinj i i' s s' p c c' (ZJ h1).2 (ZJ h2).2 e1 e2⟩
 obtain⟨C,T,e1,e2⟩:=h.box b l p (ZJ h1).2 (ZJ h2).2;exact⟨C,T,e1,hRL (hb b l h1) e2⟩
open Go
noncomputable section
def Rs.okR:(r:Rs)->r.den->Prop
 | .one s,y=>s.ok y
 | .tup l,y=>okHL l y
def okRs:Rs->Bool
 | .one s=>okSh s
 | .tup l=>l.all okSh
theorem Rs.okR_of {r:Rs} (h:okRs r=true) {x:Ctx} {y:r.den} {v:Value} (hv:RV x (r.enc y) v):r.okR y:=by
 cases r with
 |one s=>exact (Sh.dec_ok (Sh.dec_enc h y) hv).2
 |tup l=>
  obtain⟨C,rfl,hC⟩:=hv;exact (Zl4 (Zpt h y) hC).2
theorem Za.pure_pick {P:Program} {f:FuncId} {ts:List Sh} {rs:Rs} {pre:HL ts->Option Bool} {F G:HL ts->rs.den} (h:Za P f (Zf ts rs pre F)) (hr:okRs rs=true) (hG:∀a,okHL ts a->pre a≠some false->rs.okR (F a)->F a=G a):Za P f (Zf ts rs pre G):=by
 refine⟨h.1,λvs chk v hpv hc x m w args hm hv=> ?_⟩;simp only at hpv;split at hpv
 ·rename_i a ha;simp only[oinj,pinj] at hpv;obtain⟨rfl,rfl⟩:=hpv;obtain⟨_,hin⟩:=Zax ha hv;refine (h.2 vs (pre a) (rs.enc (F a)) (by simp only[ha]) hc x m w args hm hv).mono λe w' hres=> ?_
  obtain⟨val,x',h1,h2,h3⟩:=hres;have he:=hG a hin hc (Rs.okR_of hr h2);exact⟨val,x',h1,he▸h2,h3⟩
 ·simp at hpv
end
end Go.S3
open Go Go.Proofs Go.Shelf
namespace Go.S3
theorem Zv8 {P:Program} {f:FuncId} (hcall:Zy P f) {ts:List Sh} {rs:Rs} {pre:HL ts->Option Bool} {F:HL ts->rs.den} (h:∀a,okHL ts a->pre a≠some false->∀(x:Ctx) (w:World) args,RVs x (Zdj ts a) args->Calls P f args.toArray w (λe w'=>(∃val,e=.returned val/\RV x (rs.enc (F a)) val)/\w'=w)):
  Za P f (Zf ts rs pre F):=by
 refine⟨hcall,λvs chk v hp hc x m w args hm hv=> ?_⟩;simp only at hp;split at hp
 ·rename_i a ha;simp only[oinj,pinj] at hp;obtain⟨rfl,rfl⟩:=hp;obtain⟨hv',hin⟩:=Zax ha hv;refine (h a hin hc x w args hv').mono λe w' ⟨⟨val,h1,h2⟩,hw⟩=> ?_
  subst hw;exact⟨val,x,h1,h2,hm,Ext.refl x,Zb5.refl _⟩
 ·simp at hp
variable {m:Nat}
theorem ZNw {n:Nat} (h:some (Nat.ble n m)≠some false):n<=m:=by
 rw[<-Nat.ble_eq];cases e:Nat.ble n m with
 |true=>rfl
 |false=>rw[e] at h;exact absurd rfl h
theorem ZNW {l:List UInt8} {c:UInt8} (h:l.length<=4294967280):inR .i64 (Lib.indexByte l c):=by
 have h1:=Lib.indexByte_ge l c;have h2:Lib.indexByte l c<=l.length:=by
  clear h h1
  induction l with
  |nil=>unfold Lib.indexByte;simp
  |cons b l ih=>
   unfold Lib.indexByte;split
   ·simp;omega
   ·split
    ·simp;omega
    ·simp;omega
 exact⟨by show (-9223372036854775808:Int)<=_;omega,by show _<=(9223372036854775807:Int);omega⟩
theorem ZTJ {b:ByteArray} {n:Nat} (h:b.size<=n):b.data.toList.length<=n:=by rw[Array.length_toList];exact h
def ZEW:En:=Zf [.one .str,.one (.int .u8)] (.one (.one (.int .i64))) (λa=>some (Nat.ble a.1.size 4294967280)) (λa=>Lib.indexByte a.1.data.toList a.2.toNat.toUInt8)
variable {x:Ctx} {args:List Value}
theorem ZXn {a:HL [.one .str,.one (.int .u8)]} (h:RVs x (Zdj [.one .str,.one (.int .u8)] a) args):args=[.string a.1,.int .u8 a.2]:=by
 match args,h with
 |[u,v],h=>
  have h1:RA x (.str a.1) u:=h.1;have h2:RA x (.int false .u8 a.2) v:=h.2.1;cases h1;cases h2;rfl
theorem ZXm {a:HL [.one .str,.one .str]} (h:RVs x (Zdj [.one .str,.one .str] a) args):args=[.string a.1,.string a.2]:=by
 match args,h with
 |[u,v],h=>
  have h1:RA x (.str a.1) u:=h.1;have h2:RA x (.str a.2) v:=h.2.1;cases h1;cases h2;rfl
theorem ZHH {P:Program} {ρ:Ren} (L:Lays.n137 P ρ) (hc:Zy P (ρ.f 137)):Za P (ρ.f 137) ZEW:=
 Zv8 hc λa _ hp x w args hv=>by
  rw[ZXn hv];refine (Any.strings_IndexByte L a.1 a.2 w).mono λe w' ⟨he,hw⟩=>⟨⟨_,he,?_⟩,hw⟩
  exact RA.int _ _ _ _ (ZNW (ZTJ (ZNw hp)))
def ZNZ:En:=Zf [.one .str,.one .str] (.one (.one (.int .i64))) (λa=>some (Nat.beq a.2.size 1&&Nat.ble a.1.size 4294967280)) (λa=>Lib.indexB a.1 a.2)
theorem ZWl {n:Nat} {s:ByteArray} (h:some (Nat.beq s.size 1&&Nat.ble n m)≠some false):s.size=1/\n<=m:=by
 cases e:Nat.beq s.size 1&&Nat.ble n m with
 |true=>
  rw[Yb,Yt,Yy] at e;exact e
 |false=>rw[e] at h;exact absurd rfl h
theorem Zuu (s:ByteArray) (c:UInt8):Lib.indexB s ⟨#[c]⟩=Lib.indexByte s.data.toList c:=by
 have e:∀c:UInt8,(((c.toNat:Nat):Int)).toNat.toUInt8=c:=λc=>by simp
 have:=Lib.one s ⟨#[c]⟩ rfl;rw[this];exact congrArg _ (e c)
theorem ZNY {P:Program} {ρ:Ren} (L:Lays.n219 P ρ) (hc:Zy P (ρ.f 219)):Za P (ρ.f 219) ZNZ:=
 Zv8 hc λa _ hp x w args hv=>by
  obtain⟨h1,h2⟩:=ZWl hp;obtain⟨s,sep⟩:=a;obtain⟨c,rfl⟩:=Lib.one_byte sep h1;rw[ZXm hv];refine (Any.stringslite_Index_one L s c w).mono λe w' ⟨he,hw⟩=>⟨⟨_,he,?_⟩,hw⟩
  show RA x (.int false .i64 (Lib.indexB s ⟨#[c]⟩)) _;rw[Zuu];exact RA.int _ _ _ _ (ZNW (ZTJ h2))
def ZSW:En:=Zf [.one .str,.one .str,.one (.int .i64),.one (.int .i64)] (.one (.one (.sl .str))) (λa=>some (Nat.beq a.2.1.size 1&&Nat.ble a.1.size 1000000&&(decide (a.2.2.1=0)&&decide (a.2.2.2= -1)))) (λa=>Lib.splitB a.2.1 0 (Lib.countB a.1 a.2.1) a.1)
theorem ZPT {n:Nat} {s:ByteArray} {i j:Int} (h:some (Nat.beq s.size 1&&Nat.ble n m&&(decide (i=0)&&decide (j= -1)))≠some false):s.size=1/\n<=m/\i=0/\j= -1:=by
 cases e:Nat.beq s.size 1&&Nat.ble n m&&(decide (i=0)&&decide (j= -1)) with
 |true=>
  simp only[Yb,Yt,Yy,Yf] at e;exact⟨e.1.1,e.1.2,e.2.1,e.2.2⟩
 |false=>rw[e] at h;exact absurd rfl h
theorem ZPU {P:Program} {ρ:Ren} (L:Lays.n221 P ρ) (hi9:(P.info? (ρ.t 9)).map (λi=>(i.zero,i.size,i.bytes))=some (some (.string ByteArray.empty),1,16)) (hcall:Zy P (ρ.f 221)):Za P (ρ.f 221) ZSW:=by
 refine⟨hcall,λvs chk v hp hc x m w args hm hv=> ?_⟩;simp only at hp;split at hp
 case h_2=>simp at hp
 rename_i a ha;simp only[oinj,pinj] at hp;obtain⟨rfl,rfl⟩:=hp;obtain⟨hv',hin⟩:=Zax ha hv;obtain⟨s,sep,i,j⟩:=a;obtain⟨h1,h2,hi,hj⟩:=ZPT hc;simp only at hi hj h1 h2;subst hi;subst hj;obtain⟨c,rfl⟩:=Lib.one_byte sep h1;have hargs:args=[.string s,.string ⟨#[c]⟩,.int .i64 0,.int .i64 (-1)]:=by
  match args,hv' with
  |[u,v,p,q],h=>
   have k1:RA x (.str s) u:=h.1;have k2:RA x (.str ⟨#[c]⟩) v:=h.2.1;have k3:RA x (.int false .i64 0) p:=h.2.2.1;have k4:RA x (.int false .i64 (-1)) q:=h.2.2.2.1;cases k1;cases k2;cases k3;cases k4;rfl
 subst hargs;obtain⟨ws,hws⟩:∃ws,Lib.splitB ⟨#[c]⟩ 0 (Lib.countB s ⟨#[c]⟩) s=ws:=⟨_,rfl⟩;have hz:1<=(ByteArray.mk #[c]).size:=Ye 1;have hcl:=Lib.countB_le ⟨#[c]⟩ hz s.size s (Ye _);have hlen:=Lib.splitB_all ⟨#[c]⟩ hz 0 _ s rfl;rw[hws] at hlen
 have key:=Any.strings_genSplit_core L hi9 s ⟨#[c]⟩ 0 (-1) (Lib.countB s ⟨#[c]⟩+1) w (by omega) hz (Yr _) (λy cs hy=>(Any.strings_Index_one {L with} y c _).mono λe w' ⟨he,hw⟩=>⟨by rw[he,Zuu],hw⟩) ((Any.strings_Count_one {L with} s c w).mono λe w' ⟨he,hw⟩=>⟨by
   rw[he];show _=Ending.returned (Value.int .i64 ((Lib.count s.data.toList [c]:Nat):Int))
   rw[Lib.count_one];rfl,hw⟩) (by decide) (by decide) (by rw[YX (by decide)];omega)
 rw[Nat.add_sub_cancel,hws] at key;have hcells:Lib.cellsOf ws (Lib.countB s ⟨#[c]⟩+1)=(ws.map Value.string).toArray:=by rw[<-hlen];exact Lib.cellsOf_full _
 rw[hcells] at key;refine key.mono λe w' ⟨he,hw⟩=> ?_
 subst hw;obtain⟨m1,m2⟩:=hm.frzNew (ws.map Value.string) (ρ.t 9);refine⟨_,_,he,?_,m1,m2,Zb5.alloc w _⟩;rw[<-hlen];show RA _ (.lst .str false false false (Lib.splitB ⟨#[c]⟩ 0 (Lib.countB s ⟨#[c]⟩) s)) _;rw[hws];refine ZdC (y:={x with fz:=λb o=>if b=w.heap.size then (ws.map Value.string)[o]? else x.fz b o}) (r:=.str) (l:=ws) (C:=ws.map Value.string) (p:=w.heap.size) (cap:=ws.length) (lit:=false) (full:=false) (nn:=false) (Ye _) (by simp only[maxLen];omega) (λe=>by simp at e) (λk u e=>(YX rfl).trans e) (λi' j' d hi' hd=> ?_);have hd:nth [A.str (ws.getD i' ByteArray.empty)] j'=some d:=hd;cases j' with
 |succ j=>simp[nth] at hd
 |zero=>
  simp only[nth,oinj] at hd;subst hd;refine⟨.string ws[i'],by simp[R.wid,Yg hi'],?_⟩;rw[Yl,Yg hi'];exact .str _ _
end Go.S3
open Go
namespace Go.S3
def ZWq (ts:List Sh) (rs:Rs) (pre:HL ts->Option Bool) (F:HL ts->rs.den):En:=
 .pure λvs=>match vs with
  | .w (.one .nilsl)::vs=>match Zip ts vs with
   |some a=>some (pre a,rs.enc (F a))
   |none=>none
  |_=>none
def ZOj (E:Env) (fn:Func) (ts:List Sh) (rs:Rs) (a:HL ts):RT (Option rs.den):=(Zo E fn (.w (.one .nilsl)::Zdj ts a) ZdF).map fun
 |some r=>rs.out r.m r.v
 |none=>none
variable {ts:List Sh} {rs:Rs}
theorem ZRt {E:Env} (hE:Zbx E) {f:FuncId} {fn:Func} {c:Code} (hf:E.P.funcs[f]? =some fn) (hb:fn.body=some c) (hl:Z3 E c) (hcall:Zy E.P f)
 {pre:HL ts->Option Bool} {F:HL ts->rs.den} (h:∀a,okHL ts a->pre a≠some false->(ZOj E fn ts rs a).val=some (F a)):
  Za E.P f (ZWq ts rs pre F):=by
 refine⟨hcall,λvs chk v hp hc x m w args hm hv=> ?_⟩;simp only at hp;split at hp
 case h_2=>simp at hp
 rename_i vs';split at hp
 ·rename_i a ha;simp only[oinj,pinj] at hp;obtain⟨rfl,rfl⟩:=hp
  match args,hv with
  |u::args',hv=>
   have hu:RA x .nilsl u:=hv.1;cases hu;obtain⟨hargs,hin⟩:=Zax ha hv.2;have h1:=h a hin hc;unfold ZOj at h1;rw[RT.val_map] at h1;split at h1
   ·rename_i r hr;have hle:FzLe x (Ctx.own0 w x.fz):=λ_ _ _ e=>e
    have hargs':RVs (Ctx.own0 w x.fz) (.w (.one .nilsl)::Zdj ts a) (.slice none 0 0::args'):=⟨RA.nilsl _,Zch (ZbJ hle ts a (ZaD hargs))⟩;have h2:=ZaC hE hf hb hl (Zij hm) hargs' hr;refine h2.mono λe w' hres=> ?_
    obtain⟨val,x1,rfl,hrv,hm1,hext,hst⟩:=hres;obtain⟨x2,m2,hm2,hext2,hrv2⟩:=Rs.out_ok h1 hm1 hrv;obtain⟨h3,h4⟩:=Ziu hm (hext.trans hext2) hm2.fz (Zab hst).1;exact⟨val,{x with fz:=x2.fz},rfl,Rs.enc_ctx (x:=x2) (x':={x with fz:=x2.fz}) (λ_ _ _ e=>e) rs _ hrv2,h3,h4,Zab hst⟩
   ·simp at h1
 ·simp at hp
theorem ZMV {P:Program} {l:List (FuncId×En)} {ol:List (Nat×Ora)} {n k:Nat} {f:FuncId} {fn:Func} (hl:ZdM P l) (hf:P.funcs[f]? =some fn) (hb:fn.body.isSome=true) (hn:ZbH (ZC (fn.body.getD .skip))=true) (hcall:Zy P f) (hol:AllL (envX P l ol n k) fn.body ol)
 {t:HL ts->RT (Option rs.den)} (h:∀a,ZOj (envX P l ol n k) fn ts rs a=t a):Za P f (ZWq ts rs (λa=>okO (t a).val) (λa=>getO rs.Df (t a).val)):=by obtain⟨c,hc,hlo⟩:=ZcG hb hn hol;exact ZRt (E:=envX P l ol n k) (ZaT hl ol n k) hf hc hlo hcall λa _ hp=>by rw[h a];exact Ze3 hp
