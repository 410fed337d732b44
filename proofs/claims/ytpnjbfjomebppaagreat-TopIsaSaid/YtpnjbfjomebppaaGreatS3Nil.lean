import Derived.Test.YtpnjbfjomebppaaGreatS3D
set_option linter.unusedVariables false
set_option linter.unusedSimpArgs false
namespace Go.S3
variable {x:Ctx} {r:R}
theorem RA.nil_or {lit full nn:Bool} {l:List r.den} {v:Value} (h:RA x (.lst r lit full nn l) v):(l=[]/\RA x .nilsl v)\/RA x (.lst r lit full true l) v:=by
 cases h with
 |lst0 _ _ _ _ _ _ a cap h hf hn hz=>
  cases a with
  |some a=>exact .inr (.lst0 x r lit full true _ (some a) cap h hf (λ_=>rfl) hz)
  |none=>rw[hz rfl];exact .inl ⟨h,.nilsl x⟩
 |lst _ _ _ _ _ _ p o cap c h hf hcap hml hz hr=>exact .inr (.lst x r lit full true _ p o cap c h hf hcap hml hz hr)
def evOf (E:Env) (fn:Func) (rs:Rs) (vs:List V):RT (Option rs.den):=(Zx E fn vs ZeC).map fun
 |some r=>rs.out r.m r.v
 |none=>none
section
variable {P:Program} {l:List (FuncId×En)} {ol:List (Nat×Ora)} {n k:Nat} {f:FuncId} {fn:Func}
theorem ZSx (hl:Zd5 P l) (hf:P.funcs[f]? =some fn) (hb:fn.body.isSome=true) (hn:ZbS (ZD (fn.body.getD .skip))=true) (hcall:ZO P f) (hol:AllL (envX P l ol n k) fn.body ol)
 {rs:Rs} {pre:List r.den->Bool} {F:List r.den->rs.den} (h0:(evOf (envX P l ol n k) fn rs [.w (.one .nilsl)]).val=some (F [])) (h1:∀a,pre a=true->(evOf (envX P l ol n k) fn rs [.w (.one (.lst r false false true a))]).val=some (F a)):
  Zb P f (Zi [.one (.sl r)] rs (λa=>some (pre a)) F):=by
 obtain⟨c,hc,hlo⟩:=ZcW hb hn hol;have hE:=ZbF hl ol n k;refine⟨hcall,λvs chk v hp hck x m w args hm hv=> ?_⟩;simp only at hp;split at hp
 ·rename_i a ha;simp only[oinj,pinj] at hp;obtain⟨rfl,rfl⟩:=hp;have hpre:pre a=true:=by
   cases h:pre a with
   |true=>rfl
   |false=>rw[h] at hck;exact absurd rfl hck
  obtain⟨hargs,hin⟩:=ZbT ha hv;have hle:FzLe x (Ctx.own0 w x.fz):=λ_ _ _ e=>e
  have hargs':RVs (Ctx.own0 w x.fz) (Zf5 [.one (.sl r)] a) args:=Zc3 (ZcD hle [.one (.sl r)] a (Zbo hargs));have key:∃us,RVs (Ctx.own0 w x.fz) us args/\(evOf (envX P l ol n k) fn rs us).val=some (F a):=by
   match args,hargs' with
   |[u],hu=>
    have hu1:RA (Ctx.own0 w x.fz) (.lst r false false false a) u:=hu.1;rcases hu1.nil_or with ⟨rfl,h⟩|h
    ·exact⟨[.w (.one .nilsl)],⟨h,Tv⟩,h0⟩
    ·exact⟨[.w (.one (.lst r false false true a))],⟨h,Tv⟩,h1 a hpre⟩
  obtain⟨us,hus,h2⟩:=key;unfold evOf at h2;rw[RT.val_map] at h2;split at h2
  ·rename_i q hr;have h3:=Za0 hE hf hc hlo (ZuQ hm) hus hr;refine h3.mono λe w' hres=> ?_
   obtain⟨val,x1,rfl,hrv,hm1,hext,hst⟩:=hres;obtain⟨x2,m2,hm2,hext2,hrv2⟩:=Rs.out_ok h2 hm1 hrv;obtain⟨h3,h4⟩:=ZvD hm (hext.trans hext2) hm2.fz (Zbe hst).1;exact⟨val,{x with fz:=x2.fz},rfl,Rs.enc_ctx (x:=x2) (x':={x with fz:=x2.fz}) (λ_ _ _ e=>e) rs _ hrv2,h3,h4,Zbe hst⟩
  ·simp at h2
 ·simp at hp
end
abbrev Zh7 (r:R) (T:TypeId) (l:List r.den):Stg:=⟨r,T,l,0,false,false,false,0⟩
def Zf6 (r:R) (T:TypeId) (m:Mem) (chk:Option Bool) (l:List r.den):Res:=
 {chk:=chk,v:=.w (.one (.tip (len m.Sg) 0)),m:={m with Sg:=m.Sg++[⟨r,T,l,0,false,false,false,0⟩]},bd:=[],sd:=[]}
def ZrP (r:R) (T:TypeId):En:=.tree λvs m=>match vs with
 |[.w (.one (.lst r' _ _ _ l))]=>match R.same r' r with
  |some e=>.Lf (some (Zf6 r T m (some (Nat.ble l.length most)) (e.slc.cast l)))
  |none=>.Lf none
 |[.w (.one .nilsl)]=>.Lf (some (Zf6 r T m none []))
 |_=>.Lf none
theorem ZjX (r:R) (T:TypeId) (m:Mem) (chk:Option Bool) (l:List r.den):KeepC m (Zf6 r T m chk l):=
 ⟨Ye _,λb l hl=>⟨l,hl,rfl,λ_ _=>rfl⟩,by simp[Zf6],λi g hg=>⟨g,by
  show nth (m.Sg++[_]) i=some g
  rw[Zo,Yp (Z9 hg),<-Zo];exact hg,Ye _,λ_=>rfl⟩⟩
theorem ZDg (r:R) (T:TypeId) (vs:List V) (m:Mem):match ZrP r T with
  | .tree g=>(g vs m).All (λq=>∀p,q=some p->KeepC m p)
  |_=>False:=by
 simp only[ZrP];split
 ·split
  ·intro q hq;simp only[oinj] at hq;subst hq;exact ZjX ..
  ·intro q hq;simp at hq
 ·intro q hq;simp only[oinj] at hq;subst hq;exact ZjX ..
 ·intro q hq;simp at hq
theorem ZW3 {m:Mem} {w:World} (hm:MK x m w) (r:R) (T:TypeId):∃x',MK x' {m with Sg:=m.Sg++[Zh7 r T []]} w/\Ext x x'/\RA x' (.tip (len m.Sg) 0) (.slice none 0 0):=by
 have h1:=hm.addS (g:=Zh7 r T []) (s:=Zgj r) (ZL.refl w) (λp cap h=>by simp[Zgj] at h)
   ⟨rfl,rfl,rfl,λ_=>⟨rfl,rfl⟩,λp cap h=>by simp[Zgj] at h,λ_=>rfl,λh=>by simp[Zh7] at h,λh=>by simp[Zh7] at h⟩
 refine⟨_,h1.1,h1.2,.tip _ _ _ (Zgj r) _ ?_ (Ye _) (λ_=>rfl) trivial⟩;rw[Zo,Zaj,<-hm.sl];simp
variable {T:TypeId}
theorem ZTl {E:Env} (hE:ZbQ E) {f:FuncId} {fn:Func} {c:Code} (hf:E.P.funcs[f]? =some fn) (hb:fn.body=some c) (hl:Zaa E c) (hcall:ZO E.P f) (h0:∀m,∃q,(Zx E fn [.w (.one .nilsl)] m).val=some q/\q.v=.w (.one .nilsl)/\q.m=m) (h1:∀m l,Nat.ble l.length most=true->∃q,(Zx E fn [.w (.one (.lst r false false true l))] m).val=some q/\q.v=.w (.one (.tip (len m.Sg) 0))/\q.m={m with Sg:=m.Sg++[Zh7 r T l]}):
  Zb E.P f (ZrP r T):=by
 have nilc:∀x m w v,MK x m w->RA x .nilsl v->Calls E.P f [v].toArray w (λe w'=>∃val x',e=.returned val/\RV x' (Zf6 r T m none []).v val/\MK x' (Zf6 r T m none []).m w'/\Ext x x'/\Step x w w'):=by
  intro x m w v hm hv;obtain⟨q,e1,e2,e3⟩:=h0 m;refine (Za0 hE hf hb hl hm (vs:=[.w (.one .nilsl)]) (args:=[v]) ⟨hv,Tv⟩ e1).mono λe w' hres=> ?_
  obtain⟨val,x1,rfl,hrv,hm1,hext,hst⟩:=hres;rw[e3] at hm1;rw[e2] at hrv;obtain⟨x2,a1,a2,a3⟩:=ZW3 hm1 r T;cases hrv;exact⟨_,x2,rfl,a3,a1,hext.trans a2,hst⟩
 refine⟨hcall,λvs m=>ZDg r T vs m,λvs m q hq hc x w args hm hv=> ?_⟩;simp only at hq;split at hq
 ·rename_i r' lit full nn l;split at hq
  ·rename_i e he;simp only[RT.val,oinj] at hq;subst hq;cases e;have hle:Nat.ble l.length most=true:=by
    cases h:Nat.ble l.length most with
    |true=>rfl
    |false=>simp[Zf6,h] at hc
   match args,hv with
   |[v],hv=>
    have hv1:RA x (.lst r lit full nn l) v:=hv.1;rcases hv1.nil_or with ⟨rfl,h⟩|h
    ·exact nilc x m w v hm h
    ·obtain⟨q,e1,e2,e3⟩:=h1 m l hle;refine (Za0 hE hf hb hl hm (vs:=[.w (.one (.lst r false false true l))]) (args:=[v]) ⟨h.lst_weak (λe=>by simp at e) (λe=>rfl),Tv⟩ e1).mono λe w' hres=> ?_
     obtain⟨val,x1,rfl,hrv,hm1,hext,hst⟩:=hres;rw[e3] at hm1;rw[e2] at hrv;exact⟨val,x1,rfl,hrv,hm1,hext,hst⟩
  ·simp[RT.val] at hq
 ·simp only[RT.val,oinj] at hq;subst hq
  match args,hv with
  |[v],hv=>exact nilc x m w v hm hv.1
 ·simp[RT.val] at hq
theorem ZrO {P:Program} {l:List (FuncId×En)} {ol:List (Nat×Ora)} {n k:Nat} {f:FuncId} {fn:Func} (hl:Zd5 P l) (hf:P.funcs[f]? =some fn) (hb:fn.body.isSome=true) (hn:ZbS (ZD (fn.body.getD .skip))=true) (hcall:ZO P f) (hol:AllL (envX P l ol n k) fn.body ol) (h0:∀m,∃q,(Zx (envX P l ol n k) fn [.w (.one .nilsl)] m).val=some q/\q.v=.w (.one .nilsl)/\q.m=m) (h1:∀m l',Nat.ble l'.length most=true->∃q,(Zx (envX P l ol n k) fn [.w (.one (.lst r false false true l'))] m).val=some q/\q.v=.w (.one (.tip (len m.Sg) 0))/\q.m={m with Sg:=m.Sg++[Zh7 r T l']}):
  Zb P f (ZrP r T):=by obtain⟨c,hc,hlo⟩:=ZcW hb hn hol;exact ZTl (E:=envX P l ol n k) (ZbF hl ol n k) hf hc hlo hcall h0 h1
