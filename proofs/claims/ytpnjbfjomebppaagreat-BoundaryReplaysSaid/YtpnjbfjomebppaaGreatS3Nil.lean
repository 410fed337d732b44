import Derived.Test.YtpnjbfjomebppaaGreatS3D
set_option linter.unusedVariables false
set_option linter.unusedSimpArgs false
namespace Go.S3
variable {x:Ctx} {r:R}
theorem RA.nil_or {lit full nn:Bool} {l:List r.den} {v:Value} (h:RA x (.lst r lit full nn l) v):(l=[]/\RA x .nilsl v)\/RA x (.lst r lit full true l) v:=by
 cases h with
 |lst0 _ _ _ _ _ _ a cap h hf hn hz=>
  cases a with
  |some a=>exact .inr (.lst0 x r lit full true _ (some a) cap h hf (λ_=>rfl) hz)
  |none=>rw[hz rfl];exact .inl ⟨h,.nilsl x⟩
 |lst _ _ _ _ _ _ p o cap c h hf hcap hml hz hr=>exact .inr (.lst x r lit full true _ p o cap c h hf hcap hml hz hr)
section
variable {P:Program} {l:List (FuncId×En)} {ol:List (Nat×Ora)} {n k:Nat} {f:FuncId} {fn:Func}
end
abbrev Zlc (r:R) (T:TypeId) (l:List r.den):Stg:=⟨r,T,l,0,false,false,false,0⟩
def ZfA (r:R) (T:TypeId) (m:Mem) (chk:Option Bool) (l:List r.den):Res:=
 {chk:=chk,v:=.w (.one (.tip (len m.Sg) 0)),m:={m with Sg:=m.Sg++[⟨r,T,l,0,false,false,false,0⟩]},bd:=[],sd:=[]}
def Zz8 (r:R) (T:TypeId):En:=.tree λvs m=>match vs with
 |[.w (.one (.lst r' _ _ _ l))]=>match R.same r' r with
  |some e=>.Lf (some (ZfA r T m (some (Nat.ble l.length most)) (e.slc.cast l)))
  |none=>.Lf none
 |[.w (.one .nilsl)]=>.Lf (some (ZfA r T m none []))
 |_=>.Lf none
theorem Zjy (r:R) (T:TypeId) (m:Mem) (chk:Option Bool) (l:List r.den):KeepC m (ZfA r T m chk l):=
 ⟨Ye _,λb l hl=>⟨l,hl,rfl,λ_ _=>rfl⟩,by simp[ZfA],λi g hg=>⟨g,by
  show nth (m.Sg++[_]) i=some g
  rw[Zm,Yl (Z0 hg),<-Zm];exact hg,Ye _,λ_=>rfl⟩⟩
theorem ZER (r:R) (T:TypeId) (vs:List V) (m:Mem):match Zz8 r T with
  | .tree g=>(g vs m).All (λq=>∀p,q=some p->KeepC m p)
  |_=>False:=by
 simp only[Zz8];split
 ·split
  ·intro q hq;simp only[oinj] at hq;subst hq;exact Zjy ..
  ·intro q hq;simp at hq
 ·intro q hq;simp only[oinj] at hq;subst hq;exact Zjy ..
 ·intro q hq;simp at hq
theorem Z0h {m:Mem} {w:World} (hm:MK x m w) (r:R) (T:TypeId):∃x',MK x' {m with Sg:=m.Sg++[Zlc r T []]} w/\Ext x x'/\RA x' (.tip (len m.Sg) 0) (.slice none 0 0):=by
 have h1:=hm.addS (g:=Zlc r T []) (s:=ZfN r) (ZP.refl w) (λp cap h=>by simp[ZfN] at h)
   ⟨rfl,rfl,rfl,λ_=>⟨rfl,rfl⟩,λp cap h=>by simp[ZfN] at h,λ_=>rfl,λh=>by simp[Zlc] at h,λh=>by simp[Zlc] at h⟩
 refine⟨_,h1.1,h1.2,.tip _ _ _ (ZfN r) _ ?_ (Ye _) (λ_=>rfl) trivial⟩;rw[Zm,Z9,<-hm.sl];simp
variable {T:TypeId}
theorem ZV2 {E:Env} (hE:Zbw E) {f:FuncId} {fn:Func} {c:Code} (hf:E.P.funcs[f]? =some fn) (hb:fn.body=some c) (hl:Z1 E c) (hcall:ZR E.P f) (h0:∀m,∃q,(ZM E fn [.w (.one .nilsl)] m).val=some q/\q.v=.w (.one .nilsl)/\q.m=m) (h1:∀m l,Nat.ble l.length most=true->∃q,(ZM E fn [.w (.one (.lst r false false true l))] m).val=some q/\q.v=.w (.one (.tip (len m.Sg) 0))/\q.m={m with Sg:=m.Sg++[Zlc r T l]}):
  Za E.P f (Zz8 r T):=by
 have nilc:∀x m w v,MK x m w->RA x .nilsl v->Calls E.P f [v].toArray w (λe w'=>∃val x',e=.returned val/\RV x' (ZfA r T m none []).v val/\MK x' (ZfA r T m none []).m w'/\Ext x x'/\Step x w w'):=by
  intro x m w v hm hv;obtain⟨q,e1,e2,e3⟩:=h0 m;refine (Zba hE hf hb hl hm (vs:=[.w (.one .nilsl)]) (args:=[v]) ⟨hv,Tv⟩ e1).mono λe w' hres=> ?_
  obtain⟨val,x1,rfl,hrv,hm1,hext,hst⟩:=hres;rw[e3] at hm1;rw[e2] at hrv;obtain⟨x2,a1,a2,a3⟩:=Z0h hm1 r T;cases hrv;exact⟨_,x2,rfl,a3,a1,hext.trans a2,hst⟩
 refine⟨hcall,λvs m=>ZER r T vs m,λvs m q hq hc x w args hm hv=> ?_⟩;simp only at hq;split at hq
 ·rename_i r' lit full nn l;split at hq
  ·rename_i e he;simp only[RT.val,oinj] at hq;subst hq;cases e;have hle:Nat.ble l.length most=true:=by
    cases h:Nat.ble l.length most with
    |true=>rfl
    |false=>simp[ZfA,h] at hc
   match args,hv with
   |[v],hv=>
    have hv1:RA x (.lst r lit full nn l) v:=hv.1;rcases hv1.nil_or with ⟨rfl,h⟩|h
    ·exact nilc x m w v hm h
    ·obtain⟨q,e1,e2,e3⟩:=h1 m l hle;refine (Zba hE hf hb hl hm (vs:=[.w (.one (.lst r false false true l))]) (args:=[v]) ⟨h.lst_weak (λe=>by simp at e) (λe=>rfl),Tv⟩ e1).mono λe w' hres=> ?_
     obtain⟨val,x1,rfl,hrv,hm1,hext,hst⟩:=hres;rw[e3] at hm1;rw[e2] at hrv;exact⟨val,x1,rfl,hrv,hm1,hext,hst⟩
  ·simp[RT.val] at hq
 ·simp only[RT.val,oinj] at hq;subst hq
  match args,hv with
  |[v],hv=>exact nilc x m w v hm hv.1
 ·simp[RT.val] at hq
theorem ZLR {P:Program} {l:List (FuncId×En)} {ol:List (Nat×Ora)} {n k:Nat} {f:FuncId} {fn:Func} (hl:Zc3 P l) (hf:P.funcs[f]? =some fn) (hb:fn.body.isSome=true) (hn:ZbH (ZL (fn.body.getD .skip))=true) (hcall:ZR P f) (hol:AllL (envX P l ol n k) fn.body ol) (h0:∀m,∃q,(ZM (envX P l ol n k) fn [.w (.one .nilsl)] m).val=some q/\q.v=.w (.one .nilsl)/\q.m=m) (h1:∀m l',Nat.ble l'.length most=true->∃q,(ZM (envX P l ol n k) fn [.w (.one (.lst r false false true l'))] m).val=some q/\q.v=.w (.one (.tip (len m.Sg) 0))/\q.m={m with Sg:=m.Sg++[Zlc r T l']}):
  Za P f (Zz8 r T):=by obtain⟨c,hc,hlo⟩:=ZcT hb hn hol;exact ZV2 (E:=envX P l ol n k) (Zbv hl ol n k) hf hc hlo hcall h0 h1
