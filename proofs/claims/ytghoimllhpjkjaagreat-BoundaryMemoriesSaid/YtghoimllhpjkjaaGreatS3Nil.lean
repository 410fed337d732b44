import Derived.Test.YtghoimllhpjkjaaGreatS3D
set_option linter.unusedVariables false
set_option linter.unusedSimpArgs false
namespace Go.S3
theorem RA.nil_or {x:Ctx} {r:R} {lit full nn:Bool} {l:List r.den} {v:Value} (h:RA x (.lst r lit full nn l) v):(l=[]/\RA x .nilsl v)\/RA x (.lst r lit full true l) v:=by
 cases h with
 |lst0 _ _ _ _ _ _ a cap h hf hn hz=>
  cases a with
  |some a=>exact .inr (.lst0 x r lit full true _ (some a) cap h hf (λ_=>rfl) hz)
  |none=>rw[hz rfl];exact .inl ⟨h,.nilsl x⟩
 |lst _ _ _ _ _ _ p o cap c h hf hcap hml hz hr=>exact .inr (.lst x r lit full true _ p o cap c h hf hcap hml hz hr)
section
variable {P:Program} {l:List (FuncId×Entry)} {ol:List (Nat×Ora)} {n k:Nat} {f:FuncId} {fn:Func}
end
abbrev ZkK (r:R) (T:TypeId) (l:List r.den):Stg:=⟨r,T,l,0,false,false,false,0⟩
def ZfF (r:R) (T:TypeId) (m:Mem) (chk:Option Bool) (l:List r.den):Res:=
 {chk:=chk,v:=.w (.one (.tip (len m.stgs) 0)),m:={m with stgs:=m.stgs++[⟨r,T,l,0,false,false,false,0⟩]},bd:=[],sd:=[]}
def Zy7 (r:R) (T:TypeId):Entry:=.tree λvs m=>match vs with
 |[.w (.one (.lst r' _ _ _ l))]=>match R.same r' r with
  |some e=>.leaf (some (ZfF r T m (some (Nat.ble l.length most)) (e.slc.cast l)))
  |none=>.leaf none
 |[.w (.one .nilsl)]=>.leaf (some (ZfF r T m none []))
 |_=>.leaf none
theorem Zi7 (r:R) (T:TypeId) (m:Mem) (chk:Option Bool) (l:List r.den):KeepC m (ZfF r T m chk l):=
 ⟨Nat.le_refl _,λb l hl=>⟨l,hl,rfl,λ_ _=>rfl⟩,by simp[ZfF],λi g hg=>⟨g,by
  show nth (m.stgs++[_]) i=some g
  rw[Zt,List.getElem?_append_left (Zab hg),<-Zt];exact hg,Nat.le_refl _,λ_=>rfl⟩⟩
theorem ZDH (r:R) (T:TypeId) (vs:List V) (m:Mem):match Zy7 r T with
  | .tree g=>(g vs m).All (λq=>∀p,q=some p->KeepC m p)
  |_=>False:=by
 simp only[Zy7]
 split
 ·split
  ·intro q hq;simp only[oinj] at hq;subst hq;exact Zi7 ..
  ·intro q hq;simp at hq
 ·intro q hq;simp only[oinj] at hq;subst hq;exact Zi7 ..
 ·intro q hq;simp at hq
theorem ZYR {x:Ctx} {m:Mem} {w:World} (hm:MemOk x m w) (r:R) (T:TypeId):∃x',MemOk x' {m with stgs:=m.stgs++[ZkK r T []]} w/\Ext x x'/\RA x' (.tip (len m.stgs) 0) (.slice none 0 0):=by
 have h1:=hm.addS (g:=ZkK r T []) (s:=ZfQ r) (ZU.refl w) (λp cap h=>by simp[ZfQ] at h)
   ⟨rfl,rfl,rfl,λ_=>⟨rfl,rfl⟩,λp cap h=>by simp[ZfQ] at h,λ_=>rfl,λh=>by simp[ZkK] at h,λh=>by simp[ZkK] at h⟩
 refine⟨_,h1.1,h1.2,.tip _ _ _ (ZfQ r) _ ?_ (Nat.le_refl _) (λ_=>rfl) trivial⟩
 rw[Zt,Zar,<-hm.sl];simp
theorem ZUE {E:Env} (hE:ZbO E) {f:FuncId} {fn:Func} {c:Code} (hf:E.P.funcs[f]? =some fn) (hb:fn.body=some c) (hl:Zaf E c) (hcall:ZV E.P f) {r:R} {T:TypeId} (h0:∀m,∃q,(ZS E fn [.w (.one .nilsl)] m).val=some q/\q.v=.w (.one .nilsl)/\q.m=m) (h1:∀m l,Nat.ble l.length most=true->∃q,(ZS E fn [.w (.one (.lst r false false true l))] m).val=some q/\q.v=.w (.one (.tip (len m.stgs) 0))/\q.m={m with stgs:=m.stgs++[ZkK r T l]}):
  Za E.P f (Zy7 r T):=by
 have nilc:∀x m w v,MemOk x m w->RA x .nilsl v->Calls E.P f [v].toArray w (λe w'=>∃val x',e=.returned val/\RV x' (ZfF r T m none []).v val/\MemOk x' (ZfF r T m none []).m w'/\Ext x x'/\Step x w w'):=by
  intro x m w v hm hv
  obtain⟨q,e1,e2,e3⟩:=h0 m
  refine (Zbl hE hf hb hl hm (vs:=[.w (.one .nilsl)]) (args:=[v]) ⟨hv,Tv⟩ e1).mono λe w' hres=> ?_
  obtain⟨val,x1,rfl,hrv,hm1,hext,hst⟩:=hres
  rw[e3] at hm1
  rw[e2] at hrv
  obtain⟨x2,a1,a2,a3⟩:=ZYR hm1 r T
  cases hrv
  exact⟨_,x2,rfl,a3,a1,hext.trans a2,hst⟩
 refine⟨hcall,λvs m=>ZDH r T vs m,λvs m q hq hc x w args hm hv=> ?_⟩
 simp only at hq
 split at hq
 ·rename_i r' lit full nn l
  split at hq
  ·rename_i e he
   simp only[RT.val,oinj] at hq
   subst hq
   cases e
   have hle:Nat.ble l.length most=true:=by
    cases h:Nat.ble l.length most with
    |true=>rfl
    |false=>simp[ZfF,h] at hc
   match args,hv with
   |[v],hv=>
    have hv1:RA x (.lst r lit full nn l) v:=hv.1
    rcases hv1.nil_or with ⟨rfl,h⟩|h
    ·exact nilc x m w v hm h
    ·obtain⟨q,e1,e2,e3⟩:=h1 m l hle
     refine (Zbl hE hf hb hl hm (vs:=[.w (.one (.lst r false false true l))]) (args:=[v]) ⟨h.lst_weak (λe=>by simp at e) (λe=>rfl),Tv⟩ e1).mono λe w' hres=> ?_
     obtain⟨val,x1,rfl,hrv,hm1,hext,hst⟩:=hres
     rw[e3] at hm1
     rw[e2] at hrv
     exact⟨val,x1,rfl,hrv,hm1,hext,hst⟩
  ·simp[RT.val] at hq
 ·simp only[RT.val,oinj] at hq
  subst hq
  match args,hv with
  |[v],hv=>exact nilc x m w v hm hv.1
 ·simp[RT.val] at hq
theorem ZKE {P:Program} {l:List (FuncId×Entry)} {ol:List (Nat×Ora)} {n k:Nat} {f:FuncId} {fn:Func} (hl:Zdk P l) (hf:P.funcs[f]? =some fn) (hb:fn.body.isSome=true) (hn:ZbW (ZQ (fn.body.getD .skip))=true) (hcall:ZV P f) (hol:AllL (envX P l ol n k) fn.body ol) {r:R} {T:TypeId} (h0:∀m,∃q,(ZS (envX P l ol n k) fn [.w (.one .nilsl)] m).val=some q/\q.v=.w (.one .nilsl)/\q.m=m) (h1:∀m l',Nat.ble l'.length most=true->∃q,(ZS (envX P l ol n k) fn [.w (.one (.lst r false false true l'))] m).val=some q/\q.v=.w (.one (.tip (len m.stgs) 0))/\q.m={m with stgs:=m.stgs++[ZkK r T l']}):
  Za P f (Zy7 r T):=by
 obtain⟨c,hc,hlo⟩:=Zdb hb hn hol
 exact ZUE (E:=envX P l ol n k) (Zb4 hl ol n k) hf hc hlo hcall h0 h1
end Go.S3
