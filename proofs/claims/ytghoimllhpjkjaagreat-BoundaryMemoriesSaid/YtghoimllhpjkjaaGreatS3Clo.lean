import Derived.Test.YtghoimllhpjkjaaGreatS3Stg
set_option linter.unusedVariables false
set_option linter.unusedSimpArgs false
namespace Go.S3
def ZOH (g0:FuncId) (ts:List Sh) (rs:Rs) (pre:HL ts->Option Bool) (F:HL ts->rs.den):Entry:=
 .pure λvs=>match cutF g0 vs with
  |some us=>match Zkc ts us with
   |some a=>some (pre a,rs.enc (F a))
   |none=>none
  |none=>none
def ZRh (E:Env) (fn:Func) (g0:FuncId) (ts:List Sh) (rs:Rs) (a:HL ts):RT (Option rs.den):=(ZS E fn (ZfW ts a++[cloV g0]) ZeJ).map fun
 |some r=>rs.out r.m r.v
 |none=>none
theorem ZOG {E:Env} (hE:ZbO E) {f:FuncId} {fn:Func} {c:Code} (hf:E.P.funcs[f]? =some fn) (hb:fn.body=some c) (hl:Zaf E c) (hcall:ZV E.P f)
  {g0:FuncId} {ts:List Sh} {rs:Rs} {pre:HL ts->Option Bool} {F:HL ts->rs.den} (h:∀a,okHL ts a->pre a≠some false->(ZRh E fn g0 ts rs a).val=some (F a)):
  Za E.P f (ZOH g0 ts rs pre F):=by
 refine⟨hcall,λvs chk v hp hc x m w args hm hv=> ?_⟩
 simp only at hp
 split at hp
 ·rename_i us hus
  split at hp
  ·rename_i a ha
   simp only[oinj,pinj] at hp
   obtain⟨rfl,rfl⟩:=hp
   obtain⟨args',u,rfl,hv2,hu⟩:=ZvN hus hv
   obtain⟨hargs,hin⟩:=Zcr ha hv2
   have h1:=h a hin hc
   unfold ZRh at h1
   rw[RT.val_map] at h1
   split at h1
   ·rename_i r hr
    have hle:FzLe x (Ctx.own0 w x.fz):=λ_ _ _ e=>e
    have hargs':RVs (Ctx.own0 w x.fz) (ZfW ts a++[cloV g0]) (args'++[u]):=Zv2 (Zdm (ZcO hle ts a (ZbG hargs))) (ZRC hu)
    have h2:=Zbl hE hf hb hl (ZCV hm) hargs' hr
    refine h2.mono λe w' hres=> ?_
    obtain⟨val,x1,rfl,hrv,hm1,hext,hst⟩:=hres
    obtain⟨x2,m2,hm2,hext2,hrv2⟩:=Rs.out_ok h1 hm1 hrv
    obtain⟨h3,h4⟩:=ZDJ hm (hext.trans hext2) hm2.fz (Zb7 hst).1
    exact⟨val,{x with fz:=x2.fz},rfl,Rs.enc_ctx (x:=x2) (x':={x with fz:=x2.fz}) (λ_ _ _ e=>e) rs _ hrv2,h3,h4,Zb7 hst⟩
   ·simp at h1
  ·simp at hp
 ·simp at hp
section
variable {P:Program} {l:List (FuncId×Entry)} {ol:List (Nat×Ora)} {n k:Nat} {f:FuncId} {fn:Func}
theorem ZI1 (hl:Zdk P l) (hf:P.funcs[f]? =some fn) (hb:fn.body.isSome=true) (hn:ZbW (ZQ (fn.body.getD .skip))=true) (hcall:ZV P f) (hol:AllL (envX P l ol n k) fn.body ol)
  {g0:FuncId} {ts:List Sh} {rs:Rs} {t:HL ts->RT (Option rs.den)} (h:∀a,ZRh (envX P l ol n k) fn g0 ts rs a=t a):Za P f (ZOH g0 ts rs (λa=>okO (t a).val) (λa=>getO rs.dflt (t a).val)):=by
 obtain⟨c,hc,hlo⟩:=Zdb hb hn hol
 exact ZOG (E:=envX P l ol n k) (Zb4 hl ol n k) hf hc hlo hcall λa _ hp=>by rw[h a];exact Zfv hp
end
end Go.S3
