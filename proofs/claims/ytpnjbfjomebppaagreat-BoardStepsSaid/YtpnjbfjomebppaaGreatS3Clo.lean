import Derived.Test.YtpnjbfjomebppaaGreatS3Stg
set_option linter.unusedVariables false
set_option linter.unusedSimpArgs false
namespace Go.S3
def ZKJ (g0:FuncId) (ts:List Sh) (rs:Rs) (pre:HL ts->Option Bool) (F:HL ts->rs.den):En:=
 .pure λvs=>match cutF g0 vs with
  |some us=>match ZkR ts us with
   |some a=>some (pre a,rs.enc (F a))
   |none=>none
  |none=>none
def ZOj (E:Env) (fn:Func) (g0:FuncId) (ts:List Sh) (rs:Rs) (a:HL ts):RT (Option rs.den):=(Zr E fn (ZfW ts a++[cloV g0]) ZeA).map fun
 |some r=>rs.out r.m r.v
 |none=>none
variable {g0:FuncId} {ts:List Sh} {rs:Rs}
theorem ZKI {E:Env} (hE:ZbU E) {f:FuncId} {fn:Func} {c:Code} (hf:E.P.funcs[f]? =some fn) (hb:fn.body=some c) (hl:Z1 E c) (hcall:ZH E.P f)
 {pre:HL ts->Option Bool} {F:HL ts->rs.den} (h:∀a,okHL ts a->pre a≠some false->(ZOj E fn g0 ts rs a).val=some (F a)):
  Zb E.P f (ZKJ g0 ts rs pre F):=by
 refine⟨hcall,λvs chk v hp hc x m w args hm hv=> ?_⟩;simp only at hp;split at hp
 ·rename_i us hus;split at hp
  ·rename_i a ha;simp only[oinj,pinj] at hp;obtain⟨rfl,rfl⟩:=hp;obtain⟨args',u,rfl,hv2,hu⟩:=ZuX hus hv;obtain⟨hargs,hin⟩:=ZbW ha hv2;have h1:=h a hin hc;unfold ZOj at h1;rw[RT.val_map] at h1;split at h1
   ·rename_i r hr;have hle:FzLe x (Ctx.own0 w x.fz):=λ_ _ _ e=>e
    have hargs':RVs (Ctx.own0 w x.fz) (ZfW ts a++[cloV g0]) (args'++[u]):=Zu6 (Zc5 (ZcE hle ts a (Zbq hargs))) (ZOM hu);have h2:=ZaZ hE hf hb hl (Zum hm) hargs' hr;refine h2.mono λe w' hres=> ?_
    obtain⟨val,x1,rfl,hrv,hm1,hext,hst⟩:=hres;obtain⟨x2,m2,hm2,hext2,hrv2⟩:=Rs.out_ok h1 hm1 hrv;obtain⟨h3,h4⟩:=Zu3 hm (hext.trans hext2) hm2.fz (Zbe hst).1;exact⟨val,{x with fz:=x2.fz},rfl,Rs.enc_ctx (x:=x2) (x':={x with fz:=x2.fz}) (λ_ _ _ e=>e) rs _ hrv2,h3,h4,Zbe hst⟩
   ·simp at h1
  ·simp at hp
 ·simp at hp
section
variable {P:Program} {l:List (FuncId×En)} {ol:List (Nat×Ora)} {n k:Nat} {f:FuncId} {fn:Func}
theorem ZGo (hl:Zd1 P l) (hf:P.funcs[f]? =some fn) (hb:fn.body.isSome=true) (hn:ZbV (ZA (fn.body.getD .skip))=true) (hcall:ZH P f) (hol:AllL (envX P l ol n k) fn.body ol)
 {t:HL ts->RT (Option rs.den)} (h:∀a,ZOj (envX P l ol n k) fn g0 ts rs a=t a):Zb P f (ZKJ g0 ts rs (λa=>okO (t a).val) (λa=>getO rs.Df (t a).val)):=by obtain⟨c,hc,hlo⟩:=ZcX hb hn hol;exact ZKI (E:=envX P l ol n k) (ZbT hl ol n k) hf hc hlo hcall λa _ hp=>by rw[h a];exact ZfM hp
end
end Go.S3
