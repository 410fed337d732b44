import Derived.Test.YtpnjbfjomebppaaGreatS3Stg
set_option linter.unusedVariables false
set_option linter.unusedSimpArgs false
namespace Go.S3
def ZPY (g0:FuncId) (ts:List Sh) (rs:Rs) (pre:HL ts->Option Bool) (F:HL ts->rs.den):En:=
 .pure λvs=>match cutF g0 vs with
  |some us=>match ZkI ts us with
   |some a=>some (pre a,rs.enc (F a))
   |none=>none
  |none=>none
def ZSG (E:Env) (fn:Func) (g0:FuncId) (ts:List Sh) (rs:Rs) (a:HL ts):RT (Option rs.den):=(ZM E fn (ZfT ts a++[cloV g0]) Zes).map fun
 |some r=>rs.out r.m r.v
 |none=>none
variable {g0:FuncId} {ts:List Sh} {rs:Rs}
theorem ZPX {E:Env} (hE:Zbw E) {f:FuncId} {fn:Func} {c:Code} (hf:E.P.funcs[f]? =some fn) (hb:fn.body=some c) (hl:Z1 E c) (hcall:ZR E.P f)
 {pre:HL ts->Option Bool} {F:HL ts->rs.den} (h:∀a,okHL ts a->pre a≠some false->(ZSG E fn g0 ts rs a).val=some (F a)):
  Za E.P f (ZPY g0 ts rs pre F):=by
 refine⟨hcall,λvs chk v hp hc x m w args hm hv=> ?_⟩;simp only at hp;split at hp
 ·rename_i us hus;split at hp
  ·rename_i a ha;simp only[oinj,pinj] at hp;obtain⟨rfl,rfl⟩:=hp;obtain⟨args',u,rfl,hv2,hu⟩:=ZwL hus hv;obtain⟨hargs,hin⟩:=ZbX ha hv2;have h1:=h a hin hc;unfold ZSG at h1;rw[RT.val_map] at h1;split at h1
   ·rename_i r hr;have hle:FzLe x (Ctx.own0 w x.fz):=λ_ _ _ e=>e
    have hargs':RVs (Ctx.own0 w x.fz) (ZfT ts a++[cloV g0]) (args'++[u]):=ZwY (Zc5 (Zct hle ts a (Zbp hargs))) (ZS0 hu);have h2:=Zba hE hf hb hl (ZEa hm) hargs' hr;refine h2.mono λe w' hres=> ?_
    obtain⟨val,x1,rfl,hrv,hm1,hext,hst⟩:=hres;obtain⟨x2,m2,hm2,hext2,hrv2⟩:=Rs.out_ok h1 hm1 hrv;obtain⟨h3,h4⟩:=ZET hm (hext.trans hext2) hm2.fz (ZbO hst).1;exact⟨val,{x with fz:=x2.fz},rfl,Rs.enc_ctx (x:=x2) (x':={x with fz:=x2.fz}) (λ_ _ _ e=>e) rs _ hrv2,h3,h4,ZbO hst⟩
   ·simp at h1
  ·simp at hp
 ·simp at hp
section
variable {P:Program} {l:List (FuncId×En)} {ol:List (Nat×Ora)} {n k:Nat} {f:FuncId} {fn:Func}
theorem ZKg (hl:Zc3 P l) (hf:P.funcs[f]? =some fn) (hb:fn.body.isSome=true) (hn:ZbH (ZL (fn.body.getD .skip))=true) (hcall:ZR P f) (hol:AllL (envX P l ol n k) fn.body ol)
 {t:HL ts->RT (Option rs.den)} (h:∀a,ZSG (envX P l ol n k) fn g0 ts rs a=t a):Za P f (ZPY g0 ts rs (λa=>okO (t a).val) (λa=>getO rs.Df (t a).val)):=by obtain⟨c,hc,hlo⟩:=ZcT hb hn hol;exact ZPX (E:=envX P l ol n k) (Zbv hl ol n k) hf hc hlo hcall λa _ hp=>by rw[h a];exact Zfo hp
