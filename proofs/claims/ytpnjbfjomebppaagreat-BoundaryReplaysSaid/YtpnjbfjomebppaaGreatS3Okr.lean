import Derived.Test.YtpnjbfjomebppaaGreatS3D
set_option linter.unusedVariables false
set_option linter.unusedSimpArgs false
namespace Go.S3
open Go
noncomputable section
def Rs.okR:(r:Rs)->r.den->Prop
 | .one s,y=>s.ok y
 | .tup l,y=>okHL l y
def okRs:Rs->Bool
 | .one s=>okSh s
 | .tup l=>l.all okSh
theorem Rs.okR_of {r:Rs} (h:okRs r=true) {x:Ctx} {y:r.den} {v:Value} (hv:RV x (r.enc y) v):r.okR y:=by
 cases r with
 |one s=>exact (Sh.dec_ok (Sh.dec_enc h y) hv).2
 |tup l=>
  obtain⟨C,rfl,hC⟩:=hv;exact (Zl1 (Zp2 h y) hC).2
theorem Za.pure_pick {P:Program} {f:FuncId} {ts:List Sh} {rs:Rs} {pre:HL ts->Option Bool} {F G:HL ts->rs.den} (h:Za P f (Zg ts rs pre F)) (hr:okRs rs=true)
  (hG:∀a,okHL ts a->pre a≠some false->rs.okR (F a)->F a=G a):Za P f (Zg ts rs pre G):=by
 refine⟨h.1,λvs chk v hpv hc x m w args hm hv=> ?_⟩;simp only at hpv;split at hpv
 ·rename_i a ha;simp only[oinj,pinj] at hpv;obtain⟨rfl,rfl⟩:=hpv;obtain⟨_,hin⟩:=ZbX ha hv;refine (h.2 vs (pre a) (rs.enc (F a)) (by simp only[ha]) hc x m w args hm hv).mono λe w' hres=> ?_
  obtain⟨val,x',h1,h2,h3⟩:=hres;have he:=hG a hin hc (Rs.okR_of hr h2);exact⟨val,x',h1,he▸h2,h3⟩
 ·simp at hpv
