import Derived.Test.YteaflmalcclnoaaGreatDoorS3E
import Derived.KernelRfl
import Derived.ProofKit
import Derived.OpenShut
import Derived.ShutString
import Derived.ChangeOld
import Derived.Below
import Derived.Carry
open Go.IntKind (u8 u16 i64)
set_option linter.unusedVariables false
set_option linter.unusedSimpArgs false
namespace Go.S3
inductive Sh where
 |one (r:R)
 |agg (r:R)
@[reducible] def Sh.code:Sh->R
 | .one r=>r
 | .agg r=>r
@[reducible] def Sh.den (s:Sh):Type:=s.code.den
def Sh.enc:(s:Sh)->s.den->W
 | .one r,y=>match r.enc y with
  |[a]=>.one a
  |_=>.junk
 | .agg r,y=>.agg (r.enc y)
def Sh.dec:(s:Sh)->W->Option s.den
 | .one r,.one a=>r.decW [a]
 | .agg r,.agg l=>r.decW l
 |_,_=>none
def Sh.ok (s:Sh) (y:s.den):Prop:=s.code.ok y
@[reducible] def HL:List Sh->Type
 |[]=>Unit
 |[s]=>s.den
 |s::t::l=>s.den×HL (t::l)
def Zpl:(ts:List Sh)->HL ts->List W
 |[],_=>[]
 |[s],y=>[s.enc y]
 |s::t::l,y=>s.enc y.1::Zpl (t::l) y.2
def Zln:(ts:List Sh)->List W->Option (HL ts)
 |[],[]=>some ()
 |[s],[w]=>s.dec w
 |s::t::l,w::ws=>match s.dec w,Zln (t::l) ws with
  |some a,some b=>some (a,b)
  |_,_=>none
 |_,_=>none
def okHL:(ts:List Sh)->HL ts->Prop
 |[],_=>True
 |[s],y=>s.ok y
 |s::t::l,y=>s.ok y.1/\okHL (t::l) y.2
def mapW:List W->List V
 |[]=>[]
 |w::l=>.w w::mapW l
def unW:List V->Option (List W)
 |[]=>some []
 | .w w::l=>match unW l with
  |some r=>some (w::r)
  |none=>none
 |_=>none
def Zdj (ts:List Sh) (y:HL ts):List V:=mapW (Zpl ts y)
def Zip (ts:List Sh) (vs:List V):Option (HL ts):=match unW vs with
 |some ws=>Zln ts ws
 |none=>none
inductive Rs where
 |one (s:Sh)
 |tup (l:List Sh)
@[reducible] def Rs.den:Rs->Type
 | .one s=>s.den
 | .tup l=>HL l
def Rs.enc:(r:Rs)->r.den->V
 | .one s,y=>.w (s.enc y)
 | .tup l,y=>.tup (Zpl l y)
theorem ZaD {x:Ctx}:∀{ws:List W} {args:List Value},RVs x (mapW ws) args->RWs x ws args
 |[],[],_=>trivial
 |_::_,_::_,h=>⟨h.1,ZaD h.2⟩
 |[],_::_,h=>h.elim
 |_::_,[],h=>h.elim
theorem Zch {x:Ctx}:∀{ws:List W} {args:List Value},RWs x ws args->RVs x (mapW ws) args
 |[],[],_=>trivial
 |_::_,_::_,h=>⟨h.1,Zch h.2⟩
 |[],_::_,h=>h.elim
 |_::_,[],h=>h.elim
theorem ZSK:∀{vs:List V} {ws:List W},unW vs=some ws->vs=mapW ws
 |[],ws,h=>by simp only[unW,oinj] at h;subst h;rfl
 | .w w::l,ws,h=>by
  simp only[unW] at h;split at h
  ·rename_i r hr;simp only[oinj] at h;subst h;rw[ZSK hr];rfl
  ·simp at h
 | .tup _::_,_,h=>by simp[unW] at h
variable {x':Ctx} {v:Value}
theorem Sh.enc_ctx {x:Ctx} (hx:FzLe x x') (s:Sh) (y:s.den) (h:RW x (s.enc y) v):RW x' (s.enc y) v:=by
 cases s with
 |one r=>
  simp only[Sh.enc] at h|-;split at h
  ·rename_i a ha;have ha':r.enc y=[a]:=ha;exact RA.plain h hx (R.enc_plain r y a (by simp[ha']))
  ·trivial
 |agg r=>
  obtain⟨C,e,hC⟩:=h;exact⟨C,e,RL.plain hx (R.enc_plain r y) hC⟩
theorem ZbJ {x x':Ctx} (hx:FzLe x x'):∀(ts:List Sh) (y:HL ts) {vs:List Value},RWs x (Zpl ts y) vs->RWs x' (Zpl ts y) vs
 |[],_,vs,h=>by
  cases vs with
  |nil=>trivial
  |cons _ _=>exact h.elim
 |[s],y,vs,h=>match vs,h with
  |[v],h=>⟨s.enc_ctx hx y h.1,Tv⟩
 |s::t::l,y,vs,h=>match vs,h with
  |v::vs,h=>⟨s.enc_ctx hx y.1 h.1,ZbJ hx (t::l) y.2 h.2⟩
theorem Rs.enc_ctx {x x':Ctx} (hx:FzLe x x') (r:Rs) (y:r.den) {v:Value} (h:RV x (r.enc y) v):RV x' (r.enc y) v:=by
 cases r with
 |one s=>exact s.enc_ctx hx y h
 |tup l=>obtain⟨C,e,hC⟩:=h;exact⟨C,e,ZbJ hx l y hC⟩
theorem Sh.dec_ok {s:Sh} {w:W} {y:s.den} (h:s.dec w=some y) {x:Ctx} (hv:RW x w v):RW x (s.enc y) v/\s.ok y:=by
 cases s with
 |one r=>
  cases w with
  |one a=>
   simp only[Sh.dec] at h;have h1:=R.decW_ok h (x:=x) (vs:=[v]) ⟨hv,Tv⟩;refine⟨?_,R.ok_of r y x [v] h1⟩;simp only[Sh.enc];split
   ·rename_i a' ha;have ha':r.enc y=[a']:=ha;rw[ha'] at h1;exact h1.1
   ·trivial
  |_=>simp[Sh.dec] at h
 |agg r=>
  cases w with
  |agg l=>
   simp only[Sh.dec] at h;obtain⟨C,e,hC⟩:=hv;have h1:=R.decW_ok h hC;exact⟨⟨C,e,h1⟩,R.ok_of r y x C h1⟩
  |_=>simp[Sh.dec] at h
theorem Zl4 {x:Ctx}:∀{ts:List Sh} {ws:List W} {y:HL ts},Zln ts ws=some y->∀{vs:List Value},RWs x ws vs->RWs x (Zpl ts y) vs/\okHL ts y
 |[],[],y,h,vs,hv=>⟨hv,Tv⟩
 |[s],[w],y,h,vs,hv=>by
  simp only[Zln] at h
  match vs,hv with
  |[v],hv=>
   obtain⟨h1,h2⟩:=Sh.dec_ok h hv.1;exact⟨⟨h1,Tv⟩,h2⟩
 |s::t::l,w::ws,y,h,vs,hv=>by
  simp only[Zln] at h;split at h
  ·rename_i a b ha hb;simp only[oinj] at h;subst h
   match vs,hv with
   |v::vs,hv=>
    obtain⟨h1,h2⟩:=Sh.dec_ok ha hv.1;obtain⟨h3,h4⟩:=Zl4 hb hv.2;exact⟨⟨h1,h3⟩,h2,h4⟩
  ·simp at h
 |[],_::_,_,h,_,_=>by simp[Zln] at h
 |[_],[],_,h,_,_=>by simp[Zln] at h
 |[_],_::_::_,_,h,_,_=>by simp[Zln] at h
 |_::_::_,[],_,h,_,_=>by simp[Zln] at h
variable {ts:List Sh}
theorem Zax {x:Ctx} {vs:List V} {y:HL ts} (h:Zip ts vs=some y) {args:List Value} (hv:RVs x vs args):RVs x (Zdj ts y) args/\okHL ts y:=by
 unfold Zip at h;split at h
 ·rename_i ws hws;rw[ZSK hws] at hv;obtain⟨h1,h2⟩:=Zl4 h (ZaD hv);exact⟨Zch h1,h2⟩
 ·simp at h
def ZHv (m:Mem):St:={Sl:=[],mem:=m,dirty:=0,bd:=[],sd:=[]}
def Zjy (s:St):List W->Option (List W×St)
 |[]=>some ([],s)
 |v::l=>match ZaF s v with
  |some (v,s1)=>match Zjy s1 l with
   |some (r,s2)=>some (v::r,s2)
   |none=>none
  |none=>none
def Rs.out (rs:Rs) (m:Mem) (v:V):Option rs.den:=
 match rs,v with
 | .one s,.w w=>match ZaF (ZHv m) w with
  |some (w,_)=>s.dec w
  |none=>none
 | .tup l,.tup ws=>match Zjy (ZHv m) ws with
  |some (ws,_)=>Zln l ws
  |none=>none
 |_,_=>none
theorem Zpd {x:Ctx} {w:World}:∀{l l':List W} {s s':St} {vs:List Value},MK x s.mem w->RWs x l vs->Zjy s l=some (l',s')->
  ∃x',MK x' s'.mem w/\Ext x x'/\RWs x' l' vs/\SameSl s s'
 |[],l',s,s',vs,hm,hv,h=>by simp only[Zjy,oinj,pinj] at h;obtain⟨rfl,rfl⟩:=h;exact⟨x,hm,Ext.refl x,hv,SameSl.refl s⟩
 |a::l,l',s,s',v::vs,hm,hv,h=>by
  simp only[Zjy] at h;split at h
  ·rename_i b s1 h1;split at h
   ·rename_i r s2 h2;simp only[oinj,pinj] at h;obtain⟨rfl,rfl⟩:=h;obtain⟨x1,m1,e1,r1,k1⟩:=Zhz hm hv.1 h1;obtain⟨x2,m2,e2,r2,k2⟩:=Zpd m1 (hv.2.mono e1) h2;exact⟨x2,m2,e1.trans e2,⟨r1.mono e2,r2⟩,k1.trans k2⟩
   ·simp at h
  ·simp at h
 |_::_,_,_,_,[],_,hv,_=>hv.elim
variable {rs:Rs}
theorem Rs.out_ok {x:Ctx} {m:Mem} {w:World} {v:V} {y:rs.den} (h:rs.out m v=some y) (hm:MK x m w) {u:Value} (hv:RV x v u):
  ∃x' m',MK x' m' w/\Ext x x'/\RV x' (rs.enc y) u:=by
 cases rs with
 |one s=>
  cases v with
  |w a=>
   simp only[Rs.out] at h;split at h
   ·rename_i a' s' hf;obtain⟨x',m1,e1,r1,_⟩:=Zhz (s:=ZHv m) hm hv hf;exact⟨x',_,m1,e1,(Sh.dec_ok h r1).1⟩
   ·simp at h
  |tup _=>simp[Rs.out] at h
 |tup l=>
  cases v with
  |w _=>simp[Rs.out] at h
  |tup ws=>
   simp only[Rs.out] at h;split at h
   ·rename_i a' s' hf;obtain⟨C,rfl,hC⟩:=hv;obtain⟨x',m1,e1,r1,_⟩:=Zpd (s:=ZHv m) hm hC hf;exact⟨x',_,m1,e1,C,rfl,(Zl4 h r1).1⟩
   ·simp at h
def Zf (ts:List Sh) (rs:Rs) (pre:HL ts->Option Bool) (F:HL ts->rs.den):En:=
 .pure λvs=>match Zip ts vs with
  |some a=>some (pre a,rs.enc (F a))
  |none=>none
def Zg1 (E:Env) (fn:Func) (ts:List Sh) (rs:Rs) (a:HL ts):RT (Option rs.den):=(Zo E fn (Zdj ts a) ZdF).map fun
 |some r=>rs.out r.m r.v
 |none=>none
variable {E:Env}
theorem Zsp (hE:Zbx E) {f:FuncId} {fn:Func} {c:Code} (hf:E.P.funcs[f]? =some fn) (hb:fn.body=some c) (hl:Z3 E c) (hcall:Zy E.P f)
 {pre:HL ts->Option Bool} {F:HL ts->rs.den} (h:∀a,okHL ts a->pre a≠some false->(Zg1 E fn ts rs a).val=some (F a)):
  Za E.P f (Zf ts rs pre F):=by
 refine⟨hcall,λvs chk v hp hc x m w args hm hv=> ?_⟩;simp only at hp;split at hp
 ·rename_i a ha;simp only[oinj,pinj] at hp;obtain⟨rfl,rfl⟩:=hp;obtain⟨hargs,hin⟩:=Zax ha hv;have h1:=h a hin hc;unfold Zg1 at h1;rw[RT.val_map] at h1;split at h1
  ·rename_i r hr;have hle:FzLe x (Ctx.own0 w x.fz):=λ_ _ _ e=>e
   have hargs':RVs (Ctx.own0 w x.fz) (Zdj ts a) args:=Zch (ZbJ hle ts a (ZaD hargs));have h2:=ZaC hE hf hb hl (Zij hm) hargs' hr;refine h2.mono λe w' hres=> ?_
   obtain⟨val,x1,rfl,hrv,hm1,hext,hst⟩:=hres;obtain⟨x2,m2,hm2,hext2,hrv2⟩:=Rs.out_ok h1 hm1 hrv;obtain⟨h3,h4⟩:=Ziu hm (hext.trans hext2) hm2.fz (Zab hst).1;exact⟨val,{x with fz:=x2.fz},rfl,Rs.enc_ctx (x:=x2) (x':={x with fz:=x2.fz}) (λ_ _ _ e=>e) rs _ hrv2,h3,h4,Zab hst⟩
  ·simp at h1
 ·simp at hp
theorem ZFX (hE:Zbx E) {f:FuncId} {fn:Func} {c:Code} (hf:E.P.funcs[f]? =some fn) (hb:fn.body=some c) (hl:Z3 E c) (hcall:Zy E.P f)
 {t:HL ts->RT rs.den} (h:∀a,Zg1 E fn ts rs a=(t a).map some):Za E.P f (Zf ts rs (λ_=>none) (λa=>(t a).val)):=
 Zsp hE hf hb hl hcall λa _ _=>by rw[h a,RT.val_map]
theorem ZFY (hE:Zbx E) {f:FuncId} {fn:Func} {c:Code} (hf:E.P.funcs[f]? =some fn) (hb:fn.body=some c) (hl:Z3 E c) (hcall:Zy E.P f)
 {pre:HL ts->Option Bool} {t:HL ts->RT (Option rs.den)} {F:HL ts->rs.den} (h:∀a,Zg1 E fn ts rs a=t a) (hF:∀a,okHL ts a->pre a≠some false->(t a).val=some (F a)):Za E.P f (Zf ts rs pre F):=
 Zsp hE hf hb hl hcall λa h1 h2=>by rw[h a,hF a h1 h2]
theorem Za.pure_congr {P:Program} {f:FuncId} {pre pre':HL ts->Option Bool} {F G:HL ts->rs.den} (h:Za P f (Zf ts rs pre F)) (hp:∀a,okHL ts a->pre' a≠some false->pre a≠some false) (hG:∀a,okHL ts a->pre' a≠some false->F a=G a):Za P f (Zf ts rs pre' G):=by
 refine⟨h.1,λvs chk v hpv hc x m w args hm hv=> ?_⟩;simp only at hpv;split at hpv
 ·rename_i a ha;simp only[oinj,pinj] at hpv;obtain⟨rfl,rfl⟩:=hpv;obtain⟨_,hin⟩:=Zax ha hv;rw[<-hG a hin hc];exact h.2 vs (pre a) _ (by simp only[ha]) (hp a hin hc) x m w args hm hv
 ·simp at hpv
theorem R.dec_len:∀(r:R) (l:List A) (y:r.den) (t:List A),r.dec l=some (y,t)->l.length=r.wid+t.length
 | .int k,l,y,t,h=>by
  simp only[R.dec] at h;unfold decI at h;split at h<;>(try simp at h);split at h
  ·simp only[oinj,pinj] at h;obtain⟨rfl,rfl⟩:=h;simp[R.wid];omega
  ·simp at h
 | .bool,l,y,t,h=>by simp only[R.dec] at h;unfold decB at h;split at h<;>(try simp at h);obtain⟨rfl,rfl⟩:=h;simp[R.wid];omega
 | .str,l,y,t,h=>by simp only[R.dec] at h;unfold decS at h;split at h<;>(try simp at h);obtain⟨rfl,rfl⟩:=h;simp[R.wid];omega
 | .sl r,l,y,t,h=>by
  simp only[R.dec] at h;unfold decL at h;split at h<;>(try simp at h)
  ·split at h
   ·simp only[oinj,pinj] at h;obtain⟨rfl,rfl⟩:=h;simp[R.wid];omega
   ·simp at h
  ·obtain⟨rfl,rfl⟩:=h;simp[R.wid];omega
 | .Pq a b,l,y,t,h=>by
  simp only[R.dec] at h;split at h
  ·rename_i y1 t1 h1;split at h
   ·rename_i y2 t2 h2;simp only[oinj,pinj] at h;obtain⟨rfl,rfl⟩:=h;have:=R.dec_len a _ _ _ h1;have:=R.dec_len b _ _ _ h2;simp only[R.wid];omega
   ·simp at h
  ·simp at h
 | .unit,l,y,t,h=>by simp only[R.dec,oinj,pinj,true_and] at h;subst h;simp[R.wid]
variable {r:R}
theorem R.decW_len {l:List A} {y:r.den} (h:r.decW l=some y):l.length=r.wid:=by
 unfold R.decW at h;split at h
 ·rename_i y' he;simpa using R.dec_len r _ _ _ he
 ·simp at h
def Ctx.own1 (w:World) (fz:Nat->Nat->Option Value) (p:Nat):Ctx:={own:=λk=>w.heap.size<=k\/k=p,M:=[p],S:=[],fz:=fz}
variable {α:Type}
theorem Zoq {a b:α} {n:Nat} (h:nth [a] n=some b):n=0/\b=a:=by
 cases n with
 |zero=>simp only[nth,oinj] at h;exact⟨rfl,h.symm⟩
 |succ n=>simp[nth] at h
variable {b p:Nat} {row:List A} {rb:R}
theorem ZMN {x:Ctx} {m:Mem} {w:World} (hm:MK x m w) (hb:nth m.Bx b=some row) (hp:nth x.M b=some p) {y:rb.den} (hy:rb.decW row=some y):
  MK (Ctx.own1 w x.fz p) ⟨[rb.enc y],[]⟩ w where
 fresh:=λ_ h=>.inl h
 fz:=hm.fz
 ml:=rfl
 box:=λb' l p' h h'=>by obtain⟨_,rfl⟩:=Zoq h;obtain⟨_,rfl⟩:=Zoq h';obtain⟨C,T,e1,e2⟩:=hm.box b row p' hb hp;exact⟨C,T,e1,RL.plain (x:=x) (x':=Ctx.own1 w x.fz p') (λ_ _ _ e=>e) (R.enc_plain rb y) (R.decW_ok hy e2)⟩
 mown:=λb' p' h=>by obtain⟨_,rfl⟩:=Zoq h;exact⟨.inr rfl,(hm.mown b p' hp).2⟩
 inj:=λb b' p' h h'=>by obtain⟨rfl,_⟩:=Zoq h;obtain⟨rfl,_⟩:=Zoq h';rfl
 sl:=rfl
 stg:=λi g s h=>by simp[Zn] at h
 sown:=λi s p cap h=>by simp[Ctx.own1,Zn] at h
 sinj:=λi i' s s' p cap cap' h=>by simp[Ctx.own1,Zn] at h
theorem ZFs {x:Ctx} {m m1:Mem} {w w':World} {x2:Ctx} (hm:MK x m w) {row1 row':List A} (hb:nth m.Bx b=some row) (hp:nth x.M b=some p) (hx:Ext (Ctx.own1 w x.fz p) x2) (hm1:MK x2 m1 w') (hs:Step (Ctx.own1 w x.fz p) w w') {C:List Value} {T:TypeId} (hc:w'.heap[p]? =some (.cells C.toArray T (0,0))) (hr:RL x2 row' C) (hpl:∀a∈row',ZhW a=true):
  MK {x with fz:=x2.fz} {m with Bx:=setN m.Bx b row'} w'/\Ext x {x with fz:=x2.fz}/\Step x w w':=by
 have hp2:nth x2.M 0=some p:=hx.M 0 p rfl;have hpf:∀o,x2.fz p o=none:=(hm1.mown 0 p hp2).2;have hold:∀k,k<w.heap.size->k≠p->w'.heap[k]? =w.heap[k]? :=λk hk hne=>hs.block k (by simp only[Ctx.own1];omega)
 have hfz:∀k,k<w.heap.size->∀o,x2.fz k o=x.fz k o:=by
  intro k hk o;by_cases hkp:k=p
  ·subst hkp;rw[hpf,(hm.mown b k hp).2]
  cases h:x2.fz k o with
  |some v=>
   rcases hx.new k o v h with e|e
   ·exact e.symm
   ·simp only[Ctx.own1] at e;omega
  |none=>
   cases h':x.fz k o with
   |none=>rfl
   |some v=>rw[hx.fz k o v h'] at h;simp at h
 have hext:Ext x {x with fz:=x2.fz}:=by
  refine⟨rfl,λ_ _ e=>e,λ_ s e=>⟨s,e,SLe.refl s⟩,hx.fz,λk o v e=> ?_⟩;rcases hx.new k o v e with e|e
  ·exact .inl e
  ·rcases e with e|e
   ·exact .inr (hm.fresh k e)
   ·exact .inr (e▸(hm.mown b p hp).1)
 have hle:FzLe x {x with fz:=x2.fz}:=λk o v e=>hx.fz k o v e
 refine⟨?_,hext,hs.os,hs.tape,hs.output,hs.size,λk hk=>hs.block k λe=> ?_⟩
 ·refine⟨λk h=>hm.fresh k (YD hs.size h),hm1.fz,by simp only[ZH,YaI];exact hm.ml,λb' l p' h1 h2=> ?_,λb' p' h1=>⟨(hm.mown b' p' h1).1,λo=> ?_⟩,hm.inj,hm.sl,λi g s h1 h2=> ?_,hm.sown,hm.sinj⟩
  ·rcases Zen h1 with ⟨rfl,rfl,_⟩|⟨hne,h1'⟩
   ·have h2:nth x.M b=some p':=h2;rw[hp] at h2;simp only[oinj] at h2;subst h2;exact⟨C,T,hc,RL.plain (x:=x2) (x':={x with fz:=x2.fz}) (λ_ _ _ e=>e) hpl hr⟩
   ·have h2:nth x.M b'=some p':=h2;obtain⟨C',T',e1,e2⟩:=hm.box b' l p' h1' h2;have hpp:p'≠p:=λe=>by subst e;exact hne (hm.inj b b' p' hp h2)
    exact⟨C',T',by rw[hold p' (hm.M_lt h2) hpp];exact e1,e2.mono hext⟩
  ·show x2.fz p' o=none;rw[hfz p' (hm.M_lt h1) o];exact (hm.mown b' p' h1).2 o
  ·have h2:nth x.S i=some s:=h2;refine ((hm.stg i g s h1 h2).world λq cap hq=>hold q (hm.S_lt h2 hq) λe=> ?_).ctx hle λq cap hq o=>hfz q (hm.S_lt h2 hq) o
   subst e;exact (hm.sown i s q cap h2 hq).2 b hp
 ·rcases e with e|e
  ·exact hk (hm.fresh k e)
  ·exact hk (e▸(hm.mown b p hp).1)
def boxE (rb:R) (ts:List Sh) (rs:Rs) (pre:rb.den×HL ts->Option Bool) (F:rb.den×HL ts->rs.den×rb.den):En:=
 .own λvs m=>match vs with
  | .w (.one (.loc b 0))::rest=>match nth m.Bx b with
   |some row=>match rb.decW row with
    |some y=>match Zip ts rest with
     |some a=>.Lf (some {chk:=pre (y,a),v:=rs.enc (F (y,a)).1,m:={m with Bx:=setN m.Bx b (rb.enc (F (y,a)).2)},bd:=Zyh [] b 0 rb.wid,sd:=[]})
     |none=>.Lf none
    |none=>.Lf none
   |none=>.Lf none
  |_=>.Lf none
def ZTx (rb:R) (rs:Rs) (r:Res):Option (rs.den×rb.den):=match rs.out r.m r.v with
 |some u=>match nth r.m.Bx 0 with
  |some row=>match rb.decW row with
   |some y=>some (u,y)
   |none=>none
  |none=>none
 |none=>none
def ZW5 (E:Env) (fn:Func) (rb:R) (ts:List Sh) (rs:Rs) (a:rb.den×HL ts):RT (Option (rs.den×rb.den)):=(Zo E fn (.w (.one (.loc 0 0))::Zdj ts a.2) ⟨[rb.enc a.1],[]⟩).map fun
 |some r=>ZTx rb rs r
 |none=>none
theorem ZO3 (rb:R) (ts:List Sh) (rs:Rs) (pre:rb.den×HL ts->Option Bool) (F:rb.den×HL ts->rs.den×rb.den) (vs:List V) (m:Mem):
  match boxE rb ts rs pre F with
  | .own g=>(g vs m).All (λr=>∀q,r=some q->KeepC m q)
  |_=>False:=by
 simp only[boxE];split
 ·rename_i b rest;split
  ·rename_i row hrow;split
   ·rename_i y hy;split
    ·rename_i a ha;intro q hq;simp only[oinj] at hq;subst hq;refine⟨by simp[ZH],λb' l hl=> ?_,Ye _,λi g hg=>⟨g,hg,Ye _,λ_=>rfl⟩⟩;by_cases hbb:b=b'
     ·subst hbb;rw[hrow] at hl;simp only[oinj] at hl;subst hl;refine⟨_,ZE hrow,by rw[R.enc_len,R.decW_len hy],λj hj=> ?_⟩;rw[Zd8] at hj;simp[memP] at hj;rw[Zi,Zi,Y0 (by rw[R.enc_len];exact hj),Y0 (by rw[R.decW_len hy];exact hj)]
     ·exact⟨l,by rw[ZB hbb];exact hl,rfl,λ_ _=>rfl⟩
    ·intro q hq;simp at hq
   ·intro q hq;simp at hq
  ·intro q hq;simp at hq
 ·intro q hq;simp at hq
theorem ZSy (rb:R) (ts:List Sh) (rs:Rs) (pre:rb.den×HL ts->Option Bool) (F:rb.den×HL ts->rs.den×rb.den):
  match boxE rb ts rs pre F with
  | .own g=>OwnG g
  |_=>False:=by
 simp only[boxE];intro vs m r h;simp only at h;split at h
 ·rename_i b rest;split at h
  ·split at h
   ·split at h
    ·simp only[RT.val,oinj] at h;subst h;exact⟨b,rfl,rfl,by simp[ZH],λb' hb=>ZB (λe=>hb e.symm)⟩
    ·simp[RT.val] at h
   ·simp[RT.val] at h
  ·simp[RT.val] at h
 ·simp[RT.val] at h
theorem ZXf (hE:Zbx E) {f:FuncId} {fn:Func} {c:Code} (hf:E.P.funcs[f]? =some fn) (hb:fn.body=some c) (hl:Z3 E c) (hcall:Zy E.P f)
 {pre:rb.den×HL ts->Option Bool} {F:rb.den×HL ts->rs.den×rb.den} (h:∀a,rb.ok a.1->okHL ts a.2->pre a≠some false->(ZW5 E fn rb ts rs a).val=some (F a)):
  Za E.P f (boxE rb ts rs pre F):=by
 refine⟨⟨hcall,λvs m=>ZO3 rb ts rs pre F vs m,λvs m r hp hc x w args hm hv=> ?_⟩,ZSy rb ts rs pre F⟩;simp only at hp;split at hp
 ·rename_i b rest;split at hp
  ·rename_i row hrow;split at hp
   ·rename_i y hy;split at hp
    ·rename_i a ha;simp only[RT.val,oinj] at hp;subst hp
     match args,hv with
     |v::args,hv=>
      obtain⟨p,hp⟩:=hm.M_of hrow;have hv1:RA x (.loc b 0) v:=hv.1;have hve:v=.pointer (some ⟨p,0,none⟩):=by
       cases hv1 with
       |loc _ _ _ q hq=>rw[hp] at hq;simp only[oinj] at hq;subst hq;rfl
      subst hve;obtain⟨hargs,hin⟩:=Zax ha hv.2;obtain⟨C0,T0,e1,e2⟩:=hm.box b row p hrow hp;have hyok:rb.ok y:=R.ok_of rb y x C0 (R.decW_ok hy e2);have h1:=h (y,a) hyok hin hc;unfold ZW5 at h1;rw[RT.val_map] at h1;split at h1
      ·rename_i r hr;have hargs':RVs (Ctx.own1 w x.fz p) (.w (.one (.loc 0 0))::Zdj ts a) (.pointer (some ⟨p,0,none⟩)::args):=
        ⟨RA.loc _ _ _ _ rfl,Zch (ZbJ (x:=x) (x':=Ctx.own1 w x.fz p) (λ_ _ _ e=>e) ts a (ZaD hargs))⟩
       have h2:=ZaC hE hf hb hl (ZMN hm hrow hp hy) hargs' hr;refine h2.mono λe w' hres=> ?_
       obtain⟨val,x1,rfl,hrv,hm1,hext,hst⟩:=hres;unfold ZTx at h1;split at h1
       ·rename_i u hu;split at h1
        ·rename_i row' hrow';split at h1
         ·rename_i y' hy';simp only[oinj] at h1;obtain⟨x2,m2,hm2,hext2,hrv2⟩:=Rs.out_ok hu hm1 hrv;obtain⟨C,T,hc1,hc2⟩:=hm1.box 0 row' p hrow' (hext.M 0 p rfl);obtain⟨q1,q2,q3⟩:=ZFs hm hrow hp (row1:=row) (hext.trans hext2) hm2 hst hc1 ((R.decW_ok hy' hc2).mono hext2) (R.enc_plain rb y');rw[<-h1];exact⟨val,{x with fz:=x2.fz},rfl,Rs.enc_ctx (x:=x2) (x':={x with fz:=x2.fz}) (λ_ _ _ e=>e) rs _ hrv2,q1,q2,q3⟩
         ·simp at h1
        ·simp at h1
       ·simp at h1
      ·simp at h1
     |[],hv=>exact hv.elim
    ·simp[RT.val] at hp
   ·simp[RT.val] at hp
  ·simp[RT.val] at hp
 ·simp[RT.val] at hp
inductive CS where
 |code (r:R)
 |many (r:R)
 |tip (h:Nat)
 |fix (a:A)
 |junk
inductive SS where
 |code (s:Sh)
 |tip (h:Nat)
 |fix (a:A)
structure GS where
 r:R
 T:TypeId
 fzn:Bool
structure LS where
 n:Nat
 Sl:List (Nat×SS)
 Bx:List (List CS)
 Sg:List GS
 keep:List Nat:=[]
@[reducible] def SD:List (Nat×SS)->Type->Type
 |[],t=>t
 |(_,.code s)::l,t=>s.den×SD l t
 |(_,.tip _)::l,t=>SD l t
 |(_,.fix _)::l,t=>SD l t
@[reducible] def CD:List CS->Type->Type
 |[],t=>t
 | .code r::l,t=>r.den×CD l t
 | .many r::l,t=>r.den×CD l t
 | .tip _::l,t=>CD l t
 | .fix _::l,t=>CD l t
 | .junk::l,t=>CD l t
@[reducible] def BD:List (List CS)->Type->Type
 |[],t=>t
 |c::l,t=>CD c (BD l t)
@[reducible] def GD:List GS->Type
 |[]=>Unit
 |g::l=>List g.r.den×GD l
@[reducible] def LS.D (c:LS):Type:=SD c.Sl (BD c.Bx (GD c.Sg))
def ZO0 (r:R) (y:r.den):A:=match r.enc y with
 |[a]=>a
 |_=>.junk
def tlS:(l:List (Nat×SS))->{t:Type}->SD l t->t
 |[],_,y=>y
 |(_,.code _)::l,_,y=>tlS l y.2
 |(_,.tip _)::l,_,y=>tlS l y
 |(_,.fix _)::l,_,y=>tlS l y
def encS (vf:Nat->Nat):(l:List (Nat×SS))->{t:Type}->SD l t->List (Nat×V)
 |[],_,_=>[]
 |(i,.code s)::l,_,y=>(i,.w (s.enc y.1))::encS vf l y.2
 |(i,.tip h)::l,_,y=>(i,.w (.one (.tip h (vf h))))::encS vf l y
 |(i,.fix a)::l,_,y=>(i,.w (.one a))::encS vf l y
def tlC:(l:List CS)->{t:Type}->CD l t->t
 |[],_,y=>y
 | .code _::l,_,y=>tlC l y.2
 | .many _::l,_,y=>tlC l y.2
 | .tip _::l,_,y=>tlC l y
 | .fix _::l,_,y=>tlC l y
 | .junk::l,_,y=>tlC l y
def encC (vf:Nat->Nat):(l:List CS)->{t:Type}->CD l t->List A
 |[],_,_=>[]
 | .code r::l,_,y=>ZO0 r y.1::encC vf l y.2
 | .many r::l,_,y=>r.enc y.1++encC vf l y.2
 | .tip h::l,_,y=>.tip h (vf h)::encC vf l y
 | .fix a::l,_,y=>a::encC vf l y
 | .junk::l,_,y=>.junk::encC vf l y
def tlB:(l:List (List CS))->{t:Type}->BD l t->t
 |[],_,y=>y
 |c::l,_,y=>tlB l (tlC c y)
def encB (vf:Nat->Nat):(l:List (List CS))->{t:Type}->BD l t->List (List A)
 |[],_,_=>[]
 |c::l,_,y=>encC vf c y::encB vf l (tlC c y)
def encG (vf:Nat->Nat):Nat->(l:List GS)->GD l->List Stg
 |_,[],_=>[]
 |h,g::l,y=>{r:=g.r,T:=g.T,l:=y.1,ver:=vf h,fzn:=g.fzn,ffz:=false,lit:=false,ub:=0}::encG vf (h+1) l y.2
def Zq1:List A->List A->Bool
 |[],[]=>true
 | .loc b o::l,.loc b' o'::r=>Nat.beq b b'&&Nat.beq o o'&&Zq1 l r
 |_,_=>false
def ZrW:A->A->Bool
 | .loc b o,.loc b' o'=>Nat.beq b b'&&Nat.beq o o'
 | .nilp,.nilp=>true
 | .nilsl,.nilsl=>true
 | .clo f l,.clo g r=>Nat.beq f g&&Zq1 l r
 | .int true k n,.int true k' n'=>Zj5 k k'&&decide (n=n')
 | .bool true b,.bool true b'=>b==b'
 |_,_=>false
def ZEN (nb:Nat):List A->Bool
 |[]=>true
 | .loc b _::l=>Nat.blt b nb&&ZEN nb l
 |_=>false
def ZR1 (nb:Nat):A->Bool
 | .loc b _=>Nat.blt b nb
 | .clo _ l=>ZEN nb l
 | .nilp| .nilsl| .int true _ _| .bool true _=>true
 |_=>false
def ZRI (m:Mem) (ns h:Nat):A->Bool
 | .tip h' v=>Nat.beq h h'&&Nat.blt h ns&&(match ZaY m h v with|some _=>true|none=>false)
 |_=>false
def Ziq (m:Mem) (nb ns:Nat) (sl:List V):(l:List (Nat×SS))->{t:Type}->t->Option (SD l t)
 |[],_,tl=>some tl
 |(i,.code s)::l,_,tl=>match nth sl i with
  |some (.w w)=>match s.dec w with
   |some a=>match Ziq m nb ns sl l tl with
    |some b=>some (a,b)
    |none=>none
   |none=>none
  |_=>none
 |(i,.tip h)::l,_,tl=>match nth sl i with
  |some (.w (.one a))=>match ZRI m ns h a with
   |true=>Ziq m nb ns sl l tl
   |false=>none
  |_=>none
 |(i,.fix a)::l,_,tl=>match nth sl i with
  |some (.w (.one a'))=>match ZrW a a'&&ZR1 nb a with
   |true=>Ziq m nb ns sl l tl
   |false=>none
  |_=>none
def decC (m:Mem) (nb ns:Nat):(l:List CS)->{t:Type}->List A->t->Option (CD l t)
 |[],_,[],tl=>some tl
 | .code r::l,_,a::row,tl=>match r.decW [a] with
  |some x=>match decC m nb ns l row tl with
   |some b=>some (x,b)
   |none=>none
  |none=>none
 | .many r::l,_,row,tl=>match r.dec row with
  |some (x,row')=>match decC m nb ns l row' tl with
   |some b=>some (x,b)
   |none=>none
  |none=>none
 | .tip h::l,_,a::row,tl=>match ZRI m ns h a with
  |true=>decC m nb ns l row tl
  |false=>none
 | .fix a::l,_,a'::row,tl=>match ZrW a a'&&ZR1 nb a with
  |true=>decC m nb ns l row tl
  |false=>none
 | .junk::l,_,_::row,tl=>decC m nb ns l row tl
 |_,_,_,_=>none
def ZjH (m:Mem) (nb ns:Nat):(l:List (List CS))->{t:Type}->List (List A)->t->Option (BD l t)
 |[],_,_,tl=>some tl
 |c::l,_,row::bx,tl=>match ZjH m nb ns l bx tl with
  |some b=>decC m nb ns c row b
  |none=>none
 |_::_,_,[],_=>none
def decG:(l:List GS)->List Stg->Option (GD l)
 |[],_=>some ()
 |g::l,s::ss=>match R.same s.r g.r with
  |some e=>match Nat.beq s.T g.T&&(g.fzn|| !s.fzn) with
   |true=>match decG l ss with
    |some b=>some (EqR.cast e.slc s.l,b)
    |none=>none
   |false=>none
  |none=>none
 |_::_,[]=>none
def LS.dec (c:LS) (s:St):Option c.D:=
 match Nat.beq (len s.Sl) c.n with
 |true=>match decG c.Sg s.mem.Sg with
  |some g=>match ZjH s.mem (len c.Bx) (len c.Sg) c.Bx s.mem.Bx g with
   |some b=>Ziq s.mem (len c.Bx) (len c.Sg) s.Sl c.Sl b
   |none=>none
  |none=>none
 |false=>none
def ZBF:Nat->List V
 |0=>[]
 |n+1=>.w .junk::ZBF n
def ZHQ (l:List V):List (Nat×V)->List V
 |[]=>l
 |(i,v)::r=>setN (ZHQ l r) i v
def LS.mem (c:LS) (vf:Nat->Nat) (a:c.D):Mem:=⟨encB vf c.Bx (tlS c.Sl a),encG vf 0 c.Sg (tlB c.Bx (tlS c.Sl a))⟩
def LS.st (c:LS) (vf:Nat->Nat) (a:c.D):St:={Sl:=ZHQ (ZBF c.n) (encS vf c.Sl a),mem:=c.mem vf a,dirty:=0,bd:=[],sd:=[]}
def ZhQ (vf:Nat->Nat):Nat->List SI->List SI
 |_,[]=>[]
 |h,s::l=>{s with ver:=vf h}::ZhQ vf (h+1) l
def Ctx.retag (x:Ctx) (nb ns:Nat) (vf:Nat->Nat):Ctx:={own:=x.own,M:=Z0 nb x.M,S:=ZhQ vf 0 (Z0 ns x.S),fz:=x.fz}
theorem Zj7 (vf:Nat->Nat):∀(l:List SI) (k h:Nat),nth (ZhQ vf k l) h=(nth l h).map λs=>{s with ver:=vf (k+h)}
 |[],_,h=>by simp[ZhQ,Zn]
 |s::l,k,0=>rfl
 |s::l,k,h+1=>by simp only[ZhQ,nth,Zj7 vf l (k+1) h];congr 2;ext;rw[Yat,YaT 1]
theorem Zqp (vf:Nat->Nat):∀(l:List SI) (k:Nat),(ZhQ vf k l).length=l.length
 |[],_=>rfl
 |_::l,k=>by simp[ZhQ,Zqp vf l]
variable {h:Nat}
theorem ZyT {x:Ctx} {nb ns:Nat} {vf:Nat->Nat} {s:SI} (hs:nth x.S h=some s) (hh:h<ns):nth (x.retag nb ns vf).S h=some {s with ver:=vf h}:=by show nth (ZhQ vf 0 (Z0 ns x.S)) h=_;rw[Zj7,Zaw hh,hs,Yu];rfl
theorem Zhl {x:Ctx} {nb ns:Nat} {vf:Nat->Nat} {s':SI} (hs:nth (x.retag nb ns vf).S h=some s'):∃s,nth x.S h=some s/\h<ns/\s'={s with ver:=vf h}:=by
 have hs:nth (ZhQ vf 0 (Z0 ns x.S)) h=some s':=hs;rw[Zj7] at hs;cases h1:nth (Z0 ns x.S) h with
 |none=>rw[h1] at hs;simp at hs
 |some s=>
  rw[h1] at hs;simp only[Option.map_some,oinj,Yu] at hs;obtain⟨h2,h3⟩:=ZJ h1;exact⟨s,h3,h2,hs.symm⟩
theorem ZyU {x:Ctx} {nb ns:Nat} {vf:Nat->Nat} (hb:b<nb):nth (x.retag nb ns vf).M b=nth x.M b:=Zaw hb
theorem ZiK {x:Ctx} {nb ns:Nat} {vf:Nat->Nat} (hp:nth (x.retag nb ns vf).M b=some p):b<nb/\nth x.M b=some p:=ZJ hp
theorem Zr1 (x:Ctx) (nb ns:Nat) (vf:Nat->Nat):FzLe x (x.retag nb ns vf):=λ_ _ _ e=>e
variable {a:A}
theorem Zqm {a':A} (h:ZrW a a'=true):a=a':=by
 have hl:∀l r,Zq1 l r=true->l=r:=by
  intro l
  induction l with
  |nil=>intro r h;cases r<;>simp_all [Zq1]
  |cons b l ih=>
   intro r h;cases r with
   |nil=>cases b<;>simp[Zq1] at h
   |cons c r=>
    cases b<;>cases c<;>simp[Zq1] at h;obtain⟨⟨rfl,rfl⟩,h⟩:=h;rw[ih r h]
 unfold ZrW at h;split at h<;>simp at h
 ·obtain⟨rfl,rfl⟩:=h;rfl
 ·rfl
 ·rfl
 ·obtain⟨rfl,h⟩:=h;rw[hl _ _ h]
 ·obtain⟨h,rfl⟩:=h;rw[ZdW h]
 ·rw[h]
section
variable {x:Ctx} {m:Mem} {w:World} {nb ns:Nat} (vf:Nat->Nat)
theorem RA.fixR (hf:ZR1 nb a=true) (h:RA x a v):RA (x.retag nb ns vf) a v:=by
 have hl:∀l,ZEN nb l=true->∀j a,nth l j=some a->∃b o,a=.loc b o/\b<nb:=by
  intro l
  induction l with
  |nil=>intro _ j a e;simp[Zn] at e
  |cons c l ih=>
   intro h j a e;cases c<;>simp[ZEN] at h;cases j with
   |zero=>simp only[nth,oinj] at e;subst e;exact⟨_,_,rfl,h.1⟩
   |succ j=>exact ih h.2 j a e
 unfold ZR1 at hf;split at hf
 ·cases h with
  |loc _ _ _ p hp=>exact .loc _ _ _ _ (by rw[ZyU (by simpa using hf)];exact hp)
 ·rename_i f l;cases h with
  |clo _ _ _ cs c h1 h2 h3=>
   refine .clo _ _ _ _ c h1 h2 λj a ha=> ?_
   obtain⟨b,o,rfl,hb⟩:=hl l hf j a ha;have:=h3 j _ ha;generalize c j=v at this;cases this with
   |loc _ _ _ p hp=>exact .loc _ _ _ _ (by rw[ZyU hb];exact hp)
 ·cases h;exact .nilp _
 ·cases h;exact .nilsl _
 ·cases h;exact .int _ _ _ _ (by assumption)
 ·cases h;exact .bool _ _ _
 ·simp at hf
theorem RA.tipR (hm:MemR x m w) (ht:ZRI m ns h a=true) (hv:RA x a v):RA (x.retag nb ns vf) (.tip h (vf h)) v:=by
 unfold ZRI at ht;split at ht
 ·rename_i h' v';simp only[Yb,Yt,Yaf] at ht;obtain⟨⟨rfl,h1⟩,h2⟩:=ht;split at h2
  ·rename_i g hg;obtain⟨s,hs,hok,rfl⟩:=Zf8 hm hv hg;exact .tip _ _ _ _ _ (ZyT hs h1) (Ye _) (λ_=>rfl) hv.atomic
  ·simp at h2
 ·simp at ht
theorem Zl5 (hm:MemR x m w) {sl:List V} {t:Array Value} (hf:RF x sl t):∀{l:List (Nat×SS)} {τ:Type} {tl:τ} {a:SD l τ},Ziq m nb ns sl l tl=some a->
  tlS l a=tl/\∀i v,(i,v)∈encS vf l a->RV (x.retag nb ns vf) v (t.getD i undef)
 |[],_,tl,a,h=>by simp only[Ziq,oinj] at h;subst h;exact⟨rfl,λi v h=>by simp[encS] at h⟩
 |(i,.code s)::l,_,tl,a,h=>by
  simp only[Ziq] at h;split at h
  ·rename_i w' hw;split at h
   ·rename_i a1 h1;split at h
    ·rename_i b h2;simp only[oinj] at h;subst h;obtain⟨q1,q2⟩:=Zl5 hm hf h2;refine⟨q1,λj v hj=> ?_⟩;rcases Ys.1 hj with hj|hj
     ·simp only[pinj] at hj;obtain⟨rfl,rfl⟩:=hj;exact s.enc_ctx (Zr1 x nb ns vf) a1 (Sh.dec_ok h1 (hf.slot _ _ hw)).1
     ·exact q2 j v hj
    ·simp at h
   ·simp at h
  ·simp at h
 |(i,.tip h0)::l,_,tl,a,h=>by
  simp only[Ziq] at h;split at h
  ·rename_i a1 hw;split at h
   ·rename_i ht;obtain⟨q1,q2⟩:=Zl5 hm hf h;refine⟨q1,λj v hj=> ?_⟩;rcases Ys.1 hj with hj|hj
    ·simp only[pinj] at hj;obtain⟨rfl,rfl⟩:=hj;exact RA.tipR vf hm ht (hf.slot _ _ hw)
    ·exact q2 j v hj
   ·simp at h
  ·simp at h
 |(i,.fix a0)::l,_,tl,a,h=>by
  simp only[Ziq] at h;split at h
  ·rename_i a1 hw;split at h
   ·rename_i ht;simp only[Yb] at ht;obtain⟨q1,q2⟩:=Zl5 hm hf h;refine⟨q1,λj v hj=> ?_⟩;rcases Ys.1 hj with hj|hj
    ·simp only[pinj] at hj;obtain⟨rfl,rfl⟩:=hj;have:=Zqm ht.1;subst this;exact RA.fixR vf ht.2 (hf.slot _ _ hw)
    ·exact q2 j v hj
   ·simp at h
  ·simp at h
theorem ZOZ {y:r.den} (hd:r.decW [a]=some y) (hv:RA x a v):RA (x.retag nb ns vf) (ZO0 r y) v:=by
 have h1:=R.decW_ok hd (x:=x) (vs:=[v]) ⟨hv,Tv⟩;unfold ZO0;split
 ·rename_i a' ha;have hp:=R.enc_plain r y;rw[ha] at h1 hp;exact h1.1.plain (Zr1 x nb ns vf) (hp a' (by simp))
 ·exact .junk _ _ hv.atomic
theorem ZkN (hm:MemR x m w):∀{l:List CS} {τ:Type} {row:List A} {tl:τ} {a:CD l τ},decC m nb ns l row tl=some a->
  tlC l a=tl/\(encC vf l a).length=row.length/\∀C,RL x row C->RL (x.retag nb ns vf) (encC vf l a) C
 |[],_,[],tl,a,h=>by simp only[decC,oinj] at h;subst h;exact⟨rfl,rfl,λC hC=>by cases C with|nil=>trivial|cons _ _=>exact hC.elim⟩
 |[],_,_::_,tl,a,h=>by simp[decC] at h
 | .code r::l,_,[],tl,a,h=>by simp[decC] at h
 | .tip _::l,_,[],tl,a,h=>by simp[decC] at h
 | .fix _::l,_,[],tl,a,h=>by simp[decC] at h
 | .junk::l,_,[],tl,a,h=>by simp[decC] at h
 | .code r::l,_,a0::row,tl,a,h=>by
  simp only[decC] at h;split at h
  ·rename_i y hy;split at h
   ·rename_i b hb;simp only[oinj] at h;subst h;obtain⟨q1,q2,q3⟩:=ZkN hm hb;refine⟨q1,by simp[encC,q2],λC hC=> ?_⟩
    match C,hC with
    |v::C,hC=>exact⟨ZOZ vf hy hC.1,q3 C hC.2⟩
   ·simp at h
  ·simp at h
 | .many r::l,_,row,tl,a,h=>by
  simp only[decC] at h;split at h
  ·rename_i y row' hy;split at h
   ·rename_i b hb;simp only[oinj] at h;subst h;obtain⟨q1,q2,q3⟩:=ZkN hm hb;refine⟨q1,by simp[encC,q2,R.enc_len,R.dec_len _ _ _ _ hy],λC hC=> ?_⟩;obtain⟨v1,v2,rfl,h1,h2⟩:=R.dec_ok _ _ _ _ hy x C hC;exact RL.append (RL.plain (Zr1 x nb ns vf) (R.enc_plain r y) h1) (q3 v2 h2)
   ·simp at h
  ·simp at h
 | .tip h0::l,_,a0::row,tl,a,h=>by
  simp only[decC] at h;split at h
  ·rename_i ht;obtain⟨q1,q2,q3⟩:=ZkN hm h;refine⟨q1,by simp[encC,q2],λC hC=> ?_⟩
   match C,hC with
   |v::C,hC=>exact⟨RA.tipR vf hm ht hC.1,q3 C hC.2⟩
  ·simp at h
 | .fix a1::l,_,a0::row,tl,a,h=>by
  simp only[decC] at h;split at h
  ·rename_i ht;simp only[Yb] at ht;obtain⟨q1,q2,q3⟩:=ZkN hm h;refine⟨q1,by simp[encC,q2],λC hC=> ?_⟩
   match C,hC with
   |v::C,hC=>
    have:=Zqm ht.1;subst this;exact⟨RA.fixR vf ht.2 hC.1,q3 C hC.2⟩
  ·simp at h
 | .junk::l,_,a0::row,tl,a,h=>by
  simp only[decC] at h;obtain⟨q1,q2,q3⟩:=ZkN hm h;refine⟨q1,by simp[encC,q2],λC hC=> ?_⟩
  match C,hC with
  |v::C,hC=>exact⟨.junk _ _ hC.1.atomic,q3 C hC.2⟩
theorem ZOR (hm:MemR x m w):∀{l:List (List CS)} {τ:Type} {bx:List (List A)} {tl:τ} {a:BD l τ},ZjH m nb ns l bx tl=some a->
  tlB l a=tl/\(encB vf l a).length=l.length/\l.length<=bx.length/\∀b row,nth (encB vf l a) b=some row->∃row0,nth bx b=some row0/\row.length=row0.length/\∀C,RL x row0 C->RL (x.retag nb ns vf) row C
 |[],_,bx,tl,a,h=>by simp only[ZjH,oinj] at h;subst h;exact⟨rfl,rfl,Yr _,λb row e=>by simp[encB,Zn] at e⟩
 |c::l,_,row::bx,tl,a,h=>by
  simp only[ZjH] at h;split at h
  ·rename_i b0 hb;obtain⟨q1,q2,q3,q4⟩:=ZOR hm hb;obtain⟨p1,p2,p3⟩:=ZkN (vf:=vf) hm h;refine⟨by simp only[tlB,p1,q1],by simp only[encB,p1,List.length_cons,q2],by simp[q3],λb row' e=> ?_⟩;simp only[encB,p1] at e;cases b with
   |zero=>
    simp only[nth,oinj] at e;subst e;exact⟨row,rfl,p2,p3⟩
   |succ b=>exact q4 b row' e
  ·simp at h
 |c::l,_,[],tl,a,h=>by simp[ZjH] at h
end
theorem ZOP {x:Ctx} {w:World} {nb ns:Nat} (vf:Nat->Nat):∀{l:List GS} {ss:List Stg} {a:GD l} (k:Nat),decG l ss=some a->(encG vf k l a).length=l.length/\l.length<=ss.length/\∀h g',nth (encG vf k l a) h=some g'->∃g,nth ss h=some g/\∀s,StgOk x g s w->StgOk (x.retag nb ns vf) g' {s with ver:=vf (k+h)} w
 |[],ss,a,k,h=>⟨rfl,Yr _,λi g e=>by simp[encG,Zn] at e⟩
 |g::l,s::ss,a,k,h=>by
  simp only[decG] at h;split at h
  ·rename_i e he;split at h
   ·rename_i hc;split at h
    ·rename_i b hb;simp only[oinj] at h;subst h;obtain⟨q1,q2,q3⟩:=ZOP (x:=x) (w:=w) (nb:=nb) (ns:=ns) vf (k+1) hb;refine⟨by simp[encG,q1],by simp[q2],λi g' hg=> ?_⟩;cases i with
     |zero=>
      simp only[encG,nth,oinj] at hg;subst hg;refine⟨s,rfl,λsi hok=> ?_⟩;obtain⟨sr,sT,sl,sver,sfzn,sffz,slit,sub⟩:=s;simp only[Yb,Yt,YM,YJ] at hc he;obtain⟨gr,gT,gfzn⟩:=g;simp only at hc he e hok;obtain⟨rfl,hfz⟩:=hc;cases e;refine⟨by simp,hok.n,hok.wd,hok.nil,hok.row,λhff=> ?_,λhff=>by simp at hff,λhff=>by simp at hff⟩;simp only at hff;rw[hff] at hfz;exact hok.fzn (by simpa using hfz)
     |succ i=>
      simp only[encG,nth] at hg;obtain⟨g0,e1,e2⟩:=q3 i g' hg;refine⟨g0,e1,λsi hok=> ?_⟩;have:=e2 si hok;rwa [Yat,YaT 1] at this
    ·simp at h
   ·simp at h
  ·simp at h
 |g::l,[],a,k,h=>by simp[decG] at h
theorem Zjt:∀n,(ZBF n).length=n
 |0=>rfl
 |n+1=>by simp[ZBF,Zjt n]
theorem ZjB (l:List V):∀r,(ZHQ l r).length=l.length
 |[]=>rfl
 |(i,v)::r=>by simp[ZHQ,ZH,ZjB l r]
theorem ZxK {l:List V}:∀(r:List (Nat×V)) (i:Nat) (v:V),nth (ZHQ l r) i=some v->nth l i=some v\/(i,v)∈r
 |[],i,v,h=>.inl h
 |(j,u)::r,i,v,h=>by
  simp only[ZHQ] at h;by_cases e:j=i
  ·subst e;have hlt:=ZZ h;rw[ZH] at h hlt;rw[Zi,Yay (by simpa using hlt)] at h;simp only[oinj] at h;subst h;exact .inr (by simp)
  ·rw[Zi,ZH,Yao e,<-Zi] at h;exact (ZxK r i v h).imp id (λh=>by simp[h])
theorem Zxv:∀(n i:Nat) (v:V),nth (ZBF n) i=some v->v=.w .junk
 |0,i,v,h=>by simp[ZBF,Zn] at h
 |n+1,0,v,h=>by simp[ZBF,nth] at h;exact h.symm
 |n+1,i+1,v,h=>Zxv n i v h
variable {c:LS} {s:St}
theorem LS.dec_some {a:c.D} (h:c.dec s=some a):s.Sl.length=c.n/\∃g b,decG c.Sg s.mem.Sg=some g/\ZjH s.mem (len c.Bx) (len c.Sg) c.Bx s.mem.Bx g=some b/\
  Ziq s.mem (len c.Bx) (len c.Sg) s.Sl c.Sl b=some a:=by
 unfold LS.dec at h;split at h
 ·rename_i hn;simp only[Yt,Zad] at hn;split at h
  ·rename_i g hg;split at h
   ·rename_i b hb;exact⟨hn,g,b,hg,hb,h⟩
   ·simp at h
  ·simp at h
 ·simp at h
theorem LS.dec_ok {a:c.D} (h:c.dec s=some a) {x:Ctx} {t:Array Value} {w:World} (hm:MK x s.mem w) (hf:RF x s.Sl t) (vf:Nat->Nat):
  MK (x.retag (len c.Bx) (len c.Sg) vf) (c.mem vf a) w/\RF (x.retag (len c.Bx) (len c.Sg) vf) (c.st vf a).Sl t:=by
 obtain⟨hn,g,b,h1,h2,h3⟩:=LS.dec_some h;obtain⟨s1,s2⟩:=Zl5 (nb:=len c.Bx) (ns:=len c.Sg) vf hm.toR hf h3;obtain⟨b1,b2,b3,b4⟩:=ZOR (nb:=len c.Bx) (ns:=len c.Sg) vf hm.toR h2;obtain⟨g1,g2,g3⟩:=ZOP (x:=x) (w:=w) (nb:=len c.Bx) (ns:=len c.Sg) vf 0 h1;have hml:=hm.ml;have hsl:=hm.sl;refine⟨⟨hm.fresh,hm.fz,?_,λb' l p hb hp=> ?_,λb' p hp=> ?_,λb' b'' p hp hp'=> ?_,?_,λi g' s' hg hs=> ?_,λi s' p cap hs hb=> ?_,λi i' s' s'' p cap cap' hs hs' hb hb'=> ?_⟩,?_,λi v hv=> ?_⟩
 ·show (Z0 _ x.M).length=(encB vf c.Bx (tlS c.Sl a)).length;rw[s1,b2,Za6 (by rw[Zad,hml];exact b3),Zad]
 ·have hb:nth (encB vf c.Bx (tlS c.Sl a)) b'=some l:=hb;rw[s1] at hb;obtain⟨row0,q1,_,q2⟩:=b4 b' l hb;obtain⟨C,T,e1,e2⟩:=hm.box b' row0 p q1 (ZiK hp).2;exact⟨C,T,e1,q2 C e2⟩
 ·exact hm.mown b' p (ZiK hp).2
 ·exact hm.inj b' b'' p (ZiK hp).2 (ZiK hp').2
 ·show (ZhQ vf 0 (Z0 _ x.S)).length=(encG vf 0 c.Sg (tlB c.Bx (tlS c.Sl a))).length;rw[s1,b1,g1,Zqp,Za6 (by rw[Zad,hsl];exact g2),Zad]
 ·have hg:nth (encG vf 0 c.Sg (tlB c.Bx (tlS c.Sl a))) i=some g':=hg;rw[s1,b1] at hg;obtain⟨g0,q1,q2⟩:=g3 i g' hg;obtain⟨s0,e1,e2,rfl⟩:=Zhl hs;have:=q2 s0 (hm.stg i g0 s0 q1 e1);rwa [Yu] at this
 ·obtain⟨s0,e1,e2,rfl⟩:=Zhl hs;obtain⟨q1,q2⟩:=hm.sown i s0 p cap e1 hb;exact⟨q1,λb' hp=>q2 b' (ZiK hp).2⟩
 ·obtain⟨s0,e1,e2,rfl⟩:=Zhl hs;obtain⟨s0',e1',e2',rfl⟩:=Zhl hs';exact hm.sinj i i' s0 s0' p cap cap' e1 e1' hb hb'
 ·simp[LS.st,ZjB,Zjt,<-hn,hf.size]
 ·rcases ZxK _ _ _ hv with hv|hv
  ·rw[Zxv _ _ _ hv];trivial
  ·exact s2 i v hv
def okSD:(l:List (Nat×SS))->{t:Type}->SD l t->(t->Prop)->Prop
 |[],_,y,p=>p y
 |(_,.code s)::l,_,y,p=>s.ok y.1/\okSD l y.2 p
 |(_,.tip _)::l,_,y,p=>okSD l y p
 |(_,.fix _)::l,_,y,p=>okSD l y p
def okCD:(l:List CS)->{t:Type}->CD l t->(t->Prop)->Prop
 |[],_,y,p=>p y
 | .code r::l,_,y,p=>r.ok y.1/\okCD l y.2 p
 | .many r::l,_,y,p=>r.ok y.1/\okCD l y.2 p
 | .tip _::l,_,y,p=>okCD l y p
 | .fix _::l,_,y,p=>okCD l y p
 | .junk::l,_,y,p=>okCD l y p
def okBD:(l:List (List CS))->{t:Type}->BD l t->(t->Prop)->Prop
 |[],_,y,p=>p y
 |c::l,_,y,p=>okCD c y (λz=>okBD l z p)
def okGD:(l:List GS)->GD l->Prop
 |[],_=>True
 |g::l,y=>(R.sl g.r).ok y.1/\okGD l y.2
def LS.ok (c:LS) (a:c.D):Prop:=okSD c.Sl a λb=>okBD c.Bx b (okGD c.Sg)
theorem ZmD {x:Ctx} {g:Stg} {s:SI} {w:World} (h:StgOk x g s w):(R.sl g.r).ok g.l:=by
 cases hb:s.blk with
 |none=>
  have:=(h.nil hb).1;rw[h.n] at this;have hl:g.l=[]:=Y2.1 this;refine⟨by rw[hl];simp,λa ha=>by rw[hl] at ha;simp at ha⟩
 |some q=>
  obtain⟨p,cap⟩:=q;obtain⟨C,c1,c2,c3,c4,c5,c6,c7,c8⟩:=h.row p cap hb;refine⟨by have:=h.n;omega,λa ha=> ?_⟩;obtain⟨i,hi⟩:=YaB ha;have hlt:=(YE.1 hi).1;have he:elN g.r g.l i=g.r.enc a:=by simp[elN,Yl,hi]
  refine R.ok_of g.r a x.bare ((C.drop (i*g.r.wid)).take g.r.wid) (RL.of_nth ?_ λj b hb=> ?_)
  ·have:(i+1)*g.r.wid<=cap*g.r.wid:=YS _ (by have:=h.n;omega);rw[R.enc_len,YH,YO,c2];rw[Nat.succ_mul] at this;omega
  ·obtain⟨v,e1,e2⟩:=c5 i j b (by rw[h.n];exact hlt) (by rw[he];exact hb);have hj:j<g.r.wid:=by have:=ZZ hb;rwa [R.enc_len] at this
   exact⟨v,by rw[YI,YX hj,YN];exact e1,e2⟩
section
variable {x:Ctx} {m:Mem} {w:World} {nb ns:Nat}
theorem Zl6 {sl:List V} {t:Array Value} (hf:RF x sl t) {τ:Type} {p:τ->Prop}:∀{l:List (Nat×SS)} {tl:τ} {a:SD l τ},Ziq m nb ns sl l tl=some a->p tl->okSD l a p
 |[],tl,a,h,hp=>by simp only[Ziq,oinj] at h;subst h;exact hp
 |(i,.code s)::l,tl,a,h,hp=>by
  simp only[Ziq] at h;split at h
  ·rename_i w' hw;split at h
   ·rename_i a1 h1;split at h
    ·rename_i b h2;simp only[oinj] at h;subst h;exact⟨(Sh.dec_ok h1 (hf.slot _ _ hw)).2,Zl6 hf h2 hp⟩
    ·simp at h
   ·simp at h
  ·simp at h
 |(i,.tip h0)::l,tl,a,h,hp=>by
  simp only[Ziq] at h;split at h
  ·split at h
   ·exact Zl6 (l:=l) hf h hp
   ·simp at h
  ·simp at h
 |(i,.fix a0)::l,tl,a,h,hp=>by
  simp only[Ziq] at h;split at h
  ·split at h
   ·exact Zl6 (l:=l) hf h hp
   ·simp at h
  ·simp at h
theorem ZkO {τ:Type} {p:τ->Prop}:∀{l:List CS} {row:List A} {tl:τ} {a:CD l τ},decC m nb ns l row tl=some a->(∃C,RL x row C)->p tl->okCD l a p
 |[],[],tl,a,h,_,hp=>by simp only[decC,oinj] at h;subst h;exact hp
 |[],_::_,tl,a,h,_,_=>by simp[decC] at h
 | .code r::l,[],tl,a,h,_,_=>by simp[decC] at h
 | .tip _::l,[],tl,a,h,_,_=>by simp[decC] at h
 | .fix _::l,[],tl,a,h,_,_=>by simp[decC] at h
 | .junk::l,[],tl,a,h,_,_=>by simp[decC] at h
 | .code r::l,a0::row,tl,a,h,hC,hp=>by
  obtain⟨C,hC⟩:=hC;simp only[decC] at h;split at h
  ·rename_i y hy;split at h
   ·rename_i b hb;simp only[oinj] at h;subst h
    match C,hC with
    |v::C,hC=>exact⟨R.ok_of r y x [v] (R.decW_ok hy ⟨hC.1,Tv⟩),ZkO hb ⟨C,hC.2⟩ hp⟩
   ·simp at h
  ·simp at h
 | .many r::l,row,tl,a,h,hC,hp=>by
  obtain⟨C,hC⟩:=hC;simp only[decC] at h;split at h
  ·rename_i y row' hy;split at h
   ·rename_i b hb;simp only[oinj] at h;subst h;obtain⟨v1,v2,rfl,h1,h2⟩:=R.dec_ok _ _ _ _ hy x C hC;exact⟨R.ok_of r y x v1 h1,ZkO hb ⟨v2,h2⟩ hp⟩
   ·simp at h
  ·simp at h
 | .tip h0::l,a0::row,tl,a,h,hC,hp=>by
  obtain⟨C,hC⟩:=hC;simp only[decC] at h;split at h
  ·match C,hC with
   |v::C,hC=>exact ZkO (l:=l) h ⟨C,hC.2⟩ hp
  ·simp at h
 | .fix a1::l,a0::row,tl,a,h,hC,hp=>by
  obtain⟨C,hC⟩:=hC;simp only[decC] at h;split at h
  ·match C,hC with
   |v::C,hC=>exact ZkO (l:=l) h ⟨C,hC.2⟩ hp
  ·simp at h
 | .junk::l,a0::row,tl,a,h,hC,hp=>by
  obtain⟨C,hC⟩:=hC;simp only[decC] at h
  match C,hC with
  |v::C,hC=>exact ZkO (l:=l) h ⟨C,hC.2⟩ hp
theorem ZOS {τ:Type} {p:τ->Prop}:∀{l:List (List CS)} {bx:List (List A)} {tl:τ} {a:BD l τ},ZjH m nb ns l bx tl=some a->(∀b row,nth bx b=some row->∃C,RL x row C)->p tl->okBD l a p
 |[],bx,tl,a,h,_,hp=>by simp only[ZjH,oinj] at h;subst h;exact hp
 |c::l,row::bx,tl,a,h,hC,hp=>by
  simp only[ZjH] at h;split at h
  ·rename_i b0 hb;exact ZkO h (hC 0 row rfl) (ZOS hb (λb row e=>hC (b+1) row e) hp)
  ·simp at h
 |c::l,[],tl,a,h,_,_=>by simp[ZjH] at h
theorem ZOQ:∀{l:List GS} {ss:List Stg} {a:GD l},decG l ss=some a->(∀g∈ss,(R.sl g.r).ok g.l)->okGD l a
 |[],ss,a,h,_=>trivial
 |g::l,s::ss,a,h,hs=>by
  simp only[decG] at h;split at h
  ·rename_i e he;split at h
   ·split at h
    ·rename_i b hb;simp only[oinj] at h;subst h;refine⟨?_,ZOQ hb (λg hg=>hs g (by simp[hg]))⟩;have:=hs s (by simp);obtain⟨sr,sT,sl,sver,sfzn,sffz,slit,sub⟩:=s;obtain⟨gr,gT,gfzn⟩:=g;simp only at e he this;cases e;exact this
    ·simp at h
   ·simp at h
  ·simp at h
 |g::l,[],a,h,_=>by simp[decG] at h
end
theorem LS.dec_in {a:c.D} (h:c.dec s=some a) {x:Ctx} {t:Array Value} {w:World} (hm:MK x s.mem w) (hf:RF x s.Sl t):c.ok a:=by
 obtain⟨hn,g,b,h1,h2,h3⟩:=LS.dec_some h;refine Zl6 hf h3 (ZOS (x:=x) h2 (λb row hb=> ?_) (ZOQ h1 λg hg=> ?_))
 ·obtain⟨p,hp⟩:=hm.M_of hb;obtain⟨C,T,_,e2⟩:=hm.box b row p hb hp;exact⟨C,e2⟩
 ·obtain⟨i,hi⟩:=YaB hg;rw[<-Zi] at hi;obtain⟨s0,hs0⟩:=hm.S_of hi;exact ZmD (hm.stg i g s0 hi hs0)
def Zt9:List GS->List Stg
 |[]=>[]
 |g::l=>{r:=g.r,T:=g.T,l:=[],ver:=0,fzn:=false,ffz:=false,lit:=true,ub:=1}::Zt9 l
def ZpT (lo hi:Nat):List (Nat×SS)->List V->List V
 |[],sl=>sl
 |(i,.tip h)::l,sl=>match !Nat.blt h lo&&Nat.blt h hi with
  |true=>match nth sl i with
   |some (.w (.one .nilsl))=>ZpT lo hi l (setN sl i (.w (.one (.tip h 0))))
   |_=>ZpT lo hi l sl
  |false=>ZpT lo hi l sl
 |(_,.code _)::l,sl=>ZpT lo hi l sl
 |(_,.fix _)::l,sl=>ZpT lo hi l sl
def Zkn (lo hi:Nat):List CS->Nat->List A->List A
 |[],_,row=>row
 | .many r::l,o,row=>Zkn lo hi l (o+r.wid) row
 | .tip h::l,o,row=>match !Nat.blt h lo&&Nat.blt h hi with
  |true=>match nth row o with
   |some .nilsl=>Zkn lo hi l (o+1) (setN row o (.tip h 0))
   |_=>Zkn lo hi l (o+1) row
  |false=>Zkn lo hi l (o+1) row
 | .code _::l,o,row=>Zkn lo hi l (o+1) row
 | .fix _::l,o,row=>Zkn lo hi l (o+1) row
 | .junk::l,o,row=>Zkn lo hi l (o+1) row
def Zk3 (lo hi:Nat):List (List CS)->List (List A)->List (List A)
 |c::l,row::bx=>Zkn lo hi c 0 row::Zk3 lo hi l bx
 |_,bx=>bx
def ZwQ (c:LS) (s:St):Nat:=len s.mem.Sg+len (Zt9 (Zdk (len s.mem.Sg) c.Sg))
def ZwP (c:LS) (s:St):St:={s with Sl:=ZpT (len s.mem.Sg) (ZwQ c s) c.Sl s.Sl,mem:={Bx:=Zk3 (len s.mem.Sg) (ZwQ c s) c.Bx s.mem.Bx,Sg:=s.mem.Sg++Zt9 (Zdk (len s.mem.Sg) c.Sg)}}
def Zgh (r:R):SI:={blk:=none,na:=none,n:=0,w:=r.wid,ver:=0,fc:=0}
theorem ZEv {w:World}:∀(l:List GS) {x:Ctx} {m:Mem},MK x m w->∃ss:List SI,MK {x with S:=x.S++ss} {m with Sg:=m.Sg++Zt9 l} w/\Ext x {x with S:=x.S++ss}/\ss.length=(Zt9 l).length/\∀s∈ss,s.ver=0/\tipVal s=.slice none 0 0
 |[],x,m,hm=>⟨[],by simpa [Zt9] using hm,by simpa using Ext.refl x,rfl,λs h=>by simp at h⟩
 |g::l,x,m,hm=>by
  have h1:=hm.addS (g:={r:=g.r,T:=g.T,l:=[],ver:=0,fzn:=false,ffz:=false,lit:=true,ub:=1}) (s:=Zgh g.r) (ZI.refl w) (λp cap h=>by simp[Zgh] at h)
   ⟨rfl,rfl,rfl,λ_=>⟨rfl,rfl⟩,λp cap h=>by simp[Zgh] at h,λ_=>rfl,λh=>by simp at h,λ_=>by simp⟩
  obtain⟨ss,q1,q2,q3,q4⟩:=ZEv l h1.1;refine⟨Zgh g.r::ss,?_,?_,by simp[Zt9,q3],λs hs=> ?_⟩
  ·simpa [Zt9] using q1
  ·have:=h1.2.trans q2;simpa using this
  ·rcases Ys.1 hs with rfl|hs
   ·exact⟨rfl,rfl⟩
   ·exact q4 s hs
theorem Zhq {x:Ctx} {lo hi:Nat} (hS:∀h,lo<=h->h<hi->∃s,nth x.S h=some s/\s.ver=0/\tipVal s=.slice none 0 0) {t:Array Value}:∀(l:List (Nat×SS)) {sl:List V},RF x sl t->RF x (ZpT lo hi l sl) t
 |[],sl,hf=>hf
 |(i,.tip h)::l,sl,hf=>by
  simp only[ZpT];split
  ·rename_i hb;simp only[Yb,YJ,Yaf] at hb;split
   ·rename_i hi;refine Zhq hS l (hf.retag i ?_);have hlo:lo<=h:=by have:=hb.1;rw[YK,Ne,Yaf] at this;omega
    obtain⟨s,e1,e2,e3⟩:=hS h hlo hb.2;have hv:RA x .nilsl (t.getD i undef):=hf.slot i _ hi;have:t.getD i undef=.slice none 0 0:=by generalize t.getD i undef=v at hv;cases hv;rfl
    rw[this];exact RA.tip _ _ _ s _ e1 (Yr _) (λ_=>e3.symm) trivial
   ·exact Zhq hS l hf
  ·exact Zhq hS l hf
 |(_,.code _)::l,sl,hf=>Zhq (sl:=sl) hS l hf
 |(_,.fix _)::l,sl,hf=>Zhq (sl:=sl) hS l hf
theorem ZeR {x:Ctx} {lo hi:Nat} (hS:∀h,lo<=h->h<hi->∃s,nth x.S h=some s/\s.ver=0/\tipVal s=.slice none 0 0):∀(l:List CS) (o:Nat) {row:List A} {C:List Value},RL x row C->RL x (Zkn lo hi l o row) C/\(Zkn lo hi l o row).length=row.length
 |[],o,row,C,h=>⟨h,rfl⟩
 | .many r::l,o,row,C,h=>ZeR hS l (o+r.wid) h
 | .code _::l,o,row,C,h=>ZeR hS l (o+1) h
 | .fix _::l,o,row,C,h=>ZeR hS l (o+1) h
 | .junk::l,o,row,C,h=>ZeR hS l (o+1) h
 | .tip h0::l,o,row,C,h=>by
  simp only[Zkn];split
  ·rename_i hb;simp only[Yb,YJ,Yaf] at hb;split
   ·rename_i hi0;have hlo:lo<=h0:=by have:=hb.1;rw[YK,Ne,Yaf] at this;omega
    obtain⟨s,e1,e2,e3⟩:=hS h0 hlo hb.2;obtain⟨v,hv1,hv2⟩:=h.nth o _ hi0;have hv:v=.slice none 0 0:=by cases hv2;rfl
    subst hv;have hset:C.set o (.slice none 0 0)=C:=by obtain⟨hlt,hg⟩:=YE.1 hv1;rw[<-hg];exact List.set_getElem_self hlt
    have h1:RL x (setN row o (.tip h0 0)) C:=by rw[ZH,<-hset];exact h.set o (RA.tip _ _ _ s _ e1 (Yr _) (λ_=>e3.symm) trivial)
    obtain⟨q1,q2⟩:=ZeR hS l (o+1) h1;exact⟨q1,by rw[q2,ZH,YaI]⟩
   ·exact ZeR hS l (o+1) h
  ·exact ZeR hS l (o+1) h
theorem ZwR {x:Ctx} {lo hi:Nat} (hS:∀h,lo<=h->h<hi->∃s,nth x.S h=some s/\s.ver=0/\tipVal s=.slice none 0 0):∀(l:List (List CS)) (bx:List (List A)),(Zk3 lo hi l bx).length=bx.length/\∀b r,nth (Zk3 lo hi l bx) b=some r->∃r0,nth bx b=some r0/\∀C,RL x r0 C->RL x r C
 |[],bx=>⟨rfl,λb r h=>⟨r,h,λ_ h=>h⟩⟩
 |_::_,[]=>⟨rfl,λb r h=>by simp[Zk3,Zn] at h⟩
 |c::l,row::bx=>by
  obtain⟨q1,q2⟩:=ZwR hS l bx;refine⟨by simp[Zk3,q1],λb r h=> ?_⟩;cases b with
  |zero=>
   simp only[Zk3,nth,oinj] at h;subst h;exact⟨row,rfl,λC hC=>(ZeR hS c 0 hC).1⟩
  |succ b=>exact q2 b r h
theorem MK.reBox {x:Ctx} {m:Mem} {w:World} (h:MK x m w) {bx:List (List A)} (hl:bx.length=m.Bx.length) (hb:∀b r,nth bx b=some r->∃r0,nth m.Bx b=some r0/\∀C,RL x r0 C->RL x r C):MK x {m with Bx:=bx} w:=
 ⟨h.fresh,h.fz,h.ml.trans hl.symm,λb l p e1 e2=>by
  obtain⟨r0,g1,g2⟩:=hb b l e1;obtain⟨C,T,f1,f2⟩:=h.box b r0 p g1 e2
  exact⟨C,T,f1,g2 C f2⟩,h.mown,h.inj,h.sl,h.stg,h.sown,h.sinj⟩
variable {x0:Ctx} {w0:World}
theorem ZMQ (c:LS) {x:Ctx} {w:World} {a:Act} (hr:RH x0 w0 x s a w):∃x',RH x0 w0 x' (ZwP c s) a w/\Ext x x':=by
 obtain⟨ss,q1,q2,q3,q4⟩:=ZEv (Zdk (len s.mem.Sg) c.Sg) hr.r.m;have hS:∀h,len s.mem.Sg<=h->h<ZwQ c s->∃s',nth (x.S++ss) h=some s'/\s'.ver=0/\tipVal s'=.slice none 0 0:=by
  intro h h1 h2;have hsl:=hr.r.m.sl;unfold ZwQ at h2;rw[Zad (Zt9 _),<-q3] at h2;rw[Zad] at h1 h2;have:nth (x.S++ss) h=some (ss[h-s.mem.Sg.length]'(by omega)):=by rw[Zi,YT (by omega),hsl,Yg (by omega)]
  exact⟨_,this,q4 _ (Ya0 _)⟩
 obtain⟨b1,b2⟩:=ZwR (x:={x with S:=x.S++ss}) hS c.Bx s.mem.Bx;exact⟨_,⟨⟨Zhq hS _ (hr.r.f.mono q2),q1.reBox b1 b2,hr.r.d⟩,hr.e.trans q2,hr.t⟩,q2⟩
variable {s':St}
theorem Zlc {b:A} (h:Zau s a=some (b,s')):SameSl s s':=by
 unfold Zau at h;split at h
 ·split at h
  ·split at h
   ·simp only[oinj,pinj] at h;obtain⟨_,rfl⟩:=h;exact .refl s
   ·simp only[oinj,pinj] at h;obtain⟨_,rfl⟩:=h;exact⟨rfl,rfl,rfl,rfl⟩
  ·simp at h
 ·simp at h
 ·simp only[oinj,pinj] at h;obtain⟨_,rfl⟩:=h;exact .refl s
theorem Zla:∀{l r:List A} {s s':St},Zat s l=some (r,s')->SameSl s s'
 |[],r,s,s',h=>by simp only[Zat,oinj,pinj] at h;obtain⟨_,rfl⟩:=h;exact .refl s
 |a::l,r,s,s',h=>by
  simp only[Zat] at h;split at h
  ·rename_i b s1 h1;split at h
   ·rename_i r2 s2 h2;simp only[oinj,pinj] at h;obtain⟨_,rfl⟩:=h;exact (Zlc h1).trans (Zla h2)
   ·simp at h
  ·simp at h
theorem ZxG {a b:W} (h:ZaF s a=some (b,s')):SameSl s s':=by
 unfold ZaF at h;split at h
 ·split at h
  ·rename_i h1;simp only[oinj,pinj] at h;obtain⟨_,rfl⟩:=h;exact Zlc h1
  ·simp at h
 ·split at h
  ·rename_i h1;simp only[oinj,pinj] at h;obtain⟨_,rfl⟩:=h;exact Zla h1
  ·simp at h
 ·simp only[oinj,pinj] at h;obtain⟨_,rfl⟩:=h;exact .refl s
def frzS:List (Nat×SS)->St->St
 |[],s=>s
 |(i,.code _)::l,s=>match nth s.Sl i with
  |some (.w w)=>match ZaF s w with
   |some (w',s')=>frzS l {s' with Sl:=setN s'.Sl i (.w w')}
   |none=>frzS l s
  |_=>frzS l s
 |(_,.tip _)::l,s=>frzS l s
 |(_,.fix _)::l,s=>frzS l s
theorem Zfx:∀(l:List (Nat×SS)) (s:St),(frzS l s).Sl.length=s.Sl.length/\(frzS l s).mem.Bx=s.mem.Bx
 |[],s=>⟨rfl,rfl⟩
 |(_,.tip _)::l,s=>Zfx l s
 |(_,.fix _)::l,s=>Zfx l s
 |(i,.code _)::l,s=>by
  simp only[frzS];split
  ·split
   ·rename_i w' s' h;have k:=ZxG h;obtain⟨q1,q2⟩:=Zfx l {s' with Sl:=setN s'.Sl i (.w w')};exact⟨by rw[q1];simp only[ZH,YaI,k.sl],by rw[q2];exact k.bx⟩
   ·exact Zfx l s
  ·exact Zfx l s
theorem Zio {x0:Ctx} {w0 w:World} {a:Act}:∀(l:List (Nat×SS)) {x:Ctx} {s:St},RH x0 w0 x s a w->∃x',RH x0 w0 x' (frzS l s) a w/\Ext x x'
 |[],x,s,hr=>⟨x,hr,.refl x⟩
 |(_,.tip _)::l,x,s,hr=>Zio l hr
 |(_,.fix _)::l,x,s,hr=>Zio l hr
 |(i,.code _)::l,x,s,hr=>by
  simp only[frzS];split
  ·rename_i w1 hw;split
   ·rename_i w' s' h;obtain⟨x1,m1,e1,r1,k1⟩:=Zhz hr.r.m (hr.r.f.slot i _ hw) h;have f1:RF x1 s'.Sl a.tmps:=by rw[k1.sl];exact hr.r.f.mono e1
    have hr':RH x0 w0 x1 {s' with Sl:=setN s'.Sl i (.w w')} a w:=⟨⟨f1.retag i r1,m1,hr.r.d⟩,hr.e.trans e1,hr.t⟩;obtain⟨x2,h2,e2⟩:=Zio l hr';exact⟨x2,h2,e1.trans e2⟩
   ·exact Zio l hr
  ·exact Zio l hr
def reb1 (i k:Nat) (s:St):St:=match nth s.Sl i with
 |some (.w (.one (.tip h v)))=>match Nat.beq h k with
  |true=>s
  |false=>match ZaY s.mem h v,nth s.mem.Sg k with
   |some g,some gk=>{s with
     Sl:=setN s.Sl i (.w (.one (.tip k (g.ver+gk.ver+1)))),
     mem:={s.mem with Sg:=setN (setN s.mem.Sg h ⟨gk.r,gk.T,[],g.ver+gk.ver+1,false,false,false,0⟩) k {g with ver:=g.ver+gk.ver+1}}}
   |_,_=>s
 |_=>s
def rebS:List (Nat×SS)->St->St
 |[],s=>s
 |(i,.tip k)::l,s=>rebS l (reb1 i k s)
 |(_,.code _)::l,s=>rebS l s
 |(_,.fix _)::l,s=>rebS l s
variable {i:Nat}
theorem ZUW {w:World} {a:Act} {k:Nat} {x:Ctx} (hr:RH x0 w0 x s a w):∃x',RH x0 w0 x' (reb1 i k s) a w/\Ext x x':=by
 unfold reb1;split
 ·rename_i h v hi;split
  ·exact⟨x,hr,.refl x⟩
  ·rename_i hne;have hne:h≠k:=λe=>by rw[e,Nat.beq_refl] at hne;simp at hne
   split
   ·rename_i g gk hg hgk;obtain⟨hg,hgv⟩:=ZR hg;have hm:=hr.r.m;obtain⟨sh,hsh⟩:=hm.S_of hg;obtain⟨sk,hsk⟩:=hm.S_of hgk;have oh:=hm.stg h g sh hg hsh;have ok:=hm.stg k gk sk hgk hsk;have hv1:RA x (.tip h v) (a.tmps.getD i undef):=hr.r.f.slot i _ hi;have hve:a.tmps.getD i undef=tipVal sh/\atomic (a.tmps.getD i undef):=by
     cases hv1 with
     |tip _ _ _ s' _ hs' hv' hval hat=>
      rw[hsh] at hs';simp only[oinj] at hs';subst hs';exact⟨hval (by rw[oh.ver,hgv]),hat⟩
    obtain⟨V,hV⟩:∃V,V=g.ver+gk.ver+1:=⟨_,rfl⟩;rw[<-hV];obtain⟨x',hx'⟩:∃x':Ctx,x'={x with S:=setN (setN x.S h {Zgh gk.r with ver:=V}) k {sh with ver:=V}}:=⟨_,rfl⟩;have nS:∀j s1,nth x'.S j=some s1->(j=k/\s1={sh with ver:=V})\/(j=h/\j≠k/\s1={Zgh gk.r with ver:=V})\/(j≠k/\j≠h/\nth x.S j=some s1):=by
     intro j s1 e;rw[hx'] at e;rcases Zen e with ⟨rfl,rfl,_⟩|⟨h1,e⟩
     ·exact .inl ⟨rfl,rfl⟩
     ·rcases Zen e with ⟨rfl,rfl,_⟩|⟨h2,e⟩
      ·exact .inr (.inl ⟨rfl,YaO h1,rfl⟩)
      ·exact .inr (.inr ⟨YaO h1,YaO h2,e⟩)
    have nk:nth x'.S k=some {sh with ver:=V}:=by rw[hx'];exact ZE (a:=sk) (by rw[ZB hne];exact hsk)
    have nh:nth x'.S h=some {Zgh gk.r with ver:=V}:=by rw[hx'];show nth (setN (setN x.S h _) k _) h=_;rw[ZB (YaO hne)];exact ZE hsh
    have no:∀j,j≠k->j≠h->nth x'.S j=nth x.S j:=λj h1 h2=>by rw[hx'];show nth (setN (setN x.S h _) k _) j=_;rw[ZB (YaO h1),ZB (YaO h2)]
    have hfz:x'.fz=x.fz:=by rw[hx']
    have hM:x'.M=x.M:=by rw[hx']
    have hown:x'.own=x.own:=by rw[hx']
    have hx:Ext x x':=by
     refine⟨hown,λb p e=>by rw[hM];exact e,λj s1 e=> ?_,λb o v e=>by rw[hfz];exact e,λb o v e=>.inl (by rw[<-hfz];exact e)⟩;by_cases h1:j=k
     ·subst h1;rw[hsk] at e;simp only[oinj] at e;subst e;exact⟨_,nk,by have:=ok.ver;simp only;omega,λe=>by have:=ok.ver;simp only at e;omega⟩
     ·by_cases h2:j=h
      ·subst h2;rw[hsh] at e;simp only[oinj] at e;subst e;exact⟨_,nh,by have:=oh.ver;simp only;omega,λe=>by have:=oh.ver;simp only at e;omega⟩
      ·exact⟨s1,by rw[no j h1 h2];exact e,.refl s1⟩
    refine⟨x',⟨⟨(hr.r.f.mono hx).retag i ?_,?_,hr.r.d⟩,hr.e.trans hx,hr.t⟩,hx⟩
    ·exact .tip _ _ _ _ _ nk (Ye _) (λ_=>hve.1.trans (by unfold tipVal;rfl)) hve.2
    ·refine⟨by rw[hown];exact hm.fresh,by rw[hfz];exact hm.fz,by rw[hM];exact hm.ml,?_,by rw[hM,hown,hfz];exact hm.mown,by rw[hM];exact hm.inj,?_,?_,?_,?_⟩
     ·intro b l p hl hp;rw[hM] at hp;obtain⟨C,T,h1,h2⟩:=hm.box b l p hl hp;exact⟨C,T,h1,h2.mono hx⟩
     ·rw[hx'];simp[ZH,hm.sl]
     ·intro j g1 s1 hg1 hs1;have hc:FzLe x x':=λb o v e=>by rw[hfz];exact e
      rcases nS j s1 hs1 with ⟨rfl,rfl⟩|⟨rfl,h1,rfl⟩|⟨h1,h2,e⟩
      ·have hg1:nth (setN (setN s.mem.Sg h _) j _) j=some g1:=hg1;rw[ZE (a:=gk) (by rw[ZB hne];exact hgk)] at hg1;simp only[oinj] at hg1;subst hg1;have:=oh.ctx (x':=x') hc (λ_ _ _ _=>by rw[hfz]);exact⟨rfl,this.n,this.wd,this.nil,this.row,this.fzn,this.ffz,this.ub⟩
      ·have hg1:nth (setN (setN s.mem.Sg j _) k _) j=some g1:=hg1;rw[ZB (YaO h1),ZE hg] at hg1;simp only[oinj] at hg1;subst hg1;exact⟨rfl,rfl,rfl,λ_=>⟨rfl,rfl⟩,λp cap e=>by simp[Zgh] at e,λ_=>rfl,λe=>by simp at e,λe=>by simp at e⟩
      ·have hg1:nth (setN (setN s.mem.Sg h _) k _) j=some g1:=hg1;rw[ZB (YaO h1),ZB (YaO h2)] at hg1;exact (hm.stg j g1 s1 hg1 e).ctx hc (λ_ _ _ _=>by rw[hfz])
     ·intro j s1 p cap hs1 hb;rw[hown,hM];rcases nS j s1 hs1 with ⟨rfl,rfl⟩|⟨rfl,h1,rfl⟩|⟨h1,h2,e⟩
      ·exact hm.sown h sh p cap hsh hb
      ·simp[Zgh] at hb
      ·exact hm.sown j s1 p cap e hb
     ·intro j j' s1 s2 p c1 c2 h1 h2 b1 b2;rcases nS j s1 h1 with ⟨rfl,rfl⟩|⟨rfl,_,rfl⟩|⟨e1,e2,e⟩<;>rcases nS j' s2 h2 with ⟨rfl,rfl⟩|⟨rfl,_,rfl⟩|⟨f1,f2,f⟩
      ·rfl
      ·simp[Zgh] at b2
      ·exact absurd (hm.sinj h j' sh s2 p c1 c2 hsh f b1 b2) (YaO f2)
      ·simp[Zgh] at b1
      ·simp[Zgh] at b1
      ·simp[Zgh] at b1
      ·exact absurd (hm.sinj h j sh s1 p c2 c1 hsh e b2 b1) (YaO e2)
      ·simp[Zgh] at b2
      ·exact hm.sinj j j' s1 s2 p c1 c2 e f b1 b2
   ·exact⟨x,hr,.refl x⟩
 ·exact⟨x,hr,.refl x⟩
theorem Zr5 {x0:Ctx} {w0 w:World} {a:Act}:∀(l:List (Nat×SS)) {x:Ctx} {s:St},RH x0 w0 x s a w->∃x',RH x0 w0 x' (rebS l s) a w/\Ext x x'
 |[],x,s,hr=>⟨x,hr,.refl x⟩
 |(_,.code _)::l,x,s,hr=>Zr5 l hr
 |(_,.fix _)::l,x,s,hr=>Zr5 l hr
 |(i,.tip k)::l,x,s,hr=>by obtain⟨x1,h1,e1⟩:=ZUW (i:=i) (k:=k) hr;obtain⟨x2,h2,e2⟩:=Zr5 l h1;exact⟨x2,h2,e1.trans e2⟩
def frzR (l:List (Nat×SS)) (s:St):St:=rebS l (frzS l s)
theorem ZWV {w:World} {a:Act} (l:List (Nat×SS)) {x:Ctx} (h:RH x0 w0 x s a w):∃x',RH x0 w0 x' (frzR l s) a w/\Ext x x':=by obtain⟨x1,h1,e1⟩:=Zio l h;obtain⟨x2,h2,e2⟩:=Zr5 l h1;exact⟨x2,h2,e1.trans e2⟩
inductive Go1 (α:Type) where
 |cont (a:α)
 |brk (a:α)
 |ret (a:α)
def Zu5 (s:St) (h:Nat):Nat:=match nth s.mem.Sg h with
 |some g=>g.ver
 |none=>0
def ZYZ (l:List Nat) (s:St):Bool:=l.all λh=>Nat.beq (Zu5 s h) 0
def ZYY (l:List Nat) (s s':St):Bool:=l.all λh=>Nat.beq (Zu5 s h) (Zu5 s' h)
def ZFm (id:Nat) (c:LS) (o:Out):Option (Go1 c.D):=
 match ZYZ c.keep (frzR c.Sl o.s) with
 |false=>none
 |true=>match c.dec (frzR c.Sl o.s) with
  |none=>none
  |some a=>match o.k with
   | .normal=>some (.cont a)
   | .exit i=>match Nat.beq i id with
    |true=>some (.brk a)
    |false=>none
   | .ret=>some (.ret a)
   | .stop=>none
def Zj6 (E:Env) (b:Code) (id:Nat) (c:LS) (a:c.D):RT (Option (Go1 c.D)):=(ZbI E b (c.st (λ_=>0) a)).map (ZFm id c)
def runL {α:Type} (f:α->Option (Go1 α)):Nat->α->Option (Bool×α)
 |0,_=>none
 |n+1,a=>match f a with
  |some (.cont a')=>runL f n a'
  |some (.brk a')=>some (false,a')
  |some (.ret a')=>some (true,a')
  |none=>none
def allN:Nat->List Nat
 |0=>[]
 |n+1=>n::allN n
def ZSE (bd:List (Nat×Nat)):Nat->List (List A)->List (Nat×Nat)
 |_,[]=>bd
 |b,l::r=>ZSE (Zyh bd b 0 (len l)) (b+1) r
def vfB (kp:List Nat) (s:St) (h:Nat):Nat:=match memN kp h with
 |true=>Zu5 s h
 |false=>match nth s.mem.Sg h with
  |some g=>g.ver+1
  |none=>1
def ZjN (c:LS) (s:St) (a:c.D):St:=
 {c.st (vfB c.keep s) a with dirty:=Nat.lor s.dirty (allB c.n),bd:=ZSE s.bd 0 s.mem.Bx,sd:=ZhI s.sd (allN (len s.mem.Sg))}
def ZRo (fl:Bool) (c:LS) (chk:c.D->Option Bool) (res:c.D->Bool×c.D):Ora:=λs=>
 match Nat.beq (len s.mem.Bx) (len c.Bx)&&Nat.ble (len s.mem.Sg) (len c.Sg)&&ZYY c.keep s (frzS c.Sl (ZwP c s)) with
 |false=>ZfI s
 |true=>match c.dec (frzS c.Sl (ZwP c s)) with
  |none=>ZfI s
  |some a=>chkT (chk a) s (match fl with
   |true=>.br (res a).1 (.Lf ⟨.ret,ZjN c s (res a).2⟩) (.Lf ⟨.normal,ZjN c s (res a).2⟩)
   |false=>.Lf ⟨.normal,ZjN c s (res a).2⟩)
theorem Zxc:∀n i,memN (allN n) i=true↔i<n
 |0,i=>by simp[allN,memN]
 |n+1,i=>by simp only[allN,memN,YM,Yt,Zxc n i];omega
theorem Zq0:∀(bx:List (List A)) (bd:List (Nat×Nat)) (k b j:Nat),memP (ZSE bd k bx) b j=false->memP bd b j=false/\∀l,k<=b->nth bx (b-k)=some l->l.length<=j
 |[],bd,k,b,j,h=>⟨h,λl _ hl=>by simp[Zn] at hl⟩
 |l0::r,bd,k,b,j,h=>by
  simp only[ZSE] at h;obtain⟨h1,h2⟩:=Zq0 r _ (k+1) b j h;rw[Zd8,Yq] at h1;refine⟨h1.1,λl hk hl=> ?_⟩;by_cases e:b=k
  ·subst e;simp only[Nat.sub_self,nth,oinj] at hl;subst hl;have:=h1.2;simp[Zad] at this;omega
  ·have e2:b-k=(b-(k+1))+1:=by omega
   rw[e2] at hl;exact h2 l (by omega) hl
def SI.like (s s':SI):Prop:=s'.blk=s.blk/\s'.n=s.n/\s'.w=s.w/\s'.na=s.na
structure Mid (kp:List Nat) (x y:Ctx):Prop where
 own:y.own=x.own
 M:∀b p,nth x.M b=some p->nth y.M b=some p
 S:∀h s,nth x.S h=some s->∃s',nth y.S h=some s'/\(memN kp h=true->s.like s')
 fz:∀b o v,x.fz b o=some v->y.fz b o=some v
 new:∀b o v,y.fz b o=some v->x.fz b o=some v\/x.own b
theorem Mid.refl (kp:List Nat) (x:Ctx):Mid kp x x:=⟨rfl,λ_ _ e=>e,λ_ s e=>⟨s,e,λ_=>⟨rfl,rfl,rfl,rfl⟩⟩,λ_ _ _ e=>e,λ_ _ _ e=>.inl e⟩
variable {kp:List Nat} {y:Ctx}
theorem Mid.ext {x z:Ctx} (h:Mid kp x y) (k:Ext y z) (hv:∀i,memN kp i=true->∀s s',nth y.S i=some s->nth z.S i=some s'->s'.ver=s.ver):Mid kp x z:=
 ⟨k.own.trans h.own,λb p e=>k.M b p (h.M b p e),λi s e=>by
  obtain⟨s',e',h'⟩:=h.S i s e;obtain⟨s2,e2,h2⟩:=k.S i s' e';refine⟨s2,e2,λhm=> ?_⟩;obtain⟨a1,a2,a3,a4⟩:=h' hm;obtain⟨b1,b2,b3,b4⟩:=h2.same (hv i hm s' s2 e' e2);exact⟨b1.trans a1,b2.trans a2,b3.trans a3,b4.trans a4⟩,λb o v e=>k.fz b o v (h.fz b o v e),
  λb o v e=>(k.new b o v e).elim (h.new b o v) λe=>.inr (h.own▸e)⟩
theorem Mid.retag {x:Ctx} (h:Mid kp x y) {nb ns:Nat} (hb:x.M.length<=nb) (hs:x.S.length<=ns) (vf:Nat->Nat):Mid kp x (y.retag nb ns vf):=
 ⟨h.own,λb p e=>by rw[ZyU (by have:=ZZ e;omega)];exact h.M b p e,λi s e=>by
  obtain⟨s',e',h'⟩:=h.S i s e
  exact⟨_,ZyT e' (by have:=ZZ e;omega),h'⟩,h.fz,h.new⟩
theorem Zui {p:Nat->Bool}:∀{l:List Nat} {i:Nat},l.all p=true->memN l i=true->p i=true
 |a::l,i,h,hm=>by
  simp only[List.all_cons,Yb] at h;simp only[memN,YM,Yt] at hm;rcases hm with rfl|hm
  ·exact h.1
  ·exact Zui h.2 hm
theorem Zrs {x:Ctx} {w:World} (hm:MK x s.mem w) {si:SI} (h:nth x.S i=some si):Zu5 s i=si.ver:=by obtain⟨g,hg⟩:=hm.stg_of h;have:=(hm.stg i g si hg h).ver;simp only[Zu5,hg];exact this.symm
theorem Zqo {E:Env} (hE:Zbx E) {id:Nat} {b:Code} (hl:Z3 E b) {c:LS} {x:Ctx} {w0:World} (hb:x.M.length<=len c.Bx) (hs:x.S.length<=len c.Sg) {Q:Exit->Act->World->Prop} {r:Bool×c.D} (fin:∀(y:Ctx) (s:St) (act:Act) (w:World),Mid c.keep x y->c.dec s=some r.2->RF y s.Sl act.tmps->MK y s.mem w->act.defers=[]->Step x w0 w->Q (match r.1 with|true=>.ret|false=>.normal) act w):
  ∀(n:Nat) (a:c.D) (y:Ctx) (act:Act) (w:World),Mid c.keep x y->(∀i,memN c.keep i=true->∀s,nth y.S i=some s->s.ver=0)->RF y (c.st (λ_=>0) a).Sl act.tmps->MK y (c.mem (λ_=>0) a) w->act.defers=[]->Step x w0 w->
   runL (λa=>(Zj6 E b id c a).val) n a=some r->Code.rounds E.P b (Exit.inBlock id Q) n act w
 |0,a,y,act,w,_,_,_,_,_,_,h=>by simp[runL] at h
 |n+1,a,y,act,w,hx,h0,hf,hm,hd,ht,h=>by
  rw[rounds_succ];refine Zcw hE b hl (x0:=y) (w0:=w) y (c.st (λ_=>0) a) act w _ ⟨⟨hf,hm,hd⟩,Ext.refl y,Step.refl y w⟩ λy2 act2 w2 hr2 _=> ?_
  unfold runL Zj6 at h;rw[RT.val_map] at h;generalize (ZbI E b (c.st (λ_=>0) a)).val=o at*;have ht2:Step x w0 w2:=ht.trans hr2.t hx.own;unfold ZFm at h;obtain⟨y3,hr3,hy3⟩:=ZWV c.Sl hr2;cases hkp:ZYZ c.keep (frzR c.Sl o.s) with
  |false=>rw[hkp] at h;simp at h
  |true=>
  rw[hkp] at h;simp only at h;have hx3:=hx.ext hr3.e λi hi s s' e e'=>by have h1:=Zui hkp hi;rw[Yt] at h1;rw[h0 i hi s e,<-Zrs hr3.r.m e',h1]
  have ht3:Step x w0 w2:=ht.trans hr3.t hx.own;cases hdec:c.dec (frzR c.Sl o.s) with
  |none=>rw[hdec] at h;simp at h
  |some a'=>
   rw[hdec] at h;simp only at h;cases hk:o.k with
   |normal=>
    rw[hk] at h;simp only at h;obtain⟨m3,f3⟩:=LS.dec_ok hdec hr3.r.m hr3.r.f (λ_=>0);exact Zqo hE hl hb hs fin n a' _ act2 w2 (hx3.retag hb hs _) (λi _ s e=>by obtain⟨_,_,_,rfl⟩:=Zhl e;rfl) f3 m3 hr3.r.d ht3 h
   |exit i=>
    rw[hk] at h;simp only at h;by_cases hi:i=id
    ·subst hi;simp only[Nat.beq_refl,oinj] at h;have:=fin y3 (frzR c.Sl o.s) act2 w2 hx3 (by rw[<-h];exact hdec) hr3.r.f hr3.r.m hr3.r.d ht3;rw[<-h] at this;simpa [QK,Exit.then,Exit.inBlock] using this
    ·have:Nat.beq i id=false:=by rw[YK];intro e;rw[Yt] at e;exact hi e
     rw[this] at h;simp at h
   |ret=>
    rw[hk] at h;simp only[oinj] at h;have:=fin y3 (frzR c.Sl o.s) act2 w2 hx3 (by rw[<-h];exact hdec) hr3.r.f hr3.r.m hr3.r.d ht3;rw[<-h] at this;simpa [QK,Exit.then,Exit.inBlock] using this
   |stop=>rw[hk] at h;simp at h
def cwid:List CS->Nat
 |[]=>0
 | .many r::l=>r.wid+cwid l
 | .code _::l=>cwid l+1
 | .tip _::l=>cwid l+1
 | .fix _::l=>cwid l+1
 | .junk::l=>cwid l+1
theorem ZhB (vf:Nat->Nat):∀(l:List CS) {t:Type} (y:CD l t),(encC vf l y).length=cwid l
 | .many r::l,_,y=>by simp[encC,cwid,R.enc_len,ZhB vf l y.2]
 |[],_,_=>rfl
 | .code _::l,_,y=>by simp[encC,cwid,ZhB vf l y.2]
 | .tip _::l,_,y=>by simp only[encC,List.length_cons,cwid];rw[ZhB vf l y]
 | .fix _::l,_,y=>by simp only[encC,List.length_cons,cwid];rw[ZhB vf l y]
 | .junk::l,_,y=>by simp only[encC,List.length_cons,cwid];rw[ZhB vf l y]
theorem ZuF (vf:Nat->Nat):∀(l:List (List CS)) {t:Type} (y:BD l t),(encB vf l y).length=l.length/\∀b r,nth (encB vf l y) b=some r->∃c,nth l b=some c/\r.length=cwid c
 |[],_,_=>⟨rfl,λb r h=>by simp[encB,Zn] at h⟩
 |c::l,_,y=>by
  obtain⟨h1,h2⟩:=ZuF vf l (tlC c y);refine⟨by simp[encB,h1],λb r h=> ?_⟩;cases b with
  |zero=>
   simp only[encB,nth,oinj] at h;subst h;exact⟨c,rfl,ZhB _ _ _⟩
  |succ b=>exact h2 b r h
theorem ZhE {m:Mem} {nb ns:Nat}:∀{l:List CS} {τ:Type} {row:List A} {tl:τ} {a:CD l τ},decC m nb ns l row tl=some a->row.length=cwid l
 |[],_,[],tl,a,h=>rfl
 |[],_,_::_,tl,a,h=>by simp[decC] at h
 | .code r::l,_,[],tl,a,h=>by simp[decC] at h
 | .tip _::l,_,[],tl,a,h=>by simp[decC] at h
 | .fix _::l,_,[],tl,a,h=>by simp[decC] at h
 | .junk::l,_,[],tl,a,h=>by simp[decC] at h
 | .code r::l,_,a0::row,tl,a,h=>by
  simp only[decC] at h;split at h
  ·split at h
   ·rename_i b hb;simp[ZhE hb,cwid]
   ·simp at h
  ·simp at h
 | .many r::l,_,row,tl,a,h=>by
  simp only[decC] at h;split at h
  ·rename_i y row' hy;split at h
   ·rename_i b hb;rw[R.dec_len _ _ _ _ hy,ZhE hb];rfl
   ·simp at h
  ·simp at h
 | .tip h0::l,_,a0::row,tl,a,h=>by
  simp only[decC] at h;split at h
  ·simp[ZhE (l:=l) h,cwid]
  ·simp at h
 | .fix a1::l,_,a0::row,tl,a,h=>by
  simp only[decC] at h;split at h
  ·simp[ZhE (l:=l) h,cwid]
  ·simp at h
 | .junk::l,_,a0::row,tl,a,h=>by simp only[decC] at h;simp[ZhE (l:=l) h,cwid]
theorem ZFk {m:Mem} {nb ns:Nat}:∀{l:List (List CS)} {τ:Type} {bx:List (List A)} {tl:τ} {a:BD l τ},ZjH m nb ns l bx tl=some a->∀b c row,nth l b=some c->nth bx b=some row->row.length=cwid c
 |[],_,bx,tl,a,h,b,c,row,h1,_=>by simp[Zn] at h1
 |c0::l,_,row0::bx,tl,a,h,b,c,row,h1,h2=>by
  simp only[ZjH] at h;split at h
  ·rename_i b0 hb;cases b with
   |zero=>
    simp only[nth,oinj] at h1 h2;subst h1;subst h2;exact ZhE h
   |succ b=>exact ZFk hb b c row h1 h2
  ·simp at h
 |c0::l,_,[],tl,a,h,_,_,_,_,_=>by simp[ZjH] at h
theorem Zl3 (vf:Nat->Nat):∀(k:Nat) (l:List GS) (y:GD l),(encG vf k l y).length=l.length/\∀h g,nth (encG vf k l y) h=some g->g.ver=vf (k+h)
 |_,[],_=>⟨rfl,λh g e=>by simp[encG,Zn] at e⟩
 |k,g::l,y=>by
  obtain⟨h1,h2⟩:=Zl3 vf (k+1) l y.2;refine⟨by simp[encG,h1],λh g e=> ?_⟩;cases h with
  |zero=>simp only[encG,nth,oinj] at e;subst e;rfl
  |succ h=>
   have:=h2 h g e;rwa [Yat,YaT 1] at this
theorem Zdy (lo hi:Nat):∀(l:List CS) (o:Nat) (row:List A),(Zkn lo hi l o row).length=row.length
 |[],_,_=>rfl
 | .many _::l,o,row=>Zdy lo hi l _ row
 | .code _::l,o,row=>Zdy lo hi l _ row
 | .fix _::l,o,row=>Zdy lo hi l _ row
 | .junk::l,o,row=>Zdy lo hi l _ row
 | .tip h0::l,o,row=>by
  simp only[Zkn];split
  ·split
   ·rw[Zdy lo hi l,ZH,YaI]
   ·exact Zdy lo hi l _ row
  ·exact Zdy lo hi l _ row
theorem ZqV (lo hi:Nat):∀(l:List (List CS)) (bx:List (List A)) (b:Nat) (r:List A),nth bx b=some r->∃r',nth (Zk3 lo hi l bx) b=some r'/\r'.length=r.length
 |[],bx,b,r,h=>⟨r,h,rfl⟩
 |_::_,[],b,r,h=>by simp[Zn] at h
 |c::l,row::bx,b,r,h=>by
  cases b with
  |zero=>
   simp only[nth,oinj] at h;subst h;exact⟨_,rfl,Zdy _ _ _ _ _⟩
  |succ b=>exact ZqV lo hi l bx b r h
theorem Zis {a:c.D} (hb:len s.mem.Bx=len c.Bx) (hs:len s.mem.Sg<=len c.Sg) (h:c.dec (frzS c.Sl (ZwP c s))=some a) (a':c.D):Keep s (ZjN c s a'):=by
 obtain⟨hn,g,b0,h1,h2,h3⟩:=LS.dec_some h;obtain⟨fz1,fz2⟩:=Zfx c.Sl (ZwP c s);rw[fz1] at hn;rw[fz2] at h2;have hn':s.Sl.length=c.n:=by
  rw[<-hn];have:∀(l:List (Nat×SS)) (sl:List V) lo hi,(ZpT lo hi l sl).length=sl.length:=by
   intro l
   induction l with
   |nil=>intro sl lo hi;rfl
   |cons p l ih=>
    intro sl lo hi;obtain⟨i,q⟩:=p;cases q with
    |code _=>exact ih _ _ _
    |fix _=>exact ih _ _ _
    |tip _=>
     simp only[ZpT];split
     ·split
      ·rw[ih];simp[ZH]
      ·exact ih _ _ _
     ·exact ih _ _ _
  exact (this _ _ _ _).symm
 rw[Zad,Zad] at hb hs;have hbl:∀(l:List (List CS)) {t:Type} (y:BD l t) vf,(encB vf l y).length=l.length:=λl t y vf=>(ZuF vf l y).1
 refine⟨by simp[ZjN,LS.st,ZjB,Zjt,hn'],λt ht=> ?_,?_,λb l hl=> ?_,?_,λi g hg=> ?_⟩
 ·simp only[ZjN,ZfH,Yq] at ht;have hnt:¬t<c.n:=by rw[<-Zvp c.n t,ht.2];simp
  refine⟨ht.1,?_⟩;simp only[ZjN,LS.st,Zi];rw[Y0 (by simp[ZjB,Zjt];omega),Y0 (by omega)]
 ·show s.mem.Bx.length<=(encB _ _ _).length;rw[hbl];omega
 ·obtain⟨s1,s2⟩:=ZcT (l:=(encB (vfB c.keep s) c.Bx (tlS c.Sl a'))) (n:=b) (by rw[hbl];have:=ZZ hl;omega);obtain⟨cs,r1,r2⟩:=(ZuF (vfB c.keep s) c.Bx (tlS c.Sl a')).2 b s1 s2;obtain⟨l',hl1,hl2⟩:=ZqV (len s.mem.Sg) (ZwQ c s) c.Bx s.mem.Bx b l hl;have hle:s1.length=l.length:=by rw[r2,<-ZFk h2 b cs l' r1 hl1,hl2]
  refine⟨s1,s2,hle,λj hj=> ?_⟩;obtain⟨e1,e2⟩:=Zq0 _ _ _ _ _ hj;refine⟨e1,?_⟩;have:=e2 l (Yr _) (by simpa using hl);rw[Zi,Zi,Y0 (by omega),Y0 (by omega)]
 ·show s.mem.Sg.length<=(encG _ _ _ _).length;rw[(Zl3 _ _ _ _).1];omega
 ·obtain⟨g',hg'⟩:=ZcT (l:=(encG (vfB c.keep s) 0 c.Sg (tlB c.Bx (tlS c.Sl a')))) (n:=i) (by rw[(Zl3 _ _ _ _).1];have:=ZZ hg;omega);refine⟨g',hg',?_,λhj=> ?_⟩
  ·rw[(Zl3 _ _ _ _).2 i g' hg',Yu];simp only[vfB,hg,Zu5];split<;>omega
  ·simp only[ZjN,Zdf,Yq] at hj;have:=ZZ hg;have h3:=(Zxc (len s.mem.Sg) i).2 (by rw[Zad];exact this);rw[h3] at hj;exact absurd hj.2 (by simp)
variable {id:Nat} {fl:Bool}
theorem ZWE (hE:Zbx E) {b:Code} (hl:Z3 E b) {chk:c.D->Option Bool} {res:c.D->Bool×c.D} {fuel:c.D->Nat} (h:∀a,c.ok a->chk a≠some false->runL (λa=>(Zj6 E b id c a).val) (fuel a) a=some (res a)/\(fl=true\/(res a).1=false)):Za1 E (.block id (.loop b)) (ZRo fl c chk res):=by
 refine⟨λs=> ?_,λx0 w0 x s act w Q hr hh=> ?_⟩
 ·unfold ZRo;split
  ·exact Zaf s
  ·rename_i hbs;simp only[Yb,Yt,Yy] at hbs;split
   ·exact Zaf s
   ·rename_i a ha;refine Zg4 ?_;split
    ·exact⟨Zis hbs.1.1 hbs.1.2 ha _,Zis hbs.1.1 hbs.1.2 ha _⟩
    ·exact Zis hbs.1.1 hbs.1.2 ha _
 ·unfold ZRo at hh;split at hh
  ·exact (Hold.stop hr hh).elim
  rename_i hbs;simp only[Yb,Yt,Yy] at hbs;split at hh
  ·exact (Hold.stop hr hh).elim
  rename_i a ha;obtain⟨hc,hh⟩:=Hold.chk hr hh;obtain⟨x10,hr10,hx10⟩:=ZMQ c hr;obtain⟨x1,hr1,hx11⟩:=Zio c.Sl hr10;have hx1:=hx10.trans hx11;have hin:c.ok a:=LS.dec_in ha hr1.r.m hr1.r.f;obtain⟨hrun,hfl⟩:=h a hin hc;obtain⟨m1,f1⟩:=LS.dec_ok ha hr1.r.m hr1.r.f (λ_=>0);have hxM:x.M.length<=len c.Bx:=by rw[hr.r.m.ml,<-Zad,hbs.1.1];exact Ye _
  have hxS:x.S.length<=len c.Sg:=by rw[hr.r.m.sl,<-Zad];exact hbs.1.2
  have hmid:=(Mid.refl c.keep x).ext hx1 λi hi s0 s1 e e'=>by have h1:=Zui hbs.2 hi;rw[Yt] at h1;rw[<-Zrs hr1.r.m e',<-Zrs hr.r.m e,h1]
  refine wp_block (wp_loop_rounds (fuel a) (Zqo (x:=x) (w0:=w) hE hl hxM hxS ?_ (fuel a) a _ act w (hmid.retag hxM hxS _) (λi _ s e=>by obtain⟨_,_,_,rfl⟩:=Zhl e;rfl) f1 m1 hr.r.d (Step.refl x w) hrun));intro y s2 act2 w2 hxy hdec hf2 hm2 hd2 ht2;obtain⟨m3,f3⟩:=LS.dec_ok hdec hm2 hf2 (vfB c.keep s);have hxz:=hxy.retag hxM hxS (vfB c.keep s);have hext:Ext x (y.retag (len c.Bx) (len c.Sg) (vfB c.keep s)):=by
   refine⟨hxz.own,hxz.M,λi s0 e=> ?_,hxz.fz,hxz.new⟩;obtain⟨s1,e1,hlike⟩:=hxy.S i s0 e;have hi:i<len c.Sg:=by have:=ZZ e;omega
   refine⟨_,ZyT e1 hi,?_⟩;obtain⟨g,hg⟩:=hr.r.m.stg_of e;have hv:=(hr.r.m.stg i g s0 hg e).ver;cases hk:memN c.keep i with
   |true=>
    have hvf:vfB c.keep s i=g.ver:=by simp only[vfB,hk,Zu5,hg]
    exact⟨by simp only[hvf];omega,λ_=>hlike hk⟩
   |false=>
    have hvf:vfB c.keep s i=g.ver+1:=by simp only[vfB,hk,hg]
    refine⟨by simp only[hvf];omega,λhe=> ?_⟩;simp only[hvf] at he;omega
  have hrz:∀s',s'.Sl=(c.st (vfB c.keep s) (res a).2).Sl->s'.mem=c.mem (vfB c.keep s) (res a).2->RH x0 w0 (y.retag (len c.Bx) (len c.Sg) (vfB c.keep s)) s' act2 w2:=by intro s' e1 e2;exact⟨⟨by rw[e1];exact f3,by rw[e2];exact m3,hd2⟩,hr.e.trans hext,hr.t.trans ht2 hr.e.own⟩
  cases fl with
  |true=>
   simp only[RT.val] at hh;cases hr1:(res a).1 with
   |true=>
    rw[hr1] at hh;exact hh _ act2 w2 (hrz _ rfl rfl) hext.extM
   |false=>
    rw[hr1] at hh;exact hh _ act2 w2 (hrz _ rfl rfl) hext.extM
  |false=>
   rcases hfl with hfl|hfl
   ·simp at hfl
   ·rw[hfl];exact hh _ act2 w2 (hrz _ rfl rfl) hext.extM
def look (l:List (FuncId×En)) (f:FuncId):Option En:=
 match l with
 |[]=>none
 |(g,e)::r=>match Nat.beq g f with
  |true=>some e
  |false=>look r f
def ZdM (P:Program):List (FuncId×En)->Prop
 |[]=>True
 |(g,e)::r=>Za P g e/\ZdM P r
theorem ZNr {P:Program}:∀{l:List (FuncId×En)},ZdM P l->∀f e,look l f=some e->Za P f e
 |[],_,_,_,h=>by simp[look] at h
 |(g,e')::r,hl,f,e,h=>by
  simp only[look] at h;split at h
  ·rename_i hg;simp only[Yt] at hg;simp only[oinj] at h;subst h;subst hg;exact hl.1
  ·exact ZNr hl.2 f e h
def Zuq (l:List (Nat×Ora)) (i:Nat):Option Ora:=
 match l with
 |[]=>none
 |(j,f)::r=>match Nat.beq j i with
  |true=>some f
  |false=>Zuq r i
def envX (P:Program) (l:List (FuncId×En)) (ol:List (Nat×Ora)) (named fuel:Nat):Env:=⟨P,look l,Zuq ol,named,fuel⟩
theorem ZaT {P:Program} {l:List (FuncId×En)} (h:ZdM P l) (ol:List (Nat×Ora)) (n k:Nat):Zbx (envX P l ol n k):=ZNr h
def ZC:Code->List (Nat×Code)
 | .seq a b=>ZC a++ZC b
 | .cond _ a b=>ZC a++ZC b
 | .block id c=>match c with
  | .loop b=>(id,b)::ZC b
  |c=>ZC c
 |_=>[]
def ZBT:List (Nat×Code)->Nat->Code
 |[],_=>.skip
 |(j,b)::r,id=>match Nat.beq j id with
  |true=>b
  |false=>ZBT r id
def Z5 (c:Option Code) (id:Nat):Code:=
 match c with
 |none=>.skip
 |some c=>ZBT (ZC c) id
def ZbH:List (Nat×Code)->Bool
 |[]=>true
 |(j,_)::r=> !has j r&&ZbH r
where has (j:Nat):List (Nat×Code)->Bool
 |[]=>false
 |(i,_)::r=>Nat.beq i j||has j r
theorem ZN3 {j:Nat} {b:Code}:∀{l:List (Nat×Code)},(j,b)∈l->ZbH.has j l=true
 |[],h=>by simp at h
 |(i,c)::r,h=>by
  simp only[ZbH.has,YM,Yt];rcases Ys.1 h with h|h
  ·simp only[pinj] at h;exact .inl h.1.symm
  ·exact .inr (ZN3 h)
theorem Zpj {j:Nat} {b:Code}:∀{l:List (Nat×Code)},ZbH l=true->(j,b)∈l->ZBT l j=b
 |[],_,h=>by simp at h
 |(i,c)::r,hn,h=>by
  simp only[ZbH,Yb,YJ] at hn;simp only[ZBT];rcases Ys.1 h with h|h
  ·simp only[pinj] at h;obtain⟨rfl,rfl⟩:=h;simp
  ·have:Nat.beq i j=false:=by rw[YK];intro e;rw[Yt] at e;subst e;rw[ZN3 h] at hn;simp at hn
   rw[this];exact Zpj hn.2 h
theorem Zcd {E:Env}:∀c:Code,(∀p∈ZC c,∀f,E.loops p.1=some f->Za1 E (.block p.1 (.loop p.2)) f)->Z3 E c
 | .seq a b,h=>⟨Zcd a λp hp=>h p (by simp[ZC,hp]),Zcd b λp hp=>h p (by simp[ZC,hp])⟩
 | .cond _ a b,h=>⟨Zcd a λp hp=>h p (by simp[ZC,hp]),Zcd b λp hp=>h p (by simp[ZC,hp])⟩
 | .block id c,h=>by
  unfold Z3;split
  ·rename_i b;split
   ·rename_i f hf;exact h (id,b) (by simp[ZC]) f hf
   ·exact Zcd b λp hp=>h p (by simp[ZC,hp])
  ·rename_i hc;refine Zcd c λp hp=>h p ?_
   cases c<;>first|exact hp|exact absurd rfl (hc _)
 | .skip,_| .region ..,_| .loop _,_| .rangeFunc ..,_| .exit _,_| .scope _,_| .label _,_| .goto _,_| .ret,_| .refuse _,_=>trivial
def AllL (E:Env) (c:Option Code):List (Nat×Ora)->Prop
 |[]=>True
 |(id,f)::r=>Za1 E (.block id (.loop (Z5 c id))) f/\AllL E c r
theorem ZpI {E:Env} {c:Option Code}:∀{ol:List (Nat×Ora)},AllL E c ol->∀id f,Zuq ol id=some f->Za1 E (.block id (.loop (Z5 c id))) f
 |[],_,_,_,h=>by simp[Zuq] at h
 |(j,g)::r,hl,id,f,h=>by
  simp only[Zuq] at h;split at h
  ·rename_i hj;simp only[Yt] at hj;simp only[oinj] at h;subst h;subst hj;exact hl.1
  ·exact ZpI hl.2 id f h
theorem ZBA {P:Program} {l:List (FuncId×En)} {ol:List (Nat×Ora)} {n k:Nat} {c:Code} (hn:ZbH (ZC c)=true) (h:AllL (envX P l ol n k) (some c) ol):Z3 (envX P l ol n k) c:=
 Zcd c λp hp f hf=>by have:=ZpI h p.1 f hf;have e:Z5 (some c) p.1=p.2:=Zpj hn hp;rwa [e] at this
def ZO9 (ol:List (Nat×Ora)):List (Nat×Code)->Bool
 |[]=>true
 |(i,_)::r=>(match Zuq ol i with|some _=>false|none=>true)&&ZO9 ol r
theorem ZeT {P:Program} {l:List (FuncId×En)} {ol:List (Nat×Ora)} {n k:Nat} {b:Code} (h:ZO9 ol (ZC b)=true):Z3 (envX P l ol n k) b:=
 Zcd b λp hp f hf=>by
  exfalso;have:∀r:List (Nat×Code),ZO9 ol r=true->p∈r->Zuq ol p.1=none:=by
   intro r
   induction r with
   |nil=>intro _ h;simp at h
   |cons q r ih=>
    intro h hp;obtain⟨i,c⟩:=q;simp only[ZO9,Yb] at h;rcases Ys.1 hp with rfl|hp
    ·cases e:Zuq ol i with
     |none=>rfl
     |some _=>simp only[e] at h;simp at h
    ·exact ih h.2 hp
  have h2:=this _ h hp;have hf:Zuq ol p.1=some f:=hf;rw[h2] at hf;simp at hf
def shT (P:Program) (t:TypeId):Sh:=match aggT P t with
 |some true=>.agg ((rowT P 8 t).getD .unit)
 |_=>.one ((rowT P 8 t).getD .unit)
def Sh.Df (s:Sh):s.den:=s.code.Df
def ZTV:(l:List Sh)->HL l
 |[]=>()
 |[s]=>s.Df
 |s::t::l=>(s.Df,ZTV (t::l))
def Rs.Df:(r:Rs)->r.den
 | .one s=>s.Df
 | .tup l=>ZTV l
def okB {α:Type}:Option α->Bool
 |some _=>true
 |none=>false
def okO {α:Type} (o:Option α):Option Bool:=some (okB o)
def getO {α:Type} (d:α):Option α->α
 |some x=>x
 |none=>d
theorem Ze3 {o:Option α} {d:α} (h:okO o≠some false):o=some (getO d o):=by cases o<;>simp[okO,okB,getO] at h|-
section
variable {P:Program} {l:List (FuncId×En)} {ol:List (Nat×Ora)} {n k:Nat} {f:FuncId} {fn:Func}
theorem ZcG (hb:fn.body.isSome=true) (hn:ZbH (ZC (fn.body.getD .skip))=true) (hol:AllL (envX P l ol n k) fn.body ol):∃c,fn.body=some c/\Z3 (envX P l ol n k) c:=by obtain⟨c,hc⟩:=YaY.1 hb;rw[hc] at hn hol;exact⟨c,hc,ZBA hn hol⟩
theorem ZgI (hl:ZdM P l) (hf:P.funcs[f]? =some fn) (hb:fn.body.isSome=true) (hn:ZbH (ZC (fn.body.getD .skip))=true) (hcall:Zy P f) (hol:AllL (envX P l ol n k) fn.body ol)
 {t:HL ts->RT (Option rs.den)} (h:∀a,Zg1 (envX P l ol n k) fn ts rs a=t a):Za P f (Zf ts rs (λa=>okO (t a).val) (λa=>getO rs.Df (t a).val)):=by obtain⟨c,hc,hlo⟩:=ZcG hb hn hol;exact ZFY (E:=envX P l ol n k) (ZaT hl ol n k) hf hc hlo hcall h λa _ hp=>Ze3 hp
theorem ZQo (hl:ZdM P l) (hf:P.funcs[f]? =some fn) (hb:fn.body.isSome=true) (hn:ZbH (ZC (fn.body.getD .skip))=true) (hcall:Zy P f) (hol:AllL (envX P l ol n k) fn.body ol)
 {t:HL ts->RT rs.den} (h:∀a,Zg1 (envX P l ol n k) fn ts rs a=(t a).map some):Za P f (Zf ts rs (λ_=>none) (λa=>(t a).val)):=by obtain⟨c,hc,hlo⟩:=ZcG hb hn hol;exact ZFX (E:=envX P l ol n k) (ZaT hl ol n k) hf hc hlo hcall h
theorem ZcA (hl:ZdM P l) (hf:P.funcs[f]? =some fn) (hb:fn.body.isSome=true) (hn:ZbH (ZC (fn.body.getD .skip))=true) (hcall:Zy P f) (hol:AllL (envX P l ol n k) fn.body ol)
 {t:rb.den×HL ts->RT (Option (rs.den×rb.den))} (h:∀a,ZW5 (envX P l ol n k) fn rb ts rs a=t a):
  Za P f (boxE rb ts rs (λa=>okO (t a).val) (λa=>getO (rs.Df,rb.Df) (t a).val)):=by obtain⟨c,hc,hlo⟩:=ZcG hb hn hol;exact ZXf (E:=envX P l ol n k) (ZaT hl ol n k) hf hc hlo hcall λa _ _ hp=>by rw[h a];exact Ze3 hp
theorem ZL (hl:ZdM P l) (hf:P.funcs[f]? =some fn) (hb:fn.body.isSome=true) (hn:ZbH (ZC (fn.body.getD .skip))=true) (hcall:Zy P f) (hol:AllL (envX P l ol n k) fn.body ol):
  Za P f (.tree (Zo (envX P l ol n k) fn)):=by obtain⟨c,hc,hlo⟩:=ZcG hb hn hol;exact ZNS (E:=envX P l ol n k) (ZaT hl ol n k) hf hc hlo hcall
def runF {D:Type} (fl:Bool) (t:D->RT (Option (Go1 D))) (fuel:D->Nat) (a:D):Option (Bool×D):=match runL (λa=>(t a).val) (fuel a) a with
 |some (b,d)=>match fl|| !b with
  |true=>some (b,d)
  |false=>none
 |none=>none
def Zbq (fl:Bool) (c:LS) (t:c.D->RT (Option (Go1 c.D))) (fuel:c.D->Nat):Ora:=ZRo fl c (λa=>okO (runF fl t fuel a)) (λa=>getO (false,a) (runF fl t fuel a))
theorem Zev (hE:Zbx E) {b:Code} (hl:Z3 E b) {t:c.D->RT (Option (Go1 c.D))} {fuel:c.D->Nat} (h:∀a,Zj6 E b id c a=t a):
  Za1 E (.block id (.loop b)) (Zbq fl c t fuel):=by
 refine ZWE hE hl (fuel:=fuel) λa _ hp=> ?_
 have he:(λa=>(Zj6 E b id c a).val)=λa=>(t a).val:=by funext a;rw[h a]
 rw[he];have:=Ze3 (d:=(false,a)) hp;unfold runF at this|-;cases hr:runL (λa=>(t a).val) (fuel a) a with
 |none=>rw[hr] at this;simp at this
 |some q=>
  obtain⟨r,d⟩:=q;rw[hr] at this;simp only at this|-;cases hfl:fl|| !r with
  |false=>rw[hfl] at this;simp at this
  |true=>
   simp only[getO,true_and];cases fl<;>cases r<;>simp at hfl|-
end
open Go.RowKit (Below)
def argC (w:World):Ctx:={own:=λk=>w.heap.size<=k,M:=[],S:=[],fz:=λb o=>if b<w.heap.size then w.cell? ⟨b,o,none⟩ else none}
theorem ZPd (w:World):MK (argC w) ⟨[],[]⟩ w where
 fresh:=λ_ h=>h
 fz:=λb o v h=>by
  simp only[argC] at h;split at h
  ·exact h
  ·simp at h
 ml:=rfl
 box:=λb l p h=>by simp[Zn] at h
 mown:=λb p h=>by simp[argC,Zn] at h
 inj:=λb b' p h=>by simp[argC,Zn] at h
 sl:=rfl
 stg:=λi g s h=>by simp[Zn] at h
 sown:=λi s p cap h=>by simp[argC,Zn] at h
 sinj:=λi i' s s' p cap cap' h=>by simp[argC,Zn] at h
theorem ZuZ {w:World} {o:Nat} (h:w.cell? ⟨p,o,none⟩=some v):(argC w).fz p o=some v:=by
 have:p<w.heap.size:=by
  unfold World.cell? at h;split at h
  ·rename_i c _ _ hc;exact (Yv.1 hc).1
  ·simp at h
 simp only[argC,this,if_true];exact h
def okF (f:TypeId->Bool) (cells:TypeId->Nat):Nat->List Field->Nat->Bool
 |off,[],tot=>Nat.beq off tot
 |off,fd::l,tot=>Nat.beq fd.offset off&&f fd.type&&okF f cells (off+cells fd.type) l tot
def okT (P:Program):Nat->TypeId->Bool
 |0,_=>false
 |d+1,t=>match P.underlying t with
  |some .bool=>true
  |some (.int _)=>true
  |some (.slice e)=>okT P d e&&Nat.blt 0 (P.cellsOf e)
  |some (.struct fs)=>okF (okT P d) P.cellsOf 0 fs.toList (P.cellsOf t)
  |_=>false
section
variable {P:Program} {w:World} {H:Type} {enc:TypeId×Value->H}
def ZH8 (P:Program) (w:World) {H:Type} (enc:TypeId×Value->H) (t:TypeId) (r:R):Prop:=
 ∀(fuel:Nat) (cs:List Value) (x:DataW H×List MemPlace),DataW.trod enc P w 0 (λ_=>true) true fuel t cs=some x->∃y:r.den,RL (argC w) (r.enc y) cs
theorem ZMP {t:TypeId} {k:IntKind} (ht:P.underlying t=some (.int k)):ZH8 P w enc t (.int k):=by intro fuel cs x h;obtain⟨n,e,_,hw⟩:=DataW.trod_int ht h;subst e;exact⟨n,.int _ _ _ _ (by simpa [Lit.wf,inR] using hw),Tv⟩
theorem ZHg {t:TypeId} (ht:P.underlying t=some .bool):ZH8 P w enc t .bool:=by intro fuel cs x h;obtain⟨b,e,_⟩:=DataW.trod_bool ht h;subst e;exact⟨b,.bool _ _ _,Tv⟩
theorem cells?_get {base:Nat} {a:Addr} {n:Nat} {cs:List Value} (h:w.cells? base a n=some cs):cs.length=n/\∀j,j<n->w.cell? (a.add j)=cs[j]? :=by
 unfold World.cells? at h;split at h
 ·exact⟨by simpa using mapM_some_length h,λj hj=>by simpa using mapM_some_get h j j (by simp[hj])⟩
 ·simp at h
theorem ZA9 {t e:TypeId} (ht:P.underlying t=some (.slice e)) (hc:0<P.cellsOf e) (hr:ZH8 P w enc e r):ZH8 P w enc t (.sl r):=by
 intro fuel cs x h;rcases DataW.trod_slice ht h with ⟨e1,_⟩|⟨a,l,cap,elems,rest,n,_,rfl,_,hb,hl,hm,hlen,hel,_,_⟩
 ·subst e1;exact⟨[],.lst0 _ _ _ _ _ _ none 0 rfl (λ_=>rfl) (λh=>by simp at h) (λ_=>rfl),Tv⟩
 by_cases h0:l=0
 ·subst h0;exact⟨[],.lst0 _ _ _ _ _ _ (some a) cap rfl (λh=>by simp at h) (λ_=>rfl) (λh=>by simp at h),Tv⟩
 have key:∀i,i<l->∃(y:r.den) (C:List Value),C.length=P.cellsOf e/\(∀j,j<P.cellsOf e->w.cell? ((a.add (i*P.cellsOf e)).add j)=C[j]?)/\RL (argC w) (r.enc y) C:=by intro i hi;have h1:=hel i hi;rw[Yg (by omega)] at h1;obtain⟨C,h2,h3⟩:=Yar.1 h1;obtain⟨y,hy⟩:=hr n C _ h3;obtain⟨q1,q2⟩:=cells?_get h2;exact⟨y,C,q1,q2,hy⟩
 obtain⟨p,o,spot⟩:=a;have hsp:spot=none:=by
  obtain⟨y,C,q1,q2,_⟩:=key 0 (by omega);have:=q2 0 hc;rw[Yg (by omega)] at this;simp only[Nat.zero_mul,Addr.add,if_true] at this;unfold World.cell? at this;split at this
  ·split at this
   ·simp at this
   ·rename_i hs;cases spot<;>simp_all
  ·simp at this
 subst hsp;have hadd:∀m:Nat,Addr.add ⟨p,o,none⟩ m=⟨p,o+m,none⟩:=λm=>by
  unfold Addr.add;split
  ·rename_i h;subst h;rfl
  ·rfl
 have hadd2:∀m k:Nat,Addr.add (Addr.add ⟨p,o,none⟩ m) k=⟨p,o+m+k,none⟩:=λm k=>by
  rw[hadd];unfold Addr.add;split
  ·rename_i h;subst h;rfl
  ·rfl
 have hwid:∀i (hi:i<l),r.wid=P.cellsOf e:=λi hi=>by obtain⟨y,C,q1,_,q3⟩:=key i hi;rw[<-R.enc_len r y,q3.length,q1]
 have hwd:r.wid=P.cellsOf e:=hwid 0 (by omega);have:∀m,m<=l->∃ys:List r.den,ys.length=m/\∀i (hi:i<m),∃C:List Value,C.length=P.cellsOf e/\(∀j,j<P.cellsOf e->w.cell? ⟨p,o+i*P.cellsOf e+j,none⟩=C[j]?)/\RL (argC w) (r.enc (ys.getD i r.Df)) C:=by
  intro m
  induction m with
  |zero=>intro _;exact⟨[],rfl,λi hi=>by omega⟩
  |succ m ih=>
   intro hm';obtain⟨ys,e1,e2⟩:=ih (by omega);obtain⟨y,C,q1,q2,q3⟩:=key m (by omega);refine⟨ys++[y],by simp[e1],λi hi=> ?_⟩;by_cases him:i<m
   ·obtain⟨C',p1,p2,p3⟩:=e2 i him;refine⟨C',p1,p2,?_⟩;have:(ys++[y]).getD i r.Df=ys.getD i r.Df:=by simp[Yl,Yp (by omega:i<ys.length)]
    rw[this];exact p3
   ·have him:i=m:=by omega
    subst him;refine⟨C,q1,λj hj=>by have:=q2 j hj;rwa [hadd2] at this,?_⟩;have:(ys++[y]).getD i r.Df=y:=by simp[Yl,<-e1]
    rw[this];exact q3
 obtain⟨ys,e1,e2⟩:=this l (Ye _);refine⟨ys,?_,Tv⟩;have hne:ys≠[]:=λh=>by rw[h] at e1;simp at e1;omega
 have hsl:=RA.lst (argC w) r false false false ys p o cap (λi j=>(w.cell? ⟨p,o+i*r.wid+j,none⟩).getD .nilFunc) hne (λh=>by simp at h) (by omega) (by omega) (λi j a hi ha=> ?_) (λi j a hi ha=> ?_)
 ·rw[e1] at hsl;exact hsl
 all_goals
  obtain⟨C,c1,c2,c3⟩:=e2 i (by omega);have hj:j<P.cellsOf e:=by have:=ZZ ha;rw[elN,R.enc_len,hwd] at this;exact this
  obtain⟨v,v1,v2⟩:=c3.nth j a ha;have hcell:w.cell? ⟨p,o+i*r.wid+j,none⟩=some v:=by rw[hwd,c2 j hj,v1]
 ·rw[hcell];exact ZuZ hcell
 ·show RA (argC w) a ((w.cell? ⟨p,o+i*r.wid+j,none⟩).getD .nilFunc);rw[hcell];exact v2
theorem ZJF {f:TypeId->Option R} {fd fd2:Field} {l:List Field} (h:rowT.rowF f (fd::fd2::l)=some r):∃a b,f fd.type=some a/\rowT.rowF f (fd2::l)=some b/\r=.Pq a b:=by
 simp only[rowT.rowF] at h;split at h
 ·rename_i a b h1 h2;simp only[oinj] at h;exact⟨a,b,h1,h2,h.symm⟩
 ·simp at h
theorem Zk2 {f:TypeId->Option R} {g:TypeId->Bool} {tot n:Nat} {cs:List Value} (hl:cs.length=tot) (hf:∀t r,f t=some r->g t=true->ZH8 P w enc t r):
  ∀(fs:List Field) (off:Nat) (r:R),rowT.rowF f fs=some r->okF g P.cellsOf off fs tot=true->(∀fd∈fs,∃x,DataW.trod enc P w 0 (λ_=>true) true n fd.type ((cs.drop fd.offset).take (P.cellsOf fd.type))=some x)->
   off<=tot/\∃y:r.den,RL (argC w) (r.enc y) (cs.drop off)
 |[],off,r,hr,hk,_=>by simp only[rowT.rowF,oinj] at hr;subst hr;simp only[okF,Yt] at hk;refine⟨by omega,(),?_⟩;rw[List.drop_of_length_le (by omega)];trivial
 |[fd],off,r,hr,hk,h=>by simp only[rowT.rowF] at hr;simp only[okF,Yb,Yt] at hk;obtain⟨⟨h1,h2⟩,h3⟩:=hk;obtain⟨x,hx⟩:=h fd (by simp);rw[h1,YW (by simp;omega)] at hx;obtain⟨y,hy⟩:=hf fd.type r hr h2 n _ x hx;exact⟨by omega,y,hy⟩
 |fd::fd2::l,off,r,hr,hk,h=>by
  obtain⟨a,b,h4,h5,rfl⟩:=ZJF hr;rw[okF] at hk;simp only[Yb,Yt] at hk;obtain⟨⟨h1,h2⟩,h3⟩:=hk;obtain⟨x,hx⟩:=h fd (by simp);rw[h1] at hx;obtain⟨y,hy⟩:=hf fd.type a h4 h2 n _ x hx;obtain⟨hle,z,hz⟩:=Zk2 hl hf (fd2::l) (off+P.cellsOf fd.type) b h5 h3 (λq hq=>h q (YA _ hq));refine⟨by omega,(y,z),?_⟩;have:cs.drop off=(cs.drop off).take (P.cellsOf fd.type)++cs.drop (off+P.cellsOf fd.type):=by rw[<-List.drop_drop,Yam]
  rw[this];exact hy.append hz
theorem Zop:∀(d:Nat) (t:TypeId) (r:R),rowT P d t=some r->okT P d t=true->ZH8 P w enc t r
 |0,_,_,h,_=>by simp[rowT] at h
 |d+1,t,r,h,hk=>by
  unfold rowT at h;unfold okT at hk;split at h
  ·rename_i ht;simp only[oinj] at h;subst h;exact ZHg ht
  ·rename_i k ht;simp only[oinj] at h;subst h;exact ZMP ht
  ·rename_i ht;rw[ht] at hk;simp at hk
  ·rename_i e ht;rw[ht] at hk;simp only[Yb,Yaf] at hk;split at h
   ·rename_i q hq;simp only[oinj] at h;subst h;exact ZA9 ht hk.2 (Zop d e q hq hk.1)
   ·simp at h
  ·rename_i fs ht;rw[ht] at hk;intro fuel cs x hx;obtain⟨xs,n,_,_,hl,hlen,hf⟩:=DataW.trod_struct ht hx
   have:=(Zk2 (P:=P) (w:=w) (enc:=enc) (n:=n) (cs:=cs) hl (λt r h1 h2=>Zop d t r h1 h2) fs.toList 0 r h hk (λf hf'=>by
    obtain⟨i,hi⟩:=YaB hf';have hfi:=hf i f (by simpa using hi);have hlt:i<xs.length:=by have:=YE.1 hi;obtain⟨h1,_⟩:=this;rw[hlen];simpa using h1
    exact⟨xs[i],by rw[hfi];exact Yg hlt⟩)).2
   simpa using this
  ·rename_i n e ht;rw[ht] at hk;simp at hk
  ·simp at h
theorem ZT5 {t:TypeId} {r:Reach} {d:DataW H} {ps:List MemPlace} (hk:okT P 8 t=true) (hr:(rowT P 8 t).isSome=true) (hv:Value.okWide P w r b t v) (h:DataW.Trod enc P w 0 (λ_=>true) true t v d ps):
  ∃y:(shT P t).den,RW (argC w) ((shT P t).enc y) v:=by
 obtain⟨q,hq⟩:=YaY.1 hr;obtain⟨fuel,hf⟩:=h;obtain⟨y,hy⟩:=Zop 8 t q hq hk fuel _ _ hf;unfold okT at hk;unfold Value.okWide at hv;have one:∀(hat:aggT P t=some false) (hv:v.cells.toList=[v]),∃y:(shT P t).den,RW (argC w) ((shT P t).enc y) v:=by
  intro hat hvc;have e:shT P t=.one q:=by simp only[shT,hat,hq,Option.getD]
  rw[e];rw[hvc] at hy;refine⟨y,?_⟩;have hlen:=hy.length;simp only[Sh.enc];split
  ·rename_i a ha;have ha':q.enc y=[a]:=ha;rw[ha'] at hy;exact hy.1
  ·trivial
 cases hu:P.underlying t with
 |none=>rw[hu] at hk;simp at hk
 |some u=>
  rw[hu] at hk hv;cases u<;>simp at hk
  case bool=>
   obtain⟨b,rfl⟩:=Go.WideShapes.okWide_bool (P:=P) hu (r:=r) (base:=b) (by unfold Value.okWide;rw[hu];exact hv);exact one (by simp[aggT,hu]) (by simp[Value.cells])
  case int k=>
   obtain⟨n,rfl⟩:=Go.WideShapes.okWide_int (P:=P) hu (r:=r) (base:=b) (by unfold Value.okWide;rw[hu];exact hv);exact one (by simp[aggT,hu]) (by simp[Value.cells])
  case slice e=>
   obtain⟨a,l,c,rfl⟩:=Go.WideShapes.okWide_slice (P:=P) hu (r:=r) (base:=b) (by unfold Value.okWide;rw[hu];exact hv);exact one (by simp[aggT,hu]) (by simp[Value.cells])
  case struct fs=>
   obtain⟨cs,rfl,_,_⟩:=hv;have e:shT P t=.agg q:=by simp only[shT,aggT,hu,hq,Option.getD]
   rw[e];exact⟨y,cs.toList,by simp,hy⟩
def okTs (P:Program):List TypeId->Bool
 |[]=>true
 |t::l=>okT P 8 t&&(rowT P 8 t).isSome&&okTs P l
theorem ZPc {r:Reach} {b:Nat}:∀{ts:List TypeId} {args:List Value} {ds:List (DataW H)} {ps:List MemPlace},okTs P ts=true->(∀(j:Nat) t v,ts[j]? =some t->args[j]? =some v->Value.okWide P w r b t v)->
  DataW.TrodAll enc P w 0 (λ_=>true) true ts args ds ps->∃y:HL (ts.map (shT P)),RWs (argC w) (Zpl (ts.map (shT P)) y) args
 |[],args,ds,ps,_,_,h=>by
  cases args with
  |nil=>exact⟨(),Tv⟩
  |cons _ _=>simp[DataW.TrodAll] at h
 |[t],args,ds,ps,hk,hv,h=>by
  simp only[okTs,Yb] at hk
  match args,ds,h with
  |[v],[d],h=>
   obtain⟨p,q,h1,_,_⟩:=h;obtain⟨y,hy⟩:=ZT5 hk.1.1 hk.1.2 (hv 0 t v rfl rfl) h1;exact⟨y,hy,Tv⟩
  |_::_::_,_::_,h=>obtain⟨_,_,_,h,_⟩:=h;simp[DataW.TrodAll] at h
  |[_],_::_::_,h=>obtain⟨_,_,_,h,_⟩:=h;simp[DataW.TrodAll] at h
  |[],_,h=>simp[DataW.TrodAll] at h
  |_::_,[],h=>simp[DataW.TrodAll] at h
 |t::t2::ts,args,ds,ps,hk,hv,h=>by
  rw[okTs] at hk;simp only[Yb] at hk
  match args,ds,h with
  |v::vs,d::ds,h=>
   obtain⟨p,q,h1,h2,_⟩:=h;obtain⟨y,hy⟩:=ZT5 hk.1.1 hk.1.2 (hv 0 t v rfl rfl) h1;obtain⟨z,hz⟩:=ZPc (ts:=t2::ts) hk.2 (λj t v h1 h2=>hv (j+1) t v (by simpa using h1) (by simpa using h2)) h2;exact⟨(y,z),hy,hz⟩
  |[],_,h=>simp[DataW.TrodAll] at h
  |_::_,[],h=>simp[DataW.TrodAll] at h
end
theorem ZON:∀(r:R) (y:r.den) (t:List A),r.dec (r.enc y++t)=some (y,t)
 | .int k,n,t=>by
  simp only[R.enc,R.dec,List.singleton_append,decI];have:Zj5 k k=true:=by cases k<;>rfl
  rw[this]
 | .bool,_,_=>rfl
 | .str,_,_=>rfl
 | .sl r,l,t=>by simp only[R.enc,R.dec,List.singleton_append,decL];have:∃e,R.same r r=some e:=same_refl r;obtain⟨e,he⟩:=this;rw[he];cases e;rfl
 | .Pq a b,y,t=>by simp only[R.enc,R.dec,Yo];rw[ZON a y.1];simp only[];rw[ZON b y.2]
 | .unit,_,_=>rfl
where
 same_refl:∀r:R,∃e,R.same r r=some e
  | .int k=>by
   have:Zj5 k k=true:=by cases k<;>rfl
   unfold R.same;split
   ·exact⟨_,rfl⟩
   ·rename_i h;rw[this] at h;simp at h
  | .bool=>⟨_,rfl⟩
  | .str=>⟨_,rfl⟩
  | .sl r=>by obtain⟨e,he⟩:=same_refl r;simp only[R.same,he];cases e;exact⟨_,rfl⟩
  | .Pq a b=>by obtain⟨e,he⟩:=same_refl a;obtain⟨f,hf⟩:=same_refl b;simp only[R.same,he,hf];cases e;cases f;exact⟨_,rfl⟩
  | .unit=>⟨_,rfl⟩
theorem R.decW_enc (r:R) (y:r.den):r.decW (r.enc y)=some y:=by have:=ZON r y [];rw[YG] at this;unfold R.decW;rw[this]
def okSh:Sh->Bool
 | .one r=>Nat.beq r.wid 1
 | .agg _=>true
theorem Sh.dec_enc {s:Sh} (h:okSh s=true) (y:s.den):s.dec (s.enc y)=some y:=by
 cases s with
 |one r=>
  simp only[okSh,Yt] at h;have hl:=R.enc_len r y;rw[h] at hl;obtain⟨a,ha⟩:=List.length_eq_one_iff.1 hl;have:=R.decW_enc r y;simp only[Sh.enc];split
  ·rename_i a' ha';have ha':r.enc y=[a']:=ha';rw[ha'] at this;exact this
  ·rename_i hn;exact absurd ha (hn a)
 |agg r=>exact R.decW_enc r y
theorem Zpt:∀{ts:List Sh},(ts.all okSh)=true->∀y:HL ts,Zln ts (Zpl ts y)=some y
 |[],_,_=>rfl
 |[s],h,y=>by simp only[List.all_cons,Yb] at h;exact Sh.dec_enc h.1 y
 |s::t::l,h,y=>by rw[List.all_cons,Yb] at h;simp only[Zpl,Zln];rw[Sh.dec_enc h.1 y.1,Zpt h.2 y.2]
theorem ZCx:∀l:List W,unW (mapW l)=some l
 |[]=>rfl
 |w::l=>by simp[mapW,unW,ZCx l]
theorem Zx3 (h:(ts.all okSh)=true) (y:HL ts):Zip ts (Zdj ts y)=some y:=by unfold Zip Zdj;rw[ZCx];exact Zpt h y
theorem law_run {P:Program} {f:FuncId} {ts:List TypeId} {ss:List Sh} {pre:HL ss->Option Bool} {F:HL ss->Bool} (h:Za P f (Zf ss (.one (.one .bool)) pre F)) (hs:ss=ts.map (shT P)) (hk:okTs P ts=true) (hsh:(ss.all okSh)=true) (hall:∀a,okHL ss a->pre a≠some false/\F a=true)
  {H:Type} {enc:TypeId×Value->H} {w:World} {r:Reach} {args:Array Value} {ds:List (DataW H)} {ps:List MemPlace} (hv:∀(j:Nat) t v,ts[j]? =some t->args[j]? =some v->Value.okWide P w r b t v) (ha:DataW.TrodAll enc P w 0 (λ_=>true) true ts args.toList ds ps):Calls P f args w λe w'=>e=.returned (.bool true)/\Below w.heap.size w w':=by
 subst hs;obtain⟨a,hr⟩:=ZPc hk (λj t v h1 h2=>hv j t v h1 (by simpa using h2)) ha;have hd:=Zx3 hsh a;have hvs:=Zch hr;obtain⟨_,hok⟩:=Zax hd hvs;obtain⟨h1,h2⟩:=hall a hok;have h3:=h.2 (Zdj _ a) (pre a) ((Rs.one (Sh.one R.bool)).enc (F a)) (by simp only[hd]) h1 _ _ w args.toList (ZPd w) hvs;refine Calls.mono h3 λe w' hres=> ?_
 obtain⟨val,x',rfl,hv,_,_,hs⟩:=hres;rw[h2] at hv;have hv:RA x' (.bool false true) val:=hv;cases hv;exact⟨rfl,hs.2.1,hs.2.2.1,hs.2.2.2,hs.1.1,hs.1.2⟩
theorem trodAll_len {P:Program} {H:Type} {enc:TypeId×Value->H} {W:World} {base:Nat} {sp:Nat->Bool} {held:Bool}:∀{ts:List TypeId} {args:List Value} {ds:List (DataW H)} {ps:List MemPlace},
  DataW.TrodAll enc P W base sp held ts args ds ps->ds.length=ts.length
 |[],args,ds,ps,h=>by cases args<;>cases ds<;>simp_all [DataW.TrodAll]
 |t::ts,args,ds,ps,h=>by
  match args,ds,h with
  |v::vs,d::ds,h=>
   obtain⟨p,q,h1,h2,rfl⟩:=h;simp[trodAll_len h2]
  |[],_,h=>simp[DataW.TrodAll] at h
  |_::_,[],h=>simp[DataW.TrodAll] at h
theorem args_stay {P:Program} (hl:laidOutB P=true) {H:Type} {enc:TypeId×Value->H} {W W':World} (hb:Below W.heap.size W W'):∀{ts:List TypeId} {args:List Value} {ds:List (DataW H)} {ps:List MemPlace},(ts.all λt=>P.readableRec t&&decide (t<P.types.size))=true->DataW.TrodAll enc P W 0 (λ_=>true) true ts args ds ps->DataW.TrodAll enc P W' 0 (λb=>decide (b<W.heap.size)) true ts args ds ps
 |[],args,ds,ps,_,h=>by cases args<;>cases ds<;>simp_all [DataW.TrodAll]
 |t::ts,args,ds,ps,ht,h=>by
  have hlt:=DataW.TrodAll.lt h
  match args,ds,h with
  |v::vs,d::ds,h=>
   obtain⟨p,q,h1,h2,rfl⟩:=h;simp only[List.all_cons,Yb,Yf] at ht;exact⟨p,q,Go.RowKit.Below.trod hl ht.1.1 ht.1.2 h1 hb (λx hx=>hlt x (by simp[hx])),args_stay hl hb ht.2 h2,rfl⟩
  |[],_,h=>simp[DataW.TrodAll] at h
  |_::_,[],h=>simp[DataW.TrodAll] at h
abbrev iN (n:Nat):Int:=(n:Int)
def Zzz (m:Mem) (a:A):A:=match a with
 | .tip h ver=>match ZaY m h ver with
  |some g=>.lst g.r false false false g.l
  |none=>.junk
 |a=>match ZhW a with
  |true=>a
  |false=>.junk
def Zwh (m:Mem):List A->List A
 |[]=>[]
 |a::l=>Zzz m a::Zwh m l
theorem ZuY {x:Ctx} {m:Mem} {w:World} (hm:MK x m w):FzLe x (argC w):=λb o v h=>ZuZ (hm.fz b o v h)
theorem ZQE {x:Ctx} {m:Mem} {w:World} (hm:MK x m w) (hv:RA x a v):RA (argC w) (Zzz m a) v:=by
 have gen:RA (argC w) (match ZhW a with|true=>a|false=>.junk) v:=by
  cases hp:ZhW a with
  |true=>exact hv.plain (ZuY hm) hp
  |false=>exact .junk _ _ hv.atomic
 unfold Zzz;split
 ·rename_i h ver;split
  ·rename_i g hg;obtain⟨s,hs,hok,rfl⟩:=Zf8 hm.toR hv hg;cases hb:s.blk with
   |none=>
    have hl:g.l=[]:=Y9 (by rw[<-hok.n];exact (hok.nil hb).1);rw[ZfG hb];exact .lst0 _ _ _ _ _ _ _ _ hl (λe=>by simp at e) (λe=>by simp at e) (λ_=>rfl)
   |some pc=>
    obtain⟨p,cap⟩:=pc;obtain⟨C,c1,c2,c3,c4,c5,c6,c7,c8⟩:=hok.row p cap hb;rw[Zfa hb,show Value.slice (some ⟨p,0,none⟩) s.n cap=.slice (some ⟨p,0,none⟩) g.l.length cap by rw[hok.n]];have key:∀i j d,i<g.l.length->nth (elN g.r g.l i) j=some d->∃u,C[i*g.r.wid+j]? =some u/\RA (argC w).bare d u:=by intro i j d hi hd;obtain⟨u,e1,e2⟩:=c5 i j d (by rw[hok.n];exact hi) hd;exact⟨u,e1,e2.plain (x':=(argC w).bare) (λb o v h=>ZuY hm b o v h) (R.enc_plain _ _ _ (Zbd hd))⟩
    refine ZdC (C:=C) (by rw[<-hok.n];exact c3) (by rw[<-hok.n];omega) (λe=>by simp at e) (λk u e=> ?_) key;exact ZuZ (by rw[Zaj c1];exact e)
  ·exact .junk _ _ hv.atomic
 ·exact gen
theorem ZDJ {x:Ctx} {m:Mem} {w:World} (hm:MK x m w):∀{l:List A} {vs:List Value},RL x l vs->RL (argC w) (Zwh m l) vs
 |[],[],_=>trivial
 |_::_,_::_,h=>⟨ZQE hm h.1,ZDJ hm h.2⟩
 |[],_::_,h=>h.elim
 |_::_,[],h=>h.elim
def R.flat:R->Bool
 | .int _| .bool| .str| .unit=>true
 | .sl _=>false
 | .Pq a b=>a.flat&&b.flat
def ZR0:A->Bool
 | .bool _ _| .int _ _ _| .str _=>true
 |_=>false
theorem R.flat_enc:∀(r:R) (y:r.den),r.flat=true->∀a∈r.enc y,ZR0 a=true
 | .int _,_,_,a,h=>by simp[R.enc] at h;subst h;rfl
 | .bool,_,_,a,h=>by simp[R.enc] at h;subst h;rfl
 | .str,_,_,a,h=>by simp[R.enc] at h;subst h;rfl
 | .sl r,_,hf,a,h=>by simp[R.flat] at hf
 | .Pq p q,x,hf,a,h=>by
  simp only[R.flat,Yb] at hf;simp only[R.enc,YV] at h;rcases h with h|h
  ·exact R.flat_enc p _ hf.1 a h
  ·exact R.flat_enc q _ hf.2 a h
 | .unit,_,_,a,h=>by simp[R.enc] at h
theorem RA.flat {x:Ctx} (h:RA x a v) (hf:ZR0 a=true):RA x' a v:=by
 cases h<;>simp[ZR0] at hf
 ·exact .bool _ _ _
 ·exact .int _ _ _ _ (by assumption)
 ·exact .str _ _
theorem RL.flat {x x':Ctx}:∀{l:List A} {vs:List Value},(∀a∈l,ZR0 a=true)->RL x l vs->RL x' l vs
 |[],[],_,_=>trivial
 |a::_,_::_,hf,h=>⟨h.1.flat (hf a (by simp)),RL.flat (λb hb=>hf b (by simp[hb])) h.2⟩
 |[],_::_,_,h=>h.elim
 |_::_,[],_,h=>h.elim
def Sh.flat (s:Sh):Bool:=s.code.flat
def Rs.flat:Rs->Bool
 | .one s=>s.flat
 | .tup l=>l.all Sh.flat
theorem Sh.enc_flat {x:Ctx} (s:Sh) (y:s.den) (hf:s.flat=true) (h:RW x (s.enc y) v):RW x' (s.enc y) v:=by
 cases s with
 |one r=>
  simp only[Sh.enc] at h|-;split at h
  ·rename_i a ha;have ha':r.enc y=[a]:=ha;exact RA.flat h (R.flat_enc r y hf a (by simp[ha']))
  ·trivial
 |agg r=>
  obtain⟨C,e,hC⟩:=h;exact⟨C,e,RL.flat (R.flat_enc r y hf) hC⟩
theorem Zre {x x':Ctx}:∀(ts:List Sh) (y:HL ts) {vs:List Value},ts.all Sh.flat=true->RWs x (Zpl ts y) vs->RWs x' (Zpl ts y) vs
 |[],_,vs,_,h=>by
  cases vs with
  |nil=>trivial
  |cons _ _=>exact h.elim
 |[s],y,vs,hf,h=>match vs,h with
  |[v],h=>⟨s.enc_flat y (by simpa using hf) h.1,Tv⟩
 |s::t::l,y,vs,hf,h=>by
  rw[List.all_cons,Yb] at hf
  match vs,h with
  |v::vs,h=>exact⟨s.enc_flat y.1 hf.1 h.1,Zre (t::l) y.2 hf.2 h.2⟩
theorem Rs.enc_flat {x x':Ctx} (r:Rs) (y:r.den) (hf:r.flat=true) {v:Value} (h:RV x (r.enc y) v):RV x' (r.enc y) v:=by
 cases r with
 |one s=>exact s.enc_flat y hf h
 |tup l=>obtain⟨C,e,hC⟩:=h;exact⟨C,e,Zre l y hf hC⟩
def ZyP (m:Mem):A->Option (List A)
 | .loc b 0=>(nth m.Bx b).map (Zwh m)
 | .fp l=>some (Zwh ZdF l)
 |_=>none
def ZmN (rb:R) (ts:List Sh) (rs:Rs) (pre:rb.den×HL ts->Option Bool) (F:rb.den×HL ts->rs.den):En:=
 .read λvs m=>match vs with
  | .w (.one p)::rest=>match ZyP m p with
   |some row=>match rb.decW row with
    |some y=>match Zip ts rest with
     |some a=>some (pre (y,a),rs.enc (F (y,a)))
     |none=>none
    |none=>none
   |none=>none
  |_=>none
def ZE7 (E:Env) (fn:Func) (rb:R) (ts:List Sh) (rs:Rs) (a:rb.den×HL ts):RT (Option rs.den):=(Zo E fn (.w (.one (.fp (rb.enc a.1)))::Zdj ts a.2) ZdF).map fun
 |some r=>rs.out r.m r.v
 |none=>none
theorem ZP1 {x:Ctx} {m:Mem} {w:World} (hm:MK x m w) {p:A} (h:ZyP m p=some row) (hv:RA x p v):∃q o C,v=.pointer (some ⟨q,o,none⟩)/\RL (argC w) row C/\∀(j:Nat) u,C[j]? =some u->w.cell? ⟨q,o+j,none⟩=some u:=by
 unfold ZyP at h;split at h
 ·rename_i b;rw[YB] at h;obtain⟨r0,h0,rfl⟩:=h;obtain⟨q,hq⟩:=hm.M_of h0;obtain⟨C,T,e1,e2⟩:=hm.box b r0 q h0 hq;refine⟨q,0,C,?_,ZDJ hm e2,λj u hu=>by rw[Yu,Zaj e1];exact hu⟩;cases hv with
  |loc _ _ _ q' hq'=>rw[hq] at hq';simp only[oinj] at hq';subst hq';rfl
 ·rename_i l;simp only[oinj] at h;subst h;cases hv with
  |fp _ _ q o c hf hr=>
   refine⟨q,o,(List.range l.length).map c,rfl,?_,λj u hu=> ?_⟩
   ·have h1:∀(l:List A) (c:Nat->Value),(∀j a,nth l j=some a->RA x.bare a (c j))->RL (argC w) (Zwh ZdF l) ((List.range l.length).map c):=by
     intro l
     induction l with
     |nil=>intro c _;trivial
     |cons a l ih=>
      intro c hc;rw[List.length_cons,List.range_succ_eq_map,YaZ,Ya4];refine⟨?_,ih (λj=>c (j+1)) (λj b hb=>hc (j+1) b hb)⟩;have hra:=hc 0 a rfl;have hle:FzLe x.bare (argC w):=λb o v h=>ZuY hm b o v h
      unfold Zzz;split
      ·rename_i h' ver;simp only[ZaY,ZdF,Zn];exact .junk _ _ hra.atomic
      ·cases hp:ZhW a with
       |true=>exact hra.plain hle hp
       |false=>exact .junk _ _ hra.atomic
    exact h1 l c hr
   ·rw[Yas] at hu;cases hj:(List.range l.length)[j]? with
    |none=>rw[hj] at hu;simp at hu
    |some j'=>
     rw[hj] at hu;simp only[Option.map_some,oinj] at hu;have hlt:j<l.length:=by have:=(YE.1 hj).1;simpa using this
     have hjj:j'=j:=by rw[YaH hlt] at hj;simpa using hj.symm
     subst hjj;obtain⟨a,ha⟩:=ZcT hlt;rw[<-hu];exact hm.fz _ _ _ (hf j' a ha)
 ·simp at h
theorem ZF6 {m m':Mem} (h:m'.Sg=m.Sg) (a:A):Zzz m' a=Zzz m a:=by unfold Zzz ZaY;rw[h]
theorem ZqH {m m':Mem} (h:m'.Sg=m.Sg):∀l:List A,Zwh m' l=Zwh m l
 |[]=>rfl
 |a::l=>by simp only[Zwh,ZF6 h a,ZqH h l]
theorem ZyV {pre:rb.den×HL ts->Option Bool} {F:rb.den×HL ts->rs.den}:ZPj (λvs m=>match vs with
  | .w (.one p)::rest=>match ZyP m p with
   |some row=>match rb.decW row with
    |some y=>match Zip ts rest with
     |some a=>some (pre (y,a),rs.enc (F (y,a)))
     |none=>none
    |none=>none
   |none=>none
  |_=>none):=by
 intro vs m m' r h hs hb;simp only at h|-;split at h
 ·rename_i p rest;have:ZyP m' p=ZyP m p:=by
   unfold ZyP;split
   ·rename_i b;rw[hb b 0 (by simp)];cases nth m.Bx b with
    |none=>rfl
    |some l=>simp only[Option.map_some,ZqH hs]
   ·rfl
   ·rfl
  simp only[this];exact h
 ·simp at h
theorem ZCZ (hE:Zbx E) {f:FuncId} {fn:Func} {c:Code} (hf:E.P.funcs[f]? =some fn) (hb:fn.body=some c) (hl:Z3 E c) (hcall:Zy E.P f)
 (hfl:rs.flat=true) {pre:rb.den×HL ts->Option Bool} {F:rb.den×HL ts->rs.den} (h:∀a,rb.ok a.1->okHL ts a.2->pre a≠some false->(ZE7 E fn rb ts rs a).val=some (F a)):
  Za E.P f (ZmN rb ts rs pre F):=by
 refine⟨hcall,ZyV,λvs m chk v hp hc x w args hm hv=> ?_⟩;simp only at hp;split at hp
 ·rename_i pa rest;split at hp
  ·rename_i row hrow;split at hp
   ·rename_i y hy;split at hp
    ·rename_i a ha;simp only[oinj,pinj] at hp;obtain⟨rfl,rfl⟩:=hp
     match args,hv with
     |v::args,hv=>
      obtain⟨q,o,C0,rfl,hC0,hcell⟩:=ZP1 hm hrow (show RA x pa v from hv.1);obtain⟨hargs,hin⟩:=Zax ha hv.2;have hrow':=R.decW_ok hy hC0;have hyok:rb.ok y:=R.ok_of rb y (argC w) C0 hrow';have h1:=h (y,a) hyok hin hc;unfold ZE7 at h1;rw[RT.val_map] at h1;split at h1
      ·rename_i r hr;have hpv:RA (argC w) (.fp (rb.enc y)) (.pointer (some ⟨q,o,none⟩)):=by
        refine RA.fp _ _ _ _ (λj=>(C0[j]?).getD .nilFunc) (λj b hb=> ?_) (λj b hb=> ?_);all_goals
         obtain⟨u,u1,u2⟩:=hrow'.nth j b hb
        ·rw[u1];exact ZuZ (hcell j u u1)
        ·rw[u1];exact u2
       have hargs':RVs (argC w) (.w (.one (.fp (rb.enc y)))::Zdj ts a) (.pointer (some ⟨q,o,none⟩)::args):=
        ⟨hpv,Zch (ZbJ (ZuY hm) ts a (ZaD hargs))⟩
       have h2:=ZaC hE hf hb hl (ZPd w) hargs' hr;refine h2.mono λe w' hres=> ?_
       obtain⟨val,x1,rfl,hrv,hm1,hext,hst⟩:=hres;obtain⟨x2,m2,hm2,hext2,hrv2⟩:=Rs.out_ok h1 hm1 hrv;have hsame:Zb5 w w':=⟨⟨hst.size,λk hk=>hst.block k (by simp only[argC];omega)⟩,hst.os,hst.tape,hst.output⟩;exact⟨val,x,rfl,rs.enc_flat _ hfl hrv2,hm.old hsame.1,Ext.refl x,hsame⟩
      ·simp at h1
     |[],hv=>exact hv.elim
    ·simp at hp
   ·simp at hp
  ·simp at hp
 ·simp at hp
section
variable {P:Program} {l:List (FuncId×En)} {ol:List (Nat×Ora)} {n k:Nat} {f:FuncId} {fn:Func}
theorem ZiL (hl:ZdM P l) (hf:P.funcs[f]? =some fn) (hb:fn.body.isSome=true) (hn:ZbH (ZC (fn.body.getD .skip))=true) (hcall:Zy P f) (hol:AllL (envX P l ol n k) fn.body ol)
 (hfl:rs.flat=true) {t:rb.den×HL ts->RT (Option rs.den)} (h:∀a,ZE7 (envX P l ol n k) fn rb ts rs a=t a):
  Za P f (ZmN rb ts rs (λa=>okO (t a).val) (λa=>getO rs.Df (t a).val)):=by obtain⟨c,hc,hlo⟩:=ZcG hb hn hol;exact ZCZ (E:=envX P l ol n k) (ZaT hl ol n k) hf hc hlo hcall hfl λa _ _ hp=>by rw[h a];exact Ze3 hp
theorem ZlC (hl:ZdM P l) (hf:P.funcs[f]? =some fn) (hb:fn.body.isSome=true) (hn:ZbH (ZC (fn.body.getD .skip))=true) (hcall:Zy P f) (hol:AllL (envX P l ol n k) fn.body ol)
 (hfl:rs.flat=true) {t:rb.den×HL ts->RT rs.den} (h:∀a,ZE7 (envX P l ol n k) fn rb ts rs a=(t a).map some):
  Za P f (ZmN rb ts rs (λ_=>none) (λa=>(t a).val)):=by obtain⟨c,hc,hlo⟩:=ZcG hb hn hol;exact ZCZ (E:=envX P l ol n k) (ZaT hl ol n k) hf hc hlo hcall hfl λa _ _ _=>by rw[h a,RT.val_map]
end
theorem ZjS (n:Int):IntKind.wrap .u8 n=n%256:=by simp[IntKind.wrap,IntKind.signed,IntKind.bits]
theorem Zls (n:Int):IntKind.wrap .u16 n=n%65536:=by simp[IntKind.wrap,IntKind.signed,IntKind.bits]
theorem ZCl (n:Int):IntKind.wrap .i16 n=if n%65536>=32768 then n%65536-65536 else n%65536:=by simp[IntKind.wrap,IntKind.signed,IntKind.bits]
theorem wrap_i64 (n:Int) (h: -9223372036854775808<=n) (h2:n<=9223372036854775807):IntKind.wrap .i64 n=n:=by simp[IntKind.wrap,IntKind.signed,IntKind.bits];split<;>omega
theorem Zgc {n:Int}:inR .u8 n↔0<=n/\n<=255:=by simp[inR,IntKind.min,IntKind.max,IntKind.signed,IntKind.bits]
theorem ZfV {n:Int}:inR .u16 n↔0<=n/\n<=65535:=by simp[inR,IntKind.min,IntKind.max,IntKind.signed,IntKind.bits]
theorem ZNX {n:Int}:inR .i64 n↔ -9223372036854775808<=n/\n<=9223372036854775807:=by simp[inR,IntKind.min,IntKind.max,IntKind.signed,IntKind.bits]
theorem Zrq {k:IntKind} {n:Int} (h:inR k n):IntKind.wrap k n=n:=by revert h;cases k<;>simp[inR,IntKind.wrap,IntKind.min,IntKind.max,IntKind.signed,IntKind.bits]<;>(try split)<;>omega
theorem Zf5 (p:Int->Bool) (h:(List.range 256).all (λn=>p (n:Int))=true) (b:Int) (hb:inR .u8 b):p b=true:=by rw[Zgc] at hb;have:=YU.1 h b.toNat (by simp;omega);rwa [show ((b.toNat:Nat):Int)=b by omega] at this
theorem Zyj {k:IntKind} {n m:Nat} (h:n<=m) (hm:inR k (m:Int)):k.wrap (n:Int)=n:=by
 apply Zrq;have:=hm.2;have h1:k.min<=0:=by cases k<;>simp[IntKind.min,IntKind.signed,IntKind.bits]
 exact⟨by omega,by omega⟩
theorem ZpG (k:IntKind) (x m:Int) (h0:0<=m) (hm:inR k m):0<=andI k x m/\andI k x m<=m:=by
 unfold andI;have h1:((BitVec.ofInt k.bits x)&&&(BitVec.ofInt k.bits m)).toNat<=m.toNat:=by
  rw[BitVec.toNat_and];refine YD Nat.and_le_right ?_;rw[YaV];have:m%((2^k.bits:Nat):Int)<=m:=by have e1:=Int.emod_add_mul_ediv m ((2^k.bits:Nat):Int);have e2:0<=m/((2^k.bits:Nat):Int):=Int.ediv_nonneg h0 (by omega);have e3:0<=((2^k.bits:Nat):Int)*(m/((2^k.bits:Nat):Int)):=Int.mul_nonneg (by omega) e2;omega
  omega
 rw[Zyj h1 (by rw[Yab h0];exact hm)];omega
theorem and7 (x:Int):0<=andI .i64 x 7/\andI .i64 x 7<=7:=ZpG _ _ _ (by decide) (by rw[ZNX];omega)
theorem and3 (x:Int):0<=andI .i64 x 3/\andI .i64 x 3<=3:=ZpG _ _ _ (by decide) (by rw[ZNX];omega)
theorem ZZq (x:Int):0<=andI .u8 x 15/\andI .u8 x 15<=15:=ZpG _ _ _ (by decide) (by rw[Zgc];omega)
theorem ZZp (x:Int):0<=andI .u8 x 7/\andI .u8 x 7<=7:=ZpG _ _ _ (by decide) (by rw[Zgc];omega)
def tb (x:Int):Bool:=decide (x>=32768)
theorem ZmB (x:Int) (h:inR .u16 x):tb x=(BitVec.ofInt 16 x).msb:=by rw[ZfV] at h;rw[BitVec.msb_eq_decide,YaV];unfold tb;simp only[decide_eq_decide];omega
theorem ZgM (b:BitVec 16):IntKind.wrap .u16 (b.toNat:Int)=b.toNat/\inR .u16 (b.toNat:Int)/\BitVec.ofInt 16 (b.toNat:Int)=b:=by
 have:=b.isLt;have hr:inR .u16 (b.toNat:Int):=by rw[ZfV];omega
 refine⟨Zrq hr,hr,?_⟩;apply BitVec.eq_of_toNat_eq;rw[YaV];omega
theorem ZSR (x y:Int) (hx:inR .u16 x) (hy:inR .u16 y):tb (andI .u16 x y)=(tb x&&tb y):=by obtain⟨h1,h2,h3⟩:=ZgM ((BitVec.ofInt 16 x)&&&(BitVec.ofInt 16 y));have e:andI .u16 x y=(((BitVec.ofInt 16 x)&&&(BitVec.ofInt 16 y)).toNat:Int):=h1;rw[e,ZmB _ h2,h3,BitVec.msb_and,<-ZmB _ hx,<-ZmB _ hy]
theorem ZI8 (x y:Int) (hx:inR .u16 x) (hy:inR .u16 y):tb (xorI .u16 x y)=(tb x^^tb y):=by obtain⟨h1,h2,h3⟩:=ZgM ((BitVec.ofInt 16 x)^^^(BitVec.ofInt 16 y));have e:xorI .u16 x y=(((BitVec.ofInt 16 x)^^^(BitVec.ofInt 16 y)).toNat:Int):=h1;rw[e,ZmB _ h2,h3,BitVec.msb_xor,<-ZmB _ hx,<-ZmB _ hy]
theorem Zhy (k:IntKind) (x y:Int):inR k (andI k x y)/\inR k (orI k x y)/\inR k (xorI k x y):=⟨Zaq _ _,Zaq _ _,Zaq _ _⟩
theorem ZCj (x:Int) (hx:inR .u16 x):andI .u16 x 32768=if tb x then 32768 else 0:=by
 have h1:=ZpG .u16 x 32768 (by decide) (by rw[ZfV];omega);have h2:=ZSR x 32768 hx (by rw[ZfV];omega);have h3:tb 32768=true:=rfl;rw[h3,YY] at h2;cases ht:tb x with
 |true=>rw[ht] at h2;simp[tb] at h2|-;omega
 |false=>
  obtain⟨e1,e2,e3⟩:=ZgM ((BitVec.ofInt 16 x)&&&(BitVec.ofInt 16 32768));have e:andI .u16 x 32768=(((BitVec.ofInt 16 x)&&&(BitVec.ofInt 16 32768)).toNat:Int):=e1;have hm:(BitVec.ofInt 16 x).msb=false:=by rw[<-ZmB _ hx];exact ht
  have:(BitVec.ofInt 16 x)&&&(BitVec.ofInt 16 32768)=0#16:=by
   apply BitVec.eq_of_getLsbD_eq;intro i hi;have h32:(BitVec.ofInt 16 32768).getLsbD i=decide (i=15):=by
    have:∀i:Fin 16,(BitVec.ofInt 16 32768).getLsbD i=decide (i.1=15):=by decide
    exact this ⟨i,hi⟩
   rw[BitVec.getLsbD_and,h32];by_cases h15:i=15
   ·subst h15;rw[BitVec.msb_eq_getLsbD_last] at hm;simp at hm;simp[hm]
   ·simp[h15]
  rw[e,this];simp
theorem Zrn (x:Int) (hx:inR .u16 x):(andI .u16 x 32768 !=0)=tb x:=by rw[ZCj x hx];cases tb x<;>rfl
theorem Za.tot {P:Program} {f:FuncId} {pre:HL ts->Option Bool} {F G:HL ts->rs.den} (h:Za P f (Zf ts rs pre F)) (hp:∀a,okHL ts a->pre a≠some false) (hG:∀a,okHL ts a->F a=G a):
  Za P f (Zf ts rs (λ_=>none) G):=Za.pure_congr h (λa h1 _=>hp a h1) (λa h1 _=>hG a h1)
abbrev TF:=Bool×Bool×Bool×Bool×Bool×Bool×Bool
abbrev TR:=Int×Int×Int×Int×Int×Int×Int×TF×Int×Int
abbrev TC:=Int×TR×Bool×Bool×Bool×Int×Bool×Bool×Bool×Bool×Bool×Bool×Bool
abbrev TY:=Int×Int×Int×Int
abbrev TI:=Int×Int×Int×Int×Int×Int×Int×Int
abbrev RY:R:=R.Pq (R.int i64) (R.Pq (R.int u16) (R.Pq (R.int u8) (R.int i64)))
abbrev rcF7:R:=R.Pq R.bool (R.Pq R.bool (R.Pq R.bool (R.Pq R.bool (R.Pq R.bool (R.Pq R.bool R.bool)))))
abbrev ZmP:R:=R.Pq (R.int u8) (R.Pq (R.int u8) (R.Pq (R.int u8) (R.Pq (R.int u8) (R.Pq (R.int u8) (R.Pq (R.int u8) (R.Pq (R.int u8) (R.Pq rcF7 (R.Pq (R.int u16) (R.int u16)))))))))
abbrev Zbc:R:=R.Pq (R.int i64) (R.Pq ZmP (R.Pq R.bool (R.Pq R.bool (R.Pq R.bool (R.Pq (R.int u8) (R.Pq R.bool (R.Pq R.bool (R.Pq R.bool (R.Pq R.bool (R.Pq R.bool (R.Pq R.bool R.bool)))))))))))
abbrev ZJP:R:=R.Pq R.bool (R.Pq R.bool (R.Pq R.bool (R.Pq R.bool (R.Pq R.bool (R.Pq R.bool (R.Pq R.bool (R.Pq R.bool R.bool)))))))
abbrev ZfL:R:=R.Pq R.bool (R.Pq R.bool (R.Pq R.bool (R.Pq R.bool (R.Pq R.bool (R.Pq R.bool (R.Pq R.bool (R.Pq R.bool (R.Pq (R.int u8) (R.int u8)))))))))
abbrev Zcq:R:=R.Pq (R.int i64) (R.Pq R.bool (R.Pq R.bool (R.Pq R.bool (R.Pq R.bool (R.Pq (R.int u8) (R.Pq (R.int u8) (R.Pq R.bool (R.Pq R.bool (R.Pq R.bool (R.Pq R.bool (R.Pq R.bool (R.Pq (R.int u8) (R.Pq (R.int u8) (R.Pq (R.int u8) (R.Pq (R.int u8) (R.Pq (R.int i64) (R.Pq (R.int i64) (R.Pq (R.int i64) R.bool))))))))))))))))))
abbrev ZcS:R:=R.Pq (R.int i64) (R.Pq (R.int u16) (R.Pq (R.int u8) (R.Pq R.bool (R.Pq R.bool (R.Pq R.bool (R.Pq R.bool (R.Pq R.bool (R.Pq R.bool (R.Pq R.bool (R.Pq R.bool (R.Pq R.bool (R.Pq R.bool (R.Pq R.bool (R.Pq R.bool (R.Pq R.bool R.bool)))))))))))))))
abbrev Zdu:R:=R.Pq (R.int i64) (R.Pq RY (R.Pq (R.int i64) (R.Pq (R.int i64) (R.Pq R.bool R.bool))))
abbrev rcEVT:R:=R.Pq (R.int i64) (R.Pq (R.int i64) (R.Pq (R.sl (R.int u8)) (R.Pq ZJP (R.Pq R.bool (R.Pq R.bool (R.Pq R.bool (R.Pq R.bool (R.Pq (R.int u16) (R.int u8)))))))))
abbrev LINT:=Bool×Bool×Bool×Bool×Bool×Bool×Bool×Bool×Bool
abbrev INPT:=Bool×Bool×Bool×Bool×Bool×Bool×Bool×Bool×Int×Int
abbrev PICT:=Int×Bool×Bool×Bool×Bool×Int×Int×Bool×Bool×Bool×Bool×Bool×Int×Int×Int×Int×Int×Int×Int×Bool
abbrev CORT:=TC×Int×List Int×TY×Int×Bool
abbrev SYST:=CORT×List (Int×Int)×PICT×(Int×Int×Int)×Int×List (Int×Int)
abbrev BRDT:=Int×List (Int×Int×Bool×Int)×Int×Int×Int×Bool×List (Int×Int)
abbrev PINT:=Int×Int×Int×Bool×Bool×Bool×Bool×Bool×Bool×Bool×Bool×Bool×Bool×Bool×Bool×Bool×Bool
abbrev ITMT:=Int×TY×Int×Int×Bool×Bool
abbrev EVTT:=Int×Int×List Int×LINT×Bool×Bool×Bool×Bool×Int×Int
abbrev RUNT:=List PINT×List ITMT×List EVTT×List TC×SYST
def R.eqf:(r:R)->r.den->r.den->Bool->Bool
 | .int _,x,y,e=>((x:Int)==y)&&e
 | .bool,x,y,e=>((x:Bool)==y)&&e
 | .Pq a b,x,y,e=>a.eqf x.1 y.1 (b.eqf x.2 y.2 e)
 |_,_,_,e=>e
def R.plain:R->Bool
 | .int _| .bool=>true
 | .Pq a b=>a.plain&&b.plain
 |_=>false
theorem R.eqf_refl (r:R):∀(x:r.den) (e:Bool),r.eqf x x e=e:=by
 induction r with
 |Pq a b iha ihb=>intro x e;simp only[R.eqf];rw[ihb,iha]
 |int k=>intro x e;simp only[R.eqf,YaE,YQ]
 |bool=>intro x e;simp only[R.eqf,YaE,YQ]
 |_=>intro x e;rfl
def R.sel:(r:R)->Bool->r.den->r.den->r.den
 | .Pq a b,c,x,y=>(a.sel c x.1 y.1,b.sel c x.2 y.2)
 |_,c,x,y=>cond c x y
def orR:List Bool->Bool->Bool
 |[],c=>c
 |g::l,c=>orR l (g||c)
theorem ZbO (c:Bool):orR [] c=c:=rfl
theorem ZaW (g:Bool) (l:List Bool) (c:Bool):orR (g::l) c=orR l (g||c):=rfl
def pinE (ts:List Sh) (r:R) (G:HL ts->Int×r.den) (k:Int):En:=.pure λvs=>match Zip ts vs with
 |some a=>some (some ((G a).1==k),.w (.agg (.int true .i64 k::r.enc (G a).2)))
 |none=>none
theorem ZVq {P:Program} {f:FuncId} {G:HL ts->Int×r.den} (h:Za P f (Zf ts (.one (.agg (.Pq (.int .i64) r))) (λ_=>none) G)) (k:Int):Za P f (pinE ts r G k):=by
 refine⟨h.1,λvs chk v hp hc x m w args hm hv=> ?_⟩;simp only at hp;split at hp
 ·rename_i a ha;simp only[oinj,pinj] at hp;obtain⟨rfl,rfl⟩:=hp;have hk:(G a).1=k:=by
   cases he:(G a).1==k with
   |true=>simpa using he
   |false=>rw[he] at hc;exact absurd rfl hc
  have h3:=h.2 vs none ((Rs.one (.agg (.Pq (.int .i64) r))).enc (G a)) (by simp only[ha]) (by simp) x m w args hm hv;refine Calls.mono h3 λe w' hres=> ?_
  obtain⟨val,x',rfl,hv,hm',hx,hw⟩:=hres;refine⟨val,x',rfl,?_,hm',hx,hw⟩;obtain⟨C,rfl,hC⟩:=hv;refine⟨C,rfl,?_⟩;have hC:RL x' (.int false .i64 (G a).1::r.enc (G a).2) C:=hC
  match C,hC with
  |u::C,hC=>
   refine⟨?_,hC.2⟩;have h1:=hC.1;rw[hk] at h1;cases h1;exact .int _ _ _ _ (by assumption)
 ·simp at hp
theorem ZDq {P:Program} {f:FuncId} {fn:Func} {n k:Nat} (hf:P.funcs[f]? =some fn) (hb:fn.body.isSome=true) (hn:ZbH (ZC (fn.body.getD .skip))=true) (hcall:Zy P f)
 {pre:HL ts->Option Bool} {F:HL ts->rs.den} (h:∀a,okHL ts a->pre a≠some false->∃l,ZdM P l/\(Zg1 (envX P l [] n k) fn ts rs a).val=some (F a)):
  Za P f (Zf ts rs pre F):=by
 refine⟨hcall,λvs chk v hp hc x m w args hm hv=> ?_⟩;have hp0:=hp;simp only at hp;split at hp
 ·rename_i a ha;simp only[oinj,pinj] at hp;obtain⟨rfl,rfl⟩:=hp;obtain⟨_,hin⟩:=Zax ha hv;obtain⟨l,hl,he⟩:=h a hin hc;obtain⟨c,hc',hlo⟩:=ZcG (P:=P) (l:=l) (ol:=[]) (n:=n) (k:=k) hb hn trivial;have hE:Za P f (Zf ts rs (λb=>okO (Zg1 (envX P l [] n k) fn ts rs b).val) (λb=>getO rs.Df (Zg1 (envX P l [] n k) fn ts rs b).val)):=
   Zsp (E:=envX P l [] n k) (ZaT hl [] n k) hf hc' hlo hcall λb _ hp=>Ze3 hp
  have:=hE.2 vs (okO (Zg1 (envX P l [] n k) fn ts rs a).val) (rs.enc (getO rs.Df (Zg1 (envX P l [] n k) fn ts rs a).val)) (by simp only[ha]) (by rw[he];simp[okO,okB]) x m w args hm hv;rw[he] at this;exact this
 ·simp at hp
theorem ZcF {id:Nat} {b:Code}:∀c:Code,(id,b)∈ZC c->∀p∈ZC b,p∈ZC c
 | .seq x y,h,p,hp=>by simp only[ZC,YV] at h|-;exact h.imp (λh=>ZcF x h p hp) (λh=>ZcF y h p hp)
 | .cond _ x y,h,p,hp=>by simp only[ZC,YV] at h|-;exact h.imp (λh=>ZcF x h p hp) (λh=>ZcF y h p hp)
 | .block i c,h,p,hp=>by
  unfold ZC at h|-;split at h
  ·rename_i d;rcases Ys.1 h with e|h
   ·obtain⟨rfl,rfl⟩:=Prod.mk.inj e;exact YA _ hp
   ·exact YA _ (ZcF d h p hp)
  ·exact ZcF c h p hp
 | .skip,h,_,_| .region ..,h,_,_| .loop _,h,_,_| .rangeFunc ..,h,_,_| .exit _,h,_,_| .scope _,h,_,_| .label _,h,_,_| .goto _,h,_,_| .ret,h,_,_| .refuse _,h,_,_=>by simp[ZC] at h
theorem Zrd:∀(l:List (Nat×Code)) (i:Nat),ZBT l i=.skip\/(i,ZBT l i)∈l
 |[],i=>.inl rfl
 |(j,b)::l,i=>by
  unfold ZBT;split
  ·rename_i h;rw[Yt] at h;subst h;exact .inr (YaK ..)
  ·exact (Zrd l i).imp id (λh=>YA _ h)
theorem Zim {P:Program} {l:List (FuncId×En)} {ol:List (Nat×Ora)} {n k:Nat} {c:Option Code} (hc:c.isSome=true) (hn:ZbH (ZC (c.getD .skip))=true) (h:AllL (envX P l ol n k) c ol):Z3 (envX P l ol n k) (Z5 c id):=by
 obtain⟨c,rfl⟩:=YaY.1 hc;refine Zcd _ λp hp f hf=> ?_
 have hm:p∈ZC c:=by
  rcases Zrd (ZC c) id with e|e
  ·have:Z5 (some c) id=.skip:=e;rw[this] at hp;simp[ZC] at hp
  ·exact ZcF c e p hp
 have:=ZpI h p.1 f hf;have e:Z5 (some c) p.1=p.2:=Zpj hn hm;rwa [e] at this
theorem ZCS {α:Type} {f:α->Option (Go1 α)} (I:α->Prop) (m:α->Nat) (R:Bool×α->Prop) (h:∀a,I a->(∃a',f a=some (.cont a')/\I a'/\m a'<m a)\/(∃a',f a=some (.brk a')/\R (false,a'))\/(∃a',f a=some (.ret a')/\R (true,a'))):
  ∀(n:Nat) (a:α),I a->m a<n->∃r,runL f n a=some r/\R r
 |0,_,_,hn=>absurd hn (Nat.not_lt_zero _)
 |n+1,a,hi,hn=>by
  rcases h a hi with ⟨a',e,hi',hm⟩|⟨a',e,hr⟩|⟨a',e,hr⟩
  ·obtain⟨r,h1,h2⟩:=ZCS I m R h n a' hi' (by omega);exact⟨r,by simp only[runL,e];exact h1,h2⟩
  ·exact⟨(false,a'),by simp only[runL,e],hr⟩
  ·exact⟨(true,a'),by simp only[runL,e],hr⟩
theorem ZK {D:Type} {t:D->RT (Option (Go1 D))} {fuel:D->Nat} (I:D->Prop) (m:D->Nat) (R:Bool×D->Prop) (h:∀a,I a->(∃a',(t a).val=some (.cont a')/\I a'/\m a'<m a)\/(∃a',(t a).val=some (.brk a')/\R (false,a'))\/(∃a',fl=true/\(t a).val=some (.ret a')/\R (true,a'))) (a:D) (hi:I a) (hm:m a<fuel a):∃r,runF fl t fuel a=some r/\R r:=by
 obtain⟨r,h1,h2,h3⟩:=ZCS (f:=λa=>(t a).val) I m (λr=>(fl=true\/r.1=false)/\R r) (λa hi=>by
  rcases h a hi with h|⟨a',e,hr⟩|⟨a',e1,e2,hr⟩
  ·exact .inl h
  ·exact .inr (.inl ⟨a',e,.inr rfl,hr⟩)
  ·exact .inr (.inr ⟨a',e2,.inl e1,hr⟩)) (fuel a) a hi hm
 refine⟨r,?_,h3⟩;unfold runF;rw[h1];obtain⟨b,d⟩:=r;rcases h2 with h2|h2
 ·simp only[h2,Yw]
 ·simp only at h2;subst h2;simp
abbrev rcCE:R:=(R.sl (R.Pq (R.int u16) (R.int u8)))
abbrev rcRG:R:=(R.sl (R.Pq (R.int u16) (R.Pq (R.int u16) (R.Pq R.bool (R.int i64)))))
theorem pureP {P:Program} {f:FuncId} {fn:Func} (n:Nat) (l:List (FuncId×En)) (ol:List (Nat×Ora)) (ts:List Sh) (rs:Rs) (hl:ZdM P l) (hf:P.funcs[f]? =some fn) (hcall:Zy P f) (hol:AllL (envX P l ol n 8) fn.body ol) {t:HL ts->RT (Option rs.den)} (h:∀a,Zg1 (envX P l ol n 8) fn ts rs a=t a:=by intro a;kernel_rfl) (hb:fn.body.isSome=true:=by rfl) (hn:ZbH (ZC (fn.body.getD .skip))=true:=by kernel_rfl):Za P f (Zf ts rs (λa=>okO (t a).val) (λa=>getO rs.Df (t a).val)):=ZgI hl hf hb hn hcall hol h
theorem pureQ {P:Program} {f:FuncId} {fn:Func} (n:Nat) (l:List (FuncId×En)) (ol:List (Nat×Ora)) (ts:List Sh) (rs:Rs) (hl:ZdM P l) (hf:P.funcs[f]? =some fn) (hcall:Zy P f) (hol:AllL (envX P l ol n 8) fn.body ol) {t:HL ts->RT (rs.den)} (h:∀a,Zg1 (envX P l ol n 8) fn ts rs a=(t a).map some:=by intro a;kernel_rfl) (hb:fn.body.isSome=true:=by rfl) (hn:ZbH (ZC (fn.body.getD .skip))=true:=by kernel_rfl):Za P f (Zf ts rs (λ_=>none) (λa=>(t a).val)):=ZQo hl hf hb hn hcall hol h
theorem loopP {P:Program} {l:List (FuncId×En)} {n:Nat} {b:Code} {t:c.D->RT (Option (Go1 c.D))} {fuel:c.D->Nat} (hl:ZdM P l) (hb:ZO9 [] (ZC b)=true:=by kernel_rfl) (h:∀a,Zj6 (envX P l [] n 8) b id c a=t a:=by intro a;kernel_rfl):Za1 (envX P l [] n 8) (.block id (.loop b)) (Zbq fl c t fuel):=Zev (ZaT hl [] n 8) (ZeT hb) h
abbrev QT0:=TC×Bool×List Int×TI×List TY
abbrev QT1:=Bool×Bool×Bool×Bool×Bool×Bool×Bool×Bool×Bool
abbrev QT2:=Int×Bool×Bool×Bool×Bool×Bool×Bool×Bool
abbrev QT3:=Int×Int×Int
abbrev QT4:=Int×Int×Int×Int×Int×Int×Int×Int
abbrev QT5:=Int×Int×Bool×Int
abbrev QT6:=Int×Int×Int×Int×List (Int×Int)×PUnit
abbrev QT7:=Bool×List (Int×Int)×Int×Int×(Int×Int)×List (Int×Int)×PUnit
abbrev QT8:=Int×Int×Int×Bool×Bool×Bool×Bool×Bool×Bool×Bool×Bool×Bool×Bool×Bool×Bool×Bool×Bool
abbrev QT9:=Int×Int×Int×List (Int×Int)×PUnit
abbrev QT10:=Int×Int×List (Int×Int)×PUnit
abbrev QT11:=CORT×List (Int×Int)×PICT×(Int×Int×Int)×Int×BRDT×SYST×TC×List (Int×Int)×List PINT×List ITMT×List EVTT×List TC×PUnit
abbrev QT12:=Int×Int×Int×Int×Int×Int×Int×Int×List (Int×Int)×PUnit
abbrev QT13:=TC×Bool×List Int×List TY
abbrev QT14:=Int×Int×List (Int×Int×Bool×Int)×Int×Int×PUnit
abbrev QT15:=Int×Int×Int×Int
abbrev QT16:=Int×List (Int×Int×Bool×Int)×Int×Int×PUnit
abbrev QT17:=Int×Int×(List Int×Int)×INPT×List INPT×PUnit
abbrev QT18:=Int×(List Int×Int)×BRDT×BRDT×List (Int×Int)×PUnit
abbrev QT19:=Int×(List Int×Int)×List (Int×Int×Bool×Int)×PUnit
abbrev QT20:=Int×Bool×Bool×Bool
abbrev QT21:=Int×List Int×Int
abbrev QT22:=Int×Int×Int×Int×PUnit
abbrev QT23:=Int×Int×Int×Int×Int×Int×Int
abbrev QT24:=TC×Int×List Int×TY×Int×Bool
abbrev QT25:=Int×(List Int×Int)×List INPT×PUnit
abbrev QT26:=Int×(List Int×Int)×List Int×PUnit
abbrev QT27:=Int×Int×List (Int×Int)×List (Int×Int)×PUnit
abbrev QT28:=Int×List Int×Int×Int×List (Int×Int)×PUnit
abbrev QT29:=Int×Int×Int×Int×Int×Int
abbrev QT30:=Bool×Bool×Bool
abbrev rcB:R:=R.int IntKind.u8
abbrev rcW:R:=R.int IntKind.u16
abbrev rcI:R:=R.int IntKind.i64
abbrev Ln {α:Type}:RT (Option α):=.Lf none
abbrev Ls {α:Type} (x:α):RT (Option α):=.Lf (some x)
abbrev Ka:R:=R.int IntKind.u8
abbrev Kb:R:=R.int IntKind.u16
abbrev Kc:R:=R.int IntKind.i64
abbrev So:R->Sh:=Sh.one
abbrev Le {α:Type} (l:List α):Nat:=l.length
