import Derived.SizedLaws
import Derived.Test.YtpnjbfjomebppaaGreatS3D
set_option linter.unusedSimpArgs false
open Go Go.RowKit
set_option linter.unusedVariables false
namespace Go.S3
variable {P:Program} {H:Type} {w:World}
theorem law_run_q {f:FuncId} {ts:List TypeId} {ss:List Sh} {pre:HL ss->Option Bool} {F:HL ss->Bool} (h:Za P f (Zg ss (.one (.one .bool)) pre F)) (hs:ss=ts.map (shT P)) (hk:okTs P ts=true) (hsh:(ss.all okSh)=true)
  {Q:HL ss->Prop} (hall:∀a,okHL ss a->Q a->pre a≠some false/\F a=true)
 {enc:TypeId×Value->H} {r:Reach} {b:Nat} {args:Array Value} {ds:List (DataW H)} {ps:List MemPlace} (hv:∀(j:Nat) t v,ts[j]? =some t->args[j]? =some v->Value.okWide P w r b t v)
  (ha:DataW.TrodAll enc P w 0 (λ_=>true) true ts args.toList ds ps) (hQ:∀a:HL ss,RWs (argC w) (ZkH ss a) args.toList->Q a):
  Calls P f args w λe w'=>e=.returned (.bool true)/\Below w.heap.size w w':=by
 subst hs;obtain⟨a,hr⟩:=ZTb hk (λj t v h1 h2=>hv j t v h1 (by simpa using h2)) ha;have hd:=ZST hsh a;have hvs:=Zc5 hr;obtain⟨_,hok⟩:=ZbX hd hvs;obtain⟨h1,h2⟩:=hall a hok (hQ a hr);have h3:=h.2 (ZfT _ a) (pre a) ((Rs.one (Sh.one R.bool)).enc (F a)) (by simp only[hd]) h1 _ _ w args.toList (ZTc w) hvs;refine Calls.mono h3 λe w' hres=> ?_
 obtain⟨val,x',rfl,hv,_,_,hs⟩:=hres;rw[h2] at hv;have hv:RA x' (.bool false true) val:=hv;cases hv;exact⟨rfl,hs.2.1,hs.2.2.1,hs.2.2.2,hs.1.1,hs.1.2⟩
theorem slot1_few {enc:TypeId×Value->H} {sp:Nat->Bool} {held:Bool} {x:Ctx} {t0 t1 t2 e:TypeId} {tl more:List TypeId} {args:List Value} {ds dm:List (DataW H)} {ps:List MemPlace}
  (hA:DataW.TrodAll enc P w 0 sp held (t0::t1::t2::tl) args ds ps) (ht:P.underlying t1=some (.slice e))
  (hz:(DataW.weightsEach P ((t0::t1::t2::tl)++more) (ds++dm)).all (· <=reachBytes)=true)
  {s0 s2:Sh} {r:R} {sl:List Sh} {a:HL (s0:: .one (.sl r)::s2::sl)} (hr:RWs x (ZkH (s0:: .one (.sl r)::s2::sl) a) args):
  a.2.1.length*P.bytesOf e<=reachBytes:=by
 match args,ds,hA with
 |v0::v1::vs,d0::d1::dt,h=>
  obtain⟨p0,q0,h0,h1,_⟩:=h;obtain⟨p1,q1,⟨fuel,h1⟩,_,_⟩:=h1;have hr1:RA x (.lst r false false false a.2.1) v1:=hr.2.1;have key:∀(ad:Option Addr) (l cap:Nat),DataW.trod enc P w 0 sp held fuel t1 [.slice ad l cap]=some (d1,p1)->a.2.1.length=l->a.2.1.length*P.bytesOf e<=reachBytes:=by
   intro ad l cap h1 hl;rcases DataW.trod_slice ht h1 with ⟨e1,_⟩|⟨ad,l,cap,elems,rest,n,_,e1,e2,_,_,_,hlen,_,_,_⟩
   ·simp only[List.cons.injEq,Value.slice.injEq,and_true] at e1;rw[hl,e1.2.1,Nat.zero_mul];exact Ys _
   ·simp only[List.cons.injEq,Value.slice.injEq,and_true] at e1;simp only[pinj] at e2;have e2:=e2.1;subst e2;have:=sized_slice hz (j:=1) (t:=t1) (e:=e) (elems:=elems.map (·.1)) (spare:=rest.map (·.1)) rfl rfl ht
    rw[List.length_map,List.length_map] at this;refine YS (YH _ ?_) this;omega
  generalize hy:a.2.1=y at hr1 key|-;cases hr1
  ·have hn:y=[]:=by assumption
   exact key _ _ _ h1 (by rw[hn];rfl)
  ·exact key _ _ _ h1 rfl
 |[],_,h=>simp[DataW.TrodAll] at h
 |[_],_::_,h=>obtain⟨_,_,_,h,_⟩:=h;simp[DataW.TrodAll] at h
 |[_],[],h=>simp[DataW.TrodAll] at h
 |_::_::_,[],h=>simp[DataW.TrodAll] at h
 |_::_::_,[_],h=>obtain⟨_,_,_,h,_⟩:=h;simp[DataW.TrodAll] at h
