import Derived.Test.YteaflmalcclnoaaGreatDoorS3A
import Derived.Laws.CopyRow
import Derived.Laws.Rows
import Derived.Laws.AppendOwn
import Derived.Laws.MakeOwn
import Derived.Laws.BytesString
open Go.IntKind (u8 u16 i64)
set_option linter.unusedVariables false
set_option linter.unusedSimpArgs false
namespace Go.S3
def inR (k:IntKind) (n:Int):Prop:=k.min<=n/\n<=k.max
theorem Zaq (k:IntKind) (n:Int):inR k (k.wrap n):=by cases k<;>simp[inR,IntKind.wrap,IntKind.min,IntKind.max,IntKind.signed,IntKind.bits]<;>(try split)<;>omega
def atomic:Value->Prop
 | .agg _| .tuple _=>False
 |_=>True
structure SI where
 blk:Option (Nat×Nat)
 na:Option Addr
 n:Nat
 w:Nat
 ver:Nat
 fc:Nat
structure Ctx where
 own:Nat->Prop
 M:List Nat
 S:List SI
 fz:Nat->Nat->Option Value
def Ctx.bare (x:Ctx):Ctx:={x with M:=[],S:=[]}
def elN (r:R) (l:List r.den) (i:Nat):List A:=r.enc (l.getD i r.Df)
def tipVal (s:SI):Value:=match s.blk with
 |none=>.slice s.na 0 0
 |some (p,cap)=>.slice (some ⟨p,0,none⟩) s.n cap
inductive RA:Ctx->A->Value->Prop
 |bool (x:Ctx) (l b:Bool):RA x (.bool l b) (.bool b)
 |int (x:Ctx) (l:Bool) (k:IntKind) (n:Int) (h:inR k n):RA x (.int l k n) (.int k n)
 |str (x:Ctx) (s:ByteArray):RA x (.str s) (.string s)
 |loc (x:Ctx) (b o p:Nat) (h:nth x.M b=some p):RA x (.loc b o) (.pointer (some ⟨p,o,none⟩))
 |nilp (x:Ctx):RA x .nilp (.pointer none)
 |nilsl (x:Ctx):RA x .nilsl (.slice none 0 0)
 |lst0 (x:Ctx) (r:R) (lit full nn:Bool) (l:List r.den) (a:Option Addr) (cap:Nat) (h:l=[]) (hf:full=true->cap=0) (hn:nn=true->a.isSome=true) (hz:a=none->cap=0):RA x (.lst r lit full nn l) (.slice a 0 cap)
 |lst (x:Ctx) (r:R) (lit full nn:Bool) (l:List r.den) (p o cap:Nat) (c:Nat->Nat->Value) (h:l≠[]) (hf:full=true->cap=l.length) (hcap:l.length<=cap) (hml:l.length<=maxLen)
   (hz:∀i j a,i<l.length->nth (elN r l i) j=some a->x.fz p (o+i*r.wid+j)=some (c i j))
   (hr:∀i j a,i<l.length->nth (elN r l i) j=some a->RA x.bare a (c i j)):
   RA x (.lst r lit full nn l) (.slice (some ⟨p,o,none⟩) l.length cap)
 |tip (x:Ctx) (h ver:Nat) (s:SI) (v:Value) (hs:nth x.S h=some s) (hv:ver<=s.ver) (hval:s.ver=ver->v=tipVal s) (hat:atomic v):RA x (.tip h ver) v
 |fp (x:Ctx) (l:List A) (p o:Nat) (c:Nat->Value) (hf:∀j a,nth l j=some a->x.fz p (o+j)=some (c j))
   (hr:∀j a,nth l j=some a->RA x.bare a (c j)):RA x (.fp l) (.pointer (some ⟨p,o,none⟩))
 |sp (x:Ctx) (h ver:Nat) (i:Int) (o:Nat) (s:SI) (v:Value) (hs:nth x.S h=some s) (hv:ver<=s.ver)
   (hval:s.ver=ver->∃p cap,s.blk=some (p,cap)/\0<=i/\i.toNat<s.n/\v=.pointer (some ⟨p,i.toNat*s.w+o,none⟩)) (hat:atomic v):RA x (.sp h ver i o) v
 |clo (x:Ctx) (f:FuncId) (caps:List A) (cs:List Value) (c:Nat->Value) (hl:len cs=len caps) (hc:∀j a,nth caps j=some a->nth cs j=some (c j))
   (hr:∀j a,nth caps j=some a->RA x a (c j)):RA x (.clo f caps) (.func (.func f) #[] cs.toArray)
 |raw (x:Ctx) (v:Value) (h:atomic v):RA x (.raw v) v
 |junk (x:Ctx) (v:Value) (h:atomic v):RA x .junk v
def RL (x:Ctx):List A->List Value->Prop
 |[],[]=>True
 |a::l,v::r=>RA x a v/\RL x l r
 |_,_=>False
def RW (x:Ctx):W->Value->Prop
 | .one a,v=>RA x a v
 | .agg l,v=>∃C:List Value,v=.agg C.toArray/\RL x l C
 | .junk,_=>True
def RWs (x:Ctx):List W->List Value->Prop
 |[],[]=>True
 |a::l,v::r=>RW x a v/\RWs x l r
 |_,_=>False
def RV (x:Ctx):V->Value->Prop
 | .w a,v=>RW x a v
 | .tup l,v=>∃C:List Value,v=.tuple C.toArray/\RWs x l C
def RVs (x:Ctx):List V->List Value->Prop
 |[],[]=>True
 |a::l,v::r=>RV x a v/\RVs x l r
 |_,_=>False
variable {x:Ctx} {a:A} {v:Value}
theorem RA.atomic (h:RA x a v):atomic v:=by cases h<;>first|trivial|assumption
structure StgOk (x:Ctx) (g:Stg) (s:SI) (w:World):Prop where
 ver:s.ver=g.ver
 n:s.n=g.l.length
 wd:s.w=g.r.wid
 nil:s.blk=none->s.n=0/\s.fc=0
 row:∀p cap,s.blk=some (p,cap)->∃C:List Value,w.heap[p]? =some (.cells C.toArray g.T (0,0))/\C.length=cap*g.r.wid/\s.n<=cap/\cap<=maxLen/\
  (∀i j a,i<s.n->nth (elN g.r g.l i) j=some a->∃v,C[i*g.r.wid+j]? =some v/\RA x.bare a v)/\
  s.fc<=s.n*g.r.wid/\(∀o,o<s.fc->x.fz p o=C[o]?)/\(∀o,s.fc<=o->x.fz p o=none)
 fzn:g.fzn=false->s.fc=0
 ffz:g.ffz=true->s.fc=s.n*g.r.wid
 ub:0<g.ub->g.l.length<g.ub
structure MemR (x:Ctx) (m:Mem) (w:World):Prop where
 fz:∀b o v,x.fz b o=some v->w.cell? ⟨b,o,none⟩=some v
 box:∀b l,nth m.Bx b=some l->∃p C T,nth x.M b=some p/\w.heap[p]? =some (.cells (List.toArray C) T (0,0))/\RL x l C
 stg:∀h g,nth m.Sg h=some g->∃s,nth x.S h=some s/\StgOk x g s w
structure MK (x:Ctx) (m:Mem) (w:World):Prop where
 fresh:∀k,w.heap.size<=k->x.own k
 fz:∀b o v,x.fz b o=some v->w.cell? ⟨b,o,none⟩=some v
 ml:x.M.length=m.Bx.length
 box:∀b l p,nth m.Bx b=some l->nth x.M b=some p->∃C T,w.heap[p]? =some (.cells (List.toArray C) T (0,0))/\RL x l C
 mown:∀b p,nth x.M b=some p->x.own p/\∀o,x.fz p o=none
 inj:∀b b' p,nth x.M b=some p->nth x.M b'=some p->b=b'
 sl:x.S.length=m.Sg.length
 stg:∀h g s,nth m.Sg h=some g->nth x.S h=some s->StgOk x g s w
 sown:∀h s p cap,nth x.S h=some s->s.blk=some (p,cap)->x.own p/\∀b,nth x.M b≠some p
 sinj:∀h h' s s' p cap cap',nth x.S h=some s->nth x.S h'=some s'->s.blk=some (p,cap)->s'.blk=some (p,cap')->h=h'
structure Step (x:Ctx) (w w':World):Prop where
 os:w'.os=w.os
 tape:w'.tape=w.tape
 output:w'.output=w.output
 size:w.heap.size<=w'.heap.size
 block:∀k,¬x.own k->w'.heap[k]? =w.heap[k]?
theorem Step.refl (x:Ctx) (w:World):Step x w w:=⟨rfl,rfl,rfl,Ye _,λ_ _=>rfl⟩
structure SLe (s s':SI):Prop where
 ver:s.ver<=s'.ver
 same:s'.ver=s.ver->s'.blk=s.blk/\s'.n=s.n/\s'.w=s.w/\s'.na=s.na
theorem SLe.refl (s:SI):SLe s s:=⟨Ye _,λ_=>⟨rfl,rfl,rfl,rfl⟩⟩
theorem SLe.trans {a b c:SI} (h:SLe a b) (k:SLe b c):SLe a c:=
 ⟨YD h.ver k.ver,λe=>by
  have h1:c.ver=b.ver:=Nat.le_antisymm (by have:=h.ver;omega) k.ver;have h2:b.ver=a.ver:=by omega
  obtain⟨p1,p2,p3,p4⟩:=k.same h1;obtain⟨q1,q2,q3,q4⟩:=h.same h2
  exact⟨p1.trans q1,p2.trans q2,p3.trans q3,p4.trans q4⟩⟩
theorem SLe.tipVal {s s':SI} (h:SLe s s') (e:s'.ver=s.ver):S3.tipVal s'=S3.tipVal s:=by obtain⟨h1,h2,_,h4⟩:=h.same e;simp only[S3.tipVal,h1,h2,h4]
structure Ext (x x':Ctx):Prop where
 own:x'.own=x.own
 M:∀b p,nth x.M b=some p->nth x'.M b=some p
 S:∀h s,nth x.S h=some s->∃s',nth x'.S h=some s'/\SLe s s'
 fz:∀b o v,x.fz b o=some v->x'.fz b o=some v
 new:∀b o v,x'.fz b o=some v->x.fz b o=some v\/x.own b
theorem Ext.refl (x:Ctx):Ext x x:=⟨rfl,λ_ _ h=>h,λ_ s h=>⟨s,h,.refl s⟩,λ_ _ _ h=>h,λ_ _ _ h=>.inl h⟩
theorem Ext.trans {x y z:Ctx} (h:Ext x y) (k:Ext y z):Ext x z:=
 ⟨k.own.trans h.own,λ_ _ e=>k.M _ _ (h.M _ _ e),λi s e=>let ⟨s1,e1,l1⟩:=h.S i s e;let ⟨s2,e2,l2⟩:=k.S i s1 e1;⟨s2,e2,l1.trans l2⟩,λ_ _ _ e=>k.fz _ _ _ (h.fz _ _ _ e),
  λ_ _ _ e=>(k.new _ _ _ e).elim (λe=>h.new _ _ _ e) (λo=>.inr (h.own▸o))⟩
theorem Step.trans {x y:Ctx} {w w' w'':World} (h:Step x w w') (k:Step y w' w'') (o:y.own=x.own):Step x w w'':=
 ⟨k.os.trans h.os,k.tape.trans h.tape,k.output.trans h.output,YD h.size k.size,λi hi=>(k.block i (by rw[o];exact hi)).trans (h.block i hi)⟩
variable {α:Type}
theorem Zn (n:Nat):nth ([]:List α) n=none:=by cases n<;>rfl
theorem Ext.bare {x x':Ctx} (h:Ext x x'):Ext x.bare x'.bare:=
 ⟨h.own,λb p e=>by simp[Ctx.bare,Zn] at e,λb p e=>by simp[Ctx.bare,Zn] at e,h.fz,h.new⟩
theorem R.enc_len:∀(r:R) (x:r.den),(r.enc x).length=r.wid
 | .int _,_=>rfl
 | .bool,_=>rfl
 | .str,_=>rfl
 | .sl _,_=>rfl
 | .Pq a b,x=>by simp only[R.enc,R.wid,Yd,R.enc_len a,R.enc_len b]
 | .unit,_=>rfl
theorem R.enc_plain:∀(r:R) (x:r.den),∀a∈r.enc x,ZhW a=true
 | .int _,_,a,h=>by simp[R.enc] at h;subst h;rfl
 | .bool,_,a,h=>by simp[R.enc] at h;subst h;rfl
 | .str,_,a,h=>by simp[R.enc] at h;subst h;rfl
 | .sl _,_,a,h=>by simp[R.enc] at h;subst h;rfl
 | .Pq p q,x,a,h=>by
  simp only[R.enc,YV] at h;rcases h with h|h
  ·exact R.enc_plain p _ a h
  ·exact R.enc_plain q _ a h
 | .unit,_,a,h=>by simp[R.enc] at h
theorem Zbd {α:Type}:∀{l:List α} {n:Nat} {a:α},nth l n=some a->a∈l
 |[],n,a,h=>by simp[Zn] at h
 |b::l,0,a,h=>by simp[nth] at h;simp[h]
 |b::l,n+1,a,h=>by simp only[nth] at h;exact YA _ (Zbd h)
def FzLe (x x':Ctx):Prop:=∀b o v,x.fz b o=some v->x'.fz b o=some v
theorem RA.plain (h:RA x a v):∀{x':Ctx},FzLe x x'->ZhW a=true->RA x' a v:=by
 induction h with
 |bool x l b=>intro x' _ _;exact .bool _ _ _
 |int x l k n h=>intro x' _ _;exact .int _ _ _ _ h
 |str x s=>intro x' _ _;exact .str _ _
 |nilsl x=>intro x' _ _;exact .nilsl _
 |lst0 x r lit full nn l a cap h hf hn hz=>intro x' _ _;exact .lst0 _ _ _ _ _ _ _ _ h hf hn hz
 |lst x r lit full nn l p o cap c h hf hcap hml hz hr ih=>
  intro x' hx _;exact .lst _ _ _ _ _ _ _ _ _ c h hf hcap hml (λi j a h1 h2=>hx _ _ _ (hz i j a h1 h2)) (λi j a h1 h2=>ih i j a h1 h2 (x':=x'.bare) hx (R.enc_plain _ _ _ (Zbd h2)))
 |_=>intro x' _ hp;simp[ZhW] at hp
theorem RA.mono (h:RA x a v):∀{x':Ctx},Ext x x'->RA x' a v:=by
 induction h with
 |bool x l b=>intro x' _;exact .bool _ _ _
 |int x l k n h=>intro x' _;exact .int _ _ _ _ h
 |str x s=>intro x' _;exact .str _ _
 |loc x b o p h=>intro x' e;exact .loc _ _ _ _ (e.M _ _ h)
 |nilp x=>intro x' _;exact .nilp _
 |nilsl x=>intro x' _;exact .nilsl _
 |lst0 x r lit full nn l a cap h hf hn hz=>intro x' _;exact .lst0 _ _ _ _ _ _ _ _ h hf hn hz
 |lst x r lit full nn l p o cap c h hf hcap hml hz hr ih=>
  intro x' ex;exact .lst _ _ _ _ _ _ _ _ _ c h hf hcap hml (λi j a h1 h2=>ex.fz _ _ _ (hz i j a h1 h2)) (λi j a h1 h2=>ih i j a h1 h2 ex.bare)
 |tip x h ver s v hs hv hval hat=>
  intro x' ex;obtain⟨s',hs',hle⟩:=ex.S _ _ hs
  exact .tip _ _ _ s' _ hs' (YD hv hle.ver) (λe=>by
   have h1:s.ver=ver:=by have:=hle.ver;omega
   rw[hle.tipVal (by omega)];exact hval h1) hat
 |fp x l p o c hf hr ih=>intro x' ex;exact .fp _ _ _ _ c (λj a h=>ex.fz _ _ _ (hf j a h)) (λj a h=>ih j a h ex.bare)
 |sp x h ver i o s v hs hv hval hat=>
  intro x' ex;obtain⟨s',hs',hle⟩:=ex.S _ _ hs
  exact .sp _ _ _ _ _ s' _ hs' (YD hv hle.ver) (λe=>by
   have h1:s.ver=ver:=by have:=hle.ver;omega
   obtain⟨e1,e2,e3,_⟩:=hle.same (by omega)
   rw[e1,e2,e3];exact hval h1) hat
 |clo x f caps cs c hl hc hr ih=>intro x' ex;exact .clo _ _ _ _ c hl hc (λj a h=>ih j a h ex)
 |raw x v h=>intro x' _;exact .raw _ _ h
 |junk x v h=>intro x' _;exact .junk _ _ h
theorem RL.mono {x x':Ctx} (e:Ext x x'):∀{l:List A} {vs:List Value},RL x l vs->RL x' l vs
 |[],[],_=>trivial
 |_::_,_::_,h=>⟨h.1.mono e,RL.mono e h.2⟩
 |[],_::_,h=>h.elim
 |_::_,[],h=>h.elim
theorem RW.mono {x x':Ctx} (e:Ext x x') {a:W} {v:Value} (h:RW x a v):RW x' a v:=by
 cases a with
 |one a=>exact RA.mono h e
 |agg l=>obtain⟨C,hv,hl⟩:=h;exact⟨C,hv,hl.mono e⟩
 |junk=>trivial
theorem RWs.mono {x x':Ctx} (e:Ext x x'):∀{l:List W} {vs:List Value},RWs x l vs->RWs x' l vs
 |[],[],_=>trivial
 |_::_,_::_,h=>⟨h.1.mono e,RWs.mono e h.2⟩
 |[],_::_,h=>h.elim
 |_::_,[],h=>h.elim
theorem RV.mono {x x':Ctx} (e:Ext x x') {a:V} {v:Value} (h:RV x a v):RV x' a v:=by
 cases a with
 |w a=>exact RW.mono e h
 |tup l=>obtain⟨C,hv,hl⟩:=h;exact⟨C,hv,hl.mono e⟩
theorem RVs.mono {x x':Ctx} (e:Ext x x'):∀{l:List V} {vs:List Value},RVs x l vs->RVs x' l vs
 |[],[],_=>trivial
 |_::_,_::_,h=>⟨h.1.mono e,RVs.mono e h.2⟩
 |[],_::_,h=>h.elim
 |_::_,[],h=>h.elim
theorem Zad {α:Type}:∀l:List α,len l=l.length
 |[]=>rfl
 |_::l=>by simp[len,Zad l]
theorem Zi {α:Type}:∀(l:List α) (n:Nat),nth l n=l[n]?
 |[],_=>by simp[nth]
 |_::_,0=>by simp[nth]
 |_::l,n+1=>by simp[nth,Zi l n]
theorem ZH {α:Type}:∀(l:List α) (n:Nat) (x:α),setN l n x=l.set n x
 |[],_,_=>by simp[setN]
 |_::_,0,_=>by simp[setN]
 |_::l,n+1,x=>by simp[setN,ZH l n]
theorem ZcZ {α:Type}:∀(n:Nat) (l:List α),Zdk n l=l.drop n
 |0,l=>by simp[Zdk]
 |_+1,[]=>by simp[Zdk]
 |n+1,_::l=>by simp[Zdk,ZcZ n l]
theorem ZdE {α:Type}:∀(n:Nat) (l:List α),Z0 n l=l.take n
 |0,l=>by simp[Z0]
 |_+1,[]=>by simp[Z0]
 |n+1,_::l=>by simp[Z0,ZdE n l]
theorem Zhf {α:Type}:∀(n:Nat) (l r:List α),ZpN n l=some r->r=l.take n/\n<=l.length
 |0,l,r,h=>by simp[ZpN] at h;simp[h]
 |_+1,[],r,h=>by simp[ZpN] at h
 |n+1,a::l,r,h=>by
  simp only[ZpN] at h;split at h
  ·rename_i r' e;obtain⟨h1,h2⟩:=Zhf n l r' e;simp only[oinj] at h;subst h;simp[h1];omega
  ·simp at h
theorem ZEH:∀(l:List Nat) (n:Nat),memN l n=true↔n∈l
 |[],n=>by simp[memN]
 |a::l,n=>by have h:=ZEH l n;simp only[memN,YM,h,Ys,Yt];exact⟨λh=>h.imp Eq.symm id,λh=>h.imp Eq.symm id⟩
theorem RL.length {x:Ctx}:∀{l:List A} {vs:List Value},RL x l vs->l.length=vs.length
 |[],[],_=>rfl
 |_::l,_::r,h=>by have:=RL.length (l:=l) (vs:=r) h.2;simp only[List.length_cons,this]
 |[],_::_,h=>h.elim
 |_::_,[],h=>h.elim
theorem RL.nth {x:Ctx}:∀{l:List A} {vs:List Value},RL x l vs->∀(j:Nat) (a:A),nth l j=some a->∃v,vs[j]? =some v/\RA x a v
 |[],[],_,j,a,e=>by simp[S3.nth] at e
 |b::l,v::r,h,0,a,e=>by simp[S3.nth] at e;subst e;exact⟨v,by simp,h.1⟩
 |b::l,v::r,h,j+1,a,e=>by simp only[S3.nth] at e;simpa using RL.nth h.2 j a e
 |[],_::_,h,_,_,_=>h.elim
 |_::_,[],h,_,_,_=>h.elim
theorem RL.of_nth {x:Ctx}:∀{l:List A} {vs:List Value},l.length=vs.length->(∀(j:Nat) (a:A),S3.nth l j=some a->∃v,vs[j]? =some v/\RA x a v)->RL x l vs
 |[],[],_,_=>trivial
 |[],_::_,h,_=>by simp at h
 |_::_,[],h,_=>by simp at h
 |a::l,v::r,h,k=>by refine⟨?_,RL.of_nth (by simpa using h) λj b e=>by simpa using k (j+1) b e⟩;obtain⟨u,h1,h2⟩:=k 0 a rfl;simp at h1;subst h1;exact h2
variable {l:List A} {vs:List Value}
theorem RL.drop (h:RL x l vs) (n:Nat):RL x (l.drop n) (vs.drop n):=by
 induction n generalizing l vs with
 |zero=>simpa using h
 |succ n ih=>
  match l,vs,h with
  |[],[],_=>trivial
  |_::_,_::_,h=>simpa using ih h.2
theorem RL.take (h:RL x l vs) (n:Nat):RL x (l.take n) (vs.take n):=by
 induction n generalizing l vs with
 |zero=>trivial
 |succ n ih=>
  match l,vs,h with
  |[],[],_=>trivial
  |_::_,_::_,h=>simpa using ⟨h.1,ih h.2⟩
theorem RL.set (h:RL x l vs) (n:Nat) (ha:RA x a v):RL x (l.set n a) (vs.set n v):=by
 induction n generalizing l vs with
 |zero=>
  match l,vs,h with
  |[],[],_=>trivial
  |_::_,_::_,h=>exact⟨ha,h.2⟩
 |succ n ih=>
  match l,vs,h with
  |[],[],_=>trivial
  |_::_,_::_,h=>simpa using ⟨h.1,ih h.2⟩
theorem RL.append {x:Ctx}:∀{l l':List A} {vs vs':List Value},RL x l vs->RL x l' vs'->RL x (l++l') (vs++vs')
 |[],_,[],_,_,h'=>by simpa using h'
 |_::_,_,_::_,_,h,h'=>⟨h.1,RL.append h.2 h'⟩
 |[],_,_::_,_,h,_=>h.elim
 |_::_,_,[],_,h,_=>h.elim
structure RF (x:Ctx) (sl:List V) (t:Array Value):Prop where
 size:sl.length=t.size
 slot:∀(i:Nat) (v:V),nth sl i=some v->RV x v (t.getD i undef)
theorem RF.mono {x x':Ctx} {sl:List V} {t:Array Value} (h:RF x sl t) (e:Ext x x'):RF x' sl t:=⟨h.size,λi v hv=>(h.slot i v hv).mono e⟩
structure Rel (x:Ctx) (s:St) (a:Act) (w:World):Prop where
 f:RF x s.Sl a.tmps
 m:MK x s.mem w
 d:a.defers=[]
variable {u:Value}
theorem RF.set {sl:List V} {t:Array Value} (h:RF x sl t) (d:Nat) {v:V} (hv:RV x v u):RF x (setN sl d v) (t.setIfInBounds d u):=by
 refine⟨by simp[ZH,h.size],λi v' e=> ?_⟩;rw[ZH,Zi] at e;by_cases hd:d=i
 ·subst hd;have hlt:d<sl.length:=by
   rcases Yae d sl.length with h'|h'
   ·exact h'
   ·rw[List.set_eq_of_length_le h'] at e;rw[Y0 h'] at e;simp at e
  have hlt':d<t.size:=h.size▸hlt;rw[Yay hlt] at e;simp only[oinj] at e;subst e;simpa [Array.getD,hlt'] using hv
 ·rw[Yao hd] at e;have:=h.slot i v' (by rw[Zi];exact e);have h2:(t.setIfInBounds d u).getD i undef=t.getD i undef:=by simp[YL,hd]
  rw[h2];exact this
theorem Zyc (x:Ctx) (h:ZFt v=some a):RA x a v:=by
 unfold ZFt at h;split at h<;>(try simp only[oinj,reduceCtorEq] at h)<;>(try subst h)
 ·exact .bool _ _ _
 ·rename_i k n;split at h
  ·rename_i hk;simp only[Yb,Yf] at hk;simp only[oinj] at h;subst h;exact .int _ _ _ _ hk
  ·simp at h
 ·exact .str _ _
 ·exact .nilp _
 ·exact .nilsl _
 ·exact .raw _ _ trivial
 ·exact .raw _ _ trivial
 ·exact .raw _ _ trivial
theorem Zrm (x:Ctx):∀{l:List Value} {r:List A},ZpE l=some r->RL x r l
 |[],r,h=>by simp[ZpE] at h;subst h;trivial
 |v::l,r,h=>by
  simp only[ZpE] at h;split at h
  ·rename_i a r' h1 h2;simp only[oinj] at h;subst h;exact⟨Zyc x h1,Zrm x h2⟩
  ·simp at h
variable {y:W}
theorem ZqX (x:Ctx) (h:ofValue v=some y):RW x y v:=by
 unfold ofValue at h;split at h
 ·rename_i cs;rw[YB] at h;obtain⟨r,h1,h2⟩:=h;subst h2;exact⟨cs.toList,by simp,Zrm x h1⟩
 ·rw[YB] at h;obtain⟨r,h1,h2⟩:=h;subst h2;exact Zyc x h1
theorem Zdz {s:St} {a:Act} (hf:RF x s.Sl a.tmps) {o:Operand} {v:V} (h:opd s o=some v):RV x v (a.eval o):=by
 cases o with
 |tmp t=>exact hf.slot t v h
 |const u=>
  simp only[opd,YB] at h;obtain⟨y,h1,h2⟩:=h;subst h2;exact ZqX x h1
 |global g=>simp[opd] at h
 |func f=>
  simp only[opd,oinj] at h;subst h;exact .clo x f [] [] (λ_=>undef) rfl (λj a h=>by cases j<;>simp[nth] at h) (λj a h=>by cases j<;>simp[nth] at h)
theorem ZwT {s:St} {o:Operand} (h:opd1 s o=some a):opd s o=some (.w (.one a)):=by
 simp only[opd1,Yar] at h;obtain⟨v,h1,h2⟩:=h;unfold V.one at h2;split at h2
 ·simp only[oinj] at h2;subst h2;exact h1
 ·simp at h2
theorem Zak {s:St} {a:Act} (hf:RF x s.Sl a.tmps) {o:Operand} {b:A} (h:opd1 s o=some b):RA x b (a.eval o):=Zdz hf (ZwT h)
theorem W.cells_ok (h:RW x y v) (hl:y.cells=some l):RL x l v.cells.toList:=by
 cases y with
 |one a=>
  simp only[W.cells,oinj] at hl;subst hl;have h1:RA x a v:=h;have h2:=h1.atomic;have h3:v.cells= #[v]:=by cases v<;>first|rfl|exact h2.elim
  rw[h3];exact⟨h1,Tv⟩
 |agg l'=>
  simp only[W.cells,oinj] at hl;subst hl;obtain⟨C,h1,h2⟩:=h;subst h1;simpa [Value.cells] using h2
 |junk=>simp[W.cells] at hl
theorem Zua {s:St} {a:Act} (hf:RF x s.Sl a.tmps) {o:Operand} (h:opdC s o=some l):RL x l (a.eval o).cells.toList:=by
 simp only[opdC,Yar] at h;obtain⟨v,h1,h2⟩:=h;have h3:=Zdz hf h1;cases v with
 |w y=>exact W.cells_ok h3 h2
 |tup l=>simp[V.cells] at h2
theorem Zko {x:Ctx} {s:St} {a:Act} (hf:RF x s.Sl a.tmps):∀{l:List Operand} {vs:List V},opds s l=some vs->RVs x vs (l.map a.eval)
 |[],vs,h=>by simp[opds] at h;subst h;trivial
 |o::l,vs,h=>by
  simp only[opds] at h;split at h
  ·rename_i v r h1 h2;simp only[oinj] at h;subst h;exact⟨Zdz hf h1,Zko hf h2⟩
  ·simp at h
theorem RL.atomic {x:Ctx}:∀{l:List A} {vs:List Value},RL x l vs->∀v∈vs,S3.atomic v
 |[],[],_,v,hv=>by simp at hv
 |_::_,_::_,h,v,hv=>by
  rcases Ys.1 hv with rfl|hv
  ·exact h.1.atomic
  ·exact RL.atomic h.2 v hv
 |[],_::_,h,_,_=>h.elim
 |_::_,[],h,_,_=>h.elim
theorem mB_eq (c l1 x l2 y:Bool):∃l,mB c l1 x l2 y=.bool l (cond c x y):=by cases c<;>cases l1<;>cases x<;>cases l2<;>cases y<;>exact⟨_,rfl⟩
theorem mI_eq (c:Bool) (k:IntKind) (l1:Bool) (x:Int) (l2:Bool) (y:Int):∃l,mI c k l1 x l2 y=.int l k (cond c x y):=by
 unfold mI;split
 ·rename_i h;simp only[Yb,Yf] at h;obtain⟨_,rfl⟩:=h;exact⟨true,by cases c<;>rfl⟩
 ·exact⟨_,rfl⟩
structure Cut (nb:Nat) (tm:Nat->Nat->Nat->Option Nat) (c:Bool) (x x':Ctx):Prop where
 M:∀b,b<nb->nth x'.M b=nth x.M b
 tip:∀h v v' m,tm h v v'=some m->∀val,RA x (.tip h (cond c v v')) val->RA x' (.tip h m) val
 fz:FzLe x x'
theorem Cut.refl (nb:Nat) (c:Bool) (x:Ctx):Cut nb tip1 c x x:=by
 refine⟨λ_ _=>rfl,λh v v' m hm val hv=> ?_,λ_ _ _ h=>h⟩;unfold tip1 at hm;split at hm
 ·rename_i e;simp only[Yt] at e;subst e;simp only[oinj] at hm;subst hm;cases c<;>exact hv
 ·simp at hm
variable {r:R} {lit f:Bool}
theorem RA.lst_weak {lit' f' g g':Bool} {l:List r.den} (h:RA x (.lst r lit f g l) v) (hf:f'=true->f=true) (hg:g'=true->g=true):RA x (.lst r lit' f' g' l) v:=by
 cases h with
 |lst0 _ _ _ _ _ _ a cap h1 h2 h3 h4=>exact .lst0 _ _ _ _ _ _ _ _ h1 (λe=>h2 (hf e)) (λe=>h3 (hg e)) h4
 |lst _ _ _ _ _ _ p o cap c h1 h2 hc hm h3 h4=>exact .lst _ _ _ _ _ _ _ _ _ c h1 (λe=>h2 (hf e)) hc hm h3 h4
theorem RA.nil_lst (h:RA x .nilsl v):RA x (.lst r lit f false []) v:=by cases h;exact .lst0 _ _ _ _ _ _ _ _ rfl (λ_=>rfl) (λe=>by simp at e) (λ_=>rfl)
variable {nb:Nat} {c:Bool} {x':Ctx}
theorem ZWD {tm:Nat->Nat->Nat->Option Nat} (hx:Cut nb tm c x x') {b z:A} (h:mA c tm nb a b=some z) (hv:RA x (cond c a b) v):RA x' z v:=by
 unfold mA at h;split at h
 ·rename_i l1 p l2 q;simp only[oinj] at h;obtain⟨l,hl⟩:=mB_eq c l1 p l2 q;rw[<-h,hl];cases c<;>(cases hv;exact .bool _ _ _)
 ·rename_i l1 k p l2 k' q;split at h
  ·rename_i hk;have:=ZdW hk;subst this;simp only[oinj] at h;obtain⟨l,hl⟩:=mI_eq c k l1 p l2 q;rw[<-h,hl];cases c<;>(cases hv;exact .int _ _ _ _ (by assumption))
  ·simp at h
 ·rename_i b o b' o';split at h
  ·rename_i hk;simp only[Yb,Yt,Yaf] at hk;obtain⟨⟨rfl,rfl⟩,hlt⟩:=hk;simp only[oinj] at h;subst h;cases c<;>(cases hv;rename_i p hp;exact .loc _ _ _ _ (by rw[hx.M _ hlt];exact hp))
  ·simp at h
 ·rename_i b p b' q;split at h
  ·rename_i hk;simp only[Yt] at hk;subst hk;rw[YB] at h;obtain⟨m,h1,h2⟩:=h;subst h2;refine hx.tip b p q m h1 v ?_;cases c<;>exact hv
  ·simp at h
 ·rename_i r l1 f g p r' l2 f' g' q;split at h
  ·simp only[oinj] at h;subst h;cases c with
   |true=>exact (RA.lst_weak (f':=f&&f') (g':=g&&g') hv (λe=>by simp at e;exact e.1) (λe=>by simp at e;exact e.1)).plain hx.fz rfl
   |false=>exact (RA.lst_weak (f':=f&&f') (g':=g&&g') hv (λe=>by simp at e;exact e.2) (λe=>by simp at e;exact e.2)).plain hx.fz rfl
  ·simp at h
 ·rename_i r l1 f g q;simp only[oinj] at h;subst h;cases c with
  |true=>exact (RA.nil_lst hv).plain hx.fz rfl
  |false=>exact (RA.lst_weak (f':=false) (g':=false) hv (λe=>by simp at e) (λe=>by simp at e)).plain hx.fz rfl
 ·rename_i r l1 f g q;simp only[oinj] at h;subst h;cases c with
  |true=>exact (RA.lst_weak (f':=false) (g':=false) hv (λe=>by simp at e) (λe=>by simp at e)).plain hx.fz rfl
  |false=>exact (RA.nil_lst hv).plain hx.fz rfl
 ·simp only[oinj] at h;subst h;cases c<;>(cases hv;exact .nilp _)
 ·simp only[oinj] at h;subst h;cases c<;>(cases hv;exact .nilsl _)
 ·simp only[oinj] at h;subst h;cases c<;>exact .junk _ _ hv.atomic
 ·rename_i s t;simp only[oinj] at h;subst h;cases c<;>(cases hv;exact .str _ _)
 ·rename_i f g;split at h
  ·rename_i hk;simp only[Yt] at hk;subst hk;simp only[oinj] at h;subst h;cases c<;>(cases hv;rename_i cs cc hl hc hr;exact .clo _ _ _ _ cc hl (λj a h=>by simp[Zn] at h) (λj a h=>by simp[Zn] at h))
  ·simp at h
 ·simp at h
theorem ZWA {nb:Nat} {tm:Nat->Nat->Nat->Option Nat} {c:Bool} {x x':Ctx} (hx:Cut nb tm c x x'):∀{l r z:List A} {vs:List Value},mL c tm nb l r=some z->RL x (cond c l r) vs->RL x' z vs
 |[],[],z,vs,h,hv=>by
  simp only[mL,oinj] at h;subst h;have:RL x [] vs:=by cases c<;>exact hv
  cases vs with
  |nil=>trivial
  |cons _ _=>exact this.elim
 |a::l,b::r,z,vs,h,hv=>by
  simp only[mL] at h;split at h
  ·rename_i y ys h1 h2;simp only[oinj] at h;subst h;cases vs with
   |nil=>cases c<;>exact hv.elim
   |cons v vs=>
    refine⟨ZWD hx h1 ?_,ZWA hx h2 ?_⟩
    ·cases c<;>exact hv.1
    ·cases c<;>exact hv.2
  ·simp at h
 |[],_::_,_,_,h,_=>by simp[mL] at h
 |_::_,[],_,_,h,_=>by simp[mL] at h
theorem ZYO {tm:Nat->Nat->Nat->Option Nat} (hx:Cut nb tm c x x') {a b z:W} (h:mW c tm nb a b=some z) (hv:RW x (cond c a b) v):RW x' z v:=by
 unfold mW at h;split at h
 ·rename_i p q;rw[YB] at h;obtain⟨r,h1,h2⟩:=h;subst h2;exact ZWD hx h1 (by cases c<;>exact hv)
 ·rename_i p q;rw[YB] at h;obtain⟨r,h1,h2⟩:=h;subst h2;have:∃C:List Value,v=.agg C.toArray/\RL x (cond c p q) C:=by cases c<;>exact hv
  obtain⟨C,hC,hl⟩:=this;exact⟨C,hC,ZWA hx h1 hl⟩
 ·simp only[oinj] at h;subst h;trivial
 ·simp at h
theorem mV_ok {tm:Nat->Nat->Nat->Option Nat} (hx:Cut nb tm c x x') {nm:Bool} {a b z:V} (h:mV c tm nb nm a b=some z) (hv:RV x (cond c a b) v):RV x' z v:=by
 unfold mV at h;split at h
 ·rename_i p q;split at h
  ·rename_i r hr;simp only[oinj] at h;subst h;exact ZYO hx hr (by cases c<;>exact hv)
  ·split at h
   ·simp at h
   ·simp only[oinj] at h;subst h;trivial
 ·simp only[oinj] at h;subst h;trivial
theorem ZNV (k:IntKind) (n:Int) (m:Nat) (h:inR k n):inR k (n.fdiv (2^m)):=by
 have hp:(0:Int)<2^m:=Int.pow_pos (by omega);have h1:n.fdiv (2^m)=n/(2^m):=Int.fdiv_eq_ediv_of_nonneg _ (by omega);rw[h1];unfold inR at*;obtain⟨ha,hb⟩:=h;have hmin:k.min<=0:=by cases k<;>decide
 have hmax:0<=k.max:=by cases k<;>decide
 constructor
 ·by_cases hn:0<=n
  ·have:=Int.ediv_nonneg hn (by omega:(0:Int)<=2^m);omega
  ·have h2:n<=n/2^m:=by rw[Int.le_ediv_iff_mul_le hp];have:n*2^m<=n*1:=Int.mul_le_mul_of_nonpos_left (by omega) (by omega);omega
   omega
 ·by_cases hn:0<=n
  ·have:=Int.ediv_le_self (2^m) hn;omega
  ·have:n/2^m<0:=Int.ediv_neg_of_neg_of_pos (by omega) hp;omega
theorem ZRR (k:IntKind) (n m:Int) (h:inR k n):inR k (n.tmod m):=by
 unfold inR at*;obtain⟨ha,hb⟩:=h;have hmin:k.min<=0:=by cases k<;>decide
 have hmax:0<=k.max:=by cases k<;>decide
 have h1:(n.tmod m).natAbs<=n.natAbs:=by rw[Int.natAbs_tmod];exact Nat.mod_le _ _
 rcases Int.le_total 0 n with hn|hn
 ·have:=Int.tmod_nonneg m hn;omega
 ·have h2:n.tmod m<=0:=by have:=Int.tmod_nonneg m (a:= -n) (by omega);rw[Int.neg_tmod] at this;omega
  omega
theorem ZcM {l:Bool} {k:IntKind} {n:Int} (h:RA x (.int l k n) v):v=.int k n/\inR k n:=by
 cases h with
 |int _ _ _ _ h=>exact⟨rfl,h⟩
theorem Zc0 {l b:Bool} (h:RA x (.bool l b) v):v=.bool b:=by cases h;rfl
variable {w:World}
theorem ZJC {P:Program} (k k':IntKind) (p q:Int) (h:0<=q):
  (Op.shift .shl k p k' q).run P w=.ok (.int k (shlI k p q)) w:=by unfold Op.shift shlI;rw[Y3 (by omega)];simp[go_sem]
theorem ZJB {P:Program} (k k':IntKind) (p q:Int) (h:0<=q):
  (Op.shift .shr k p k' q).run P w=.ok (.int k (shrI k p q)) w:=by unfold Op.shift shrI;rw[Y3 (by omega)];simp[go_sem]
def ZgJ:Value->Bool
 | .bool _| .pointer _| .agg _| .slice _ _ _=>true
 |_=>false
variable {t:TypeId}
theorem Zll {P:Program} (d:Nat) (hd:P.underlying t=some .bool) (p q:Bool):(Op.equalIn (d+1) t (.bool p) (.bool q)).run P w=.ok (p==q) w:=by simp[Op.equalIn,run_underlying hd]
variable {e:TypeId}
theorem ZmJ {P:Program} (d:Nat) (hd:P.underlying t=some (.pointer e)) (p:Option Addr):(Op.equalIn (d+1) t (.pointer none) (.pointer p)).run P w=.ok p.isNone w:=by cases p<;>simp[Op.equalIn,run_underlying hd]
theorem Zia {P:Program} (d:Nat) (hd:P.underlying t=some (.pointer e)) (p:Addr):(Op.equalIn (d+1) t (.pointer (some p)) (.pointer none)).run P w=.ok false w:=by simp[Op.equalIn,run_underlying hd]
theorem ZhP {P:Program} (hd:P.underlying t=some .bool) (p q:Bool):(Op.equal t (.bool p) (.bool q)).run P w=.ok (p==q) w:=Zll 9999 hd p q
theorem ZdX {P:Program} (hd:P.underlying t=some (.pointer e)) (p:Option Addr):(Op.equal t (.pointer none) (.pointer p)).run P w=.ok p.isNone w:=ZmJ 9999 hd p
theorem Zfi {P:Program} (hd:P.underlying t=some (.pointer e)) (p:Addr):(Op.equal t (.pointer (some p)) (.pointer none)).run P w=.ok false w:=Zia 9999 hd p
theorem Zgy {P:Program} (d:Nat) (hd:P.underlying t=some (.slice e)) (a:Option Addr) (n m n' m':Nat):(Op.equalIn (d+1) t (.slice none n m) (.slice a n' m')).run P w=.ok a.isNone w:=by cases a<;>simp[Op.equalIn,run_underlying hd]
theorem Zgf {P:Program} (d:Nat) (hd:P.underlying t=some (.slice e)) (a:Addr) (n m n' m':Nat):(Op.equalIn (d+1) t (.slice (some a) n m) (.slice none n' m')).run P w=.ok false w:=by simp[Op.equalIn,run_underlying hd]
theorem Zeh {P:Program} (hd:P.underlying t=some (.slice e)) (a:Option Addr) (n m n' m':Nat):(Op.equal t (.slice none n m) (.slice a n' m')).run P w=.ok a.isNone w:=Zgy 9999 hd a n m n' m'
theorem ZdN {P:Program} (hd:P.underlying t=some (.slice e)) (a:Addr) (n m n' m':Nat):(Op.equal t (.slice (some a) n m) (.slice none n' m')).run P w=.ok false w:=Zgf 9999 hd a n m n' m'
theorem Zlf {P:Program} {a b:Value} (op:BinOp) (ox oy:Operand) (ha:∀c,a≠ .agg c) (hn:a≠ .nilIface):(eqGuard op t ox oy a b).run P w=.ok () w:=by cases a<;>(try exact absurd rfl hn)<;>(try exact absurd rfl (ha _))<;>cases op<;>simp[eqGuard]
theorem Zb8 {P:Program} {a b:Value} {e:Bool} (ox oy:Operand) (ha:∀c,a≠ .agg c) (hn:a≠ .nilIface) (_hb:True) (_hc:True) (hpa:ZgJ a=true) (hpb:ZgJ b=true)
  (h:(Op.equal t a b).run P w=.ok e w):(do eqGuard .eql t ox oy a b;binOp .eql t a b:Sem Value).run P w=.ok (.bool e) w:=by
 have h1:=Zlf (P:=P) (w:=w) (t:=t) (b:=b) .eql ox oy ha hn;have h2:(binOp .eql t a b).run P w=.ok (.bool e) w:=by cases a<;>simp[ZgJ] at hpa<;>cases b<;>simp[ZgJ] at hpb<;>simp only[binOp]<;>simp[go_sem,h]
 simp[go_sem,h1,h2]
theorem Zb7 {P:Program} {a b:Value} {e:Bool} (ox oy:Operand) (ha:∀c,a≠ .agg c) (hn:a≠ .nilIface) (_hb:True) (_hc:True) (hpa:ZgJ a=true) (hpb:ZgJ b=true)
  (h:(Op.equal t a b).run P w=.ok e w):(do eqGuard .neq t ox oy a b;binOp .neq t a b:Sem Value).run P w=.ok (.bool (!e)) w:=by
 have h1:=Zlf (P:=P) (w:=w) (t:=t) (b:=b) .neq ox oy ha hn;have h2:(binOp .neq t a b).run P w=.ok (.bool (!e)) w:=by cases a<;>simp[ZgJ] at hpa<;>cases b<;>simp[ZgJ] at hpb<;>simp only[binOp]<;>simp[go_sem,h]
 simp[go_sem,h1,h2]
theorem Zsq (h:ptrA a=true) (hv:RA x a v):∃p,v=.pointer (some p):=by cases a<;>simp[ptrA] at h<;>cases hv<;>exact⟨_,rfl⟩
variable {va:Value}
theorem ZXj {P:Program} {op:BinOp} {b r:A} {vb:Value} {c:Option Bool} (ox oy:Operand)
  (ha:RA x a va) (hb:RA x b vb) (h:binA (P.underlying t) op a b=some (c,r)) (hc:c≠some false):
  ∃v,(∀w,(do eqGuard op t ox oy va vb;binOp op t va vb:Sem Value).run P w=.ok v w)/\RA x r v:=by
 unfold binA at h;split at h
 ·rename_i l k p l' k' q;obtain⟨rfl,hp⟩:=ZcM ha;obtain⟨rfl,hq⟩:=ZcM hb;split at h
  ·split at h
   ·split at h
    ·rename_i hq0;simp only[Yf] at hq0;simp only[oinj,pinj] at h;obtain⟨_,rfl⟩:=h;exact⟨_,λw=>by simp[eqGuard,binOp,ZJC _ _ _ _ hq0],.int _ _ _ _ (Zaq _ _)⟩
    ·simp at h
   ·simp only[oinj,pinj] at h;obtain⟨rfl,rfl⟩:=h;have hq0:0<=q:=by simpa using hc
    exact⟨_,λw=>by simp[eqGuard,binOp,ZJC _ _ _ _ hq0],.int _ _ _ _ (Zaq _ _)⟩
  ·split at h
   ·split at h
    ·rename_i hq0;simp only[Yf] at hq0;simp only[oinj,pinj] at h;obtain⟨_,rfl⟩:=h;exact⟨_,λw=>by simp[eqGuard,binOp,ZJB _ _ _ _ hq0],.int _ _ _ _ (ZNV _ _ _ hp)⟩
    ·simp at h
   ·simp only[oinj,pinj] at h;obtain⟨rfl,rfl⟩:=h;have hq0:0<=q:=by simpa using hc
    exact⟨_,λw=>by simp[eqGuard,binOp,ZJB _ _ _ _ hq0],.int _ _ _ _ (ZNV _ _ _ hp)⟩
  ·rename_i hshl hshr;split at h
   ·simp at h
   ·rename_i hk;have:=ZdW hk;subst this;split at h
    ·have hq0:q≠0/\r=.int (match l'&&(q !=0) with|true=>l|false=>false) k (k.wrap (p.tdiv q)):=by
      split at h
      ·rename_i e;simp only[oinj,pinj] at h;obtain⟨rfl,rfl⟩:=h;simp only[Yb,bne_iff_ne] at e;exact⟨e.2,by rw[e.1,show (q !=0)=true by simpa using e.2];rfl⟩
      ·rename_i e;simp only[oinj,pinj] at h;obtain⟨rfl,rfl⟩:=h;exact⟨by simpa using hc,by rw[e]⟩
     obtain⟨hq0,rfl⟩:=hq0;exact⟨_,λw=>by simp[eqGuard,binOp,Op.intDiv,hq0,go_sem],.int _ _ _ _ (Zaq _ _)⟩
    ·have hq0:q≠0/\r=.int (match l'&&(q !=0) with|true=>l|false=>false) k (p.tmod q):=by
      split at h
      ·rename_i e;simp only[oinj,pinj] at h;obtain⟨rfl,rfl⟩:=h;simp only[Yb,bne_iff_ne] at e;exact⟨e.2,by rw[e.1,show (q !=0)=true by simpa using e.2];rfl⟩
      ·rename_i e;simp only[oinj,pinj] at h;obtain⟨rfl,rfl⟩:=h;exact⟨by simpa using hc,by rw[e]⟩
     obtain⟨hq0,rfl⟩:=hq0;exact⟨_,λw=>by simp[eqGuard,binOp,Op.intDiv,hq0,go_sem],.int _ _ _ _ (ZRR _ _ _ hp)⟩
    ·rename_i hquo hrem;split at h
     ·rename_i n hn;simp only[oinj,pinj] at h;obtain⟨rfl,rfl⟩:=h;cases op<;>simp only[ZT4,ZZm,oinj,reduceCtorEq] at hn<;>subst hn<;>
       exact⟨_,λw=>by simp[eqGuard,binOp,Op.intArith,Op.intBits,andI,orI,xorI,Z1,go_sem],.int _ _ _ _ (Zaq _ _)⟩
     ·split at h
      ·rename_i e he;simp only[oinj,pinj] at h;obtain⟨rfl,rfl⟩:=h;cases op<;>simp only[cmpI,oinj,reduceCtorEq] at he<;>subst he<;>
        exact⟨_,λw=>by simp[eqGuard,binOp,Op.intCmp,go_sem],.bool _ _ _⟩
      ·simp at h
 ·rename_i l p l' q;have:=Zc0 ha;subst this;have:=Zc0 hb;subst this;split at h
  ·rename_i hd;simp only[oinj,pinj] at h;obtain⟨rfl,rfl⟩:=h;exact⟨_,λw=>Zb8 ox oy (by simp) (by simp) trivial trivial rfl rfl (ZhP hd p q),.bool _ _ _⟩
  ·rename_i hd;simp only[oinj,pinj] at h;obtain⟨rfl,rfl⟩:=h;exact⟨_,λw=>Zb7 ox oy (by simp) (by simp) trivial trivial rfl rfl (ZhP hd p q),.bool _ _ _⟩
  ·simp at h
 ·cases ha;cases hb;split at h
  ·rename_i hd;simp only[oinj,pinj] at h;obtain⟨rfl,rfl⟩:=h;exact⟨_,λw=>Zb8 ox oy (by simp) (by simp) trivial trivial rfl rfl (ZdX hd _),.bool _ _ _⟩
  ·rename_i hd;simp only[oinj,pinj] at h;obtain⟨rfl,rfl⟩:=h;exact⟨_,λw=>Zb7 ox oy (by simp) (by simp) trivial trivial rfl rfl (ZdX hd _),.bool _ _ _⟩
  ·simp at h
 ·rename_i p q;cases ha;cases hb;split at h
  ·simp only[oinj,pinj] at h;obtain⟨rfl,rfl⟩:=h;exact⟨_,λw=>by simp[eqGuard,binOp,Op.stringOp,go_sem],.bool _ _ _⟩
  ·simp only[oinj,pinj] at h;obtain⟨rfl,rfl⟩:=h;exact⟨_,λw=>by simp[eqGuard,binOp,Op.stringOp,go_sem],.bool _ _ _⟩
  ·simp only[oinj,pinj] at h;obtain⟨rfl,rfl⟩:=h;have hq0:¬(((p.size+q.size:Nat):Int)>i64.max):=by simpa using hc
   refine⟨_,λw=> ?_,.str _ _⟩;simp only[eqGuard,binOp,Op.stringOp];rw[Y3 hq0];simp[go_sem]
  ·simp at h
 ·cases ha;cases hb;split at h
  ·rename_i hd;simp only[oinj,pinj] at h;obtain⟨rfl,rfl⟩:=h;exact⟨_,λw=>Zb8 ox oy (by simp) (by simp) trivial trivial rfl rfl (Zeh hd _ _ _ _ _),.bool _ _ _⟩
  ·rename_i hd;simp only[oinj,pinj] at h;obtain⟨rfl,rfl⟩:=h;exact⟨_,λw=>Zb7 ox oy (by simp) (by simp) trivial trivial rfl rfl (Zeh hd _ _ _ _ _),.bool _ _ _⟩
  ·simp at h
 ·have hsl:∃p n m,va=.slice (some p) n m:=by
   cases ha with
   |lst0 _ _ _ _ _ _ a cap h1 h2 h3 _=>
    obtain⟨p,hp⟩:=YaY.1 (h3 rfl);exact⟨p,_,_,by rw[hp]⟩
   |lst _ _ _ _ _ _ p o cap c h1 h2 hc hm h3 h4=>exact⟨_,_,_,rfl⟩
  obtain⟨p,n,m,rfl⟩:=hsl;cases hb;split at h
  ·rename_i hd;simp only[oinj,pinj] at h;obtain⟨rfl,rfl⟩:=h;exact⟨_,λw=>Zb8 ox oy (by simp) (by simp) trivial trivial rfl rfl (ZdN hd _ _ _ _ _),.bool _ _ _⟩
  ·rename_i hd;simp only[oinj,pinj] at h;obtain⟨rfl,rfl⟩:=h;exact⟨_,λw=>Zb7 ox oy (by simp) (by simp) trivial trivial rfl rfl (ZdN hd _ _ _ _ _),.bool _ _ _⟩
  ·simp at h
 ·split at h
  ·rename_i hp hd;simp only[oinj,pinj] at h;obtain⟨rfl,rfl⟩:=h;obtain⟨p,rfl⟩:=Zsq hp ha;cases hb;exact⟨_,λw=>Zb8 ox oy (by simp) (by simp) trivial trivial rfl rfl (Zfi hd _),.bool _ _ _⟩
  ·rename_i hp hd;simp only[oinj,pinj] at h;obtain⟨rfl,rfl⟩:=h;obtain⟨p,rfl⟩:=Zsq hp ha;cases hb;exact⟨_,λw=>Zb7 ox oy (by simp) (by simp) trivial trivial rfl rfl (Zfi hd _),.bool _ _ _⟩
  ·simp at h
 ·split at h
  ·rename_i hp hd;simp only[oinj,pinj] at h;obtain⟨rfl,rfl⟩:=h;obtain⟨p,rfl⟩:=Zsq hp hb;cases ha;exact⟨_,λw=>Zb8 ox oy (by simp) (by simp) trivial trivial rfl rfl (ZdX hd _),.bool _ _ _⟩
  ·rename_i hp hd;simp only[oinj,pinj] at h;obtain⟨rfl,rfl⟩:=h;obtain⟨p,rfl⟩:=Zsq hp hb;cases ha;exact⟨_,λw=>Zb7 ox oy (by simp) (by simp) trivial trivial rfl rfl (ZdX hd _),.bool _ _ _⟩
  ·simp at h
 ·simp at h
theorem ZXy {P:Program} {op:UnOp} {r:A} (ha:RA x a va) (h:unA op a=some r):
  ∃v,(∀w,(Op.unary op va).run P w=.ok v w)/\RA x r v:=by
 unfold unA at h;split at h
 ·have:=Zc0 ha;subst this;simp only[oinj] at h;subst h;exact⟨_,λw=>by simp[Op.unary,go_sem],.bool _ _ _⟩
 ·obtain⟨rfl,hp⟩:=ZcM ha;simp only[oinj] at h;subst h;exact⟨_,λw=>by simp[Op.unary,Op.intArith,go_sem],.int _ _ _ _ (Zaq _ _)⟩
 ·obtain⟨rfl,hp⟩:=ZcM ha;simp only[oinj] at h;subst h;exact⟨_,λw=>by simp[Op.unary,Op.intBits,notI,go_sem],.int _ _ _ _ (Zaq _ _)⟩
 ·simp at h
variable {n:Nat}
theorem ZbX {l:List α} {a b:α} (h:nth l n=some a):nth (l++[b]) n=some a:=by rw[Zi] at*;have:=(YE.1 h).1;rw[Yp this];exact h
theorem Zs {l:List α} {a b:α} (h:nth (l++[b]) n=some a):nth l n=some a\/(n=l.length/\a=b):=by
 rw[Zi] at*;rcases Nat.lt_trichotomy n l.length with h1|h1|h1
 ·rw[Yp h1] at h;exact .inl h
 ·subst h1;simp at h;exact .inr ⟨rfl,h.symm⟩
 ·rw[Y0 (by simp;omega)] at h;simp at h
theorem ZZ {l:List α} {a:α} (h:nth l n=some a):n<l.length:=by rw[Zi] at h;exact (YE.1 h).1
theorem ZcT {l:List α} (h:n<l.length):∃a,nth l n=some a:=⟨_,by rw[Zi];exact Yg h⟩
theorem Zen {l:List α} {m:Nat} {a x:α} (h:nth (setN l n x) m=some a):(n=m/\a=x/\n<l.length)\/(n≠m/\nth l m=some a):=by
 rw[Zi,ZH] at h;by_cases e:n=m
 ·subst e;have hlt:n<l.length:=by have:=(YE.1 h).1;simpa using this
  rw[Yay hlt] at h;simp only[oinj] at h;exact .inl ⟨rfl,h.symm,hlt⟩
 ·rw[Yao e] at h;exact .inr ⟨e,by rw[Zi];exact h⟩
theorem ZE {l:List α} {a x:α} (h:nth l n=some a):nth (setN l n x) n=some x:=by rw[Zi,ZH,Yay (ZZ h)]
theorem ZB {l:List α} {m:Nat} {x:α} (h:n≠m):nth (setN l n x) m=nth l m:=by rw[Zi,ZH,Yao h,Zi]
theorem Zin {k:Nat} {o:Obj} (h:w.heap[k]? =some o):k<w.heap.size:=(Yv.1 h).1
variable {p:Nat} {C:List Value}
theorem Zaj {T:TypeId} {f:Nat×Nat} (h:w.heap[p]? =some (.cells C.toArray T f)) (j:Nat):w.cell? ⟨p,j,none⟩=C[j]? :=by simp[World.cell?,h]
theorem Zd3 (p o n:Nat):(⟨p,o,none⟩:Addr).add n=⟨p,o+n,none⟩:=by unfold Addr.add;split<;>simp_all
variable {m:Mem} {b o:Nat}
theorem MK.fz_lt (h:MK x m w) (e:x.fz b o=some v):b<w.heap.size:=by
 have:=h.fz b o v e;simp only[World.cell?] at this;split at this
 ·rename_i hb;exact Zin hb
 ·simp at this
theorem MK.fz_new (h:MK x m w) (e:w.heap.size<=b) (o:Nat):x.fz b o=none:=by
 cases hf:x.fz b o with
 |none=>rfl
 |some v=>have:=h.fz_lt hf;omega
theorem MK.box_of (h:MK x m w) (e:nth x.M b=some p):∃l,nth m.Bx b=some l:=ZcT (h.ml▸ZZ e)
theorem MK.M_of (h:MK x m w) (e:nth m.Bx b=some l):∃p,nth x.M b=some p:=ZcT (h.ml▸ZZ e)
theorem MK.stg_of (h:MK x m w) {p:SI} (e:nth x.S b=some p):∃l,nth m.Sg b=some l:=ZcT (h.sl▸ZZ e)
theorem MK.S_of (h:MK x m w) {l:Stg} (e:nth m.Sg b=some l):∃p,nth x.S b=some p:=ZcT (h.sl▸ZZ e)
theorem MK.M_lt (h:MK x m w) (e:nth x.M b=some p):p<w.heap.size:=by obtain⟨l,hl⟩:=h.box_of e;obtain⟨C,T,hC,_⟩:=h.box b l p hl e;exact Zin hC
variable {i cap:Nat} {s:SI}
theorem MK.S_lt (h:MK x m w) (e:nth x.S i=some s) (hb:s.blk=some (p,cap)):p<w.heap.size:=by obtain⟨g,hg⟩:=h.stg_of e;obtain⟨C,hC,_⟩:=(h.stg i g s hg e).row p cap hb;exact Zin hC
theorem MK.toR (h:MK x m w):MemR x m w where
 fz:=h.fz
 box:=λb l hl=>by obtain⟨p,hp⟩:=h.M_of hl;obtain⟨C,T,h1,h2⟩:=h.box b l p hl hp;exact⟨p,C,T,hp,h1,h2⟩
 stg:=λi g hg=>by obtain⟨s,hs⟩:=h.S_of hg;exact⟨s,hs,h.stg i g s hg hs⟩
theorem MemR.bare (h:MemR x m w):MemR x ZdF w where
 fz:=h.fz
 box:=λb l hl=>by simp[ZdF,Zn] at hl
 stg:=λi g hg=>by simp[ZdF,Zn] at hg
variable {g:Stg} {w':World}
theorem StgOk.world (h:StgOk x g s w) (hw:∀p cap,s.blk=some (p,cap)->w'.heap[p]? =w.heap[p]?):StgOk x g s w':=
 ⟨h.ver,h.n,h.wd,h.nil,λp cap hp=>let ⟨C,h1,h2⟩:=h.row p cap hp
 ⟨C,(hw p cap hp).trans h1,h2⟩,h.fzn,h.ffz,h.ub⟩
theorem StgOk.ctx (h:StgOk x g s w) (hx:FzLe x x') (hf:∀p cap,s.blk=some (p,cap)->∀o,x'.fz p o=x.fz p o):StgOk x' g s w:=
 ⟨h.ver,h.n,h.wd,h.nil,λp cap hp=>by
  obtain⟨C,h1,h2,h3,h4,h5,h6,h7,h8⟩:=h.row p cap hp
  exact⟨C,h1,h2,h3,h4,λi j a hi ha=>by
   obtain⟨v,e1,e2⟩:=h5 i j a hi ha
   exact⟨v,e1,e2.plain (x':=x'.bare) hx (R.enc_plain _ _ _ (Zbd ha))⟩,h6,λo ho=>by rw[hf p cap hp];exact h7 o ho,λo ho=>by rw[hf p cap hp];exact h8 o ho⟩,h.fzn,h.ffz,h.ub⟩
def ZI (w w':World):Prop:=w.heap.size<=w'.heap.size/\∀k,k<w.heap.size->w'.heap[k]? =w.heap[k]?
theorem ZI.trans {a b c:World} (h:ZI a b) (k:ZI b c):ZI a c:=
 ⟨YD h.1 k.1,λi hi=>(k.2 i (YaL hi h.1)).trans (h.2 i hi)⟩
theorem ZI.cell {w w':World} (h:ZI w w') {b o:Nat} {v:Value} (e:w.cell? ⟨b,o,none⟩=some v):w'.cell? ⟨b,o,none⟩=some v:=by
 have hb:b<w.heap.size:=by
  simp only[World.cell?] at e;split at e
  ·rename_i hb;exact Zin hb
  ·simp at e
 rw[World.cell?_of_block (w:=w) (a:=⟨b,o,none⟩) (h.2 b hb)];exact e
theorem MK.old (h:MK x m w) (hw:ZI w w'):MK x m w' where
 fresh:=λk hk=>h.fresh k (YD hw.1 hk)
 fz:=λb o v e=>by rw[World.cell?_of_block (w:=w) (a:=⟨b,o,none⟩) (hw.2 b (h.fz_lt e))];exact h.fz b o v e
 ml:=h.ml
 box:=λb l p hl hp=>by obtain⟨C,T,h1,h2⟩:=h.box b l p hl hp;exact⟨C,T,(hw.2 p (h.M_lt hp)).trans h1,h2⟩
 mown:=h.mown
 inj:=h.inj
 sl:=h.sl
 stg:=λi g s hg hs=>(h.stg i g s hg hs).world λp cap hp=>hw.2 p (h.S_lt hs hp)
 sown:=h.sown
 sinj:=h.sinj
theorem ZI.step (h:ZI w w') (hm:MK x m w) (h1:w'.os=w.os) (h2:w'.tape=w.tape) (h3:w'.output=w.output):Step x w w':=
 ⟨h1,h2,h3,h.1,λk hk=>h.2 k (by
  rcases Yae k w.heap.size with h1|h1
  ·exact h1
  ·exact absurd (hm.fresh k h1) hk)⟩
theorem ZI.alloc (w:World) (o:Obj):ZI w (w.alloc o):=⟨by simp,λk hk=>RowKit.Below.heap_alloc w o k hk⟩
theorem ZI.refl (w:World):ZI w w:=⟨Ye _,λ_ _=>rfl⟩
theorem ZuD (x:Ctx) (p:Nat):Ext x {x with M:=x.M++[p]}:=
 ⟨rfl,λ_ _ h=>ZbX h,λ_ s h=>⟨s,h,.refl s⟩,λ_ _ _ h=>h,λ_ _ _ h=>.inl h⟩
theorem Zjh (h:MK x m w) (T:TypeId) (hl:RL x l C):
  MK {x with M:=x.M++[w.heap.size]} {m with Bx:=m.Bx++[l]} (w.alloc (.cells C.toArray T))/\
   Step x w (w.alloc (.cells C.toArray T))/\RA {x with M:=x.M++[w.heap.size]} (.loc (len m.Bx) 0) (.pointer (some ⟨w.heap.size,0,none⟩)):=by
 have hb:=h.old (ZI.alloc w (.cells C.toArray T));have hx:Ext x {x with M:=x.M++[w.heap.size]}:=ZuD x _;have hml:=h.ml;have hnew:∀b p,nth (x.M++[w.heap.size]) b=some p->(nth x.M b=some p/\p<w.heap.size)\/(b=x.M.length/\p=w.heap.size):=λb p e=>
  (Zs e).imp (λe=>⟨e,h.M_lt e⟩) id
 refine⟨⟨hb.fresh,hb.fz,?_,?_,?_,?_,hb.sl,?_,?_,hb.sinj⟩,(ZI.alloc w _).step h rfl rfl rfl,?_⟩
 ·simp[hml]
 ·intro b l' p hl' hp;rcases Zs hl' with e|⟨e1,e2⟩
  ·rcases hnew b p hp with ⟨e',_⟩|⟨e',_⟩
   ·obtain⟨C',T',h1,h2⟩:=hb.box b l' p e e';exact⟨C',T',h1,h2.mono hx⟩
   ·have:=ZZ e;omega
  ·rcases hnew b p hp with ⟨e',_⟩|⟨_,e'⟩
   ·have:=ZZ e';omega
   ·subst e';subst e2;exact⟨C,T,by simp only[World.alloc];simp,hl.mono hx⟩
 ·intro b p hp;rcases hnew b p hp with ⟨e,_⟩|⟨_,e⟩
  ·exact h.mown b p e
  ·subst e;exact⟨h.fresh _ (Ye _),h.fz_new (Ye _)⟩
 ·intro b b' p hp hp';rcases hnew b p hp with ⟨e,e1⟩|⟨e,e1⟩<;>rcases hnew b' p hp' with ⟨e',e1'⟩|⟨e',e1'⟩
  ·exact h.inj b b' p e e'
  ·omega
  ·omega
  ·omega
 ·intro i g s hg hs;exact (hb.stg i g s hg hs).ctx (λ_ _ _ h=>h) (λ_ _ _ _=>rfl)
 ·intro i s p cap hs hbk;obtain⟨h1,h2⟩:=h.sown i s p cap hs hbk;refine⟨h1,λb e=> ?_⟩;rcases hnew b p e with ⟨e',_⟩|⟨_,e'⟩
  ·exact h2 b e'
  ·have:=h.S_lt hs hbk;omega
 ·refine .loc _ _ _ _ ?_;rw[Zi,Zad,<-hml];simp
theorem Zi0:∀{vs:List A} {l r:List A} {o:Nat},putN l o vs=some r->r=l.take o++vs++l.drop (o+vs.length)/\(vs≠[]->o+vs.length<=l.length)
 |[],l,r,o,h=>by simp[putN] at h;simp[h]
 |v::vs,l,r,o,h=>by
  simp only[putN] at h;split at h
  ·rename_i a ha;have hlt:=ZZ ha;obtain⟨h1,h2⟩:=Zi0 h;rw[ZH] at h1 h2;refine⟨?_,λ_=> ?_⟩
   ·subst h1;have e1:(l.set o v).take (o+1)=l.take o++[v]:=by rw[List.take_succ_eq_append_getElem (by simpa using hlt)];simp[List.take_set_of_le]
    rw[e1,List.drop_set_of_lt (by omega)];simp[Yat,YaT 1]
   ·cases vs with
    |nil=>simp;omega
    |cons _ _=>have:=h2 (by simp);simp at this|-;omega
  ·simp at h
theorem Zdc (h:atomic v):v.oneCell'=true:=by cases v<;>first|rfl|exact h.elim
theorem ZJr (h:MK x m w) {c c':List A} (hc:nth m.Bx b=some c) (hp:nth x.M b=some p) (hput:putN c o l=some c') (hl:RL x l vs) (hne:l≠[]):
  ∃C:List Value,∃T,w.heap[p]? =some (.cells C.toArray T (0,0))/\o+vs.length<=C.length/\
   MK x {m with Bx:=setN m.Bx b c'} (w.setRow p (C.take o++vs++C.drop (o+vs.length)).toArray)/\Step x w (w.setRow p (C.take o++vs++C.drop (o+vs.length)).toArray):=by
 obtain⟨C,T,h1,h2⟩:=h.box b c p hc hp;obtain⟨e1,e2⟩:=Zi0 hput;have hlen:=hl.length;have hlen2:=h2.length;have hown:=h.mown b p hp;refine⟨C,T,h1,by have:=e2 hne;omega,?_,?_⟩
 ·have hrow:=setRow_heap w p C.toArray (C.take o++vs++C.drop (o+vs.length)).toArray T (0,0) h1;generalize hw':w.setRow p (C.take o++vs++C.drop (o+vs.length)).toArray=w' at*;have hoth:∀k,k≠p->w'.heap[k]? =w.heap[k]? :=λk hk=>by rw[<-hw'];exact setRow_other w p k _ hk
  have hsz:w'.heap.size=w.heap.size:=by rw[<-hw'];simp
  refine⟨λk hk=>h.fresh k (by omega),?_,?_,?_,h.mown,h.inj,h.sl,?_,h.sown,h.sinj⟩
  ·intro b' o' v e;have hne':b'≠p:=by rintro rfl;rw[hown.2 o'] at e;simp at e
   rw[World.cell?_of_block (w:=w) (a:=⟨b',o',none⟩) (hoth b' hne')];exact h.fz b' o' v e
  ·simp only[ZH,YaI];exact h.ml
  ·intro b' l' p' hl' hp';rcases Zen hl' with ⟨rfl,rfl,_⟩|⟨hb,hl'⟩
   ·have:p'=p:=by rw[hp] at hp';simpa using hp'.symm
    subst this;refine⟨_,T,hrow,?_⟩;rw[e1,hlen];exact ((h2.take o).append hl).append (h2.drop _)
   ·obtain⟨C',T',h3,h4⟩:=h.box b' l' p' hl' hp';refine⟨C',T',?_,h4⟩;rw[hoth p' (λe=>hb (h.inj _ _ _ (e▸hp') hp).symm),h3]
  ·intro i g s hg hs;exact (h.stg i g s hg hs).world λq cap hq=>hoth q (λe=>(h.sown i s q cap hs hq).2 b (e▸hp))
 ·exact⟨rfl,rfl,rfl,by simp,λk hk=>setRow_other w p k _ (λe=>hk (e▸hown.1))⟩
variable {h:Nat}
theorem ZR {v:Nat} (e:ZaY m h v=some g):nth m.Sg h=some g/\g.ver=v:=by
 unfold ZaY at e;split at e
 ·rename_i g' hg;split at e
  ·rename_i hb;simp only[Yt] at hb;simp only[oinj] at e;subst e;exact⟨hg,hb⟩
  ·simp at e
 ·simp at e
variable {val:Value}
theorem Zf8 (hm:MemR x m w) {v:Nat} (hv:RA x (.tip h v) val) (e:ZaY m h v=some g):
  ∃s,nth x.S h=some s/\StgOk x g s w/\val=tipVal s:=by
 obtain⟨e1,e2⟩:=ZR e;obtain⟨s,hs,hok⟩:=hm.stg h g e1;cases hv with
 |tip _ _ _ s' _ hs' _ hval _=>
  have:s'=s:=by rw[hs] at hs';simpa using hs'.symm
  subst this;exact⟨s',hs,hok,hval (by rw[hok.ver,e2])⟩
theorem ZPV (hm:MemR x m w) {v:Nat} {i:Int} (hv:RA x (.sp h v i o) val) (e:ZaY m h v=some g):
  ∃s p cap,nth x.S h=some s/\StgOk x g s w/\s.blk=some (p,cap)/\0<=i/\i.toNat<g.l.length/\val=.pointer (some ⟨p,i.toNat*g.r.wid+o,none⟩):=by
 obtain⟨e1,e2⟩:=ZR e;obtain⟨s,hs,hok⟩:=hm.stg h g e1;cases hv with
 |sp _ _ _ _ _ s' _ hs' _ hval _=>
  have:s'=s:=by rw[hs] at hs';simpa using hs'.symm
  subst this;obtain⟨p,cap,h1,h2,h3,h4⟩:=hval (by rw[hok.ver,e2]);exact⟨s',p,cap,hs,hok,h1,h2,by rw[<-hok.n];exact h3,by rw[h4,hok.wd]⟩
theorem Zfa (h:s.blk=some (p,cap)):tipVal s=.slice (some ⟨p,0,none⟩) s.n cap:=by simp only[tipVal,h]
theorem ZfG (h:s.blk=none):tipVal s=.slice s.na 0 0:=by simp only[tipVal,h]
variable {j:Nat}
theorem ZjD {l:List r.den} (h:nth (elN r l i) j=some a):j<r.wid:=by have:=ZZ h;rw[elN,R.enc_len] at this;exact this
theorem Zd1 {l:List r.den} (hi:i<n) (h:nth (elN r l i) j=some a):i*r.wid+j<n*r.wid:=by have h1:=ZjD h;have h2:(i+1)*r.wid<=n*r.wid:=YS _ hi;rw[YaM] at h2;omega
theorem MK.setS (hm:MK x m w) {g':Stg} {s':SI} {fz':Nat->Nat->Option Value} (_hg:nth m.Sg h=some g) (hs:nth x.S h=some s)
  (hle:SLe s s') (hsz:w.heap.size<=w'.heap.size)
  (hoth:∀k,k<w.heap.size->(∀cap,s.blk≠some (k,cap))->w'.heap[k]? =w.heap[k]?)
  (hfz:∀b o v,x.fz b o=some v->fz' b o=some v) (hfzo:∀b o,(∀cap,s.blk≠some (b,cap))->b<w.heap.size->fz' b o=x.fz b o)
  (hcell:∀b o v,fz' b o=some v->w'.cell? ⟨b,o,none⟩=some v)
  (hblk:∀p cap,s'.blk=some (p,cap)->(∃c,s.blk=some (p,c))\/w.heap.size<=p)
  (hok:StgOk {x with S:=setN x.S h s',fz:=fz'} g' s' w'):
  MK {x with S:=setN x.S h s',fz:=fz'} {m with Sg:=setN m.Sg h g'} w'/\Ext x {x with S:=setN x.S h s',fz:=fz'}:=by
 have hx:Ext x {x with S:=setN x.S h s',fz:=fz'}:=by
  refine⟨rfl,λ_ _ e=>e,λi s1 e=> ?_,hfz,λb o v e=> ?_⟩
  ·by_cases hi:h=i
   ·subst hi;have:s1=s:=by rw[hs] at e;simpa using e.symm
    subst this;exact⟨s',ZE hs,hle⟩
   ·exact⟨s1,by show nth (setN x.S h s') i=_;rw[ZB hi];exact e,.refl s1⟩
  ·by_cases hb:∃cap,s.blk=some (b,cap)
   ·obtain⟨cap,hb⟩:=hb;exact .inr (hm.sown h s b cap hs hb).1
   ·by_cases hlt:b<w.heap.size
    ·exact .inl (by rw[<-hfzo b o (λcap e=>hb ⟨cap,e⟩) hlt];exact e)
    ·exact .inr (hm.fresh b (by omega))
 refine⟨⟨λk hk=>hm.fresh k (by omega),hcell,hm.ml,?_,?_,hm.inj,by simp[ZH,hm.sl],?_,?_,?_⟩,hx⟩
 ·intro b l p hl hp;obtain⟨C,T,h1,h2⟩:=hm.box b l p hl hp;exact⟨C,T,(hoth p (hm.M_lt hp) (λcap e=>(hm.sown h s p cap hs e).2 b hp)).trans h1,h2.mono hx⟩
 ·intro b p hp;obtain⟨h1,h2⟩:=hm.mown b p hp;exact⟨h1,λo=>by show fz' p o=none;rw[hfzo p o (λcap e=>(hm.sown h s p cap hs e).2 b hp) (hm.M_lt hp)];exact h2 o⟩
 ·intro i g1 s1 hg1 hs1;rcases Zen hg1 with ⟨rfl,rfl,_⟩|⟨hi,hg1⟩
  ·have:s1=s':=by have hs1:nth (setN x.S h s') h=some s1:=hs1;rw[ZE hs] at hs1;simpa using hs1.symm
   subst this;exact hok
  ·have hs1:nth (setN x.S h s') i=some s1:=hs1;rw[ZB hi] at hs1;have hne:∀p cap,s1.blk=some (p,cap)->∀c,s.blk≠some (p,c):=λp cap e c e'=>hi (hm.sinj h i s s1 p c cap hs hs1 e' e)
   exact ((hm.stg i g1 s1 hg1 hs1).world (w':=w') λp cap e=>hoth p (hm.S_lt hs1 e) (hne p cap e)).ctx hfz (λp cap e o=>hfzo p o (hne p cap e) (hm.S_lt hs1 e))
 ·intro i s1 p cap hs1 hb;have hs1:nth (setN x.S h s') i=some s1:=hs1;rcases Zen hs1 with ⟨rfl,rfl,_⟩|⟨hi,hs1⟩
  ·rcases hblk p cap hb with ⟨c,e⟩|e
   ·exact hm.sown h s p c hs e
   ·exact⟨hm.fresh p e,λb e'=>by have:=hm.M_lt e';omega⟩
  ·exact hm.sown i s1 p cap hs1 hb
 ·intro i i' s1 s2 p c1 c2 h1 h2 e1 e2;rcases Zen h1 with ⟨hi,a1,_⟩|⟨hi,q1⟩<;>rcases Zen h2 with ⟨hi',a2,_⟩|⟨hi',q2⟩
  ·omega
  ·rw[a1] at e1;rcases hblk p c1 e1 with ⟨c,e⟩|e
   ·exact absurd (hm.sinj h i' s s2 p c c2 hs q2 e e2) hi'
   ·have:=hm.S_lt q2 e2;omega
  ·rw[a2] at e2;rcases hblk p c2 e2 with ⟨c,e⟩|e
   ·exact absurd (hm.sinj h i s s1 p c c1 hs q1 e e1) hi
   ·have:=hm.S_lt q1 e1;omega
  ·exact hm.sinj i i' s1 s2 p c1 c2 q1 q2 e1 e2
theorem MK.addS (hm:MK x m w) (hw:ZI w w') (hblk:∀p cap,s.blk=some (p,cap)->w.heap.size<=p) (hok:StgOk {x with S:=x.S++[s]} g s w'):
  MK {x with S:=x.S++[s]} {m with Sg:=m.Sg++[g]} w'/\Ext x {x with S:=x.S++[s]}:=by
 have hx:Ext x {x with S:=x.S++[s]}:=⟨rfl,λ_ _ e=>e,λi s1 e=>⟨s1,ZbX e,.refl s1⟩,λ_ _ _ e=>e,λ_ _ _ e=>.inl e⟩;have hb:=hm.old hw;refine⟨⟨hb.fresh,hb.fz,hb.ml,?_,hb.mown,hb.inj,by simp[hm.sl],?_,?_,?_⟩,hx⟩
 ·intro b l p hl hp;obtain⟨C,T,h1,h2⟩:=hb.box b l p hl hp;exact⟨C,T,h1,h2.mono hx⟩
 ·intro i g1 s1 hg1 hs1;have hs1:nth (x.S++[s]) i=some s1:=hs1;have hsl:=hm.sl;rcases Zs hg1 with e|⟨e1,e2⟩<;>rcases Zs hs1 with f|⟨f1,f2⟩
  ·exact (hb.stg i g1 s1 e f).ctx (λ_ _ _ h=>h) (λ_ _ _ _=>rfl)
  ·have:=ZZ e;omega
  ·have:=ZZ f;omega
  ·subst e2;subst f2;exact hok
 ·intro i s1 p cap hs1 he;have hs1:nth (x.S++[s]) i=some s1:=hs1;rcases Zs hs1 with f|⟨f1,f2⟩
  ·exact hm.sown i s1 p cap f he
  ·subst f2;have:=hblk p cap he;exact⟨hm.fresh p this,λb e=>by have:=hm.M_lt e;omega⟩
 ·intro i i' s1 s2 p c1 c2 h1 h2 e1 e2;have h1:nth (x.S++[s]) i=some s1:=h1;have h2:nth (x.S++[s]) i'=some s2:=h2;rcases Zs h1 with f|⟨f1,f2⟩<;>rcases Zs h2 with k|⟨k1,k2⟩
  ·exact hm.sinj i i' s1 s2 p c1 c2 f k e1 e2
  ·subst k2;have:=hblk p c2 e2;have:=hm.S_lt f e1;omega
  ·subst f2;have:=hblk p c1 e1;have:=hm.S_lt k e2;omega
  ·omega
theorem MK.frzNew (hm:MK x m w) (C:List Value) (T:TypeId):
  MK {x with fz:=λb o=>if b=w.heap.size then C[o]? else x.fz b o} m (w.alloc (.cells C.toArray T))/\Ext x {x with fz:=λb o=>if b=w.heap.size then C[o]? else x.fz b o}:=by
 have hle:FzLe x {x with fz:=λb o=>if b=w.heap.size then C[o]? else x.fz b o}:=by intro b o v e;have:=hm.fz_lt e;show (if b=w.heap.size then _ else _)=_;rw[Y3 (by omega)];exact e
 have hx:Ext x {x with fz:=λb o=>if b=w.heap.size then C[o]? else x.fz b o}:=by
  refine⟨rfl,λ_ _ e=>e,λi s e=>⟨s,e,.refl s⟩,hle,λb o v e=> ?_⟩;have e:(if b=w.heap.size then C[o]? else x.fz b o)=some v:=e;split at e
  ·rename_i hb;exact .inr (hm.fresh b (by omega))
  ·exact .inl e
 have hb:=hm.old (ZI.alloc w (.cells C.toArray T));refine⟨⟨hb.fresh,?_,hb.ml,?_,?_,hb.inj,hb.sl,?_,hb.sown,hb.sinj⟩,hx⟩
 ·intro b o v e';have e:(if b=w.heap.size then C[o]? else x.fz b o)=some v:=e';clear e';split at e
  ·rename_i hbe;rw[hbe,Zaj (heap_alloc_new w _)];exact e
  ·exact hb.fz b o v e
 ·intro b l p hl hp;obtain⟨C',T',h1,h2⟩:=hb.box b l p hl hp;exact⟨C',T',h1,h2.mono hx⟩
 ·intro b p hp;obtain⟨h1,h2⟩:=hm.mown b p hp;refine⟨h1,λo=> ?_⟩;show (if p=w.heap.size then _ else _)=_;rw[Y3 (by have:=hm.M_lt hp;omega)];exact h2 o
 ·intro i g s hg hs;refine (hb.stg i g s hg hs).ctx hle λp cap e o=> ?_
  show (if p=w.heap.size then _ else _)=_;rw[Y3 (by have:=hm.S_lt hs e;omega)]
theorem ZJq {l:List α} {a:α} (h:nth l n=some a):setN l n a=l:=by rw[ZH];rw[Zi] at h;obtain⟨h1,h2⟩:=YE.1 h;rw[<-h2];exact List.set_getElem_self h1
theorem MK.freeze (hm:MK x m w) (hg:nth m.Sg h=some g) (hs:nth x.S h=some s):
  ∃x',MK x' {m with Sg:=setN m.Sg h {g with fzn:=true,ffz:=true}} w/\Ext x x'/\∀lit,RA x' (.lst g.r lit false false g.l) (tipVal s):=by
 have hok:=hm.stg h g s hg hs;cases hblk:s.blk with
 |none=>
  obtain⟨h1,h2⟩:=hok.nil hblk;have hl:g.l=[]:=Y9 (by rw[<-hok.n];exact h1);obtain⟨p1,p2⟩:=hm.setS (w':=w) (g':={g with fzn:=true,ffz:=true}) (s':=s) (fz':=x.fz) hg hs (.refl s) (Ye _) (λ_ _ _=>rfl) (λ_ _ _ e=>e) (λ_ _ _ _=>rfl) hm.fz (λp cap e=>.inl ⟨cap,e⟩)
   ⟨hok.ver,hok.n,hok.wd,hok.nil,λp cap e=>by rw[hblk] at e;simp at e,λe=>by simp at e,λ_=>by rw[h2,h1];simp,hok.ub⟩
  refine⟨_,p1,p2,λlit=> ?_⟩;rw[ZfG hblk];exact .lst0 _ _ _ _ _ _ _ _ hl (λe=>by simp at e) (λe=>by simp at e) (λ_=>rfl)
 |some pc=>
  obtain⟨p,cap⟩:=pc;obtain⟨C,c1,c2,c3,c4,c5,c6,c7,c8⟩:=hok.row p cap hblk;have hz:∀b o v,x.fz b o=some v->(if b=p/\o<s.n*g.r.wid then C[o]? else x.fz b o)=some v:=by
   intro b o v q;split
   ·rename_i hc;obtain⟨rfl,hc⟩:=hc;by_cases ho:o<s.fc
    ·rw[<-c7 o ho];exact q
    ·rw[c8 o (by omega)] at q;simp at q
   ·exact q
  obtain⟨p1,p2⟩:=hm.setS (w':=w) (g':={g with fzn:=true,ffz:=true}) (s':={s with fc:=s.n*g.r.wid}) (fz':=λb o=>if b=p/\o<s.n*g.r.wid then C[o]? else x.fz b o) hg hs ⟨Ye _,λ_=>⟨rfl,rfl,rfl,rfl⟩⟩ (Ye _) (λ_ _ _=>rfl)
   hz
   (λb o hb _=>Y3 (λq:b=p/\o<s.n*g.r.wid=>hb cap (q.1▸hblk)))
   (λb o v q=>by
    by_cases hc:b=p/\o<s.n*g.r.wid
    ·rw[YX hc] at q;obtain⟨rfl,hc⟩:=hc;rw[Zaj c1];exact q
    ·rw[Y3 hc] at q
     exact hm.fz b o v q)
   (λp' cap' q=>.inl ⟨cap',q⟩)
   (by
    refine⟨hok.ver,hok.n,hok.wd,λq=> ?_,λp' cap' q=> ?_,λq=>by simp at q,λ_=>rfl,hok.ub⟩
    ·have q:s.blk=none:=q;rw[hblk] at q;simp at q
    ·have q:s.blk=some (p',cap'):=q;rw[hblk] at q;simp only[oinj,pinj] at q;obtain⟨rfl,rfl⟩:=q;refine⟨C,c1,c2,c3,c4,λi j a hi ha=> ?_,Ye _,λo ho=> ?_,λo ho=> ?_⟩
     ·obtain⟨v,e1,e2⟩:=c5 i j a hi ha;exact⟨v,e1,e2.plain (λb o v q=>hz b o v q) (R.enc_plain _ _ _ (Zbd ha))⟩
     ·have ho:o<s.n*g.r.wid:=ho;exact YX ⟨rfl,ho⟩
     ·have ho:s.n*g.r.wid<=o:=ho;show (if p=p/\o<s.n*g.r.wid then C[o]? else x.fz p o)=_;rw[Y3 (by omega)]
      exact c8 o (by omega))
  refine⟨_,p1,p2,λlit=> ?_⟩;rw[Zfa hblk];by_cases hl:g.l=[]
  ·have:s.n=0:=by rw[hok.n,hl];rfl
   rw[this];exact .lst0 _ _ _ _ _ _ _ _ hl (λe=>by simp at e) (λe=>by simp at e) (λe=>by simp at e)
  ·have hv:Value.slice (some ⟨p,0,none⟩) s.n cap=.slice (some ⟨p,0,none⟩) g.l.length cap:=by rw[hok.n]
   rw[hv];refine .lst _ _ _ _ _ _ p 0 cap (λi j=>(C[i*g.r.wid+j]?).getD undef) hl (λe=>by simp at e) (by rw[<-hok.n];exact c3) (by rw[<-hok.n];omega) (λi j a hi ha=> ?_) (λi j a hi ha=> ?_)
   ·obtain⟨v,e1,e2⟩:=c5 i j a (by rw[hok.n];exact hi) ha;show (if p=p/\0+i*g.r.wid+j<s.n*g.r.wid then C[0+i*g.r.wid+j]? else x.fz p (0+i*g.r.wid+j))=_;rw[YX ⟨rfl,by rw[Yu,hok.n];exact Zd1 hi ha⟩,Yu,e1];rfl
   ·obtain⟨v,e1,e2⟩:=c5 i j a (by rw[hok.n];exact hi) ha;rw[e1];exact e2.plain (λb o v e=>p2.fz b o v e) (R.enc_plain _ _ _ (Zbd ha))
theorem MK.nofz (hm:MK x m w) (hg:nth m.Sg h=some g) (hs:nth x.S h=some s) (hb:s.blk=some (p,cap)) (hf:g.fzn=false) (o:Nat):x.fz p o=none:=by have hok:=hm.stg h g s hg hs;obtain⟨C,_,_,_,_,_,_,_,c8⟩:=hok.row p cap hb;exact c8 o (by rw[hok.fzn hf];exact Yr _)
def R.ok:(r:R)->r.den->Prop
 | .int k,n=>inR k n
 | .bool,_=>True
 | .str,_=>True
 | .sl r,l=>l.length<=maxLen/\∀a∈l,r.ok a
 | .Pq a b,x=>a.ok x.1/\b.ok x.2
 | .unit,_=>True
theorem RL.split {x:Ctx}:∀{a b:List A} {vs:List Value},RL x (a++b) vs->∃v1 v2,vs=v1++v2/\RL x a v1/\RL x b v2
 |[],b,vs,h=>⟨[],vs,rfl,trivial,h⟩
 |y::a,b,v::vs,h=>by obtain⟨v1,v2,rfl,h1,h2⟩:=RL.split (a:=a) (b:=b) h.2;exact⟨v::v1,v2,rfl,⟨h.1,h1⟩,h2⟩
 |_::_,_,[],h=>h.elim
theorem R.ok_of:∀(r:R) (y:r.den) (x:Ctx) (vs:List Value),RL x (r.enc y) vs->r.ok y
 | .int k,n,x,vs,h=>by
  match vs,h with
  |[v],h=>exact (ZcM h.1).2
 | .bool,_,_,_,_=>trivial
 | .str,_,_,_,_=>trivial
 | .sl r,l,x,vs,h=>by
  match vs,h with
  |[v],h=>
   have h1:RA x (.lst r false false false l) v:=h.1;refine⟨?_,λa ha=> ?_⟩
   ·cases h1 with
    |lst0 _ _ _ _ _ _ _ _ hn _ _ _=>rw[hn];simp
    |lst _ _ _ _ _ _ p o cap c h0 hf hc hml hz hr=>exact hml
   cases h1 with
   |lst0 _ _ _ _ _ _ _ _ hn _ _ _=>rw[hn] at ha;simp at ha
   |lst _ _ _ _ _ _ p o cap c h0 hf hc hml hz hr=>
    obtain⟨i,hi⟩:=YaB ha;have hlt:=(YE.1 hi).1;have he:elN r l i=r.enc a:=by simp[elN,Yl,hi]
    refine R.ok_of r a x.bare ((List.range r.wid).map (c i)) (RL.of_nth (by simp[R.enc_len]) λj b hb=> ?_);have hj:j<r.wid:=by have:=ZZ hb;rwa [R.enc_len] at this
    exact⟨c i j,by simp[hj],hr i j b hlt (by rw[he];exact hb)⟩
 | .Pq a b,y,x,vs,h=>by obtain⟨v1,v2,rfl,h1,h2⟩:=RL.split h;exact⟨R.ok_of a _ x v1 h1,R.ok_of b _ x v2 h2⟩
 | .unit,_,_,_,_=>trivial
theorem RL.plain {x x':Ctx} (hx:FzLe x x'):∀{l:List A} {vs:List Value},(∀a∈l,ZhW a=true)->RL x l vs->RL x' l vs
 |[],[],_,_=>trivial
 |_::_,_::_,hp,h=>⟨h.1.plain hx (hp _ (by simp)),RL.plain hx (λa ha=>hp a (by simp[ha])) h.2⟩
 |[],_::_,_,h=>h.elim
 |_::_,[],_,h=>h.elim
theorem R.dec_ok:∀(r:R) (l:List A) (y:r.den) (t:List A),r.dec l=some (y,t)->∀(x:Ctx) (vs:List Value),RL x l vs->∃v1 v2,vs=v1++v2/\RL x (r.enc y) v1/\RL x t v2
 | .int k,l,y,t,h,x,vs,hv=>by
  simp only[R.dec] at h;unfold decI at h;split at h<;>(try simp at h);rename_i k' n l';split at h
  ·rename_i hk;have:=ZdW hk;subst this;simp only[oinj,pinj] at h;obtain⟨rfl,rfl⟩:=h
   match vs,hv with
   |v::vs,hv=>
    obtain⟨rfl,hr⟩:=ZcM hv.1;exact⟨[_],vs,rfl,⟨.int _ _ _ _ hr,Tv⟩,hv.2⟩
  ·simp at h
 | .bool,l,y,t,h,x,vs,hv=>by
  simp only[R.dec] at h;unfold decB at h;split at h<;>(try simp at h);obtain⟨rfl,rfl⟩:=h
  match vs,hv with
  |v::vs,hv=>
   have:=Zc0 hv.1;subst this;exact⟨[_],vs,rfl,⟨.bool _ _ _,Tv⟩,hv.2⟩
 | .str,l,y,t,h,x,vs,hv=>by
  simp only[R.dec] at h;unfold decS at h;split at h<;>(try simp at h);obtain⟨rfl,rfl⟩:=h
  match vs,hv with
  |v::vs,hv=>exact⟨[v],vs,rfl,⟨hv.1,Tv⟩,hv.2⟩
 | .sl r,l,y,t,h,x,vs,hv=>by
  simp only[R.dec] at h;unfold decL at h;split at h<;>(try simp at h)
  ·rename_i r' _ _ _ l' t';split at h
   ·rename_i e he;simp only[oinj,pinj] at h;obtain⟨rfl,rfl⟩:=h;cases e
    match vs,hv with
    |v::vs,hv=>exact⟨[v],vs,rfl,⟨RA.lst_weak (f':=false) (g':=false) hv.1 (λe=>by simp at e) (λe=>by simp at e),Tv⟩,hv.2⟩
   ·simp at h
  ·obtain⟨rfl,rfl⟩:=h
   match vs,hv with
   |v::vs,hv=>exact⟨[v],vs,rfl,⟨RA.nil_lst hv.1,Tv⟩,hv.2⟩
 | .Pq a b,l,y,t,h,x,vs,hv=>by
  simp only[R.dec] at h;split at h
  ·rename_i y1 t1 h1;split at h
   ·rename_i y2 t2 h2;simp only[oinj,pinj] at h;obtain⟨rfl,rfl⟩:=h;obtain⟨v1,u,rfl,e1,e2⟩:=R.dec_ok a _ _ _ h1 x vs hv;obtain⟨v2,u2,rfl,e3,e4⟩:=R.dec_ok b _ _ _ h2 x u e2;exact⟨v1++v2,u2,by simp,e1.append e3,e4⟩
   ·simp at h
  ·simp at h
 | .unit,l,y,t,h,x,vs,hv=>by simp only[R.dec,oinj,pinj,true_and] at h;subst h;exact⟨[],vs,rfl,trivial,hv⟩
theorem R.decW_ok {y:r.den} (h:r.decW l=some y) (hv:RL x l vs):RL x (r.enc y) vs:=by
 unfold R.decW at h;split at h
 ·rename_i y' he;simp only[oinj] at h;subst h;obtain⟨v1,v2,rfl,h1,h2⟩:=R.dec_ok _ _ _ _ he x vs hv;have:v2=[]:=by cases v2 with|nil=>rfl|cons _ _=>exact h2.elim
  subst this;simpa using h1
 ·simp at h
variable {P:Program}
theorem R.same_eq {a b:R} {e:EqR a b} (_h:R.same a b=some e):a=b:=by cases e;rfl
theorem ZhC (h:ZxP P t=some r):∃i z,P.info? t=some i/\i.zero=some z/\z.cells.size=i.size/\0<i.size/\i.bytes<=65536/\r.wid=i.size:=by
 unfold ZxP at h;split at h
 ·rename_i i hi;split at h
  ·rename_i z hz;split at h
   ·rename_i hb;simp only[Yb,Yt,Yaf,Yy] at hb;split at h
    ·rename_i r' _;split at h
     ·rename_i hw;simp only[Yt] at hw;simp only[oinj] at h;subst h;exact⟨i,z,hi,hz,hb.1.1,hb.1.2,hb.2,hw⟩
     ·simp at h
    ·simp at h
   ·simp at h
  ·simp at h
 ·simp at h
structure SlOk (x:Ctx) (w:World) (r:R) (l:List r.den) (full:Bool) (a:Option Addr) (cap:Nat) (news:List Value):Prop where
 hcap:l.length<=cap
 hml:l.length<=maxLen
 hfull:full=true->cap=l.length
 hnone:a=none->l=[]
 hlen:news.length=l.length*r.wid
 hcell:∀p,a=some p->∀j u,news[j]? =some u->w.cell? (p.add j)=some u
 hrow:∀i j b,i<l.length->nth (elN r l i) j=some b->∃u,news[i*r.wid+j]? =some u/\RA x.bare b u
theorem ZOq {l:List r.den} (hj:j<r.wid):∃a,nth (elN r l i) j=some a:=ZcT (by rw[elN,R.enc_len];exact hj)
theorem ZqW {b:A} (h:RA x b u):u.oneCell'=true:=Zdc h.atomic
variable {full:Bool}
theorem SlOk.one {l:List r.den} {a:Option Addr} {news:List Value} (h:SlOk x w r l full a cap news):∀u∈news,u.oneCell'=true:=by
 intro u hu;obtain⟨k,hk⟩:=YaB hu;have hlt:=(YE.1 hk).1;rw[h.hlen] at hlt;have hw:0<r.wid:=by
  rcases YaU r.wid with e|e
  ·rw[e] at hlt;simp at hlt
  ·exact e
 have h1:k/r.wid<l.length:=(Nat.div_lt_iff_lt_mul hw).2 hlt;obtain⟨b,hb⟩:=ZOq (r:=r) (l:=l) (i:=k/r.wid) (Nat.mod_lt k hw);obtain⟨u',e1,e2⟩:=h.hrow _ _ b h1 hb;have:k/r.wid*r.wid+k%r.wid=k:=by rw[Nat.mul_comm];exact Nat.div_add_mod k r.wid
 rw[this,hk] at e1;simp only[oinj] at e1;subst e1;exact ZqW e2
theorem ZrO (a:Option Addr) (cap:Nat) (hc:full=true->cap=0):SlOk x w r [] full a cap []:=
 ⟨Yr _,Yr _,λe=>hc e,λ_=>rfl,by simp,λp _ j u h=>by simp at h,λi j b h=>by simp at h⟩
theorem ZrP (hm:MemR x m w) {nn:Bool} {l:List r.den} (h:RA x (.lst r lit full nn l) v):
  ∃a cap news,v=.slice a l.length cap/\SlOk x w r l full a cap news/\(nn=true->a.isSome=true):=by
 cases h with
 |lst0 _ _ _ _ _ _ a cap h1 h2 h3 _=>subst h1;exact⟨a,cap,[],rfl,ZrO a cap h2,h3⟩
 |lst _ _ _ _ _ _ p o cap c h0 hf hc hml hz hr=>
  refine⟨_,cap,(List.range (l.length*r.wid)).map λk=>c (k/r.wid) (k%r.wid),rfl,⟨hc,hml,hf,λe=>by simp at e,by simp,?_,?_⟩,λ_=>rfl⟩
  ·intro q hq j u hu;simp only[oinj] at hq;subst hq;rw[Zd3];have hlt:=(YE.1 hu).1;simp at hlt;rw[Yas,YaH hlt] at hu;simp only[Option.map_some,oinj] at hu;subst hu;have hw:0<r.wid:=by
    rcases YaU r.wid with e|e
    ·rw[e] at hlt;simp at hlt
    ·exact e
   have h1:j/r.wid<l.length:=(Nat.div_lt_iff_lt_mul hw).2 hlt;obtain⟨b,hb⟩:=ZOq (r:=r) (l:=l) (i:=j/r.wid) (Nat.mod_lt j hw);have:=hm.fz _ _ _ (hz _ _ b h1 hb);have e:o+j/r.wid*r.wid+j%r.wid=o+j:=by rw[Yat,Nat.mul_comm,Nat.div_add_mod]
   rw[e] at this;exact this
  ·intro i j b hi hb;have hj:=ZjD hb;have hk:=Zd1 hi hb;have hw:0<r.wid:=by omega
   refine⟨c i j,?_,hr i j b hi hb⟩;rw[Yas,YaH hk];simp only[Option.map_some,oinj];rw[Nat.mul_comm,Nat.mul_add_div hw,Nat.div_eq_of_lt hj,Nat.mul_add_mod,Ya2 hj,Nat.add_zero]
theorem ZrN (h:StgOk x g s w):∃a cap news,tipVal s=.slice a g.l.length cap/\SlOk x w g.r g.l false a cap news/\
  (∀p c,s.blk=some (p,c)->a=some ⟨p,0,none⟩/\cap=c)/\(s.blk=none->a=s.na/\cap=0):=by
 cases hb:s.blk with
 |none=>
  have hn:=(h.nil hb).1;have hl:g.l=[]:=Y9 (by rw[<-h.n];exact hn);refine⟨s.na,0,[],by rw[ZfG hb,hl];rfl,by rw[hl];exact ZrO _ _ (λe=>by simp at e),λp c e=>by simp at e,λ_=>⟨rfl,rfl⟩⟩
 |some pc=>
  obtain⟨p,cap⟩:=pc;obtain⟨C,c1,c2,c3,c4,c5,c6,c7,c8⟩:=h.row p cap hb;have hn:=h.n;have hcl:g.l.length*g.r.wid<=C.length:=by rw[c2,<-hn];exact YS _ c3
  refine⟨some ⟨p,0,none⟩,cap,C.take (g.l.length*g.r.wid),by rw[Zfa hb,hn],⟨by rw[<-hn];exact c3,by omega,λe=>by simp at e,λe=>by simp at e,by simp;omega,?_,?_⟩,λp' c' e=>by simp at e;obtain⟨rfl,rfl⟩:=e;exact⟨rfl,rfl⟩,λe=>by simp at e⟩
  ·intro q hq j u hu;simp only[oinj] at hq;subst hq;rw[Zd3,Yu,Zaj c1];rw[YI] at hu;split at hu
   ·exact hu
   ·simp at hu
  ·intro i j b hi hbb;obtain⟨v,e1,e2⟩:=c5 i j b (by rw[hn];exact hi) hbb;refine⟨v,?_,e2⟩;rw[YI,YX (Zd1 hi hbb)];exact e1
theorem ZrL (hm:MemR x m w) {y:A} (hv:RA x y v) {q:Sq r} (hq:sqOf r m y=some q):
  ∃a cap news,v=.slice a q.l.length cap/\SlOk x w r q.l q.full a cap news:=by
 cases y with
 |nilsl=>
  simp only[sqOf,oinj] at hq;subst hq;cases hv;exact⟨none,0,[],rfl,ZrO _ _ (λ_=>rfl)⟩
 |lst r' lit full nn l=>
  simp only[sqOf] at hq;split at hq
  ·rename_i e _;simp only[oinj] at hq;subst hq;cases e;obtain⟨a,cap,news,h1,h2,_⟩:=ZrP hm hv;exact⟨a,cap,news,h1,h2⟩
  ·simp at hq
 |tip h ver=>
  simp only[sqOf] at hq;split at hq
  ·rename_i g hg;split at hq
   ·rename_i e he;simp only[oinj] at hq;subst hq;obtain⟨s,hs,hok,rfl⟩:=Zf8 hm hv hg;obtain⟨a,cap,news,h1,h2,_⟩:=ZrN hok;obtain⟨gr,gT,gl,gv,gf,gff,glit,gub⟩:=g;cases e;exact⟨a,cap,news,h1,h2⟩
   ·simp at hq
  ·simp at hq
 |_=>simp[sqOf] at hq
theorem ZyB (hm:MemR x m w) {y:A} (hv:RA x y v) {q:Sq r} (hq:sqOf r m y=some q):0<q.ub->q.l.length<q.ub:=by
 cases y with
 |nilsl=>
  simp only[sqOf,oinj] at hq;subst hq;intro _;simp
 |lst r' lit full nn l=>
  simp only[sqOf] at hq;split at hq
  ·rename_i e _;simp only[oinj] at hq;subst hq;cases e;cases lit<;>simp[EqR.cast,EqR.slc]
  ·simp at hq
 |tip h ver=>
  simp only[sqOf] at hq;split at hq
  ·rename_i g hg;split at hq
   ·rename_i e he;simp only[oinj] at hq;subst hq;obtain⟨s,hs,hok,rfl⟩:=Zf8 hm hv hg;have:=hok.ub;obtain⟨gr,gT,gl,gv,gf,gff,glit,gub⟩:=g;cases e;exact this
   ·simp at hq
  ·simp at hq
 |_=>simp[sqOf] at hq
theorem ZIz {q p:Sq r} (hq:0<q.ub->q.l.length<q.ub):0<ubA q p->(q.l++p.l).length<ubA q p:=by
 unfold ubA;split
 ·rename_i h;simp only[Yb,Yaf] at h;intro _;have:=hq h.1;rw[Yd];omega
 ·intro h;omega
