import Derived.Test.YteaflmalcclnoaaGreatDoorS3C
import Derived.LoopN
import Derived.Deep.LoopGhost
set_option linter.unusedVariables false
set_option linter.unusedSimpArgs false
namespace Go.S3
def RT.All {α:Type} (p:α->Prop):RT α->Prop
 | .Lf a=>p a
 | .br _ t e=>t.All p/\e.All p
theorem RT.All.val {α:Type} {p:α->Prop}:∀{t:RT α},t.All p->p t.val
 | .Lf _,h=>h
 | .br true _ _,h=>h.1.val
 | .br false _ _,h=>h.2.val
theorem RT.All.mono {α:Type} {p q:α->Prop} (h:∀a,p a->q a):∀{t:RT α},t.All p->t.All q
 | .Lf _,k=>h _ k
 | .br _ _ _,k=>⟨k.1.mono h,k.2.mono h⟩
theorem RT.All.map {α β:Type} {p:β->Prop} {f:α->β}:∀{t:RT α},t.All (λa=>p (f a))->(t.map f).All p
 | .Lf _,k=>k
 | .br _ _ _,k=>⟨k.1.map,k.2.map⟩
theorem RT.All.bind {α β:Type} {p:β->Prop} {f:α->RT β}:∀{t:RT α},t.All (λa=>(f a).All p)->(t.bind f).All p
 | .Lf _,k=>k
 | .br _ _ _,k=>⟨k.1.bind,k.2.bind⟩
theorem RT.val_map {α β:Type} (f:α->β):∀t:RT α,(t.map f).val=f t.val
 | .Lf _=>rfl
 | .br b t e=>by simp only[RT.map,RT.val,RT.val_map f t,RT.val_map f e];cases b<;>rfl
theorem RT.val_bind {α β:Type} (f:α->RT β):∀t:RT α,(t.bind f).val=(f t.val).val
 | .Lf _=>rfl
 | .br b t e=>by simp only[RT.bind,RT.val,RT.val_bind f t,RT.val_bind f e];cases b<;>rfl
theorem ZeZ (m n:Nat):tbit m n=m.testBit n:=by
 have h:Nat.land 1 (Nat.shiftRight m n)=(m>>>n)%2:=by have:Nat.land 1 (Nat.shiftRight m n)=1&&&(m>>>n):=rfl;rw[this,Nat.and_comm,Nat.and_one_is_mod]
 unfold tbit;rw[h,Nat.testBit_eq_decide_div_mod_eq,Nat.shiftRight_eq_div_pow];by_cases e:m/2^n%2=1
 ·simp[e]
 ·simp only[e,Ya3];rw[YK];intro h2;exact e (Yad h2)
theorem ZfH (a b i:Nat):tbit (Nat.lor a b) i=(tbit a i||tbit b i):=by rw[ZeZ,ZeZ,ZeZ];exact Nat.testBit_or a b i
theorem ZmA (i:Nat):tbit 0 i=false:=by rw[ZeZ];simp
theorem Zcp (m n i:Nat):tbit (setB m n) i=(Nat.beq n i||tbit m i):=by
 unfold setB;rw[ZfH,Bool.or_comm,ZeZ (Nat.shiftLeft 1 n)];congr 1;have:Nat.shiftLeft 1 n=2^n:=by have:Nat.shiftLeft 1 n=1<<<n:=rfl;rw[this,Nat.one_shiftLeft]
 rw[this,Nat.testBit_two_pow];by_cases e:n=i
 ·subst e;simp
 ·simp only[e,Ya3]
  symm;rw[YK];intro h2;exact e (Yad h2)
theorem Zvp (n i:Nat):tbit (allB n) i=true↔i<n:=by
 unfold allB;have:Nat.shiftLeft 1 n=2^n:=by have:Nat.shiftLeft 1 n=1<<<n:=rfl;rw[this,Nat.one_shiftLeft]
 rw[this,ZeZ];have e:Nat.sub (2^n) 1=2^n-1:=rfl;rw[e,Nat.testBit_two_pow_sub_one];simp
theorem ZoL (l:List Nat) (t n:Nat):memN (addN l t) n=(Nat.beq t n||memN l n):=by
 unfold addN;split
 ·rename_i h;by_cases e:t=n
  ·subst e;simp[h]
  ·have:Nat.beq t n=false:=by rw[YK];intro h';rw[Yt] at h';exact e h'
   simp[this]
 ·rfl
theorem Zdf (l:List Nat):∀(r:List Nat) (n:Nat),memN (ZhI l r) n=(memN l n||memN r n)
 |[],n=>by simp[ZhI,memN]
 |t::r,n=>by rw[ZhI,Zdf (addN l t) r n,ZoL,memN];cases Nat.beq t n<;>cases memN l n<;>simp
theorem Zxb (l:List (Nat×Nat)) (b o c d:Nat):memP (addP l b o) c d=((Nat.beq b c&&Nat.beq o d)||memP l c d):=by
 unfold addP;split
 ·rename_i h;by_cases e:b=c/\o=d
  ·obtain⟨rfl,rfl⟩:=e;simp[h]
  ·have:(Nat.beq b c&&Nat.beq o d)=false:=by rw[YK];intro h';simp at h';exact e h'
   simp[this]
 ·rfl
theorem Zde (l:List (Nat×Nat)):∀(r:List (Nat×Nat)) (c d:Nat),memP (Zkz l r) c d=(memP l c d||memP r c d)
 |[],c,d=>by simp[Zkz,memP]
 |(b,o)::r,c,d=>by rw[Zkz,Zde (addP l b o) r c d,Zxb,memP];cases (Nat.beq b c&&Nat.beq o d)<;>cases memP l c d<;>simp
theorem Zd8 (b:Nat):∀(n o:Nat) (l:List (Nat×Nat)) (c d:Nat),memP (Zyh l b o n) c d=(memP l c d||(Nat.beq b c&&decide (o<=d/\d<o+n)))
 |0,o,l,c,d=>by simp[Zyh];omega
 |n+1,o,l,c,d=>by
  rw[Zyh,Zd8 b n (o+1) _ c d,Zxb];by_cases h1:Nat.beq b c=true
  ·rw[h1];simp only[YQ];rw[Bool.eq_iff_iff];simp only[YM,Yt,Yf];constructor
   ·rintro ((rfl|h)|h)
    ·exact .inr (by omega)
    ·exact .inl h
    ·exact .inr (by omega)
   ·rintro (h|h)
    ·exact .inl (.inr h)
    ·by_cases e:o=d
     ·exact .inl (.inl e)
     ·exact .inr (by omega)
  ·simp[YK.2 (by simpa using h1:¬Nat.beq b c=true)]
structure Keep (s o:St):Prop where
 sl:o.Sl.length=s.Sl.length
 slot:∀t,tbit o.dirty t=false->tbit s.dirty t=false/\nth o.Sl t=nth s.Sl t
 bl:s.mem.Bx.length<=o.mem.Bx.length
 box:∀b l,nth s.mem.Bx b=some l->∃l',nth o.mem.Bx b=some l'/\l'.length=l.length/\∀j,memP o.bd b j=false->memP s.bd b j=false/\nth l' j=nth l j
 gl:s.mem.Sg.length<=o.mem.Sg.length
 stg:∀h g,nth s.mem.Sg h=some g->∃g',nth o.mem.Sg h=some g'/\g.ver<=g'.ver/\(memN o.sd h=false->memN s.sd h=false/\g'=g)
theorem Keep.refl (s:St):Keep s s:=⟨rfl,λ_ h=>⟨h,rfl⟩,Ye _,λ_ l h=>⟨l,h,rfl,λ_ k=>⟨k,rfl⟩⟩,Ye _,λ_ g h=>⟨g,h,Ye _,λk=>⟨k,rfl⟩⟩⟩
theorem Keep.trans {a b c:St} (h:Keep a b) (k:Keep b c):Keep a c where
 sl:=k.sl.trans h.sl
 slot:=λt ht=>let ⟨h1,h2⟩:=k.slot t ht;let ⟨h3,h4⟩:=h.slot t h1;⟨h3,h2.trans h4⟩
 bl:=YD h.bl k.bl
 box:=λb l hl=>by obtain⟨l1,h1,h2,h3⟩:=h.box b l hl;obtain⟨l2,h4,h5,h6⟩:=k.box b l1 h1;exact⟨l2,h4,h5.trans h2,λj hj=>let ⟨q1,q2⟩:=h6 j hj;let ⟨q3,q4⟩:=h3 j q1;⟨q3,q2.trans q4⟩⟩
 gl:=YD h.gl k.gl
 stg:=λi g hg=>by obtain⟨g1,h1,h2,h3⟩:=h.stg i g hg;obtain⟨g2,h4,h5,h6⟩:=k.stg i g1 h1;exact⟨g2,h4,YD h2 h5,λhj=>let ⟨q1,q2⟩:=h6 hj;let ⟨q3,q4⟩:=h3 q1;⟨q3,q2.trans q4⟩⟩
theorem Keep.put (s:St) (d:Option Nat) (v:V):Keep s (put s d v):=by
 cases d with
 |none=>exact Keep.refl s
 |some d=>
  refine⟨by simp[S3.put,ZH],λt ht=> ?_,Ye _,λ_ l h=>⟨l,h,rfl,λ_ k=>⟨k,rfl⟩⟩,Ye _,λ_ g h=>⟨g,h,Ye _,λk=>⟨k,rfl⟩⟩⟩;simp only[S3.put,Zcp,Yq] at ht;refine⟨ht.2,?_⟩;have:d≠t:=by intro e;subst e;simp at ht
  simp only[S3.put];rw[ZB this]
theorem Zm2:∀{vs l r:List A} {o:Nat},putN l o vs=some r->r.length=l.length
 |[],l,r,o,h=>by simp[putN] at h;simp[h]
 |v::vs,l,r,o,h=>by
  simp only[putN] at h;split at h
  ·have:=Zm2 h;simpa [ZH] using this
  ·simp at h
theorem ZDo:∀{vs l r:List A} {o:Nat},putN l o vs=some r->∀j,¬(o<=j/\j<o+vs.length)->nth r j=nth l j
 |[],l,r,o,h,j,_=>by simp[putN] at h;simp[h]
 |v::vs,l,r,o,h,j,hj=>by
  simp only[putN] at h;split at h
  ·simp only[List.length_cons] at hj;have:=ZDo h j (by omega);rw[this,Zi,Zi,ZH,Yao (by omega)]
  ·simp at h
structure KeepR (s:St) (r:Res):Prop where
 bl:s.mem.Bx.length<=r.m.Bx.length
 box:∀b l,nth s.mem.Bx b=some l->∃l',nth r.m.Bx b=some l'/\l'.length=l.length/\∀j,memP r.bd b j=false->memP s.bd b j=false/\nth l' j=nth l j
 gl:s.mem.Sg.length<=r.m.Sg.length
 stg:∀h g,nth s.mem.Sg h=some g->∃g',nth r.m.Sg h=some g'/\g.ver<=g'.ver/\(memN r.sd h=false->memN s.sd h=false/\g'=g)
theorem KeepR.still {s:St} {r:Res} (h1:r.m=s.mem) (h2:r.bd=s.bd) (h3:r.sd=s.sd):KeepR s r:=by refine⟨by rw[h1];exact Ye _,λb l h=>⟨l,by rw[h1];exact h,rfl,λj k=>⟨by rw[<-h2];exact k,rfl⟩⟩,by rw[h1];exact Ye _,λi g h=>⟨g,by rw[h1];exact h,Ye _,λk=>⟨by rw[<-h3];exact k,rfl⟩⟩⟩
theorem KeepR.keep {s:St} {r:Res} (h:KeepR s r) (d:Option Nat):Keep s (putRes s d r):=
 Keep.trans (b:={s with mem:=r.m,bd:=r.bd,sd:=r.sd}) ⟨rfl,λ_ h=>⟨h,rfl⟩,h.bl,h.box,h.gl,h.stg⟩ (Keep.put _ _ _)
variable {s':St}
theorem KeepR.of {s:St} (h:Keep s s') (chk:Option Bool) (v:V):KeepR s (ofSt s' chk v):=⟨h.bl,h.box,h.gl,h.stg⟩
theorem KeepR.trans {s s':St} {r:Res} (h:Keep s s') (k:KeepR s' r):KeepR s r:=by have:=h.trans (c:={s' with mem:=r.m,bd:=r.bd,sd:=r.sd}) ⟨rfl,λ_ h=>⟨h,rfl⟩,k.bl,k.box,k.gl,k.stg⟩;exact⟨this.bl,this.box,this.gl,this.stg⟩
theorem ZBd (s:St) (l:List A):KeepR s (Zep s l):=by refine⟨by simp[Zep],λb l' h=>⟨l',ZbX h,rfl,λj k=>⟨k,rfl⟩⟩,Ye _,λ_ g h=>⟨g,h,Ye _,λk=>⟨k,rfl⟩⟩⟩
theorem Zik (s:St) (g:Stg) (chk:Option Bool):KeepR s (Zjg s g chk):=by refine⟨Ye _,λb l' h=>⟨l',h,rfl,λj k=>⟨k,rfl⟩⟩,by simp[Zjg],λ_ g h=>⟨g,ZbX h,Ye _,λk=>⟨k,rfl⟩⟩⟩
variable {h:Nat} {g:Stg}
theorem Zh7 {s:St} {g':Stg} (hg:nth s.mem.Sg h=some g) (hv:g.ver<=g'.ver) (chk:Option Bool) (v:V):
  KeepR s {chk:=chk,v:=v,m:={s.mem with Sg:=setN s.mem.Sg h g'},bd:=s.bd,sd:=addN s.sd h}:=by
 refine⟨Ye _,λb l' h=>⟨l',h,rfl,λj k=>⟨k,rfl⟩⟩,by simp[ZH],λi g1 h1=> ?_⟩;by_cases e:h=i
 ·subst e;have:g1=g:=by rw[hg] at h1;simpa using h1.symm
  subst this;exact⟨g',ZE hg,hv,λk=>by rw[ZoL] at k;simp at k⟩
 ·refine⟨g1,by show nth (setN _ _ _) _=_;rw[ZB e];exact h1,Ye _,λk=> ?_⟩;rw[ZoL,Yq] at k;exact⟨k.2,rfl⟩
theorem ZeU {s:St} {a a':A} (h:Zau s a=some (a',s')):Keep s s':=by
 cases a with
 |tip hh ver=>
  simp only[Zau] at h;split at h
  ·rename_i g hg;split at h
   ·simp only[oinj,pinj] at h;obtain⟨_,rfl⟩:=h;exact Keep.refl s
   ·simp only[oinj,pinj] at h;obtain⟨_,rfl⟩:=h;have:=Zh7 (g':={g with fzn:=true,ffz:=true}) (ZR hg).1 (Ye _) none (.w .junk);exact⟨rfl,λ_ h=>⟨h,rfl⟩,this.bl,this.box,this.gl,this.stg⟩
  ·simp at h
 |sp _ _ _ _=>simp[Zau] at h
 |_=>simp only[Zau,oinj,pinj] at h;obtain⟨_,rfl⟩:=h;exact Keep.refl s
theorem ZgZ:∀{l l':List A} {s s':St},Zat s l=some (l',s')->Keep s s'
 |[],l',s,s',h=>by simp only[Zat,oinj,pinj] at h;obtain⟨_,rfl⟩:=h;exact Keep.refl s
 |a::l,l',s,s',h=>by
  simp only[Zat] at h;split at h
  ·rename_i b s1 h1;split at h
   ·rename_i r s2 h2;simp only[oinj,pinj] at h;obtain⟨_,rfl⟩:=h;exact (ZeU h1).trans (ZgZ h2)
   ·simp at h
  ·simp at h
variable {v:V}
theorem ZxI {s:St} {v':V} (h:Zbe s v=some (v',s')):Keep s s':=by
 cases v with
 |w a=>
  simp only[Zbe] at h;split at h
  ·rename_i b s1 h1;simp only[oinj,pinj] at h;obtain⟨_,rfl⟩:=h;cases a with
   |one a=>
    simp only[ZaF] at h1;split at h1
    ·rename_i c s2 h2;simp only[oinj,pinj] at h1;obtain⟨_,rfl⟩:=h1;exact ZeU h2
    ·simp at h1
   |agg l=>
    simp only[ZaF] at h1;split at h1
    ·rename_i c s2 h2;simp only[oinj,pinj] at h1;obtain⟨_,rfl⟩:=h1;exact ZgZ h2
    ·simp at h1
   |junk=>
    simp only[ZaF,oinj,pinj] at h1;obtain⟨_,rfl⟩:=h1;exact Keep.refl s
  ·simp at h
 |tup l=>
  simp only[Zbe,oinj,pinj] at h;obtain⟨_,rfl⟩:=h;exact Keep.refl s
theorem Zd0:∀{l l':List V} {s s':St},Zac s l=some (l',s')->Keep s s'
 |[],l',s,s',h=>by simp only[Zac,oinj,pinj] at h;obtain⟨_,rfl⟩:=h;exact Keep.refl s
 |a::l,l',s,s',h=>by
  simp only[Zac] at h;split at h
  ·rename_i b s1 h1;split at h
   ·rename_i r s2 h2;simp only[oinj,pinj] at h;obtain⟨_,rfl⟩:=h;exact (ZxI h1).trans (Zd0 h2)
   ·simp at h
  ·simp at h
theorem Zg0:∀{l l':List (Nat×Option (List A))} {s s':St},ZbD s l=some (l',s')->Keep s s'
 |[],l',s,s',h=>by simp only[ZbD,oinj,pinj] at h;obtain⟨_,rfl⟩:=h;exact Keep.refl s
 |(i,some a)::l,l',s,s',h=>by
  simp only[ZbD] at h;split at h
  ·rename_i b s1 h1;split at h
   ·rename_i r s2 h2;simp only[oinj,pinj] at h;obtain⟨_,rfl⟩:=h;exact (ZgZ h1).trans (Zg0 h2)
   ·simp at h
  ·simp at h
 |(_,none)::_,_,_,_,h=>by simp[ZbD] at h
section
variable {P:Program} {s:St} {r:Res}
theorem Zdb {a:A} (h:Zbo s a=some r):KeepR s r:=by simp only[Zbo,oinj] at h;subst h;exact .still rfl rfl rfl
theorem Zu6 {a:V} (h:valR s a=some r):KeepR s r:=by simp only[valR,oinj] at h;subst h;exact .still rfl rfl rfl
theorem ZBJ {t:TypeId} {l:List A} {i:A} (h:Zxz P s t l i=some r):KeepR s r:=by
 unfold Zxz at h;repeat' split at h
 all_goals first
  |exact Zu6 h
  |(simp at h;done)
  |(simp only[oinj] at h;subst h;exact .still rfl rfl rfl)
theorem ZCh {P:Program} {s:St} {t:TypeId} {x:A} {r:Res} (h:Zyd P s t x=some r):KeepR s r:=by
 unfold Zyd at h;repeat' split at h
 all_goals first
  |(simp at h;done)
  |(simp only[ofSt,oinj] at h;subst h;exact .still rfl rfl rfl)
theorem Zex {t:TypeId} {x i:A} (h:ZaN P s t x i=some r):KeepR s r:=by
 unfold ZaN at h;repeat' split at h
 all_goals first
  |exact Zdb h
  |(simp at h;done)
  |(simp only[oinj] at h;subst h;exact .still rfl rfl rfl)
theorem ZyG {t:TypeId} {x:A} {lo hi mx:Option Operand} (h:sliceB P s t x lo hi mx=some r):KeepR s r:=by
 unfold sliceB at h;repeat' split at h
 all_goals first
  |(simp at h;done)
  |(simp only[oinj] at h;subst h;exact .still rfl rfl rfl)
theorem ZyF {t:TypeId} {b:ByteArray} {lo hi mx:Option Operand} (h:Zqg P s t b lo hi mx=some r):KeepR s r:=by
 unfold Zqg at h;repeat' split at h
 all_goals first
  |(simp at h;done)
  |(simp only[oinj] at h;subst h;exact .still rfl rfl rfl)
theorem ZBI {t:TypeId} {b:ByteArray} {i:A} (h:Zxy P s t b i=some r):KeepR s r:=by
 unfold Zxy at h;repeat' split at h
 all_goals first
  |(simp at h;done)
  |(simp only[oinj] at h;subst h;exact .still rfl rfl rfl)
theorem ZyH {t:TypeId} {x:A} {lo hi mx:Option Operand} (h:Zqh P s t x lo hi mx=some r):KeepR s r:=by
 unfold Zqh at h;split at h
 ·rename_i x' s' hf;split at h
  ·simp at h
  ·exact KeepR.trans (ZeU hf) (ZyF h)
  ·exact KeepR.trans (ZeU hf) (ZyG h)
 ·simp at h
theorem Zlr {t:TypeId} {n:Nat} {ps:List (Nat×Option (List A))} (h:Zdo P s t n ps=some r):KeepR s r:=by
 unfold Zdo at h;repeat' split at h
 all_goals first
  |(simp at h;done)
  |(simp only[oinj] at h;subst h;exact .still rfl rfl rfl)
theorem Zlq {t:TypeId} {n:Nat} {ps:List (Nat×Option (List A))} (h:Zdn P s t n ps=some r):KeepR s r:=by
 unfold Zdn at h;repeat' split at h
 all_goals first
  |(simp at h;done)
  |(simp only[oinj] at h;subst h;exact Zik _ _ _)
theorem ZoM {t:TypeId} {l c:A} (h:Zfs P s t l c=some r):KeepR s r:=by
 unfold Zfs at h;repeat' split at h
 all_goals first
  |(simp at h;done)
  |(simp only[oinj] at h;subst h;exact Zik _ _ _)
theorem Zye {t t':TypeId} {x y:A} (h:ZkT P s t t' x y=some r):KeepR s r:=by
 unfold ZkT at h;repeat' split at h
 all_goals first
  |(simp at h;done)
  |(simp only[oinj] at h;subst h;exact Zik _ _ _)
  |(simp only[oinj] at h;subst h;exact .still rfl rfl rfl)
  |skip
 ·rename_i g hg _ _;simp only[oinj] at h;subst h;obtain⟨h1,h2⟩:=ZR hg;exact Zh7 h1 (by simp only;omega) _ _
theorem ZNv {t:TypeId} (h:lenA P s t v=some r):KeepR s r:=by
 unfold lenA at h;repeat' split at h
 all_goals first
  |exact Zdb h
  |(simp at h;done)
  |(simp only[oinj] at h;subst h;exact .still rfl rfl rfl)
theorem ZuR {t t':TypeId} {x:A} (h:ZjJ P s t t' x=some r):KeepR s r:=by
 unfold ZjJ at h;repeat' split at h
 all_goals first
  |exact Zdb h
  |(simp at h;done)
theorem Zyz {t:TypeId} {p:A} {l:List A} (h:Zvt P s t p l=some r):KeepR s r:=by
 unfold Zvt at h;split at h
 ·simp at h
 ·rename_i n hn;split at h
  ·simp at h
  ·rename_i hbeq;simp only[Yt,Zad] at hbeq;split at h
   ·rename_i b off;split at h
    ·simp at h
    ·rename_i c hcb;split at h
     ·simp at h
     ·rename_i c' hput;simp only[oinj] at h;subst h;refine⟨by simp[ZH],λb' l' hb'=> ?_,Ye _,λ_ g h=>⟨g,h,Ye _,λk=>⟨k,rfl⟩⟩⟩;by_cases e:b=b'
      ·subst e;have:l'=c:=by rw[hcb] at hb';simpa using hb'.symm
       subst this;refine⟨c',ZE hcb,Zm2 hput,λj hj=> ?_⟩;rw[Zd8,Yq] at hj;refine⟨hj.1,ZDo hput j ?_⟩;have:=hj.2;simp at this;rw[<-hbeq];omega
      ·refine⟨l',by show nth (setN _ _ _) _=_;rw[ZB e];exact hb',rfl,λj hj=> ?_⟩;rw[Zd8,Yq] at hj;exact⟨hj.1,rfl⟩
   ·rename_i hh v i off;split at h
    ·simp at h
    ·rename_i g hg;split at h
     ·simp at h
     ·split at h
      ·simp at h
      ·split at h
       ·simp at h
       ·simp only[oinj] at h;subst h;refine Zh7 (ZR hg).1 ?_ _ _;exact Ye _
   ·simp at h
theorem ZuV {b:Builtin} {ts:List TypeId} {vs:List V} (h:Zdr P s b ts vs=some r):KeepR s r:=by
 unfold Zdr at h;split at h
 ·split at h
  ·exact Zdb h
  ·simp at h
 ·split at h
  ·exact Zdb h
  ·simp at h
 ·exact ZNv h
 ·exact Zye h
 ·simp at h
end
theorem ZOi {E:Env} {s:St} {op:Op} {r:Res} (h:evOp E s op=some r):KeepR s r:=by
 unfold evOp at h;repeat' split at h
 all_goals first
  |exact Zdb h
  |exact Zu6 h
  |(simp at h;done)
  |(rw[Yar] at h;obtain⟨z,_,h⟩:=h;exact Zdb h)
  |(rw[YB] at h;obtain⟨z,_,rfl⟩:=h;exact ZBd s z)
  |exact ZBJ h
  |exact ZBI h
  |exact Zex h
  |exact ZCh h
  |exact ZyH h
  |exact ZoM h
  |exact ZuR h
  |exact Zyz h
  |(simp only[oinj] at h;subst h;exact .still rfl rfl rfl)
  |skip
 ·unfold Zf6 at h;split at h
  ·rename_i ps s' hf;exact KeepR.trans (Zg0 hf) (Zlq h)
  ·simp at h
 ·unfold ZeE at h;split at h
  ·rename_i ps s' hf;exact KeepR.trans (Zg0 hf) (Zlr h)
  ·simp at h
structure KeepC (m:Mem) (r:Res):Prop where
 bl:m.Bx.length<=r.m.Bx.length
 box:∀b l,nth m.Bx b=some l->∃l',nth r.m.Bx b=some l'/\l'.length=l.length/\∀j,memP r.bd b j=false->nth l' j=nth l j
 gl:m.Sg.length<=r.m.Sg.length
 stg:∀h g,nth m.Sg h=some g->∃g',nth r.m.Sg h=some g'/\g.ver<=g'.ver/\(memN r.sd h=false->g'=g)
theorem KeepC.keepR {s:St} {r:Res} (h:KeepC s.mem r):KeepR s (ZuU s r):=by
 refine⟨h.bl,λb l hl=> ?_,h.gl,λi g hg=> ?_⟩
 ·obtain⟨l',h1,h2,h3⟩:=h.box b l hl;refine⟨l',h1,h2,λj hj=> ?_⟩;simp only[ZuU,Zde,Yq] at hj;exact⟨hj.1,h3 j hj.2⟩
 ·obtain⟨g',h1,h2,h3⟩:=h.stg i g hg;refine⟨g',h1,h2,λhj=> ?_⟩;simp only[ZuU,Zdf,Yq] at hj;exact⟨hj.1,h3 hj.2⟩
abbrev AllK (s:St) (t:RT Out):Prop:=t.All (λo=>Keep s o.s)
theorem AllK.trans {a b:St} (h:Keep a b) {t:RT Out} (k:AllK b t):AllK a t:=k.mono λ_ q=>h.trans q
theorem Zaf (s:St):AllK s (ZfI s):=Keep.refl s
theorem Zg4 {s:St} {c:Option Bool} {t:RT Out} (h:AllK s t):AllK s (chkT c s t):=by
 cases c with
 |none=>exact h
 |some b=>exact⟨h,Keep.refl s⟩
structure RH (x0:Ctx) (w0:World) (x:Ctx) (s:St) (a:Act) (w:World):Prop where
 r:Rel x s a w
 e:Ext x0 x
 t:Step x0 w0 w
structure ExtM (x x':Ctx):Prop where
 M:∀b p,nth x.M b=some p->nth x'.M b=some p
 S:∀h s,nth x.S h=some s->∃s',nth x'.S h=some s'/\SLe s s'
theorem ExtM.refl (x:Ctx):ExtM x x:=⟨λ_ _ h=>h,λ_ s h=>⟨s,h,.refl s⟩⟩
theorem ExtM.trans {x y z:Ctx} (h:ExtM x y) (k:ExtM y z):ExtM x z:=
 ⟨λb p e=>k.M b p (h.M b p e),λi s e=>let ⟨s1,e1,l1⟩:=h.S i s e;let ⟨s2,e2,l2⟩:=k.S i s1 e1;⟨s2,e2,l1.trans l2⟩⟩
variable {x':Ctx}
theorem Ext.extM {x:Ctx} (h:Ext x x'):ExtM x x':=⟨h.M,h.S⟩
def QK (Q:Exit->Act->World->Prop):K->Act->World->Prop
 | .normal,a,w=>Q .normal a w
 | .exit i,a,w=>Q (.exit i) a w
 | .ret,a,w=>Q .ret a w
 | .stop,_,_=>False
def Hold (x0:Ctx) (w0:World) (x:Ctx) (Q:Exit->Act->World->Prop) (o:Out):Prop:=
 ∀x' a' w',RH x0 w0 x' o.s a' w'->ExtM x x'->QK Q o.k a' w'
structure Back (x x' x'':Ctx):Prop where
 a:ExtM x x'
 b:ExtM x x''
 S:∀h s s',nth x.S h=some s->nth x'.S h=some s'->∃s'',nth x''.S h=some s''/\s'.ver<=s''.ver/\s''.blk=s'.blk/\s''.n=s'.n/\s''.w=s'.w/\s''.na=s'.na
 fz:x''.fz=x'.fz
 own:x''.own=x'.own
theorem Back.bare {x x' x'':Ctx} (h:Back x x' x''):x''.bare=x'.bare:=by simp only[Ctx.bare,h.fz,h.own]
theorem RA.cut {x:Ctx} {a:A} {v0:Value} (h:RA x a v0):∀{x' x'':Ctx} {v:Value},Back x x' x''->RA x' a v->RA x'' a v:=by
 induction h with
 |bool x l b=>intro x' x'' v _ k;cases k;exact .bool _ _ _
 |int x l k n h=>intro x' x'' v _ k;cases k;exact .int _ _ _ _ h
 |str x s=>intro x' x'' v _ k;cases k;exact .str _ _
 |loc x b o p h=>
  intro x' x'' v hb k;cases k with
  |loc _ _ _ q hq=>
   have:q=p:=by rw[hb.a.M b p h] at hq;simpa using hq.symm
   subst this;exact .loc _ _ _ _ (hb.b.M b q h)
 |nilp x=>intro x' x'' v _ k;cases k;exact .nilp _
 |nilsl x=>intro x' x'' v _ k;cases k;exact .nilsl _
 |lst0 x r lit full nn l a cap h hf hn hz=>
  intro x' x'' v hb k;exact k.plain (λb o u e=>by rw[hb.fz];exact e) rfl
 |lst x r lit full nn l p o cap c h hf hcap hml hz hr ih=>
  intro x' x'' v hb k;exact k.plain (λb o u e=>by rw[hb.fz];exact e) rfl
 |tip x h ver s v hs hv hval hat=>
  intro x' x'' u hb k;cases k with
  |tip _ _ _ s' _ hs' hv' hval' hat'=>
   obtain⟨s'',e1,e2,e3,e4,e5,e6⟩:=hb.S h s s' hs hs';obtain⟨s1,f1,f2⟩:=hb.a.S h s hs;have:s1=s':=by rw[hs'] at f1;simpa using f1.symm
   subst this;refine .tip _ _ _ s'' _ e1 (by omega) (λe=> ?_) hat';have h1:=f2.ver;rw[hval' (by omega)];simp only[tipVal,e3,e4,e6]
 |fp x l p o c hf hr ih=>
  intro x' x'' v hb k;cases k with
  |fp _ _ p o c hf hr=>exact .fp _ _ _ _ c (by rw[hb.fz];exact hf) (by rw[hb.bare];exact hr)
 |sp x h ver i o s v hs hv hval hat=>
  intro x' x'' u hb k;cases k with
  |sp _ _ _ _ _ s' _ hs' hv' hval' hat'=>
   obtain⟨s'',e1,e2,e3,e4,e5,e6⟩:=hb.S h s s' hs hs';obtain⟨s1,f1,f2⟩:=hb.a.S h s hs;have:s1=s':=by rw[hs'] at f1;simpa using f1.symm
   subst this;refine .sp _ _ _ _ _ s'' _ e1 (by omega) (λe=> ?_) hat';have h1:=f2.ver;obtain⟨p,cap,q1,q2,q3,q4⟩:=hval' (by omega);exact⟨p,cap,by rw[e3];exact q1,q2,by rw[e4];exact q3,by rw[e5];exact q4⟩
 |clo x f caps cs c hl hc hr ih=>
  intro x' x'' v hb k;cases k with
  |clo _ _ _ cs' c' hl' hc' hr'=>exact .clo _ _ _ _ c' hl' hc' (λj a ha=>ih j a ha hb (hr' j a ha))
 |raw x v h=>intro x' x'' u _ k;cases k;exact .raw _ _ h
 |junk x v h=>intro x' x'' u _ k;exact .junk _ _ k.atomic
theorem RL.cut {x x' x'':Ctx} (hb:Back x x' x''):∀{l:List A} {u v:List Value},RL x l u->RL x' l v->RL x'' l v
 |[],[],[],_,_=>trivial
 |_::_,_::_,_::_,h,k=>⟨h.1.cut hb k.1,RL.cut hb h.2 k.2⟩
 |[],_::_,_,h,_=>h.elim
 |[],[],_::_,_,k=>k.elim
 |_::_,[],_,h,_=>h.elim
 |_::_,_::_,[],_,k=>k.elim
theorem RW.cut {x x' x'':Ctx} (hb:Back x x' x'') {l:W} {u v:Value} (h:RW x l u) (k:RW x' l v):RW x'' l v:=by
 cases l with
 |one a=>exact RA.cut h hb k
 |agg l=>obtain⟨C,_,h⟩:=h;obtain⟨D,e,k⟩:=k;exact⟨D,e,h.cut hb k⟩
 |junk=>trivial
theorem RWs.cut {x x' x'':Ctx} (hb:Back x x' x''):∀{l:List W} {u v:List Value},RWs x l u->RWs x' l v->RWs x'' l v
 |[],[],[],_,_=>trivial
 |_::_,_::_,_::_,h,k=>⟨RW.cut hb h.1 k.1,RWs.cut hb h.2 k.2⟩
 |[],_::_,_,h,_=>h.elim
 |[],[],_::_,_,k=>k.elim
 |_::_,[],_,h,_=>h.elim
 |_::_,_::_,[],_,k=>k.elim
theorem RV.cut {x x' x'':Ctx} (hb:Back x x' x'') {l:V} {u v:Value} (h:RV x l u) (k:RV x' l v):RV x'' l v:=by
 cases l with
 |w a=>exact RW.cut hb h k
 |tup l=>obtain⟨C,_,h⟩:=h;obtain⟨D,e,k⟩:=k;exact⟨D,e,h.cut hb k⟩
variable {α:Type} {n b:Nat}
theorem Zaw {l:List α} (h:b<n):nth (Z0 n l) b=nth l b:=by rw[ZdE,Zi,Zi,YI,YX h]
theorem ZJ {l:List α} {a:α} (h:nth (Z0 n l) b=some a):b<n/\nth l b=some a:=by
 have h1:=ZZ h;rw[ZdE] at h1;rw[YH] at h1;have h2:b<n:=by omega
 exact⟨h2,by rw[<-Zaw h2];exact h⟩
theorem Za6 {l:List α} (h:n<=l.length):(Z0 n l).length=n:=by rw[ZdE,YH];omega
theorem Zes {t:Nat} {ts:List Nat} {i:Nat} (h:memN (t::ts) i=false):t≠i/\memN ts i=false:=by simp only[memN,Yq] at h;exact⟨λe=>by subst e;simp at h,h.2⟩
theorem Zdm {a:α} {o:Option (List α)} {r:List α} (h:Zx4 a o=some r):∃l,o=some l/\r=a::l:=by
 cases o with
 |none=>simp[Zx4] at h
 |some l=>simp only[Zx4,oinj] at h;exact⟨l,rfl,h.symm⟩
theorem ZdA {c:Bool} {tm:Nat->Nat->Nat->Option Nat} {nb:Nat} {nm:Nm} {mk:Nat}:∀{l y r:List V} {i:Nat},ZdQ c tm nb nm mk i y l=some r->r.length=l.length/\∀j,tbit mk (i+j)=false->nth r j=nth l j
 |[],y,r,i,h=>by simp only[ZdQ,oinj] at h;subst h;exact⟨rfl,λ_ _=>rfl⟩
 |a::l,[],r,i,h=>by
  simp only[ZdQ] at h;split at h
  ·obtain⟨r',h1,rfl⟩:=Zdm h;obtain⟨q1,q2⟩:=ZdA h1;refine⟨by simp[q1],λj hj=> ?_⟩;cases j with
   |zero=>rfl
   |succ j=>exact q2 j (by rw[<-hj];congr 1;omega)
  ·simp at h
 |a::l,b::y,r,i,h=>by
  simp only[ZdQ] at h;split at h
  ·obtain⟨r',h1,rfl⟩:=Zdm h;obtain⟨q1,q2⟩:=ZdA h1;refine⟨by simp[q1],λj hj=> ?_⟩;cases j with
   |zero=>rfl
   |succ j=>exact q2 j (by rw[<-hj];congr 1;omega)
  ·rename_i hm;have fin:∀z,Zx4 z (ZdQ c tm nb nm mk (i+1) y l)=some r->r.length=(a::l).length/\∀j,tbit mk (i+j)=false->nth r j=nth (a::l) j:=by
    intro z hz;obtain⟨r',h1,rfl⟩:=Zdm hz;obtain⟨q1,q2⟩:=ZdA h1;refine⟨by simp[q1],λj hj=> ?_⟩;cases j with
    |zero=>rw[Nat.add_zero,hm] at hj;simp at hj
    |succ j=>exact q2 j (by rw[<-hj];congr 1;omega)
   split at h
   ·exact fin _ h
   ·split at h
    ·exact fin _ h
    ·simp at h
theorem ZoO {nb:Nat} {nm:Nm} {tm:Nat->Nat->Nat->Option Nat} {c:Bool} {mk:Nat} {x x':Ctx} (hx:Cut nb tm c x x') (u:Nat->Value):
  ∀(l y:List V) (i:Nat) (r:List V),ZdQ c tm nb nm mk i y l=some r->(∀j v,tbit mk (i+j)=true->(cond c (nth l j) (nth y j))=some v->RV x v (u (i+j)))->
   ∀j v,tbit mk (i+j)=true->nth r j=some v->RV x' v (u (i+j))
 |[],y,i,r,h,_,j,v,hj,hv=>by simp only[ZdQ,oinj] at h;subst h;simp[Zn] at hv
 |a::l,[],i,r,h,hl,j,v,hj,hv=>by
  simp only[ZdQ] at h;split at h
  ·rename_i hm;obtain⟨r',h1,rfl⟩:=Zdm h;cases j with
   |zero=>rw[Nat.add_zero,hm] at hj;simp at hj
   |succ j=>
    have e:i+(j+1)=i+1+j:=by omega
    rw[e] at hj|-;refine ZoO hx u l [] (i+1) r' h1 (λj v hj hv=> ?_) j v hj hv;have:=hl (j+1) v (by rw[<-hj];congr 1;omega) (by cases c with|true=>exact hv|false=>exact hv);rwa [show i+(j+1)=i+1+j by omega] at this
  ·simp at h
 |a::l,b::y,i,r,h,hl,j,v,hj,hv=>by
  simp only[ZdQ] at h;have rest:∀r',ZdQ c tm nb nm mk (i+1) y l=some r'->∀j v,tbit mk (i+(j+1))=true->nth r' j=some v->RV x' v (u (i+(j+1))):=by
   intro r' h1 j v hj hv;have e:i+(j+1)=i+1+j:=by omega
   rw[e] at hj|-;refine ZoO hx u l y (i+1) r' h1 (λj v hj hv=> ?_) j v hj hv;have:=hl (j+1) v (by rw[<-hj];congr 1;omega) hv;rwa [show i+(j+1)=i+1+j by omega] at this
  split at h
  ·rename_i hm;obtain⟨r',h1,rfl⟩:=Zdm h;cases j with
   |zero=>rw[Nat.add_zero,hm] at hj;simp at hj
   |succ j=>exact rest r' h1 j v hj hv
  ·rename_i hm;split at h
   ·obtain⟨r',h1,rfl⟩:=Zdm h;cases j with
    |zero=>simp only[nth,oinj] at hv;subst hv;trivial
    |succ j=>exact rest r' h1 j v hj hv
   ·split at h
    ·rename_i z hz;obtain⟨r',h1,rfl⟩:=Zdm h;cases j with
     |zero=>
      simp only[nth,oinj] at hv;subst hv;refine mV_ok hx hz (hl 0 _ (by rw[Nat.add_zero];exact hm) ?_);cases c<;>rfl
     |succ j=>exact rest r' h1 j v hj hv
    ·simp at h
variable {j:Nat}
theorem Zer {o:Nat} {ts:List (Nat×Nat)} {c:Nat} (h:memP ((b,o)::ts) c j=false):¬(b=c/\o=j)/\memP ts c j=false:=by simp only[memP,Yq] at h;exact⟨λe=>by obtain⟨rfl,rfl⟩:=e;simp at h,h.2⟩
theorem ZdB {c:Bool} {tm:Nat->Nat->Nat->Option Nat} {nb:Nat} {y:List (List A)}:∀{ts:List (Nat×Nat)} {l r:List (List A)},Zjo c tm nb y ts l=some r->r.length=l.length/\
  ∀b q,nth l b=some q->∃q',nth r b=some q'/\q'.length=q.length/\∀j,memP ts b j=false->nth q' j=nth q j
 |[],l,r,h=>by simp only[Zjo,oinj] at h;subst h;exact⟨rfl,λb q hq=>⟨q,hq,rfl,λj _=>rfl⟩⟩
 |(b,o)::ts,l,r,h=>by
  simp only[Zjo] at h;split at h
  ·obtain⟨h1,h2⟩:=ZdB h;refine⟨h1,λb' q hq=> ?_⟩;obtain⟨q',e1,e2,e3⟩:=h2 b' q hq;exact⟨q',e1,e2,λj hj=>e3 j (Zer hj).2⟩
  ·split at h
   ·rename_i q0 q1 hq0 hq1;split at h
    ·rename_i a a' ha ha';split at h
     ·rename_i z hz;obtain⟨h1,h2⟩:=ZdB h;refine⟨by simpa [ZH] using h1,λb' q hq=> ?_⟩;by_cases e:b=b'
      ·subst e;have:q=q0:=by rw[hq0] at hq;simpa using hq.symm
       subst this;obtain⟨q',e1,e2,e3⟩:=h2 b (setN q o z) (ZE hq0);refine⟨q',e1,by simpa [ZH] using e2,λj hj=> ?_⟩;obtain⟨k1,k2⟩:=Zer hj;rw[e3 j k2];exact ZB (λe=>k1 ⟨rfl,e⟩)
      ·obtain⟨q',e1,e2,e3⟩:=h2 b' q (by rw[ZB e];exact hq);exact⟨q',e1,e2,λj hj=>e3 j (Zer hj).2⟩
     ·simp at h
    ·simp at h
   ·simp at h
theorem ZoQ {nb:Nat} {tm:Nat->Nat->Nat->Option Nat} {c:Bool} {x x':Ctx} (hx:Cut nb tm c x x') {y:List (List A)} (u:Nat->Nat->Value):
  ∀(ts:List (Nat×Nat)) (l r:List (List A)),Zjo c tm nb y ts l=some r->(∀b q j a,b<nb->memP ts b j=true->cond c (nth l b) (nth y b)=some q->nth q j=some a->RA x a (u b j))->
   ∀b q j a,b<nb->memP ts b j=true->nth r b=some q->nth q j=some a->RA x' a (u b j)
 |[],l,r,h,_,b,q,j,a,_,hm,_,_=>by simp[memP] at hm
 |(b,o)::ts,l,r,h,hl,b',q,j,a,hb',hm,hq,ha=>by
  simp only[Zjo] at h;split at h
  ·rename_i hsk;refine ZoQ hx u ts l r h (λb q j a h1 h2 h3 h4=>hl b q j a h1 (by simp[memP,h2]) h3 h4) b' q j a hb' ?_ hq ha;simp only[memP,YM,Yb,Yt] at hm;rcases hm with ⟨rfl,rfl⟩|hm
   ·simp only[YM,YJ] at hsk;rcases hsk with h1|h1
    ·have:Nat.blt b nb=true:=by rw[Yaf];exact hb'
     rw[this] at h1;simp at h1
    ·exact h1
   ·exact hm
  ·rename_i hsk;simp only[Yq,Bool.not_eq_false'] at hsk;obtain⟨hlt,hno⟩:=hsk;split at h
   ·rename_i q0 q1 hq0 hq1;split at h
    ·rename_i a0 a1 ha0 ha1;split at h
     ·rename_i z hz;by_cases hm2:memP ts b' j=true
      ·refine ZoQ hx u ts _ r h (λb2 q2 j2 a2 h1 h2 h3 h4=> ?_) b' q j a hb' hm2 hq ha;have hne:¬(b=b2/\o=j2):=λe=>by obtain⟨rfl,rfl⟩:=e;rw[hno] at h2;simp at h2
       cases c with
       |false=>exact hl b2 q2 j2 a2 h1 (by simp[memP,h2]) h3 h4
       |true=>
        have h3:nth (setN l b (setN q0 o z)) b2=some q2:=h3;by_cases e:b=b2
        ·subst e;rw[ZE hq0] at h3;simp only[oinj] at h3;subst h3;rw[ZB (λe=>hne ⟨rfl,e⟩)] at h4;exact hl b q0 j2 a2 h1 (by simp[memP,h2]) hq0 h4
        ·rw[ZB e] at h3;exact hl b2 q2 j2 a2 h1 (by simp[memP,h2]) h3 h4
      ·have hm2':memP ts b' j=false:=by simpa using hm2
       have hbo:b=b'/\o=j:=by simp only[memP,hm2',Yx,Yb,Yt] at hm;exact hm
       obtain⟨rfl,rfl⟩:=hbo;obtain⟨q',e1,e2,e3⟩:=(ZdB h).2 b (setN q0 o z) (ZE hq0);have:q'=q:=by rw[hq] at e1;simpa using e1.symm
       subst this;rw[e3 o hm2',ZE ha0] at ha;simp only[oinj] at ha;subst ha;refine ZWD hx hz ?_;cases c with
       |false=>exact hl b q1 o a1 hb' (by simp[memP]) hq1 ha1
       |true=>exact hl b q0 o a0 hb' (by simp[memP]) hq0 ha0
     ·simp at h
    ·simp at h
   ·simp at h
structure Rep (gb g:Stg):Prop where
 rl:(⟨g.r,g.l⟩:(r:R)×List r.den)=⟨gb.r,gb.l⟩
 T:g.T=gb.T
 ver:gb.ver<=g.ver
 fzn:g.fzn=false->gb.fzn=false
 ffz:g.ffz=true->gb.ffz=true
 ub:0<g.ub->0<gb.ub/\gb.ub<=g.ub
theorem Rep.refl (g:Stg):Rep g g:=⟨rfl,rfl,Ye _,λh=>h,λh=>h,λh=>⟨h,Ye _⟩⟩
theorem StgOk.rep {x:Ctx} {gb:Stg} {s:SI} {w:World} (h:StgOk x gb s w) (hr:Rep gb g):StgOk x g {s with ver:=g.ver} w:=by obtain⟨r,T,l,ver,fzn,ffz,lit,ub⟩:=g;obtain⟨r',T',l',ver',fzn',ffz',lit',ub'⟩:=gb;obtain⟨h1,h2,h3,h4,h5,h6⟩:=hr;simp only at h1 h2 h3 h4 h5 h6;cases h1;subst h2;exact⟨rfl,h.n,h.wd,h.nil,h.row,λe=>h.fzn (h4 e),λe=>h.ffz (h5 e),λe=>YaL (h.ub (h6 e).1) (h6 e).2⟩
variable {c:Bool}
theorem Zum {a b:Stg} (h:mStg c a b=some g):Rep (cond c a b) g:=by
 unfold mStg at h;split at h
 ·rename_i e he hT;simp only[Yt] at hT;simp only[oinj] at h;subst h;have hver:(cond c a b).ver<=(match Nat.beq a.ver b.ver with|true=>a.ver|false=>Nat.max a.ver b.ver+1):=by
   split
   ·rename_i hb;simp only[Yt] at hb;cases c
    ·exact Nat.le_of_eq hb.symm
    ·exact Ye _
   ·have h1:a.ver<=Nat.max a.ver b.ver:=Nat.le_max_left _ _;have h2:b.ver<=Nat.max a.ver b.ver:=Nat.le_max_right _ _;cases c
    ·exact Nat.le_succ_of_le h2
    ·exact Nat.le_succ_of_le h1
  have hub:∀m n:Nat,0<(match Nat.blt 0 m&&Nat.blt 0 n with|true=>(match Nat.ble m n with|true=>n|false=>m)|false=>0)->(0<m/\m<=(match Nat.blt 0 m&&Nat.blt 0 n with|true=>(match Nat.ble m n with|true=>n|false=>m)|false=>0))/\(0<n/\n<=(match Nat.blt 0 m&&Nat.blt 0 n with|true=>(match Nat.ble m n with|true=>n|false=>m)|false=>0)):=by
   intro m n h;split at h
   ·rename_i hb;simp only[Yb,Yaf] at hb;split
    ·rename_i hle;simp only[Yy] at hle;exact⟨⟨hb.1,hle⟩,hb.2,Ye _⟩
    ·rename_i hle;rw[YK,Ne,Yy] at hle;exact⟨⟨hb.1,Ye _⟩,hb.2,by omega⟩
   ·omega
  obtain⟨ar,aT,al,av,af,aff,alit,aub⟩:=a;obtain⟨br,bT,bl,bv,bf,bff,blit,bub⟩:=b;cases e;simp only at hT;subst hT;cases c with
  |true=>exact⟨rfl,rfl,hver,λe=>by simp at e;exact e.1,λe=>by simp at e;exact e.1,λe=>(hub _ _ e).1⟩
  |false=>exact⟨rfl,rfl,hver,λe=>by simp at e;exact e.2,λe=>by simp at e;exact e.2,λe=>(hub _ _ e).2⟩
 ·simp at h
theorem Zdg {c:Bool} {y:List Stg}:∀{ts:List Nat} {l r:List Stg},ZpU c y ts l=some r->r.length=l.length/\∀i,memN ts i=false->nth r i=nth l i
 |[],l,r,h=>by simp only[ZpU,oinj] at h;subst h;exact⟨rfl,λ_ _=>rfl⟩
 |t::ts,l,r,h=>by
  simp only[ZpU] at h;split at h
  ·obtain⟨h1,h2⟩:=Zdg h;exact⟨h1,λi hi=>h2 i (Zes hi).2⟩
  ·split at h
   ·split at h
    ·obtain⟨h1,h2⟩:=Zdg h;refine⟨by simpa [ZH] using h1,λi hi=> ?_⟩;obtain⟨q1,q2⟩:=Zes hi;rw[h2 i q2,ZB q1]
    ·simp at h
   ·obtain⟨h1,h2⟩:=Zdg h;exact⟨h1,λi hi=>h2 i (Zes hi).2⟩
theorem Zeu {c:Bool} {y:List Stg}:∀{ts:List Nat} {l r:List Stg},y.length=l.length->ZpU c y ts l=some r->∀h g gb,memN ts h=true->nth r h=some g->cond c (nth l h) (nth y h)=some gb->Rep gb g
 |[],l,r,_,h,i,g,gb,hm,_,_=>by simp[memN] at hm
 |t::ts,l,r,hyl,h,i,g,gb,hm,hg,hgb=>by
  simp only[ZpU] at h;split at h
  ·rename_i hmm;refine Zeu hyl h i g gb ?_ hg hgb;simp only[memN,YM,Yt] at hm;rcases hm with rfl|hm
   ·exact hmm
   ·exact hm
  ·rename_i hmm;split at h
   ·rename_i a b ha hb;split at h
    ·rename_i z hz;by_cases hm2:memN ts i=true
     ·have hne:t≠i:=λe=>by subst e;rw[hmm] at hm2;simp at hm2
      exact Zeu (by simpa [ZH] using hyl) h i g gb hm2 hg (by rw[ZB hne];exact hgb)
     ·have hm2':memN ts i=false:=by simpa using hm2
      have:t=i:=by simp only[memN,hm2',Yx,Yt] at hm;exact hm
      subst this;rw[(Zdg h).2 t hm2',ZE ha] at hg;simp only[oinj] at hg;subst hg;have:=Zum hz;cases c
      ·have:gb=b:=by simp only[Yc,hb,oinj] at hgb;exact hgb.symm
       subst this;exact Zum hz
      ·have:gb=a:=by simp only[Ya,ha,oinj] at hgb;exact hgb.symm
       subst this;exact Zum hz
    ·simp at h
   ·rename_i hno;by_cases hm2:memN ts i=true
    ·exact Zeu hyl h i g gb hm2 hg hgb
    ·have hm2':memN ts i=false:=by simpa using hm2
     have:t=i:=by simp only[memN,hm2',Yx,Yt] at hm;exact hm
     subst this;exfalso;have hlt:t<l.length:=by
      cases c
      ·have:=ZZ (show nth y t=some gb from hgb);omega
      ·exact ZZ (show nth l t=some gb from hgb)
     obtain⟨p,hp⟩:=ZcT hlt;obtain⟨q,hq⟩:=ZcT (l:=y) (n:=t) (by omega);exact hno p q hp hq
variable {y1 y2:St}
theorem ZoK {nb ns:Nat} {nm:Nm} {m:St} (h:Zxa c nb ns nm y1 y2=some m):
  ZpU c (Z0 ns y2.mem.Sg) (ZhI y1.sd y2.sd) (Z0 ns y1.mem.Sg)=some m.mem.Sg/\
  ZdQ c (tipM y1.mem.Sg y2.mem.Sg m.mem.Sg) nb nm (Nat.lor y1.dirty y2.dirty) 0 y2.Sl y1.Sl=some m.Sl/\
  Zjo c (tipM y1.mem.Sg y2.mem.Sg m.mem.Sg) nb y2.mem.Bx (Zkz y1.bd y2.bd) (Z0 nb y1.mem.Bx)=some m.mem.Bx/\
  m.dirty=Nat.lor y1.dirty y2.dirty/\m.bd=Zkz y1.bd y2.bd/\m.sd=ZhI y1.sd y2.sd:=by
 unfold Zxa at h;split at h
 ·simp at h
 ·rename_i st hst;split at h
  ·simp at h
  ·rename_i sl hsl;split at h
   ·simp at h
   ·rename_i bx hbx;simp only[oinj] at h;subst h;exact⟨hst,hsl,hbx,rfl,rfl,rfl⟩
theorem ZBw {s:St} (hs:s.dirty=0/\s.bd=[]/\s.sd=[]) {nm:Nm} {m:St}
  (k1:Keep s y1) (k2:Keep s y2) (hm:Zxa c (len s.mem.Bx) (len s.mem.Sg) nm y1 y2=some m):Keep s m:=by
 obtain⟨h1,h2,h3,h4,h5,h6⟩:=ZoK hm;rw[Zad] at h1 h2 h3;obtain⟨q1,q2⟩:=ZdA h2;obtain⟨q3,q4⟩:=ZdB h3;obtain⟨q5,q6⟩:=Zdg h1;refine⟨q1.trans k1.sl,λt ht=> ?_,by rw[q3,Za6 k1.bl];exact Ye _,λb l hl=> ?_,by rw[q5,Za6 k1.gl];exact Ye _,λi g hg=> ?_⟩
 ·rw[h4] at ht;refine⟨by rw[hs.1];exact ZmA t,?_⟩;have ht':=ht;rw[ZfH,Yq] at ht';rw[q2 t (by rw[Yu];exact ht),(k1.slot t ht'.1).2]
 ·obtain⟨l1,e1,e2,e3⟩:=k1.box b l hl;have hb:=ZZ hl;obtain⟨q',f1,f2,f3⟩:=q4 b l1 (by rw[Zaw hb];exact e1);refine⟨q',f1,f2.trans e2,λj hj=>⟨by rw[hs.2.1];rfl,?_⟩⟩;rw[h5] at hj;have hj':=hj;rw[Zde,Yq] at hj';rw[f3 j hj,(e3 j hj'.1).2]
 ·obtain⟨g1,e1,e2,e3⟩:=k1.stg i g hg;obtain⟨g2,e4,e5,e6⟩:=k2.stg i g hg;have hi:=ZZ hg;obtain⟨g',hg'⟩:=ZcT (l:=m.mem.Sg) (n:=i) (by rw[q5,Za6 k1.gl];exact hi);refine⟨g',hg',?_,λhd=>⟨by rw[hs.2.2];rfl,?_⟩⟩
  ·by_cases hd:memN (ZhI y1.sd y2.sd) i=true
   ·have hyl:(Z0 s.mem.Sg.length y2.mem.Sg).length=(Z0 s.mem.Sg.length y1.mem.Sg).length:=by rw[Za6 k1.gl,Za6 k2.gl]
    cases c
    ·exact YD e5 (Zeu hyl h1 i g' g2 hd hg' (by show nth _ _=_;rw[Zaw hi];exact e4)).ver
    ·exact YD e2 (Zeu hyl h1 i g' g1 hd hg' (by show nth _ _=_;rw[Zaw hi];exact e1)).ver
   ·have hd':memN (ZhI y1.sd y2.sd) i=false:=by simpa using hd
    rw[q6 i hd',Zaw hi,e1] at hg';simp only[oinj] at hg';rw[<-hg'];exact e2
  ·rw[h6] at hd;have hd':=hd;rw[Zdf,Yq] at hd';rw[q6 i hd,Zaw hi,e1] at hg';simp only[oinj] at hg';rw[<-hg'];exact (e3 hd'.1).2
def retag:List Stg->List SI->List SI
 |g::gs,s::ss=>{s with ver:=g.ver}::retag gs ss
 |_,_=>[]
theorem ZvM:∀{gs:List Stg} {ss:List SI},gs.length<=ss.length->(retag gs ss).length=gs.length
 |[],_,_=>by simp[retag]
 |_::_,[],h=>by simp at h
 |_::gs,_::ss,h=>by simp only[retag,List.length_cons];rw[ZvM (by simpa using h)]
theorem ZvL:∀{gs:List Stg} {ss:List SI} {i:Nat} {s':SI},nth (retag gs ss) i=some s'->∃g s,nth gs i=some g/\nth ss i=some s/\s'={s with ver:=g.ver}
 |[],_,i,s',h=>by simp[retag,Zn] at h
 |_::_,[],i,s',h=>by simp[retag,Zn] at h
 |g::gs,s::ss,0,s',h=>by simp only[retag,nth,oinj] at h;exact⟨g,s,rfl,rfl,h.symm⟩
 |_::gs,_::ss,i+1,s',h=>by simp only[retag,nth] at h;exact ZvL (gs:=gs) (ss:=ss) h
theorem ZlB:∀{gs:List Stg} {ss:List SI} {i:Nat} {g:Stg} {s:SI},nth gs i=some g->nth ss i=some s->nth (retag gs ss) i=some {s with ver:=g.ver}
 |[],_,i,_,_,h,_=>by simp[Zn] at h
 |_::_,[],i,_,_,_,h=>by simp[Zn] at h
 |g::gs,s::ss,0,_,_,h,h'=>by simp only[nth,oinj] at h h';subst h;subst h';rfl
 |_::gs,_::ss,i+1,_,_,h,h'=>ZlB (gs:=gs) (ss:=ss) h h'
set_option maxHeartbeats 1000000 in
theorem ZNd {x0 x:Ctx} {w0 w:World} {s:St} {a:Act} (hp:RH x0 w0 x s a w) {nm:Nm} {m:St}
  (k1:Keep s y1) (k2:Keep s y2) (hm:Zxa c (len s.mem.Bx) (len s.mem.Sg) nm y1 y2=some m):
  ∀x' a' w',RH x0 w0 x' (cond c y1 y2) a' w'->ExtM x x'->∃x'',RH x0 w0 x'' m a' w'/\ExtM x x'':=by
 obtain⟨h1,h2,h3,h4,h5,h6⟩:=ZoK hm;rw[Zad] at h1 h2 h3;obtain⟨q1,q2⟩:=ZdA h2;obtain⟨q3,q4⟩:=ZdB h3;obtain⟨q5,q6⟩:=Zdg h1;have q3':m.mem.Bx.length=s.mem.Bx.length:=by rw[q3,Za6 k1.bl]
 have q5':m.mem.Sg.length=s.mem.Sg.length:=by rw[q5,Za6 k1.gl]
 intro x' a' w' hr hxx;have hR:=hr.r;have hM:=hR.m;generalize hy:cond c y1 y2=yc at*;have kc:Keep s yc:=by rw[<-hy];cases c;exact k2;exact k1
 have hml:=hM.ml;have hsl:=hM.sl;have hpm:=hp.r.m;have hrep:∀i g,nth m.mem.Sg i=some g->∃gb,nth yc.mem.Sg i=some gb/\Rep gb g:=by
  intro i g hg;have hi:i<s.mem.Sg.length:=by have:=ZZ hg;omega
  obtain⟨gb0,hgb0⟩:=ZcT hi;obtain⟨g1,e1,e2,e3⟩:=k1.stg i gb0 hgb0;obtain⟨g2,e4,e5,e6⟩:=k2.stg i gb0 hgb0;by_cases hd:memN (ZhI y1.sd y2.sd) i=true
  ·have hyl:(Z0 s.mem.Sg.length y2.mem.Sg).length=(Z0 s.mem.Sg.length y1.mem.Sg).length:=by rw[Za6 k1.gl,Za6 k2.gl]
   rw[<-hy];cases c
   ·exact⟨g2,e4,Zeu hyl h1 i g g2 hd hg (by show nth _ _=_;rw[Zaw hi];exact e4)⟩
   ·exact⟨g1,e1,Zeu hyl h1 i g g1 hd hg (by show nth _ _=_;rw[Zaw hi];exact e1)⟩
  ·have hd':memN (ZhI y1.sd y2.sd) i=false:=by simpa using hd
   rw[q6 i hd',Zaw hi,e1] at hg;simp only[oinj] at hg;rw[Zdf,Yq] at hd';have:g2=g1:=by rw[(e3 hd'.1).2,(e6 hd'.2).2]
   subst this;subst hg;rw[<-hy];cases c
   ·exact⟨g2,e4,.refl _⟩
   ·exact⟨g2,e1,.refl _⟩
 let x'':Ctx:={x' with M:=Z0 s.mem.Bx.length x'.M,S:=retag m.mem.Sg x'.S}
 have hSl:m.mem.Sg.length<=x'.S.length:=by rw[hsl,q5'];exact kc.gl
 have hMl:s.mem.Bx.length<=x'.M.length:=by rw[hml];exact kc.bl
 have hS2:∀i s'',nth x''.S i=some s''->∃g gb s',nth m.mem.Sg i=some g/\nth yc.mem.Sg i=some gb/\nth x'.S i=some s'/\Rep gb g/\s''={s' with ver:=g.ver}/\StgOk x' gb s' w':=by intro i s'' hs'';obtain⟨g,s',e1,e2,e3⟩:=ZvL hs'';obtain⟨gb,e4,e5⟩:=hrep i g e1;exact⟨g,gb,s',e1,e4,e2,e5,e3,hM.stg i gb s' e4 e2⟩
 have hback:Back x x' x'':=by
  refine⟨hxx,⟨λb p h=> ?_,λi si hsi=> ?_⟩,λi si s' hsi hs'=> ?_,rfl,rfl⟩
  ·have hb:b<s.mem.Bx.length:=by have h1:=ZZ h;have h2:=hpm.ml;omega
   show nth (Z0 s.mem.Bx.length x'.M) b=some p;rw[Zaw hb];exact hxx.M b p h
  ·obtain⟨s',e1,e2⟩:=hxx.S i si hsi;have hi:i<m.mem.Sg.length:=by have h1:=ZZ hsi;have h2:=hpm.sl;omega
   obtain⟨g,hg⟩:=ZcT hi;obtain⟨gb,e3,e4⟩:=hrep i g hg;have hok:=hM.stg i gb s' e3 e1;refine⟨{s' with ver:=g.ver},ZlB hg e1,⟨?_,λe=> ?_⟩⟩
   ·have h1:=e2.ver;have h2:=e4.ver;have h3:=hok.ver;show si.ver<=g.ver;omega
   ·have e:g.ver=si.ver:=e;have h1:=e2.ver;have h2:=e4.ver;have h3:=hok.ver;exact e2.same (by omega)
  ·have hi:i<m.mem.Sg.length:=by have h1:=ZZ hsi;have h2:=hpm.sl;omega
   obtain⟨g,hg⟩:=ZcT hi;obtain⟨gb,e3,e4⟩:=hrep i g hg;have hok:=hM.stg i gb s' e3 hs';exact⟨{s' with ver:=g.ver},ZlB hg hs',by have h2:=e4.ver;have h3:=hok.ver;show s'.ver<=g.ver;omega,rfl,rfl,rfl,rfl⟩
 have hcut:Cut s.mem.Bx.length (tipM y1.mem.Sg y2.mem.Sg m.mem.Sg) c x' x'':=by
  refine⟨λb hb=>Zaw hb,λi v v' mv htm val hv=> ?_,λ_ _ _ h=>h⟩;unfold tipM at htm;split at htm
  ·rename_i ga gb' gm ha hb' hgm;split at htm
   ·rename_i hvv;simp only[Yb,Yt] at hvv;obtain⟨rfl,rfl⟩:=hvv;simp only[oinj] at htm;subst htm;obtain⟨gb,e3,e4⟩:=hrep i gm hgm;have hgc:(cond c ga.ver gb'.ver)=gb.ver:=by
     rw[<-hy] at e3;cases c
     ·have e3:nth y2.mem.Sg i=some gb:=e3;rw[hb'] at e3;simp only[oinj] at e3;subst e3;rfl
     ·have e3:nth y1.mem.Sg i=some gb:=e3;rw[ha] at e3;simp only[oinj] at e3;subst e3;rfl
    rw[hgc] at hv;cases hv with
    |tip _ _ _ s' _ hs' hv' hval hat=>
     have hok:=hM.stg i gb s' e3 hs';refine .tip _ _ _ {s' with ver:=gm.ver} _ (ZlB hgm hs') (Ye _) (λ_=> ?_) hat;rw[hval hok.ver];rfl
   ·simp at htm
  ·simp at htm
 refine⟨x'',⟨⟨⟨?_,?_⟩,?_,hR.d⟩,?_,hr.t⟩,hback.b⟩
 ·rw[q1,k1.sl,<-kc.sl];exact hR.f.size
 ·intro i v hv;by_cases hd:tbit (Nat.lor y1.dirty y2.dirty) i=true
  ·have hres:=ZoO hcut (λi=>a'.tmps.getD i undef) _ _ 0 _ h2 (λi v _ hv=> ?_) i v (by rw[Yu];exact hd) hv
   ·simpa using hres
   rw[Yu];refine hR.f.slot i v ?_;rw[<-hy];cases c
   ·exact hv
   ·exact hv
  ·have hd':tbit (Nat.lor y1.dirty y2.dirty) i=false:=by simpa using hd
   have hd2:=hd';rw[ZfH,Yq] at hd2;rw[q2 i (by rw[Yu];exact hd'),(k1.slot i hd2.1).2] at hv;have hold:=hp.r.f.slot i v hv;have hnow:nth yc.Sl i=some v:=by
    rw[<-hy];cases c
    ·show nth y2.Sl i=some v;rw[(k2.slot i hd2.2).2];exact hv
    ·show nth y1.Sl i=some v;rw[(k1.slot i hd2.1).2];exact hv
   exact RV.cut hback hold (hR.f.slot i v hnow)
 ·refine⟨hM.fresh,hM.fz,?_,?_,λb p h=>hM.mown b p (ZJ h).2,λb b' p h h'=>hM.inj b b' p (ZJ h).2 (ZJ h').2,?_,?_,?_,?_⟩
  ·show (Z0 s.mem.Bx.length x'.M).length=m.mem.Bx.length;rw[Za6 hMl,q3']
  ·intro b l p hl hpM;obtain⟨hb,hpM'⟩:=ZJ hpM;obtain⟨l0,hl0⟩:=ZcT hb;obtain⟨l1,e1,e2,e3⟩:=k1.box b l0 hl0;obtain⟨l2,g1,g2,g3⟩:=k2.box b l0 hl0;obtain⟨q',f1,f2,f3⟩:=q4 b l1 (by rw[Zaw hb];exact e1);have:q'=l:=by rw[hl] at f1;simpa using f1.symm
   subst this;have hnow:∃lc,nth yc.mem.Bx b=some lc/\lc.length=l0.length/\∀j,memP (Zkz y1.bd y2.bd) b j=false->nth lc j=nth l0 j:=by
    rw[<-hy];cases c
    ·exact⟨l2,g1,g2,λj hj=>by rw[Zde,Yq] at hj;exact (g3 j hj.2).2⟩
    ·exact⟨l1,e1,e2,λj hj=>by rw[Zde,Yq] at hj;exact (e3 j hj.1).2⟩
   obtain⟨lc,n1,n2,n3⟩:=hnow;obtain⟨C,T,p1,p2⟩:=hM.box b lc p n1 hpM';obtain⟨p0,hp0⟩:=hpm.M_of hl0;obtain⟨C0,T0,p3,p4⟩:=hpm.box b l0 p0 hl0 hp0;refine⟨C,T,p1,RL.of_nth (by rw[f2,e2,<-n2];exact p2.length) λj e he=> ?_⟩;by_cases hd:memP (Zkz y1.bd y2.bd) b j=true
   ·have hjlt:j<C.length:=by rw[<-p2.length,n2,<-e2,<-f2];exact ZZ he
    refine⟨C[j],Yg hjlt,?_⟩;have key:=ZoQ hcut (y:=y2.mem.Bx) (λb j=>((w'.heap[(nth x'.M b).getD 0]?).bind λo=>match o with| .cells C _ _=>C[j]? |_=>none).getD undef) _ _ _ h3
     (λb2 q2 j2 a2 hb2 _ hq2 ha2=>by
      have hq2':nth yc.mem.Bx b2=some q2:=by
       rw[<-hy];cases c
       ·exact hq2
       ·exact (ZJ (show nth (Z0 s.mem.Bx.length y1.mem.Bx) b2=some q2 from hq2)).2
      obtain⟨pp,hpp⟩:=ZcT (l:=x'.M) (n:=b2) (by omega);obtain⟨C2,T2,r1,r2⟩:=hM.box b2 q2 pp hq2' hpp;obtain⟨v2,r3,r4⟩:=r2.nth j2 a2 ha2
      simpa [hpp,r1,r3] using r4) b q' j e hb hd hl he
    have hval:((w'.heap[(nth x'.M b).getD 0]?).bind λo=>match o with| .cells C _ _=>C[j]? |_=>none).getD undef=C[j]:=by simp[hpM',p1,hjlt]
    rw[hval] at key;exact key
   ·have hd':memP (Zkz y1.bd y2.bd) b j=false:=by simpa using hd
    have hd2:=hd';rw[Zde,Yq] at hd2;rw[f3 j hd',(e3 j hd2.1).2] at he;obtain⟨v,v1,v2⟩:=p2.nth j e (by rw[n3 j hd'];exact he);obtain⟨v0,_,v3⟩:=p4.nth j e he;exact⟨v,v1,v3.cut hback v2⟩
  ·show (retag m.mem.Sg x'.S).length=_;rw[ZvM hSl]
  ·intro i g s'' hg hs'';obtain⟨g',gb,s',e1,e2,e3,e4,e5,e6⟩:=hS2 i s'' hs'';have:g'=g:=by rw[hg] at e1;simpa using e1.symm
   subst this;rw[e5];exact (e6.rep e4).ctx (λ_ _ _ h=>h) (λ_ _ _ _=>rfl)
  ·intro i s'' p cap hs'' hb;obtain⟨g',gb,s',e1,e2,e3,e4,e5,e6⟩:=hS2 i s'' hs'';rw[e5] at hb;obtain⟨o1,o2⟩:=hM.sown i s' p cap e3 hb;exact⟨o1,λb e=>o2 b (ZJ e).2⟩
  ·intro i i' s1 s2 p c1 c2 hs1 hs2 hb1 hb2;obtain⟨_,_,s1',_,_,e3,_,e5,_⟩:=hS2 i s1 hs1;obtain⟨_,_,s2',_,_,f3,_,f5,_⟩:=hS2 i' s2 hs2;rw[e5] at hb1;rw[f5] at hb2;exact hM.sinj i i' s1' s2' p c1 c2 e3 f3 hb1 hb2
 ·refine⟨hr.e.own,λb p h=>hback.b.M b p (hp.e.M b p h),λi si hsi=> ?_,hr.e.fz,hr.e.new⟩;obtain⟨s1,e1,e2⟩:=hp.e.S i si hsi;obtain⟨s2,e3,e4⟩:=hback.b.S i s1 e1;exact⟨s2,e3,e2.trans e4⟩
variable {w':World}
theorem RH.same {x0 x:Ctx} {w0 w:World} {s:St} {a:Act} (h:RH x0 w0 x s a w) (hw:Zb5 w w'):RH x0 w0 x s a w':=
 ⟨⟨h.r.f,h.r.m.old hw.1,h.r.d⟩,h.e,h.t.trans (hw.step h.r.m) h.e.own⟩
def Zy (P:Program) (f:FuncId):Prop:=∀(args:Array Value) (w:World),(callFunc f args).run P w=.ok (.enter f args) w
def ZPj (g:List V->Mem->Option (Option Bool×V)):Prop:=∀vs m m' r,g vs m=some r->m'.Sg=m.Sg->(∀b o,V.w (.one (.loc b o))∈vs->nth m'.Bx b=nth m.Bx b)->g vs m'=some r
def OwnG (g:List V->Mem->RT (Option Res)):Prop:=∀vs m r,(g vs m).val=some r->∃b,ZE5 vs=some b/\r.m.Sg=m.Sg/\m.Bx.length<=r.m.Bx.length/\∀b',b'≠b->nth r.m.Bx b'=nth m.Bx b'
def Za (P:Program) (f:FuncId):En->Prop
 | .pure p=>Zy P f/\∀vs chk v,p vs=some (chk,v)->chk≠some false->∀x m w args,MK x m w->RVs x vs args->
   Calls P f args.toArray w (λe w'=>∃val x',e=.returned val/\RV x' v val/\MK x' m w'/\Ext x x'/\Zb5 w w')
 | .tree g=>Zy P f/\(∀vs m,(g vs m).All (λr=>∀q,r=some q->KeepC m q))/\∀vs m r,(g vs m).val=some r->r.chk≠some false->∀x w args,MK x m w->RVs x vs args->
   Calls P f args.toArray w (λe w'=>∃val x',e=.returned val/\RV x' r.v val/\MK x' r.m w'/\Ext x x'/\Step x w w')
 | .read g=>Zy P f/\ZPj g/\∀vs m chk v,g vs m=some (chk,v)->chk≠some false->∀x w args,MK x m w->RVs x vs args->
   Calls P f args.toArray w (λe w'=>∃val x',e=.returned val/\RV x' v val/\MK x' m w'/\Ext x x'/\Zb5 w w')
 | .own g=>(Zy P f/\(∀vs m,(g vs m).All (λr=>∀q,r=some q->KeepC m q))/\∀vs m r,(g vs m).val=some r->r.chk≠some false->∀x w args,MK x m w->RVs x vs args->
   Calls P f args.toArray w (λe w'=>∃val x',e=.returned val/\RV x' r.v val/\MK x' r.m w'/\Ext x x'/\Step x w w'))/\OwnG g
variable {f:FuncId}
theorem Za.plain {P:Program}:∀{e:En},Za P f e->Za P f e.plain
 | .pure _,h=>h
 | .tree _,h=>h
 | .read _,h=>h
 | .own _,h=>h.1
def Zbx (E:Env):Prop:=∀f e,E.calls f=some e->Za E.P f e
theorem Hold.stop {x0 x:Ctx} {w0 w:World} {s:St} {a:Act} {Q:Exit->Act->World->Prop} (hr:RH x0 w0 x s a w) (h:Hold x0 w0 x Q ⟨.stop,s⟩):False:=
 h x a w hr (ExtM.refl x)
theorem Hold.chk {x0 x:Ctx} {w0 w:World} {s:St} {a:Act} {Q:Exit->Act->World->Prop} {c:Option Bool} {t:RT Out} (hr:RH x0 w0 x s a w) (h:Hold x0 w0 x Q (chkT c s t).val):
  c≠some false/\Hold x0 w0 x Q t.val:=by
 cases c with
 |none=>exact⟨by simp,h⟩
 |some b=>
  cases b with
  |true=>exact⟨by simp,h⟩
  |false=>exact (Hold.stop hr h).elim
theorem Zsm (a:Act) (d:Option Nat) (v:Value):(a.put d v).defers=a.defers:=by cases d<;>rfl
variable {u:Value}
theorem RF.put {x:Ctx} {s:St} {a:Act} (h:RF x s.Sl a.tmps) (d:Option Nat) (hv:RV x v u):RF x (S3.put s d v).Sl (a.put d u).tmps:=by
 cases d with
 |none=>exact h
 |some d=>exact h.set d hv
theorem ZfQ (s:St) (d:Option Nat) (v:V):(S3.put s d v).mem=s.mem:=by cases d<;>rfl
theorem RH.putRes {x0 x x':Ctx} {w0 w w':World} {s:St} {a:Act} {r:Res} {v:Value} (h:RH x0 w0 x s a w) (d:Option Nat) (hv:RV x' r.v v) (hm:MK x' r.m w') (he:Ext x x') (ht:Step x w w'):
  RH x0 w0 x' (S3.putRes s d r) (a.put d v) w':=
 ⟨⟨RF.put (s:={s with mem:=r.m,bd:=r.bd,sd:=r.sd}) (h.r.f.mono he) d hv,by rw[S3.putRes,ZfQ];exact hm,by rw[Zsm];exact h.r.d⟩,h.e.trans he,h.t.trans ht h.e.own⟩
theorem Hold.ext {x0 x:Ctx} {w0:World} {Q:Exit->Act->World->Prop} {o:Out} (h:Hold x0 w0 x Q o) (e:ExtM x x'):Hold x0 w0 x' Q o:=
 λy a w hr k=>h y a w hr (e.trans k)
theorem Zpf {P:Program} {x:Ctx}:∀(vs:List V) (args:List Value) (l l':Bool) (k k':IntKind) (n n':Int),RVs x vs args->inR k n->Zpg (l,k,n) vs=some (l',k',n')->
  inR k' n'/\∀w,(args.foldlM Builtin.min2 (.int k n)).run P w=.ok (.int k' n') w
 |[],[],l,l',k,k',n,n',_,hk,h=>by simp only[Zpg,oinj,pinj] at h;obtain⟨_,rfl,rfl⟩:=h;exact⟨hk,λw=>rfl⟩
 |v::vs,u::args,l,l',k,k',n,n',hv,hk,h=>by
  unfold Zpg at h;split at h
  ·simp at*
  ·rename_i l1 k1 n1 r heq;obtain⟨rfl,rfl⟩:=heq;split at h
   ·rename_i hkk;have:=ZdW hkk;subst this;obtain⟨e1,e2⟩:=ZcM (show RA x (.int l1 k1 n1) u from hv.1);subst e1;obtain⟨h1,h2⟩:=Zpf vs args _ _ _ _ _ _ hv.2 (by simp only;split<;>assumption) h;refine⟨h1,λw=> ?_⟩;simp only[List.foldlM_cons,Sem.run_bind,Builtin.min2,Sem.run_pure,Result.andThen_ok];exact h2 w
   ·simp at h
  ·simp at h
 |[],_::_,_,_,_,_,_,_,h,_,_=>h.elim
 |_::_,[],_,_,_,_,_,_,h,_,_=>h.elim
theorem Zph {P:Program} {x:Ctx}:∀(vs:List V) (args:List Value) (l l':Bool) (k k':IntKind) (n n':Int),RVs x vs args->inR k n->Zpi (l,k,n) vs=some (l',k',n')->
  inR k' n'/\∀w,(args.foldlM Builtin.max2 (.int k n)).run P w=.ok (.int k' n') w
 |[],[],l,l',k,k',n,n',_,hk,h=>by simp only[Zpi,oinj,pinj] at h;obtain⟨_,rfl,rfl⟩:=h;exact⟨hk,λw=>rfl⟩
 |v::vs,u::args,l,l',k,k',n,n',hv,hk,h=>by
  unfold Zpi at h;split at h
  ·simp at*
  ·rename_i l1 k1 n1 r heq;obtain⟨rfl,rfl⟩:=heq;split at h
   ·rename_i hkk;have:=ZdW hkk;subst this;obtain⟨e1,e2⟩:=ZcM (show RA x (.int l1 k1 n1) u from hv.1);subst e1;obtain⟨h1,h2⟩:=Zph vs args _ _ _ _ _ _ hv.2 (by simp only;split<;>assumption) h;refine⟨h1,λw=> ?_⟩;simp only[List.foldlM_cons,Sem.run_bind,Builtin.max2,Sem.run_pure,Result.andThen_ok];exact h2 w
   ·simp at h
  ·simp at h
 |[],_::_,_,_,_,_,_,_,h,_,_=>h.elim
 |_::_,[],_,_,_,_,_,_,h,_,_=>h.elim
variable {vs:List V} {args:List Value}
theorem ZjM {P:Program} {x:Ctx} {s:St} {w:World} {b:Builtin} {ts:List TypeId} {r:Res} (ty:TypeId) (cs:Array Bool) (hm:MemR x s.mem w) (hv:RVs x vs args) (hb:b≠ .append) (h:Zdr P s b ts vs=some r) (hc:r.chk≠some false):
  ∃v,(∀w',(builtin b ts.toArray ty cs args.toArray).run P w'=.ok (.value v) w')/\RV x r.v v:=by
 unfold Zdr at h;split at h
 ·rename_i l k n vs';split at h
  ·rename_i l' k' n' hf;simp only[Zbo,oinj] at h;subst h;cases args with
   |nil=>exact hv.elim
   |cons u args=>
    obtain⟨e1,e2⟩:=ZcM (show RA x (.int l k n) u from hv.1);subst e1;obtain⟨h1,h2⟩:=Zpf (P:=P) vs' args _ _ _ _ _ _ hv.2 e2 hf;exact⟨_,λw=>by simp[builtin,Builtin.min_,h2 w],.int _ _ _ _ h1⟩
  ·simp at h
 ·rename_i l k n vs';split at h
  ·rename_i l' k' n' hf;simp only[Zbo,oinj] at h;subst h;cases args with
   |nil=>exact hv.elim
   |cons u args=>
    obtain⟨e1,e2⟩:=ZcM (show RA x (.int l k n) u from hv.1);subst e1;obtain⟨h1,h2⟩:=Zph (P:=P) vs' args _ _ _ _ _ _ hv.2 e2 hf;exact⟨_,λw=>by simp[builtin,Builtin.max_,h2 w],.int _ _ _ _ h1⟩
  ·simp at h
 ·rename_i t v
  match args,hv with
  |[u],hv=>
   obtain⟨_,_,_,u',h1,h2⟩:=ZWI (P:=P) (ty:=ty) hm hv.1 h hc;exact⟨u',λw'=>by simp[builtin,h1 w'],h2⟩
 ·exact absurd rfl hb
 ·simp at h
theorem ZCg {P:Program} {x:Ctx} {s:St} {w:World} {b:Builtin} {ts:List TypeId} {r:Res} (ty:TypeId) (cs:Array Bool) (hm:MK x s.mem w) (hv:RVs x vs args) (h:Zdr P s b ts vs=some r) (hc:r.chk≠some false):
  ∃v w' x',(builtin b ts.toArray ty cs args.toArray).run P w=.ok (.value v) w'/\RV x' r.v v/\MK x' r.m w'/\Ext x x'/\Step x w w':=by
 by_cases hb:b=.append
 ·subst hb;unfold Zdr at h;split at h;all_goals try (rename Builtin.append=_=>heq;cases heq;done)
  ·rename_i t t' xa ya
   match args,hv with
   |[u,u'],hv=>
    obtain⟨v,w',x',h1,h2,h3,h4,h5⟩:=ZH5 (P:=P) hm hv.1 hv.2.1 ty h hc;exact⟨v,w',x',by simp[builtin,h1],h2,h3,h4,h5⟩
  ·simp at h
 ·obtain⟨v,h1,h2⟩:=ZjM ty cs hm.toR hv hb h hc;have hk:r.m=s.mem:=by
   unfold Zdr at h;split at h
   ·split at h
    ·simp only[Zbo,oinj] at h;subst h;rfl
    ·simp at h
   ·split at h
    ·simp only[Zbo,oinj] at h;subst h;rfl
    ·simp at h
   ·unfold lenA at h;repeat' split at h
    all_goals first
     |(simp only[Zbo,oinj] at h;subst h;rfl)
     |(simp at h;done)
     |(simp only[ofSt,oinj] at h;subst h;rfl)
   ·exact absurd rfl hb
   ·simp at h
  exact⟨v,w,x,h1 w,h2,by rw[hk];exact hm,Ext.refl x,Step.refl x w⟩
theorem RVs.append {x:Ctx}:∀{l l':List V} {vs vs':List Value},RVs x l vs->RVs x l' vs'->RVs x (l++l') (vs++vs')
 |[],_,[],_,_,h'=>by simpa using h'
 |_::_,_,_::_,_,h,h'=>⟨h.1,RVs.append h.2 h'⟩
 |[],_,_::_,_,h,_=>h.elim
 |_::_,_,[],_,h,_=>h.elim
theorem ZpJ {x:Ctx}:∀(caps:List A) (cs:List Value) (c:Nat->Value),len cs=len caps->(∀j a,nth caps j=some a->nth cs j=some (c j))->(∀j a,nth caps j=some a->RA x a (c j))->
  RVs x (caps.map λa=>.w (.one a)) cs
 |[],[],_,_,_,_=>trivial
 |a::caps,v::cs,c,hl,hc,hr=>by refine⟨?_,ZpJ caps cs (λj=>c (j+1)) (by simpa [len] using hl) (λj a h=>hc (j+1) a h) (λj a h=>hr (j+1) a h)⟩;have h1:=hc 0 a rfl;have h2:=hr 0 a rfl;simp only[nth,oinj] at h1;subst h1;exact h2
 |[],_::_,_,h,_,_=>by simp[len] at h
 |_::_,[],_,h,_,_=>by simp[len] at h
variable {o:Oper}
theorem ZeD {E:Env} (hE:Zbx E) {x:Ctx} {s:St} {a:Act} (hf:RF x s.Sl a.tmps) {c:Call} (ho:o.op=.call c) {e:En} {caps:List V} (h:ZaX E s c=some (e,caps))
  (hvs:opds s c.args.toList=some vs):
  ∃f args,Za E.P f e/\RVs x (vs++caps) args/\(Zy E.P f->∀w,(execOp a.eval o).run E.P w=.ok (.enter f args.toArray) w):=by
 unfold ZaX at h;split at h
 ·rename_i fo hc;split at h
  ·rename_i f cs hcs;split at h
   ·rename_i e' he;simp only[oinj,pinj] at h;obtain⟨rfl,rfl⟩:=h;have hv:=Zak hf hcs;generalize hev:a.eval fo=fv at*;cases hv with
    |clo _ _ _ C cc h1 h2 h3=>
     refine⟨f,c.args.toList.map a.eval++C,(hE f e' he).plain,RVs.append (Zko hf hvs) (ZpJ _ _ _ h1 h2 h3),λhcall w=> ?_⟩;simp[execOp,ho,resolve,hc,hev,Deferred.ofValue,invoke];rw[hcall];congr 2;apply YaC;simp
   ·simp at h
  ·simp at h
 ·simp at h
theorem ZcC {P:Program} {a:Act} {w:World} {v:Value} {next:Act->World->Prop} {Q:Exit->Act->World->Prop} (h:ZZs P a o w v w') (hn:next (a.put o.dst v) w'):o.wp P a w next Q:=by
 rcases h with h|⟨h,rfl⟩
 ·simp only[Oper.wp,h,Oper.upon];exact hn
 ·simp only[Oper.wp,h,Oper.upon];exact hn
theorem ZpA {P:Program} {a:Act} {c:Call} {b:Builtin} (ho:o.op=.call c) (hc:c.callee=.builtin b) (w:World):
  (execOp a.eval o).run P w=(builtin b c.argTypes o.type (c.args.map fun| .const _=>true|_=>false) (c.args.toList.map a.eval).toArray).run P w:=by simp[execOp,ho,resolve,hc,invoke];congr 2;apply YaC;simp
theorem ZpF {P:Program} {s:St} {t:TypeId} {x:A} {k:IntKind} {n:Int} {r:Res}:∀{m j:Nat},(ZkS P s t x k n m j).val=some r->∃j:Nat,n=(j:Int)/\ZaN P s t x (.int true k j)=some r
 |0,j,h=>by simp[ZkS,RT.val] at h
 |m+1,j,h=>by
  simp only[ZkS,RT.val] at h;cases hn:n==(j:Int) with
  |true=>rw[hn] at h;exact⟨j,by simpa using hn,h⟩
  |false=>rw[hn] at h;exact ZpF h
variable {t:TypeId} {xa i:A}
theorem ZRT {P:Program} {s:St} {r:Res} (h:(idxT P s t xa i).val=some r):∃i',(∀(x:Ctx) v,RA x i v->RA x i' v)/\ZaN P s t xa i'=some r:=by
 unfold idxT at h;split at h
 ·obtain⟨j,rfl,h'⟩:=ZpF h;refine⟨_,λx v hv=> ?_,h'⟩;cases hv;exact .int _ _ _ _ (by assumption)
 ·exact⟨_,λ_ _ h=>h,h⟩
variable {m0:Mem}
theorem ZxA {P:Program} {x:Ctx} {s:St} {a:Act} {w:World} {y i:Operand} {ia:A} {r:Res} (hf:RF x s.Sl a.tmps) (hr:MemR x s.mem w) (hm:MK x m0 w) (ho:o.op=.indexAddr t y i)
  (hp:opd1 s y=some xa) (hi:opd1 s i=some ia) (h:(idxT P s t xa ia).val=some r) (hc:r.chk≠some false):ZH9 P x m0 s a o w r:=by obtain⟨i',hi',h⟩:=ZRT h;obtain⟨e1,e2,e3,v,h1,h2⟩:=Zjv hr (Zak hf hp) (hi' _ _ (Zak hf hi)) h hc;exact .of hm e1 e2 e3 (by simp[execOp,ho,h1]) h2
theorem Zqe {E:Env} (hE:Zbx E) {x:Ctx} {w:World} {s:St} {a:Act} {r:Res} (hf:RF x s.Sl a.tmps) (hd:a.defers=[]) (hm:MK x s.mem w) (h:(Z6 E s o).val=some r) (hc:r.chk≠some false)
  {K:Act->World->Prop} {Q:Exit->Act->World->Prop} (hK:∀v w' x',RV x' r.v v->MK x' r.m w'->Ext x x'->Step x w w'->K (a.put o.dst v) w'):o.wp E.P a w K Q:=by
 unfold Z6 at h;split at h
 ·rename_i c ho;split at h
  ·rename_i b hcb;split at h
   ·rename_i vs hvs;simp only[RT.val] at h;obtain⟨v,w',x',h1,h2,h3,h4,h5⟩:=ZCg (P:=E.P) o.type (c.args.map fun| .const _=>true|_=>false) hm (Zko hf hvs) h hc;refine ZcC (v:=v) (w':=w') (.inl (by rw[ZpA ho hcb];simpa using h1)) (hK v w' x' h2 h3 h4 h5)
   ·simp[RT.val] at h
  ·split at h
   ·rename_i p caps vs hcal hvs;split at h
    ·rename_i vs' s' hfz;split at h
     ·rename_i chk v hp;simp only[RT.val,oinj] at h;subst h;obtain⟨f,args,he,hargs,hrun⟩:=ZeD hE hf ho hcal hvs;obtain⟨x1,m1,e1,r1,k1⟩:=ZfZ hm hargs hfz;have hcalls:=he.2 _ _ _ hp hc x1 s'.mem w args m1 r1;simp only[Oper.wp,hrun he.1 w,Oper.upon];refine hcalls.mono λe w' hres=> ?_
      obtain⟨val,x',rfl,hv,hm',hx,hw⟩:=hres;exact hK val w' x' hv hm' (e1.trans hx) (hw.step hm)
     ·simp[RT.val] at h
    ·simp[RT.val] at h
   ·rename_i g caps vs hcal hvs;split at h
    ·rename_i chk v hg;simp only[RT.val,oinj] at h;subst h;obtain⟨f,args,he,hargs,hrun⟩:=ZeD hE hf ho hcal hvs;have hcalls:=he.2.2 _ _ _ _ hg hc x w args hm hargs;simp only[Oper.wp,hrun he.1 w,Oper.upon];refine hcalls.mono λe w' hres=> ?_
     obtain⟨val,x',rfl,hv,hm',hx,hw⟩:=hres;exact hK val w' x' hv hm' hx (hw.step hm)
    ·simp[RT.val] at h
   ·rename_i g caps vs hcal hvs;rw[RT.val_map] at h;split at h
    ·rename_i r0 hg;simp only[oinj] at h;subst h;obtain⟨f,args,he,hargs,hrun⟩:=ZeD hE hf ho hcal hvs;have hcalls:=he.2.2 _ _ _ hg hc x w args hm hargs;simp only[Oper.wp,hrun he.1 w,Oper.upon];refine hcalls.mono λe w' hres=> ?_
     obtain⟨val,x',rfl,hv,hm',hx,ht⟩:=hres;exact hK val w' x' hv hm' hx ht
    ·simp at h
   ·simp[RT.val] at h
 ·rename_i t y i ho;split at h
  ·rename_i xa ia hp hi;obtain⟨v,w',x',h1,h2,h3,h4,h5⟩:=(ZxA hf hm.toR hm ho hp hi h hc).sound hm;exact ZcC h1 (hK v w' x' h2 h3 h4 h5)
  ·simp[RT.val] at h
 ·rename_i op hop;simp only[RT.val] at h;obtain⟨v,w',x',h1,h2,h3,h4,h5⟩:=ZW1 ⟨hf,hm,hd⟩ rfl h hc;exact ZcC h1 (hK v w' x' h2 h3 h4 h5)
variable {chk:Option Bool}
theorem Zrb {E:Env} (hE:Zbx E) {x:Ctx} {w:World} {s:St} {a:Act} {rd:Bool} (hf:RF x s.Sl a.tmps) (hr:MemR x s.mem w) (hm:MK x m0 w) (hrd:rd=true->s.mem=m0) (h:ZcJ E rd s o=some (chk,v)) (hc:chk≠some false)
  {K:Act->World->Prop} {Q:Exit->Act->World->Prop} (hK:∀u w' x',RV x' v u->MK x' m0 w'->Ext x x'->Zb5 w w'->K (a.put o.dst u) w'):o.wp E.P a w K Q:=by
 unfold ZcJ at h;split at h
 ·simp at h
 rename_i hfree;simp only[Yb,YJ,YM] at hfree;obtain⟨⟨hchg,hfrz⟩,hread⟩:=hfree;split at h
 case h_2=>simp at h
 rename_i r hres;simp only[oinj,pinj] at h;obtain⟨rfl,rfl⟩:=h;unfold Z6 at hres;split at hres
 ·rename_i c ho;rw[ho] at hchg hfrz hread;split at hres
  ·rename_i b hcb;have hb:b≠ .append:=by intro e;subst e;simp[Zlo,hcb] at hchg
   split at hres
   ·rename_i vs hvs;simp only[RT.Lf.injEq] at hres;obtain⟨v,h1,h2⟩:=ZjM (P:=E.P) o.type (c.args.map fun| .const _=>true|_=>false) hr (Zko hf hvs) hb hres hc;exact ZcC (v:=v) (w':=w) (.inl (by rw[ZpA ho hcb];simpa using h1 w)) (hK v w x h2 hm (Ext.refl x) (Zb5.refl w))
   ·simp at hres
  ·rename_i hnb;split at hres
   ·rename_i p caps vs hcal hvs;have hfr:(vs++caps).all (Zco s.mem)=true:=by
     have hfrz':(match c.callee with
      | .builtin _=>true
      |_=>match ZaX E s c,opds s c.args.toList with
       |some (.read _,_),some _=>true
       |some (_,caps),some vs=>(vs++caps).all (Zco s.mem)
       |_,_=>false)=true:=hfrz
     split at hfrz'
     ·rename_i b hcb;exact absurd hcb (hnb b)
     ·rw[hcal,hvs] at hfrz';exact hfrz'
    split at hres
    ·rename_i vs' s' hfz;split at hres
     ·rename_i chk v hp;simp only[RT.Lf.injEq,oinj] at hres;subst hres;obtain⟨rfl,q2⟩:=Zpc hr hfr hfz;obtain⟨f,args,he,hargs,hrun⟩:=ZeD hE hf ho hcal hvs;have hcalls:=he.2 _ _ _ hp hc x m0 w args hm (q2 _ hargs);simp only[Oper.wp,hrun he.1 w,Oper.upon];refine hcalls.mono λe w' hres=> ?_
      obtain⟨val,x',rfl,hv,hm',hx,hw⟩:=hres;exact hK val w' x' hv hm' hx hw
     ·simp at hres
    ·simp at hres
   ·rename_i g caps vs hcal hvs;split at hres
    ·rename_i chk v hg;simp only[RT.Lf.injEq,oinj] at hres;subst hres;have hrd':rd=true:=by
      rcases hread with h|h
      ·exact h
      ·exfalso
       have h':(match c.callee with
        | .value (.func f)=>match E.calls f with
         |some (.read _)=>true
         |_=>false
        |_=>false)=false:=h
       have hchg':(match c.callee with
        | .builtin .append=>true
        | .builtin _=>false
        | .value (.func f)=>match E.calls f with
         |some (.pure _)=>false
         |some (.read _)=>false
         |_=>true
        |_=>true)=false:=hchg
       split at hchg'
       ·simp at hchg'
       ·rename_i b _ hcb;exact absurd hcb (hnb b)
       ·rename_i f hcf;unfold ZaX at hcal;rw[hcf] at hcal h';simp only[opd1,opd,Option.bind_some,V.one] at hcal h';cases he:E.calls f with
        |none=>rw[he] at hcal;simp at hcal
        |some e=>
         rw[he] at hcal h';simp only[oinj,pinj] at hcal;rw[En.plain_read hcal.1] at h';simp at h'
       ·simp at hchg'
     have hmm:=hrd hrd';obtain⟨f,args,he,hargs,hrun⟩:=ZeD hE hf ho hcal hvs;have hcalls:=he.2.2 _ _ _ _ hg hc x w args (by rw[hmm];exact hm) hargs;simp only[Oper.wp,hrun he.1 w,Oper.upon];refine hcalls.mono λe w' hres=> ?_
     obtain⟨val,x',rfl,hv,hm',hx,hw⟩:=hres;exact hK val w' x' hv (by rw[<-hmm];exact hm') hx hw
    ·simp at hres
   ·rename_i g caps vs hcal hvs;exfalso
    have hchg':(match c.callee with
     | .builtin .append=>true
     | .builtin _=>false
     | .value (.func f)=>match E.calls f with
      |some (.pure _)=>false
      |some (.read _)=>false
      |_=>true
     |_=>true)=false:=hchg
    split at hchg'
    ·simp at hchg'
    ·rename_i b _ hcb;exact absurd hcb (hnb b)
    ·rename_i f hcf;unfold ZaX at hcal;rw[hcf] at hcal;simp only[opd1,opd,Option.bind_some,V.one] at hcal;split at hchg'
     ·rename_i p' hp';rw[hp'] at hcal;simp[En.plain] at hcal
     ·rename_i p' hp';rw[hp'] at hcal;simp[En.plain] at hcal
     ·simp at hchg'
    ·simp at hchg'
   ·simp at hres
 ·rename_i t y i ho;split at hres
  ·rename_i xa ia hp hi;obtain⟨_,_,_,v,w',x',h1,h2,h3,h4,h5⟩:=ZxA hf hr hm ho hp hi (by rw[hres];rfl) hc;exact ZcC (.inl h1) (hK v w' x' h2 h3 h4 h5)
  ·simp at hres
 ·rename_i op hop hop2;simp only[RT.Lf.injEq] at hres;have hk:Zuz o.op=true:=by revert hchg hop;cases o.op<;>simp[Zlo,Zuz]
  obtain⟨_,_,_,v,w',x',h1,h2,h3,h4,h5⟩:=ZxM hf hr hm rfl hk hfrz hres hc;exact ZcC (.inl h1) (hK v w' x' h2 h3 h4 h5)
inductive Ty where
 |skip
 |free (v:V)
 |read (v:V) (rb:Option (Nat×Bool))
 |chain (r:Res) (tb:Option (Nat×Bool))
 |fresh (l:List A) (tb:Option (Nat×Bool))
def Ty.isChain:Ty->Prop
 | .chain _ _| .fresh _ _=>True
 |_=>False
def Ty.isHard:Ty->Prop
 | .chain _ _=>True
 |_=>False
def Ty.isFresh:Ty->Prop
 | .fresh _ _=>True
 |_=>False
theorem Ty.hard_or {t:Ty} (h:t.isChain):t.isHard\/t.isFresh:=by cases t<;>simp_all [Ty.isChain,Ty.isHard,Ty.isFresh]
theorem Ty.hard {t:Ty} (h:t.isHard):t.isChain/\¬t.isFresh:=by cases t<;>simp_all [Ty.isChain,Ty.isHard,Ty.isFresh]
theorem Ty.fresh_chain {t:Ty} (h:t.isFresh):t.isChain/\¬t.isHard:=by cases t<;>simp_all [Ty.isChain,Ty.isHard,Ty.isFresh]
def Ty.isRead:Ty->Prop
 | .read _ _=>True
 |_=>False
def Ty.touch:Ty->Option (Nat×Bool)
 | .chain _ tb| .fresh _ tb=>tb
 |_=>none
def Ty.loc:Ty->Option (Nat×Bool)
 | .read _ rb=>rb
 |_=>none
def Ty.bound (a b:Ty):Prop:=b.isHard/\a.isChain\/b.isChain/\a.isRead/\ZaK b.touch a.loc=false\/b.isRead/\a.isChain/\ZaK a.touch b.loc=false
def Zlk (ops:List Oper) (s:St) (g:Option (Nat×Bool)) (s1:St) (w:Bool):Prop:=
 match g with
 |none=>s1=s/\w=true
 |some (j,want)=>∃o d,nth ops j=some o/\o.dst=some d/\
   ((∃b,nth s.Sl d=some (.w (.one (.bool true b)))/\s1=s/\w=(b==want))\/
    (∃b,nth s.Sl d=some (.w (.one (.bool false b)))/\s1=put s (some d) (.w (.one (.bool true b)))/\w=(b==want))\/
    (nth s.Sl d=some (.tup [])/\s1=s/\w=false))
def Zg7 (E:Env) (chg:Bool) (ops:List Oper) (s:St) (ty:Ty) (o:Oper) (s':St):Prop:=
 ∃s1 w,Zlk ops s o.guard s1 w/\match ty with
  | .skip=>w=false/\s'=put s1 o.dst Zmr
  | .free v=>w=true/\∃chk,ZcJ E (!chg) (ZE0 chg (mask s1 o)) o=some (chk,v)/\chk≠some false/\s'=put s1 o.dst v
  | .read v rb=>w=true/\chg=true/\rb=ZoR E (mask s1 o) o/\∃chk,ZcJ E true (mask s1 o) o=some (chk,v)/\chk≠some false/\s'=put s1 o.dst v
  | .chain r tb=>w=true/\chg=true/\tb=Zeg E (mask s1 o) o r/\(Z6 E (mask s1 o) o).val=some r/\r.chk≠some false/\s'=putRes s1 o.dst r
  | .fresh l tb=>w=true/\chg=true/\tb=Zeg E (mask s1 o) o (Zep (mask s1 o) l)/\(Z6 E (mask s1 o) o).val=some (Zep (mask s1 o) l)/\(∃t d,o.op=.alloc t/\ZpK E.P t=some l/\o.dst=some d/\d<s1.Sl.length)/\s'=putRes s1 o.dst (Zep (mask s1 o) l)
inductive Waits (ops:List Oper) (i:Nat):Nat->Prop
 |one (j:Nat) (o:Oper) (e:Edge) (h:nth ops j=some o) (he:e∈o.after) (hb:Region.binds .any e=true) (hi:e.on=i):Waits ops i j
 |more (j:Nat) (o:Oper) (e:Edge) (h:nth ops j=some o) (he:e∈o.after) (hb:Region.binds .any e=true) (hi:Waits ops i e.on):Waits ops i j
variable {ops:List Oper} {k:Nat}
theorem Waits.trans {i:Nat} (h:Waits ops i j) (h':Waits ops j k):Waits ops i k:=by
 induction h' with
 |one k o e h1 he hb hi=>exact .more k o e h1 he hb (hi▸h)
 |more k o e h1 he hb hi ih=>exact .more k o e h1 he hb ih
theorem Zpm {i:Nat}:∀{l:List Edge},tbit (emL l) i=true->∃e∈l,Region.binds .any e=true/\e.on=i
 |[],h=>by simp[emL,ZmA] at h
 |e::l,h=>by
  simp only[emL] at h;split at h
  ·rename_i hb;rw[Zcp,YM,Yt] at h;rcases h with h|h
   ·exact⟨e,YaK,hb,h⟩
   ·obtain⟨e',h1,h2⟩:=Zpm h;exact⟨e',YA _ h1,h2⟩
  ·obtain⟨e',h1,h2⟩:=Zpm h;exact⟨e',YA _ h1,h2⟩
theorem ZOo {i:Nat}:∀{l:List Edge} {e:Edge},e∈l->Region.binds .any e=true->e.on=i->tbit (emL l) i=true
 |[],e,h,_,_=>by simp at h
 |e'::l,e,h,hb,hi=>by
  simp only[emL];rcases Ys.1 h with rfl|h
  ·rw[hb];simp only;rw[Zcp,YM,Yt];exact .inl hi
  ·split
   ·rw[Zcp,YM];exact .inr (ZOo h hb hi)
   ·exact ZOo h hb hi
theorem Zo2 {q m:Nat}:∀{l:List Nat} {i:Nat},tbit (Zcu l i m) q=true->∃j c,nth l j=some c/\tbit m (i+j)=true/\tbit c q=true
 |[],i,h=>by simp[Zcu,ZmA] at h
 |c::l,i,h=>by
  simp only[Zcu] at h;split at h
  ·rename_i hi;rw[ZfH,YM] at h;rcases h with h|h
   ·exact⟨0,c,rfl,hi,h⟩
   ·obtain⟨j,c',h1,h2,h3⟩:=Zo2 h;exact⟨j+1,c',h1,by rw[show i+(j+1)=i+1+j by omega];exact h2,h3⟩
  ·obtain⟨j,c',h1,h2,h3⟩:=Zo2 h;exact⟨j+1,c',h1,by rw[show i+(j+1)=i+1+j by omega];exact h2,h3⟩
theorem Zpx {ops:List Oper}:∀(l:List Oper) (acc:List Nat),(∀k o,nth l k=some o->nth ops (acc.length+k)=some o)->(∀j c q,nth acc j=some c->tbit c q=true->Waits ops q j)->
  ∀j c q,nth (Zdq l acc) j=some c->tbit c q=true->Waits ops q j
 |[],acc,_,h,j,c,q,h1,h2=>h j c q h1 h2
 |o::l,acc,hl,h,j,c,q,h1,h2=>by
  refine Zpx l _ (λk o' hk=> ?_) (λj c q h1 h2=> ?_) j c q h1 h2
  ·have:=hl (k+1) o' hk;rw[Yd,List.length_singleton,Yat,YaT 1];exact this
  ·rcases Zs h1 with h1|⟨rfl,rfl⟩
   ·exact h j c q h1 h2
   ·have ho:nth ops acc.length=some o:=hl 0 o rfl;rw[ZfH,YM] at h2;rcases h2 with h2|h2
    ·obtain⟨e,e1,e2,e3⟩:=Zpm h2;exact .one _ o e ho (by simpa using e1) e2 e3
    ·obtain⟨j',c',e1,e2,e3⟩:=Zo2 h2;rw[Yu] at e2;obtain⟨e,f1,f2,f3⟩:=Zpm e2;have:=h j' c' q e1 e3;exact .more _ o e ho (by simpa using f1) f2 (f3▸this)
theorem Zpw {i:Nat} (h:rch (Zdq ops []) i j=true):Waits ops i j:=by
 unfold rch at h;split at h
 ·rename_i m hm;exact Zpx ops [] (λk o hk=>by simpa using hk) (λj c q h1=>by simp[Zn] at h1) j m i hm h
 ·simp at h
theorem Zl9 {c:Option Bool} {s:St} {t:RT Out} (h:(chkT c s t).val.k≠ .stop):c≠some false/\(chkT c s t).val=t.val:=by
 cases c with
 |none=>exact⟨by simp,rfl⟩
 |some b=>
  cases b with
  |true=>exact⟨by simp,rfl⟩
  |false=>exact absurd rfl h
theorem ZHJ {s:St} {g:Option (Nat×Bool)} {run skip:St->RT Out} (h:(Zq8 ops s g run skip).val.k≠ .stop):
  ∃s1 w,Zlk ops s g s1 w/\(Zq8 ops s g run skip).val=(match w with|true=>run s1|false=>skip s1).val:=by
 unfold Zq8 at h|-;split
 ·exact⟨s,true,⟨rfl,rfl⟩,rfl⟩
 ·rename_i j want;simp only at h;split
  ·rename_i o ho;rw[ho] at h;simp only at h;split
   ·rename_i d hd;rw[hd] at h;simp only at h;split
    ·rename_i b hs;refine⟨s,b==want,⟨o,d,ho,hd,.inl ⟨b,hs,rfl,rfl⟩⟩,?_⟩;cases b==want<;>rfl
    ·rename_i b hs;refine⟨_,b==want,⟨o,d,ho,hd,.inr (.inl ⟨b,hs,rfl,rfl⟩)⟩,?_⟩;cases b<;>cases want<;>rfl
    ·rename_i hs;exact⟨s,false,⟨o,d,ho,hd,.inr (.inr ⟨hs,rfl,rfl⟩)⟩,rfl⟩
    ·rename_i h1 h2 h3;exfalso;split at h
     ·rename_i b hs;exact h1 b hs
     ·rename_i b hs;exact h2 b hs
     ·rename_i hs;exact h3 hs
     ·exact h rfl
   ·rename_i hd;rw[hd] at h;exact absurd rfl h
  ·rename_i ho;rw[ho] at h;exact absurd rfl h
theorem Zxp {cls:List Nat} {ops:List Oper} (hcls:∀q i,rch cls q i=true->Waits ops q i) {cs:List (Nat×Option (Nat×Bool))} {d:Nat}:∀{rest:List Oper} {i:Nat},Zxq cls ops cs d rest i=true->
  ∀l ol,nth rest l=some ol->ol.dst≠some d/\(tbit (Zkx ops ol) d=true->∀q∈cs,Waits ops q.1 (i+l))
 |[],_,_,l,ol,h=>by simp[Zn] at h
 |o::rest,i,h,l,ol,hl=>by
  simp only[Zxq,Yb,YM,YJ] at h;cases l with
  |zero=>
   simp only[nth,oinj] at hl;subst hl;refine⟨λe=> ?_,λhd q hq=> ?_⟩
   ·have:=h.1.2;rw[e] at this;simp[ZSc] at this
   ·rcases h.1.1 with h1|h1
    ·rw[hd] at h1;simp at h1
    ·exact hcls _ _ (YU.1 h1 q hq)
  |succ l=>
   obtain⟨g1,g2⟩:=Zxp hcls h.2 l ol hl;refine⟨g1,λhd q hq=> ?_⟩;have:=g2 hd q hq;rw[show i+(l+1)=i+1+l by omega];exact this
theorem ZOe {cls:List Nat} {cs:List (Nat×Option (Nat×Bool))} {rest:List Oper} {i:Nat} (h:ZOf cls ops cs o rest i n=true):
  (∃t d,o.op=.alloc t/\o.dst=some d/\d<n/\Zxq cls ops cs d rest (i+1)=true):=by
 unfold ZOf at h;split at h
 ·rename_i t d h1 h2 _;rw[Yb,Yaf] at h;exact⟨t,d,h1,h2,h.1,h.2⟩
 ·simp at h
theorem ZPg {E:Env} {s:St} {r:Res} (ho:o.op=.alloc t) (h:(Z6 E s o).val=some r):∃l,ZpK E.P t=some l/\r=Zep s l:=by unfold Z6 at h;rw[ho] at h;simp only[RT.val,evOp,YB] at h;obtain⟨l,h1,h2⟩:=h;exact⟨l,h1,h2.symm⟩
structure Ord (ops:List Oper) (T:Nat->Ty) (rest:List Oper) (i:Nat) (fl:Bool) (cs rs:List (Nat×Option (Nat×Bool))) (k:Nat):Prop where
 cc:∀q,q∈cs->(T (i+k)).isHard->Waits ops q.1 (i+k)
 cr:∀q,q∈cs->(T (i+k)).isRead->ZaK q.2 (T (i+k)).loc=false->Waits ops q.1 (i+k)
 rc:∀q,q∈rs->(T (i+k)).isChain->ZaK (T (i+k)).touch q.2=false->Waits ops q.1 (i+k)
 bd:∀k',k'<k->(T (i+k')).bound (T (i+k))->Waits ops (i+k') (i+k)
 fr:(T (i+k)).isFresh->∀o d,nth rest k=some o->o.dst=some d->∀l ol,k<l->nth rest l=some ol->ol.dst≠some d/\(tbit (Zkx ops ol) d=true->
  (∀q,q∈cs->Waits ops q.1 (i+l))/\∀k',k'<k->(T (i+k')).isChain->Waits ops (i+k') (i+l))
 rd:(T (i+k)).isRead->(fl=false/\∀k',k'<k->¬(T (i+k')).isFresh)\/((∀q,q∈cs->ZaK q.2 (T (i+k)).loc=true)/\∀k',k'<k->(T (i+k')).isChain->ZaK (T (i+k')).touch (T (i+k)).loc=true)\/
  ((∀q,q∈cs->Waits ops q.1 (i+k))/\∀k',k'<k->(T (i+k')).isChain->Waits ops (i+k') (i+k))
theorem ZzA {E:Env} {chg:Bool} {cls:List Nat} {ops:List Oper} (hcls:∀q i,rch cls q i=true->Waits ops q i):∀(rest:List Oper) (i:Nat) (fl:Bool) (cs rs:List (Nat×Option (Nat×Bool))) (s:St),(ZcN E chg cls ops rest i fl cs rs s).val.k≠ .stop->
  ∃(S:Nat->St) (T:Nat->Ty),S i=s/\(ZcN E chg cls ops rest i fl cs rs s).val=⟨.normal,S (i+rest.length)⟩/\(∀k o,nth rest k=some o->Zg7 E chg ops (S (i+k)) (T (i+k)) o (S (i+k+1)))/\
   ∀k,k<rest.length->Ord ops T rest i fl cs rs k
 |[],i,fl,cs,rs,s,_=>⟨λ_=>s,λ_=>.skip,rfl,rfl,λk o h=>by simp[Zn] at h,λk h=>by simp at h⟩
 |o::rest,i,fl,cs,rs,s,h=>by
  simp only[ZcN] at h|-;obtain⟨s1,w,hg,hv⟩:=ZHJ h;rw[hv] at h|-;have fin:∀(ty:Ty) (s':St) (fl':Bool) (cs' rs':List (Nat×Option (Nat×Bool))),Zg7 E chg ops s ty o s'->(ZcN E chg cls ops rest (i+1) fl' cs' rs' s').val.k≠ .stop->(∀q,q∈cs->q∈cs')->(∀q,q∈rs->q∈rs')->
    (ty.isChain->(i,ty.touch)∈cs'/\∀q,q∈rs->ZaK ty.touch q.2=false->Waits ops q.1 i)->(ty.isHard->∀q,q∈cs->Waits ops q.1 i)->
    (ty.isRead->(i,ty.loc)∈rs'/\(∀q,q∈cs->ZaK q.2 ty.loc=false->Waits ops q.1 i)/\(fl=false\/(∀q,q∈cs->ZaK q.2 ty.loc=true)\/∀q,q∈cs->Waits ops q.1 i))->
    (fl'=false->fl=false/\¬ty.isFresh)->(ty.isFresh->∀d,o.dst=some d->∀l ol,nth rest l=some ol->ol.dst≠some d/\(tbit (Zkx ops ol) d=true->∀q,q∈cs->Waits ops q.1 (i+1+l)))->
    ∃(S:Nat->St) (T:Nat->Ty),S i=s/\(ZcN E chg cls ops rest (i+1) fl' cs' rs' s').val=⟨.normal,S (i+(o::rest).length)⟩/\(∀k o',nth (o::rest) k=some o'->Zg7 E chg ops (S (i+k)) (T (i+k)) o' (S (i+k+1)))/\
     ∀k,k<(o::rest).length->Ord ops T (o::rest) i fl cs rs k:=by
   intro ty s' fl' cs' rs' hst hk hcs hrs hch hha hrd hfl hfr;obtain⟨S,T,h1,h2,h3,h4⟩:=ZzA hcls rest (i+1) fl' cs' rs' s' hk;have hi1:∀k,i+(k+1)=i+1+k:=λk=>by omega
   refine⟨λk=>if k=i then s else S k,λk=>if k=i then ty else T k,YX rfl,?_,λk o' hk'=> ?_,λk hk'=> ?_⟩
   ·rw[h2];show _=Out.mk .normal (if i+(o::rest).length=i then s else S (i+(o::rest).length));rw[Y3 (by simp),List.length_cons,hi1 rest.length]
   ·cases k with
    |zero=>
     simp only[nth,oinj] at hk';subst hk';have e1:(if i+0=i then s else S (i+0))=s:=YX rfl;have e2:(if i+0=i then ty else T (i+0))=ty:=YX rfl;have e3:(if i+0+1=i then s else S (i+0+1))=s':=by rw[Y3 (by omega)];exact h1
     simp only[e1,e2,e3];exact hst
    |succ k=>
     have:=h3 k o' hk';show Zg7 E chg ops (if i+(k+1)=i then s else S (i+(k+1))) (if i+(k+1)=i then ty else T (i+(k+1))) o' (if i+(k+1)+1=i then s else S (i+(k+1)+1));rw[Y3 (by omega),Y3 (by omega),Y3 (by omega),hi1 k];exact this
   ·have t0:(if i+0=i then ty else T (i+0))=ty:=YX rfl;have ts:∀k,(if i+(k+1)=i then ty else T (i+(k+1)))=T (i+1+k):=λk=>by rw[Y3 (by omega),hi1 k]
    cases k with
    |zero=>
     refine⟨λq hq hc=> ?_,λq hq hc ha=> ?_,λq hq hc ha=> ?_,λk' hk'=>by omega,λhf o' d ho hd l ol hl hol=> ?_,λhr=> ?_⟩
     ·simp only[t0] at hc;exact hha hc q hq
     ·simp only[t0] at hc ha;exact (hrd hc).2.1 q hq ha
     ·simp only[t0] at hc ha;exact (hch hc).2 q hq ha
     ·simp only[t0] at hf;simp only[nth,oinj] at ho;subst ho;obtain⟨l,rfl⟩:∃l',l=l'+1:=⟨l-1,by omega⟩;obtain⟨f1,f2⟩:=hfr hf d hd l ol hol;refine⟨f1,λhm=>⟨λq hq=> ?_,λk' hk'=>by omega⟩⟩;rw[hi1 l];exact f2 hm q hq
     ·simp only[t0] at hr|-;rcases (hrd hr).2.2 with h|h|h
      ·exact .inl ⟨h,λk' hk'=>by omega⟩
      ·exact .inr (.inl ⟨h,λk' hk'=>by omega⟩)
      ·exact .inr (.inr ⟨h,λk' hk'=>by omega⟩)
    |succ k=>
     have q:=h4 k (by simpa using hk');refine⟨λp hp hc=> ?_,λp hp hc ha=> ?_,λp hp hc ha=> ?_,λk' hk'' hb=> ?_,λhf o' d ho hd l ol hl hol=> ?_,λhr=> ?_⟩
     ·simp only[ts] at hc;rw[hi1 k];exact q.cc p (hcs p hp) hc
     ·simp only[ts] at hc ha;rw[hi1 k];exact q.cr p (hcs p hp) hc ha
     ·simp only[ts] at hc ha;rw[hi1 k];exact q.rc p (hrs p hp) hc ha
     ·rw[hi1 k];cases k' with
      |zero=>
       simp only[t0,ts] at hb;rcases hb with ⟨h1,h2⟩|⟨h1,h2,h3⟩|⟨h1,h2,h3⟩
       ·exact q.cc _ (hch h2).1 h1
       ·exact q.rc _ (hrd h2).1 h1 h3
       ·exact q.cr _ (hch h2).1 h1 h3
      |succ k'=>
       simp only[ts] at hb;rw[hi1 k'];exact q.bd k' (by omega) hb
     ·simp only[ts] at hf;obtain⟨l,rfl⟩:∃l',l=l'+1:=⟨l-1,by omega⟩;obtain⟨q0,q12⟩:=q.fr hf o' d ho hd l ol (by omega) hol;refine⟨q0,λhm=> ?_⟩;obtain⟨q1,q2⟩:=q12 hm;refine⟨λp hp=> ?_,λk' hk'' hc=> ?_⟩
      ·rw[hi1 l];exact q1 p (hcs p hp)
      ·rw[hi1 l];cases k' with
       |zero=>simp only[t0] at hc;exact q1 _ (hch hc).1
       |succ k'=>simp only[ts] at hc;rw[hi1 k'];exact q2 k' (by omega) hc
     ·simp only[ts] at hr|-;rcases q.rd hr with ⟨g1,g2⟩|⟨g1,g2⟩|⟨g1,g2⟩
      ·obtain⟨f1,f2⟩:=hfl g1;refine .inl ⟨f1,λk' hk''=> ?_⟩;cases k' with
       |zero=>simp only[t0];exact f2
       |succ k'=>simp only[ts];exact g2 k' (by omega)
      ·refine .inr (.inl ⟨λp hp=>g1 p (hcs p hp),λk' hk'' hc=> ?_⟩);cases k' with
       |zero=>simp only[t0] at hc|-;exact g1 _ (hch hc).1
       |succ k'=>simp only[ts] at hc|-;exact g2 k' (by omega) hc
      ·refine .inr (.inr ⟨λp hp=> ?_,λk' hk'' hc=> ?_⟩)
       ·rw[hi1 k];exact g1 p (hcs p hp)
       ·rw[hi1 k];cases k' with
        |zero=>simp only[t0] at hc;exact g1 _ (hch hc).1
        |succ k'=>simp only[ts] at hc;rw[hi1 k'];exact g2 k' (by omega) hc
  cases w with
  |false=>
   simp only at h|-;exact fin .skip _ fl cs rs ⟨s1,false,hg,rfl,rfl⟩ h (λ_ h=>h) (λ_ h=>h) (λh=>h.elim) (λh=>h.elim) (λh=>h.elim) (λh=>⟨h,id⟩) (λh=>h.elim)
  |true=>
   simp only at h|-;split at h
   ·rename_i chk v hfr;obtain⟨q1,q2⟩:=Zl9 h;rw[q2] at h|-;exact fin (.free v) _ fl cs rs ⟨s1,true,hg,rfl,chk,hfr,q1,rfl⟩ h (λ_ h=>h) (λ_ h=>h) (λh=>h.elim) (λh=>h.elim) (λh=>h.elim) (λh=>⟨h,id⟩) (λh=>h.elim)
   ·rename_i hfr;split at h
    ·split at h
     ·rename_i chk v hfr2;split at h
      ·rename_i hall;obtain⟨q1,q2⟩:=Zl9 h;rw[q2] at h|-;refine fin (.read v _) _ fl cs (_::rs) ⟨s1,true,hg,rfl,rfl,rfl,chk,hfr2,q1,rfl⟩ h (λ_ h=>h) (λ_ h=>YA _ h) (λh=>h.elim) (λh=>h.elim) (λ_=>⟨YaK,λq hq ha=> ?_,?_⟩) (λh=>⟨h,id⟩) (λh=>h.elim)
       ·unfold ZUZ at hall;simp only[Ty.loc] at ha;split at hall
        ·have:=YU.1 hall q hq;rw[ha,Yj] at this;exact hcls _ _ this
        ·rw[YM] at hall;rcases hall with hall|hall
         ·have:=YU.1 hall q hq;rw[ha] at this;simp at this
         ·exact hcls _ _ (YU.1 hall q hq)
       ·unfold ZUZ at hall;split at hall
        ·exact .inl rfl
        ·rw[YM] at hall;rcases hall with hall|hall
         ·exact .inr (.inl λq hq=>YU.1 hall q hq)
         ·exact .inr (.inr λq hq=>hcls _ _ (YU.1 hall q hq))
      ·exact absurd rfl h
     ·have hrc:∀r:Res,rs.all (λq=>ZaK (Zeg E (mask s1 o) o r) q.2||rch cls q.1 i)=true->∀q,q∈rs->ZaK (Zeg E (mask s1 o) o r) q.2=false->Waits ops q.1 i:=λr hall q hq ha=>by have:=YU.1 hall q hq;rw[ha,Yj] at this;exact hcls _ _ this
      split at h
      ·rename_i hcc;simp only[RT.val_bind] at h|-;cases hr:(Z6 E (mask s1 o) o).val with
       |none=>rw[hr] at h;exact absurd rfl h
       |some r=>
        rw[hr] at h;simp only[ZOU] at h|-;cases hall:rs.all (λq=>ZaK (Zeg E (mask s1 o) o r) q.2||rch cls q.1 i) with
        |false=>rw[hall] at h;exact absurd rfl h
        |true=>
         rw[hall] at h;simp only at h|-;obtain⟨q1,q2⟩:=Zl9 h;rw[q2] at h|-;exact fin (.chain r _) _ fl (_::cs) rs ⟨s1,true,hg,rfl,rfl,rfl,hr,q1,rfl⟩ h (λ_ h=>YA _ h) (λ_ h=>h) (λ_=>⟨YaK,hrc r hall⟩) (λ_ q hq=>hcls _ _ (YU.1 hcc q hq)) (λh=>h.elim)
          (λh=>⟨h,id⟩) (λh=>h.elim)
      ·split at h
       ·rename_i hff;obtain⟨t,d,e1,e2,e4,e3⟩:=ZOe hff;rw[Zad] at e4;simp only[RT.val_bind] at h|-;cases hr:(Z6 E (mask s1 o) o).val with
        |none=>rw[hr] at h;exact absurd rfl h
        |some r=>
         rw[hr] at h;simp only[ZOU] at h|-;cases hall:rs.all (λq=>ZaK (Zeg E (mask s1 o) o r) q.2||rch cls q.1 i) with
         |false=>rw[hall] at h;exact absurd rfl h
         |true=>
          rw[hall] at h;simp only at h|-;obtain⟨q1,q2⟩:=Zl9 h;rw[q2] at h|-;obtain⟨l,z1,rfl⟩:=ZPg e1 hr;exact fin (.fresh l _) _ true (_::cs) rs ⟨s1,true,hg,rfl,rfl,rfl,hr,⟨t,d,e1,z1,e2,e4⟩,rfl⟩ h (λ_ h=>YA _ h) (λ_ h=>h) (λ_=>⟨YaK,hrc _ hall⟩) (λh=>h.elim) (λh=>h.elim)
           (λh=>by simp at h) (λ_ d' hd' m om hm=>by
            rw[e2,oinj] at hd';subst hd'
            exact Zxp hcls e3 m om hm)
       ·exact absurd rfl h
    ·exact absurd rfl h
theorem ZTG {t:Nat}:∀{l:List Nat},t∈l->tbit (lmL l) t=true
 |[],h=>by simp at h
 |a::l,h=>by
  simp only[lmL,Zcp,YM,Yt];rcases Ys.1 h with h|h
  ·exact .inl h.symm
  ·exact .inr (ZTG h)
theorem Zup {ops:Array Oper} {t:Nat} (h:t∈o.looksAt ops):tbit (Zkx ops.toList o) t=true:=by
 unfold Oper.looksAt at h;have hl:t∈ZpV o->tbit (lmL (ZpV o)) t=true:=ZTG;unfold Zkx;rcases YV.1 h with h|h
 ·have:=hl h;split
  ·split
   ·split
    ·rw[Zcp,this,Yk]
    ·exact this
   ·exact this
  ·exact this
 ·split
  ·rename_i g _ hg;rw[hg] at h;simp only[Zi,Array.getElem?_toList] at h|-;cases hq:ops[g]? with
   |none=>rw[hq] at h;simp at h
   |some q=>
    rw[hq] at h;simp only[Option.bind_some] at h|-;cases hd:q.dst with
    |none=>rw[hd] at h;simp at h
    |some d=>
     rw[hd] at h;simp at h;subst h;simp only;rw[Zcp];simp
  ·rename_i hg;rw[hg] at h;simp at h
theorem ZPf {ops:Array Oper} {a b:Oper} (h:Zyf ⟨a.dst,Zkx ops.toList a,emL a.after.toList⟩ ⟨b.dst,Zkx ops.toList b,emL b.after.toList⟩=true):a.apart ops b=true:=by
 simp only[Zyf,Yb,YJ] at h;obtain⟨⟨h1,h2⟩,h3⟩:=h;unfold Oper.apart;rw[Yb];constructor
 ·cases hd:a.dst with
  |none=>rfl
  |some d=>
   rw[hd] at h1 h2;simp only[Yb,YJ,bne_iff_ne,ne_eq];constructor
   ·rw[YK];intro hc;rw[List.contains_iff_mem] at hc;have:=Zup hc;simp only[ZSb] at h1;rw[this] at h1;simp at h1
   ·intro e;rw[e] at h2;simp[ZSc] at h2
 ·cases hd:b.dst with
  |none=>rfl
  |some d=>
   rw[hd] at h3;simp only[YJ];rw[YK];intro hc;rw[List.contains_iff_mem] at hc;have:=Zup hc;simp only[ZSb] at h3;rw[this] at h3;simp at h3
theorem Zo7 {ops:List Oper}:∀{l:List Oper} {j:Nat} {o:Oper},nth l j=some o->nth (ZWP ops l) j=some ⟨o.dst,Zkx ops o,emL o.after.toList⟩
 |[],j,o,h=>by simp[Zn] at h
 |a::l,0,o,h=>by simp only[nth,oinj] at h;subst h;rfl
 |a::l,j+1,o,h=>Zo7 (l:=l) h
theorem ZqI {a:OI} {j:Nat}:∀{l:List OI} {k:Nat} {b:OI},Zwk a j l=true->nth l k=some b->tbit b.em j=true\/Zyf a b=true
 |[],k,b,_,h=>by simp[Zn] at h
 |c::l,0,b,hp,h=>by simp only[nth,oinj] at h;subst h;simp only[Zwk,Yb,YM] at hp;exact hp.1
 |c::l,k+1,b,hp,h=>by simp only[Zwk,Yb] at hp;exact ZqI hp.2 h
theorem ZER:∀{l:List OI} {i k:Nat} {a:OI},lexI i l=true->nth l k=some a->a.em<2^(i+k)/\∀m b,k<m->nth l m=some b->tbit b.em (i+k)=true\/Zyf a b=true
 |[],i,k,a,_,h=>by simp[Zn] at h
 |c::l,i,0,a,hl,h=>by
  simp only[nth,oinj] at h;subst h;simp only[lexI,Yb,Yaf] at hl;refine⟨?_,λm b hm hb=> ?_⟩
  ·have:=hl.1.1;have e:Nat.shiftLeft 1 i=2^i:=by have:Nat.shiftLeft 1 i=1<<<i:=rfl;rw[this,Nat.one_shiftLeft]
   rw[e] at this;simpa using this
  ·cases m with
   |zero=>omega
   |succ m=>exact ZqI hl.1.2 hb
 |c::l,i,k+1,a,hl,h=>by
  simp only[lexI,Yb] at hl;obtain⟨h1,h2⟩:=ZER hl.2 h;have e:i+(k+1)=i+1+k:=by omega
  rw[e];refine⟨h1,λm b hm hb=> ?_⟩;cases m with
  |zero=>omega
  |succ m=>exact h2 m b (by omega) hb
theorem ZoX {ops:Array Oper} (h:lexL ops.toList=true):∀j oj,ops[j]? =some oj->(∀e∈oj.after,Region.binds .any e=true->e.on<j)/\
  ∀l ol,j<l->ops[l]? =some ol->(∀e∈ol.after,Region.binds .any e=true->e.on≠j)->oj.apart ops ol=true:=by
 intro j oj ho;have ho':nth ops.toList j=some oj:=by rw[Zi];simpa using ho
 obtain⟨h1,h2⟩:=ZER h (Zo7 ho');rw[Yu] at h1 h2;refine⟨λe he hb=> ?_,λl ol hlt hol hno=> ?_⟩
 ·have:=ZOo (l:=oj.after.toList) (by simpa using he) hb rfl;rcases Yae e.on j with h|h
  ·exact h
  ·exfalso;rw[ZeZ] at this;have h3:emL oj.after.toList<2^e.on:=YaL h1 (Nat.pow_le_pow_right (by decide) h);rw[Nat.testBit_lt_two_pow h3] at this;simp at this
 ·have hol':nth ops.toList l=some ol:=by rw[Zi];simpa using hol
  rcases h2 l _ hlt (Zo7 hol') with h3|h3
  ·exfalso;obtain⟨e,e1,e2,e3⟩:=Zpm h3;exact hno e (by simpa using e1) e2 e3
  ·exact ZPf h3
theorem ZpZ {a:Act} {d:Nat} (h1:nth ops j=some o) (h2:o.dst=some d):
  yielded ops.toArray a.tmps j=match a.tmps.getD d undef with| .bool b=>some b|_=>none:=by
 rw[Zi] at h1;simp only[yielded,List.getElem?_toArray,h1,Option.bind_some,h2];rw[YL];cases a.tmps[d]? with
 |none=>rfl
 |some v=>cases v<;>rfl
theorem Zb9 (s:St) (d:Option Nat) (v:V):(put s d v).Sl.length=s.Sl.length:=by cases d<;>simp[put,ZH]
variable {s1:St}
theorem Zd9 {s:St} {g:Option (Nat×Bool)} {w:Bool} (h:Zlk ops s g s1 w):s1.Sl.length=s.Sl.length/\s1.mem=s.mem:=by
 unfold Zlk at h;split at h
 ·obtain⟨rfl,_⟩:=h;exact⟨rfl,rfl⟩
 ·obtain⟨o,d,_,_,h⟩:=h;rcases h with ⟨b,_,rfl,_⟩|⟨b,_,rfl,_⟩|⟨_,rfl,_⟩
  ·exact⟨rfl,rfl⟩
  ·exact⟨Zb9 _ _ _,rfl⟩
  ·exact⟨rfl,rfl⟩
theorem Zo9 {s:St} {g:Option (Nat×Bool)} {w:Bool} (h:Zlk ops s g s1 w) {x:Ctx} {t:Nat} (hu:∀v,nth s.Sl t=some v->RV x v u):∀v,nth s1.Sl t=some v->RV x v u:=by
 unfold Zlk at h;split at h
 ·obtain⟨rfl,_⟩:=h;exact hu
 ·obtain⟨o,d,_,_,h⟩:=h;rcases h with ⟨b,_,rfl,_⟩|⟨b,hb,rfl,_⟩|⟨_,rfl,_⟩
  ·exact hu
  ·intro v hv;rcases Zen hv with ⟨rfl,rfl,_⟩|⟨_,hv⟩
   ·have:=Zc0 (show RA x (.bool false b) u from hu _ hb);subst this;exact .bool _ _ _
   ·exact hu v hv
  ·exact hu
theorem Zuv {s:St} {w:Bool} {a:Act} {x:Ctx} (h:Zlk ops s o.guard s1 w)
  (hu:∀j want oj d,o.guard=some (j,want)->nth ops j=some oj->oj.dst=some d->∀v,nth s.Sl d=some v->RV x v (a.tmps.getD d undef)):Region.wanted o (yielded ops.toArray a.tmps)=w:=by
 unfold Zlk at h;split at h
 ·rename_i hg;simp[Region.wanted,hg,h.2]
 ·rename_i j want hg;obtain⟨oj,d,hj,hd,h⟩:=h;have hy:=ZpZ (a:=a) hj hd;have hw:Region.wanted o (yielded ops.toArray a.tmps)=((match a.tmps.getD d undef with| .bool b=>some b|_=>none)==some want):=by simp only[Region.wanted,hg,hy]
  have hu':=hu j want oj d hg hj hd;rcases h with ⟨b,hb,_,rfl⟩|⟨b,hb,_,rfl⟩|⟨hb,_,rfl⟩
  ·have:=Zc0 (show RA x (.bool true b) _ from hu' _ hb);rw[hw,this];cases b<;>cases want<;>rfl
  ·have:=Zc0 (show RA x (.bool false b) _ from hu' _ hb);rw[hw,this];cases b<;>cases want<;>rfl
  ·obtain⟨C,hC,_⟩:=hu' _ hb;rw[hw,hC];rfl
theorem Zxe (ts:List Nat):∀(i:Nat) (l:List V),(Zxf ts i l).length=l.length
 |_,[]=>rfl
 |i,v::l=>by simp[Zxf,Zxe ts (i+1) l]
theorem Zxd (ts:List Nat):∀(i:Nat) (l:List V) (j:Nat) (v:V),nth (Zxf ts i l) j=some v->(memN ts (i+j)=true/\nth l j=some v)\/v=.w .junk
 |_,[],j,v,h=>by simp[Zxf,Zn] at h
 |i,u::l,0,v,h=>by
  simp only[Zxf,nth,oinj] at h;split at h
  ·rename_i hm;exact .inl ⟨by simpa using hm,by simp[nth,h]⟩
  ·exact .inr h.symm
 |i,u::l,j+1,v,h=>by
  simp only[Zxf,nth] at h;rcases Zxd ts (i+1) l j v h with ⟨h1,h2⟩|h1
  ·exact .inl ⟨by rw[show i+(j+1)=i+1+j by omega];exact h1,h2⟩
  ·exact .inr h1
theorem ZWv {x:Ctx} {s:St} {a:Act} (hs:s.Sl.length=a.tmps.size) (h:∀t,t∈ZpV o->∀v,nth s.Sl t=some v->RV x v (a.tmps.getD t undef)):RF x (mask s o).Sl a.tmps:=by
 refine⟨by simp only[mask,Zxe];exact hs,λi v hv=> ?_⟩;rcases Zxd _ 0 _ i v hv with ⟨h1,h2⟩|h1
 ·rw[Yu,ZEH] at h1;exact h i h1 v h2
 ·subst h1;trivial
theorem Zlj {P:Program} {s:St} {ts:List TypeId} {r:Res} (h:Zdr P s .append ts vs=some r):r.m.Bx=s.mem.Bx:=by
 unfold Zdr at h;split at h;all_goals first
  |(simp at*;done)
  |skip
 rename_i t t' x y _ _ _;unfold ZkT at h;repeat' (split at h)
 all_goals first
  |(simp at h;done)
  |(simp only[oinj] at h;subst h;rfl)
theorem Zf2 {s:St} {a b:A} (h:Zau s a=some (b,s')):s'.mem.Bx=s.mem.Bx:=by
 unfold Zau at h;repeat' (split at h)
 all_goals first
  |(simp at h;done)
  |(simp only[oinj,pinj] at h;obtain⟨_,rfl⟩:=h;rfl)
theorem Zf0:∀{l l':List A} {s s':St},Zat s l=some (l',s')->s'.mem.Bx=s.mem.Bx
 |[],_,_,_,h=>by simp only[Zat,oinj,pinj] at h;obtain⟨_,rfl⟩:=h;rfl
 |a::l,_,s,s',h=>by
  simp only[Zat] at h;split at h
  ·rename_i b s1 h1;split at h
   ·rename_i r s2 h2;simp only[oinj,pinj] at h;obtain⟨_,rfl⟩:=h;rw[Zf0 h2,Zf2 h1]
   ·simp at h
  ·simp at h
theorem Zux {s:St} {a b:W} (h:ZaF s a=some (b,s')):s'.mem.Bx=s.mem.Bx:=by
 unfold ZaF at h;repeat' (split at h)
 all_goals first
  |(simp at h;done)
  |(rename_i h1;simp only[oinj,pinj] at h;obtain⟨_,rfl⟩:=h;exact Zf2 h1)
  |(rename_i h1;simp only[oinj,pinj] at h;obtain⟨_,rfl⟩:=h;exact Zf0 h1)
  |(simp only[oinj,pinj] at h;obtain⟨_,rfl⟩:=h;rfl)
theorem Zuy {s:St} {a b:V} (h:Zbe s a=some (b,s')):s'.mem.Bx=s.mem.Bx:=by
 unfold Zbe at h;repeat' (split at h)
 all_goals first
  |(simp at h;done)
  |(rename_i h1;simp only[oinj,pinj] at h;obtain⟨_,rfl⟩:=h;exact Zux h1)
  |(simp only[oinj,pinj] at h;obtain⟨_,rfl⟩:=h;rfl)
theorem ZhX:∀{l l':List V} {s s':St},Zac s l=some (l',s')->s'.mem.Bx=s.mem.Bx
 |[],_,_,_,h=>by simp only[Zac,oinj,pinj] at h;obtain⟨_,rfl⟩:=h;rfl
 |a::l,_,s,s',h=>by
  simp only[Zac] at h;split at h
  ·rename_i b s1 h1;split at h
   ·rename_i r s2 h2;simp only[oinj,pinj] at h;obtain⟨_,rfl⟩:=h;rw[ZhX h2,Zuy h1]
   ·simp at h
  ·simp at h
theorem Zf1:∀{l l':List (Nat×Option (List A))} {s s':St},ZbD s l=some (l',s')->s'.mem.Bx=s.mem.Bx
 |[],_,_,_,h=>by simp only[ZbD,oinj,pinj] at h;obtain⟨_,rfl⟩:=h;rfl
 |(i,some a)::l,_,s,s',h=>by
  simp only[ZbD] at h;split at h
  ·rename_i b s1 h1;split at h
   ·rename_i r s2 h2;simp only[oinj,pinj] at h;obtain⟨_,rfl⟩:=h;rw[Zf1 h2,Zf0 h1]
   ·simp at h
  ·simp at h
 |(i,none)::l,_,s,s',h=>by simp[ZbD] at h
theorem Zlp {E:Env} {s:St} {parts:Array (Nat×Operand)} {r:Res} (h:evOp E s (.buildSlice t n parts)=some r):r.m.Bx=s.mem.Bx:=by
 simp only[evOp] at h;split at h
 ·unfold Zf6 at h;split at h
  ·rename_i ps s' h1;rw[<-Zf1 h1];unfold Zdn at h;repeat' (split at h)
   all_goals first
    |(simp at h;done)
    |(simp only[oinj] at h;subst h;rfl)
  ·simp at h
 ·unfold ZeE at h;split at h
  ·rename_i ps s' h1;rw[<-Zf1 h1];unfold Zdo at h;repeat' (split at h)
   all_goals first
    |(simp at h;done)
    |(simp only[oinj] at h;subst h;rfl)
  ·simp at h
theorem ZyE {E:Env} {s:St} {x:Operand} {lo hi mx:Option Operand} {r:Res} (h:evOp E s (.slice t x lo hi mx)=some r):r.m.Bx=s.mem.Bx:=by
 simp only[evOp] at h;split at h
 ·unfold Zqh at h;split at h
  ·rename_i x' s' h1;rw[<-Zf2 h1];split at h
   ·simp at h
   ·unfold Zqg at h;repeat' (split at h)
    all_goals first
     |(simp at h;done)
     |(simp only[ofSt,oinj] at h;subst h;rfl)
   ·unfold sliceB at h;repeat' (split at h)
    all_goals first
     |(simp at h;done)
     |(simp only[oinj] at h;subst h;rfl)
  ·simp at h
 ·simp at h
variable {st:Bool}
theorem ZFF {E:Env} (hE:Zbx E) {s:St} {r:Res} {b':Nat} (h:(Z6 E s o).val=some r) (ht:Zyu E s o=some (b',st)):s.mem.Bx.length<=r.m.Bx.length/\(st=false->r.m.Sg=s.mem.Sg)/\∀b,b≠b'->b<s.mem.Bx.length->nth r.m.Bx b=nth s.mem.Bx b:=by
 have nb:∀(l:List A),(Zep s l).m.Bx=s.mem.Bx++[l]:=λl=>rfl
 have app:∀(l:List A),s.mem.Bx.length<=(Zep s l).m.Bx.length/\(st=false->(Zep s l).m.Sg=s.mem.Sg)/\∀b,b≠b'->b<s.mem.Bx.length->nth (Zep s l).m.Bx b=nth s.mem.Bx b:=λl=>
  ⟨by rw[nb];simp,λ_=>rfl,λb _ hb=>by rw[nb,Zi,Zi,Yp hb]⟩
 unfold Zyu at ht;split at ht
 ·rename_i t p x ho;split at ht
  ·rename_i b0 o0 hp;simp only[oinj,pinj] at ht;obtain⟨rfl,rfl⟩:=ht;unfold Z6 at h;rw[ho] at h;simp only[RT.val,evOp,hp] at h;split at h
   ·rename_i p' l hp' _;simp only[oinj] at hp';subst hp';simp only[Zvt] at h;split at h
    ·simp at h
    ·split at h
     ·simp at h
     ·split at h
      ·simp at h
      ·split at h
       ·simp at h
       ·simp only[oinj] at h;subst h;exact⟨by simp[ZH],λ_=>rfl,λb hb _=>by rw[ZB (λe=>hb e.symm)]⟩
   ·simp at h
  ·simp at ht
 ·rename_i t ho;simp only[oinj,pinj] at ht;obtain⟨rfl,rfl⟩:=ht;unfold Z6 at h;rw[ho] at h;simp only[RT.val,evOp,YB] at h;obtain⟨l,_,rfl⟩:=h;exact app l
 ·rename_i t x ho;simp only[oinj,pinj] at ht;obtain⟨rfl,rfl⟩:=ht;unfold Z6 at h;rw[ho] at h;simp only[RT.val,evOp,YB] at h;obtain⟨l,_,rfl⟩:=h;exact app l
 ·rename_i c ho;split at ht
  ·rename_i hcal;simp only[oinj,pinj] at ht;obtain⟨rfl,rfl⟩:=ht;unfold Z6 at h;rw[ho] at h;simp only[hcal] at h;have hb:=h;split at h
   ·rename_i vs hvs;simp only[RT.val] at h;exact⟨Nat.le_of_eq (by rw[Zlj h]),λe=>by simp at e,λb _ _=>by rw[Zlj h]⟩
   ·simp[RT.val] at h
  ·rename_i f hcal;split at ht
   ·rename_i g hg;split at ht
    ·rename_i vs hvs;obtain⟨b0,hb0,hbe⟩:=YB.1 ht;simp only[pinj] at hbe;obtain⟨rfl,rfl⟩:=hbe;have hc:ZaX E s c=some (.tree g,[]):=by unfold ZaX;rw[hcal];simp only[opd1,opd,Option.bind_some,V.one,hg,Ya5,En.plain]
     unfold Z6 at h;rw[ho] at h;simp only[hcal,hc,hvs,YG] at h;rw[RT.val_map] at h;split at h
     ·rename_i r0 hr0;simp only[oinj] at h;subst h;obtain⟨b1,h1,h2,h3,h4⟩:=(hE f _ hg).2 vs s.mem r0 hr0;rw[hb0] at h1;simp only[oinj] at h1;subst h1;exact⟨h3,λ_=>h2,λb hb _=>h4 b hb⟩
     ·simp at h
    ·simp at ht
   ·rename_i p hg;simp only[oinj,pinj] at ht;obtain⟨rfl,rfl⟩:=ht;have hc:ZaX E s c=some (.pure p,[]):=by unfold ZaX;rw[hcal];simp only[opd1,opd,Option.bind_some,V.one,hg,Ya5,En.plain]
    unfold Z6 at h;rw[ho] at h;simp only[hcal,hc] at h;split at h
    ·rename_i p' caps vs hp' hvs;simp only[oinj,pinj,En.pure.injEq] at hp';obtain⟨rfl,rfl⟩:=hp';split at h
     ·rename_i vs' s' hfz;split at h
      ·simp only[RT.val,oinj] at h;subst h;have hb:=ZhX hfz;exact⟨Nat.le_of_eq (by simp only[ofSt];rw[hb]),λe=>by simp at e,λb _ _=>by simp only[ofSt];rw[hb]⟩
      ·simp[RT.val] at h
     ·simp[RT.val] at h
    ·rename_i hp' _;simp at hp'
    ·rename_i hp' _;simp at hp'
    ·simp[RT.val] at h
   ·simp at ht
  ·simp at ht
 ·rename_i ho;simp only[oinj,pinj] at ht;obtain⟨rfl,rfl⟩:=ht;unfold Z6 at h;rw[ho] at h;simp only[RT.val] at h;have hb:=ZyE h;exact⟨Nat.le_of_eq (by rw[hb]),λe=>by simp at e,λb _ _=>by rw[hb]⟩
 ·rename_i ho;simp only[oinj,pinj] at ht;obtain⟨rfl,rfl⟩:=ht;unfold Z6 at h;rw[ho] at h;simp only[RT.val] at h;have hb:=Zlp h;exact⟨Nat.le_of_eq (by rw[hb]),λe=>by simp at e,λb _ _=>by rw[hb]⟩
 ·simp at ht
variable {m m':Mem}
theorem Zqc (h:m'.Sg=m.Sg) (hh ver:Nat):ZaY m' hh ver=ZaY m hh ver:=by unfold ZaY;rw[h]
theorem ZxF (h:m'.Sg=m.Sg) (a:A):Zdh m' a=Zdh m a:=by cases a<;>simp only[Zdh];rw[Zqc h]
theorem ZxE (h:m'.Sg=m.Sg) (v:V):Zco m' v=Zco m v:=by
 have hf:Zdh m'=Zdh m:=funext (ZxF h);cases v with
 |w w=>cases w<;>simp only[Zco,hf]
 |tup t=>rfl
theorem Zlb {s t:St} (h:s'.mem.Sg=s.mem.Sg) {a b:A} (hf:Zau s a=some (b,t)):∃t',Zau s' a=some (b,t')/\t'.mem.Sg=t.mem.Sg:=by
 cases a with
 |tip hh ver=>
  simp only[Zau] at hf|-;rw[Zqc h];cases hg:ZaY s.mem hh ver with
  |none=>rw[hg] at hf;simp at hf
  |some g=>
   rw[hg] at hf;simp only at hf|-;cases hz:g.ffz with
   |true=>
    rw[hz] at hf;simp only[oinj,pinj] at hf|-;obtain⟨rfl,rfl⟩:=hf;exact⟨s',⟨rfl,rfl⟩,h⟩
   |false=>
    rw[hz] at hf;simp only[oinj,pinj] at hf|-;obtain⟨rfl,rfl⟩:=hf;exact⟨_,⟨rfl,rfl⟩,by simp only[h]⟩
 |sp _ _ _ _=>simp[Zau] at hf
 |_=>
  simp only[Zau,oinj,pinj] at hf|-;obtain⟨rfl,rfl⟩:=hf;exact⟨s',⟨rfl,rfl⟩,h⟩
theorem Zk9:∀{l r:List A} {s s' t:St},s'.mem.Sg=s.mem.Sg->Zat s l=some (r,t)->∃t',Zat s' l=some (r,t')/\t'.mem.Sg=t.mem.Sg
 |[],_,s,s',t,h,hf=>by simp only[Zat,oinj,pinj] at hf|-;obtain⟨rfl,rfl⟩:=hf;exact⟨s',⟨rfl,rfl⟩,h⟩
 |a::l,_,s,s',t,h,hf=>by
  simp only[Zat] at hf|-;split at hf
  ·rename_i b s1 h1;split at hf
   ·rename_i r s2 h2;simp only[oinj,pinj] at hf;obtain⟨rfl,rfl⟩:=hf;obtain⟨t1,e1,k1⟩:=Zlb h h1;obtain⟨t2,e2,k2⟩:=Zk9 k1 h2;exact⟨t2,by rw[e1];simp only[e2],k2⟩
   ·simp at hf
  ·simp at hf
theorem ZxH {s t:St} (h:s'.mem.Sg=s.mem.Sg) {r:V} (hf:Zbe s v=some (r,t)):∃t',Zbe s' v=some (r,t')/\t'.mem.Sg=t.mem.Sg:=by
 cases v with
 |tup l=>
  simp only[Zbe,oinj,pinj] at hf|-;obtain⟨rfl,rfl⟩:=hf;exact⟨s',⟨rfl,rfl⟩,h⟩
 |w w=>
  cases w with
  |one a=>
   simp only[Zbe,ZaF] at hf|-;cases h1:Zau s a with
   |none=>rw[h1] at hf;simp at hf
   |some q=>
    obtain⟨b,s1⟩:=q;rw[h1] at hf;simp only[oinj,pinj] at hf;obtain⟨rfl,rfl⟩:=hf;obtain⟨t1,e1,k1⟩:=Zlb h h1;exact⟨t1,by rw[e1],k1⟩
  |agg l=>
   simp only[Zbe,ZaF] at hf|-;cases h1:Zat s l with
   |none=>rw[h1] at hf;simp at hf
   |some q=>
    obtain⟨b,s1⟩:=q;rw[h1] at hf;simp only[oinj,pinj] at hf;obtain⟨rfl,rfl⟩:=hf;obtain⟨t1,e1,k1⟩:=Zk9 h h1;exact⟨t1,by rw[e1],k1⟩
  |junk=>
   simp only[Zbe,ZaF,oinj,pinj] at hf|-;obtain⟨rfl,rfl⟩:=hf;exact⟨s',⟨rfl,rfl⟩,h⟩
theorem Zjz:∀{l r:List V} {s s' t:St},s'.mem.Sg=s.mem.Sg->Zac s l=some (r,t)->∃t',Zac s' l=some (r,t')/\t'.mem.Sg=t.mem.Sg
 |[],_,s,s',t,h,hf=>by simp only[Zac,oinj,pinj] at hf|-;obtain⟨rfl,rfl⟩:=hf;exact⟨s',⟨rfl,rfl⟩,h⟩
 |a::l,_,s,s',t,h,hf=>by
  simp only[Zac] at hf|-;split at hf
  ·rename_i b s1 h1;split at hf
   ·rename_i r s2 h2;simp only[oinj,pinj] at hf;obtain⟨rfl,rfl⟩:=hf;obtain⟨t1,e1,k1⟩:=ZxH h h1;obtain⟨t2,e2,k2⟩:=Zjz k1 h2;exact⟨t2,by rw[e1];simp only[e2],k2⟩
   ·simp at hf
  ·simp at hf
theorem ZRS {P:Program} {s:St} {v:Nat} (hst:ZaY m' h v=ZaY s.mem h v):
  (ZaN P {s with mem:=m'} t (.tip h v) i).map (λr=>(r.chk,r.v))=(ZaN P s t (.tip h v) i).map (λr=>(r.chk,r.v)):=by
 unfold ZaN;simp only[hst];split
 ·split
  ·split
   ·split
    ·split<;>rfl
    ·rfl
   ·rfl
  ·rfl
 ·split
  ·split<;>rfl
  ·rfl
 ·rfl
theorem Zgt {E:Env} (hE:Zbx E) {s:St}:(Z6 E s o).All (λr=>∀q,r=some q->KeepR s q):=by
 unfold Z6;split
 ·split
  ·split
   ·intro q hq;exact ZuV hq
   ·intro q hq;simp at hq
  ·split
   ·split
    ·rename_i hfz;split
     ·intro q hq;simp only[oinj] at hq;subst hq;exact KeepR.of (Zd0 hfz) _ _
     ·intro q hq;simp at hq
    ·intro q hq;simp at hq
   ·split
    ·intro q hq;simp only[oinj] at hq;subst hq;exact .still rfl rfl rfl
    ·intro q hq;simp at hq
   ·rename_i g caps vs hcal hvs;have:∃f,Za E.P f (.tree g):=by
     unfold ZaX at hcal;split at hcal
     ·split at hcal
      ·split at hcal
       ·rename_i e he;simp only[oinj,pinj] at hcal;rename_i f' _ _ _ _;have:=(hE _ _ he).plain;rw[hcal.1] at this;exact⟨_,this⟩
       ·simp at hcal
      ·simp at hcal
     ·simp at hcal
    obtain⟨f,hf⟩:=this;have h:=hf.2.1 (vs++caps) s.mem;refine RT.All.map (h.mono λr hr q hq=> ?_);split at hq
    ·rename_i r0;simp only[oinj] at hq;subst hq;exact (hr r0 rfl).keepR
    ·simp at hq
   ·intro q hq;simp at hq
 ·split
  ·unfold idxT;split
   ·rename_i k n _ _;have:∀t x m j,(ZkS E.P s t x k n m j).All λr=>∀q,r=some q->KeepR s q:=by
     intro t x m
     induction m with
     |zero=>intro j q hq;simp at hq
     |succ m ih=>intro j;exact⟨λq hq=>Zex hq,ih _⟩
    exact this _ _ _ _
   ·intro q hq;exact Zex hq
  ·intro q hq;simp at hq
 ·intro q hq;exact ZOi hq
theorem ZSw:0<capP:=by decide
theorem ZMT {a:Nat} (h:Nat.blt a b=true):a<b:=by rwa [Yaf] at h
theorem ZT0 {a:Nat} (h:a<b):Nat.blt a b=true:=by rwa [Yaf]
theorem ZFn (h:b<capP):bxP b=b/\mkP b=0:=⟨Ya2 h,Nat.div_eq_of_lt h⟩
theorem ZTY {m:Nat} (h:b<capP):bxP (prtP b m)=b/\mkP (prtP b m)=m+1:=by show (b+capP*(m+1))%capP=b/\(b+capP*(m+1))/capP=m+1;exact⟨by rw[Nat.add_mul_mod_self_left,Ya2 h],by rw[Nat.add_mul_div_left _ _ ZSw,Nat.div_eq_of_lt h,Yu]⟩
def ZiG (c:Nat) (m m':Mem):Prop:=
 (mkP c=0->nth m'.Bx (bxP c)=nth m.Bx (bxP c))/\(mkP c≠0->∀l,nth m.Bx (bxP c)=some l->∃l',nth m'.Bx (bxP c)=some l'/\∀j,tbit (Nat.pred (mkP c)) j=true->nth l' j=nth l j)
theorem ZiG.of_eq {c:Nat} (h:nth m'.Bx (bxP c)=nth m.Bx (bxP c)):ZiG c m m':=⟨λ_=>h,λ_ l hl=>⟨l,by rw[h];exact hl,λ_ _=>rfl⟩⟩
theorem ZiG.refl (c:Nat) (m:Mem):ZiG c m m:=.of_eq rfl
theorem ZiG.trans {c:Nat} {m m' m'':Mem} (h:ZiG c m m') (k:ZiG c m' m''):ZiG c m m'':=
 ⟨λe=>(k.1 e).trans (h.1 e),λe l hl=>by
  obtain⟨l',h1,h2⟩:=h.2 e l hl;obtain⟨l'',k1,k2⟩:=k.2 e l' h1
  exact⟨l'',k1,λj hj=>(k2 j hj).trans (h2 j hj)⟩⟩
theorem ZiG.symm {c:Nat} {m m':Mem} (h:ZiG c m m') (hb:bxP c<m.Bx.length):ZiG c m' m:=
 ⟨λe=>(h.1 e).symm,λe l' hl'=>by
  have hl:nth m.Bx (bxP c)=some (m.Bx[bxP c]):=by rw[Zi];exact Yg hb
  obtain⟨l2,h1,h2⟩:=h.2 e _ hl;rw[hl'] at h1;simp only[oinj] at h1;subst h1
  exact⟨_,hl,λj hj=>(h2 j hj).symm⟩⟩
theorem Zkp {nb:Nat}:∀{bd:List (Nat×Nat)},ZwU nb bd=some none->∀b o,b<nb->memP bd b o=false
 |[],_,_,_,_=>rfl
 |(b0,o0)::l,h,b,o,hb=>by
  unfold ZwU at h;split at h
  ·rename_i hlt;have hn:¬b0<nb:=λe=>by rw[ZT0 e] at hlt;simp at hlt
   have:=Zkp h b o hb;have e:Nat.beq b0 b=false:=by rw[YK];intro e;have:=Yad e;omega
   simp only[memP,this,e,YZ,YaS]
  ·split at h
   ·simp at h
   ·simp at h
   ·split at h<;>simp at h
theorem Zhr {nb:Nat}:∀{bd:List (Nat×Nat)} {b m:Nat},ZwU nb bd=some (some (b,m))->∀b' o,b'<nb->memP bd b' o=true->b'=b/\tbit m o=true
 |[],_,_,h,_,_,_,_=>by simp[ZwU] at h
 |(b0,o0)::l,b,m,h,b',o,hb,hm=>by
  unfold ZwU at h;simp only[memP,YM,Yb] at hm;split at h
  ·rename_i hlt;have hn:¬b0<nb:=λe=>by rw[ZT0 e] at hlt;simp at hlt
   rcases hm with ⟨e,_⟩|hm
   ·have:=Yad e;omega
   ·exact Zhr h b' o hb hm
  ·split at h
   ·simp at h
   ·rename_i hr;simp only[oinj,pinj] at h;obtain⟨rfl,rfl⟩:=h;rcases hm with ⟨e1,e2⟩|hm
    ·refine⟨(Yad e1).symm,?_⟩;rw[Zcp,e2,Yw]
    ·rw[Zkp hr b' o hb] at hm;simp at hm
   ·rename_i b1 m1 hr;split at h
    ·rename_i he;simp only[oinj,pinj] at h;obtain⟨rfl,rfl⟩:=h;have hb1:=Yad he;rcases hm with ⟨e1,e2⟩|hm
     ·refine⟨(Yad e1).symm,?_⟩;rw[Zcp,e2,Yw]
     ·obtain⟨k1,k2⟩:=Zhr hr b' o hb hm;refine⟨k1.trans hb1.symm,?_⟩;rw[Zcp,k2,Yk]
    ·simp at h
theorem ZWn {l l':List α} (h:∀j,nth l' j=nth l j):l'=l:=by apply List.ext_getElem?;intro j;have:=h j;rwa [Zi,Zi] at this
theorem ZEU {s:St} {r:Res} (hk:KeepR s r) (hb:b<s.mem.Bx.length) (h:∀o,memP r.bd b o=false):nth r.m.Bx b=nth s.mem.Bx b:=by
 have hl:nth s.mem.Bx b=some (s.mem.Bx[b]):=by rw[Zi];exact Yg hb
 obtain⟨l',h1,_,h3⟩:=hk.box b _ hl;rw[h1,hl,ZWn (λj=>(h3 j (h j)).2)]
theorem Zp8 {E:Env} (hE:Zbx E) {s:St} {r:Res} {a:Nat} (h:(Z6 E s o).val=some r) (ht:Zeg E s o r=some (a,st)):
  s.mem.Bx.length<=r.m.Bx.length/\(st=false->r.m.Sg=s.mem.Sg)/\∀c,ovlB a c=false->bxP c<s.mem.Bx.length->ZiG c s.mem r.m:=by
 unfold Zeg at ht;split at ht
 ·rename_i b st' htt;split at ht
  ·rename_i hlt;simp only[oinj,pinj] at ht;obtain⟨rfl,rfl⟩:=ht;obtain⟨q1,q2,q3⟩:=ZFF hE h htt;obtain⟨b1,b2⟩:=ZFn (ZMT hlt);refine⟨q1,q2,λc hc hcb=>.of_eq (q3 _ (λe=> ?_) hcb)⟩;unfold ovlB at hc;rw[b1,b2,e] at hc;simp at hc
  ·simp at ht
 ·have hk:KeepR s r:=(Zgt hE (s:=s) (o:=o)).val r h;split at ht
  ·simp at ht
  ·rename_i ho;split at ht
   ·simp only[oinj,pinj] at ht;obtain⟨rfl,rfl⟩:=ht;refine⟨hk.bl,λe=>by simp at e,λc _ hcb=>.of_eq (ZEU hk hcb λo=>Zkp ho _ o (by rw[Zad];exact hcb))⟩
   ·simp at ht
  ·rename_i b m ho;split at ht
   ·rename_i hlt;simp only[oinj,pinj] at ht;obtain⟨rfl,rfl⟩:=ht;obtain⟨b1,b2⟩:=ZTY (m:=m) (ZMT hlt);refine⟨hk.bl,λe=>by simp at e,λc hc hcb=> ?_⟩;by_cases e:bxP c=b
    ·unfold ovlB at hc;rw[b1,b2,e] at hc;have hc':Nat.beq (mkP c) 0=false/\Nat.beq (Nat.land m (Nat.pred (mkP c))) 0=true:=by have:Nat.beq b b=true:=Nat.beq_refl b;rw[this] at hc;simp only[YQ,Nat.pred_succ,Yq,Bool.not_eq_false'] at hc;exact hc.2
     have hz:=Yad hc'.2;refine⟨λe0=>by rw[e0] at hc';simp at hc',λ_ l hl=> ?_⟩;obtain⟨l',h1,_,h3⟩:=hk.box _ l hl;refine⟨l',h1,λj hj=>(h3 j ?_).2⟩;rw[YK];intro hm;obtain⟨_,k2⟩:=Zhr ho _ j (by rw[Zad];exact hcb) hm;rw[ZeZ] at hj k2;have:(Nat.land m (Nat.pred (mkP c))).testBit j=true:=by show (m&&&(Nat.pred (mkP c))).testBit j=true;rw[Nat.testBit_and,hj,k2];rfl
     rw[hz] at this;simp at this
    ·refine .of_eq (ZEU hk hcb λo=> ?_);rw[YK];intro hm;exact e (Zhr ho _ o (by rw[Zad];exact hcb) hm).1
   ·simp at ht
theorem ZPI {o:Nat}:tbit (rngM o n) j=true↔o<=j/\j<o+n:=by
 have h:(rngM o n).testBit j=(decide (o<=j)&&(allB n).testBit (j-o)):=by show (allB n<<<o).testBit j=_;rw[Nat.testBit_shiftLeft]
 rw[ZeZ,h,<-ZeZ,Yb,Yf,Zvp];omega
theorem ZgN {α:Type}:∀(o:Nat) (l:List α) (j:Nat),nth (Zdk o l) j=nth l (o+j)
 |0,l,j=>by rw[Yu];rfl
 |o+1,[],j=>by simp[Zdk,Zn]
 |o+1,a::l,j=>by
  have:o+1+j=(o+j)+1:=by omega
  rw[this];exact ZgN o l j
theorem Zp9 {α:Type}:∀(n:Nat) (a b:List α),(∀j,j<n->nth a j=nth b j)->ZpN n a=ZpN n b
 |0,_,_,_=>rfl
 |n+1,[],[],_=>rfl
 |n+1,[],b::bs,h=>by have:=h 0 (by omega);simp[nth] at this
 |n+1,a::as,[],h=>by have:=h 0 (by omega);simp[nth] at this
 |n+1,a::as,b::bs,h=>by have h0:=h 0 (by omega);simp only[nth,oinj] at h0;subst h0;simp only[ZpN,Zp9 n as bs (λj hj=>h (j+1) (by omega))]
variable {l:List A}
theorem ZK4 {P:Program} {o:Nat} {l':List A} (hw:widT P t=some n) (h:∀j,o<=j->j<o+n->nth l' j=nth l j):ZpR P t (Zdk o l') 0=ZpR P t (Zdk o l) 0:=by
 unfold widT at hw;unfold ZpR;cases h1:aggT P t with
 |none=>simp[h1] at hw
 |some b=>
  cases h2:Zj4 P t with
  |none=>cases b<;>simp[h1,h2] at hw
  |some k=>
   cases b with
   |true=>
    simp only[h1,h2,oinj] at hw;subst hw;simp only;rw[Zp9 k _ (Zdk 0 (Zdk o l)) (λj hj=>by show nth (Zdk o l') j=nth (Zdk o l) j;rw[ZgN,ZgN];exact h _ (by omega) (by omega))]
   |false=>
    simp only[h1,h2,oinj] at hw;subst hw;simp only;rw[ZgN,ZgN];rw[h (o+0) (by omega) (by omega)]
theorem ZHG {P:Program} {s:St} {e:TypeId} {v:Nat} (hu:P.underlying t=some (.slice e)) (hst:ZaY m' h v=ZaY s.mem h v):
  (match idxT P {s with mem:=m'} t (.tip h v) i with| .Lf (some r)=>some (r.chk,r.v)|_=>none)=(match idxT P s t (.tip h v) i with| .Lf (some r)=>some (r.chk,r.v)|_=>none):=by
 have hm:∀o:Option Res,(match RT.Lf o with| .Lf (some r)=>some (r.chk,r.v)|_=>none)=o.map (λr=>(r.chk,r.v)):=by intro o;cases o<;>rfl
 have hi:∀s:St,idxT P s t (.tip h v) i=.Lf (ZaN P s t (.tip h v) i):=λs=>by unfold idxT;rw[hu]
 rw[hi,hi,hm,hm,ZRS hst]
variable {ns:Bool}
theorem ZHz {E:Env} (hE:Zbx E) {s:St} (h:ZcJ E true s o=some (chk,v)) (hl:ZoR E s o=some (b,ns)):
  ((∃l,nth s.mem.Bx (bxP b)=some l)/\(∃p o',opd1 s p=some (.loc (bxP b) o'))/\(ZiG b s.mem m'->(ns=true->m'.Sg=s.mem.Sg)->ZcJ E true {s with mem:=m'} o=some (chk,v)))\/
   (ns=true/\(m'.Sg=s.mem.Sg->ZcJ E true {s with mem:=m'} o=some (chk,v))):=by
 unfold ZoR at hl;split at hl
 ·rename_i t p ho;split at hl
  ·rename_i b0 o0 hp;split at hl
   ·rename_i n hw;split at hl
    ·rename_i hlt;simp only[oinj,pinj] at hl;obtain⟨rfl,rfl⟩:=hl;obtain⟨bx1,bx2⟩:=ZTY (m:=rngM o0 n) (ZMT hlt);have hp':∀m:Mem,opd1 {s with mem:=m} p=some (.loc b0 o0):=λm=>by
      have:opd1 {s with mem:=m} p=opd1 s p:=by unfold opd1;cases p<;>rfl
      rw[this];exact hp
     unfold ZcJ Z6 at h|-;rw[ho] at h|-;simp only[Zlo,Zfy,ZiN,Ym,YY,Yw,evOp,hp,Zxm,Zf4,Yk] at h;cases hn:nth s.mem.Bx b0 with
     |none=>rw[hn] at h;simp at h
     |some l=>
      refine .inl ⟨⟨l,by rw[bx1];exact hn⟩,⟨p,o0,by rw[bx1];exact hp⟩,λhm _=> ?_⟩;obtain⟨l',hn',hl'⟩:=hm.2 (by rw[bx2];simp) l (by rw[bx1];exact hn);rw[bx1] at hn';have hpt:ZpR E.P t (Zdk o0 l') 0=ZpR E.P t (Zdk o0 l) 0:=ZK4 hw λj h1 h2=>hl' j (by rw[bx2];exact ZPI.2 ⟨h1,h2⟩)
      rw[hn] at h;simp only[Zlo,Zfy,ZiN,Ym,YY,Yw,evOp,hp',Zxm,Zf4,hn',Yk];simp only[Option.map_some,hpt] at h|-;split at h
      ·rename_i r hr;split at hr
       ·rename_i w hw;simp only[valR,RT.Lf.injEq,oinj] at hr;subst hr;simp only[oinj,pinj] at h;obtain⟨rfl,rfl⟩:=h;rfl
       ·simp at hr
      ·simp at h
    ·simp at hl
   ·simp at hl
  ·rename_i h0 v0 i0 o0 hp;simp only[oinj,pinj] at hl;obtain⟨_,rfl⟩:=hl;refine .inr ⟨rfl,λhst=> ?_⟩;have hp':∀m:Mem,opd1 {s with mem:=m} p=some (.sp h0 v0 i0 o0):=λm=>by
    have:opd1 {s with mem:=m} p=opd1 s p:=by unfold opd1;cases p<;>rfl
    rw[this];exact hp
   have hs:ZaY m' h0 v0=ZaY s.mem h0 v0:=by unfold ZaY;rw[hst]
   unfold ZcJ Z6 at h|-;rw[ho] at h|-;simp only[Zlo,Zfy,ZiN,Ym,YY,Yw,evOp,hp,hp',Zxm,Zf4,hs,Yk] at h|-;split at h
   ·rename_i r hr;split at hr
    ·rename_i w hw;simp only[valR,RT.Lf.injEq,oinj] at hr;subst hr;rw[<-h];rfl
    ·simp at hr
   ·simp at h
  ·simp at hl
 ·rename_i t x i ho;split at hl
  ·rename_i h0 v0 e0 hx hu;simp only[oinj,pinj] at hl;obtain⟨_,rfl⟩:=hl;refine .inr ⟨rfl,λhst=> ?_⟩;have ho1:∀(y:Operand),opd1 {s with mem:=m'} y=opd1 s y:=λy=>by unfold opd1;cases y<;>rfl
   have hs:ZaY m' h0 v0=ZaY s.mem h0 v0:=by unfold ZaY;rw[hst]
   unfold ZcJ Z6 at h|-;rw[ho] at h|-;simp only[Zlo,Zfy,ZiN,Ym,YY,Yw,ho1,hx,Yk] at h|-;cases hi:opd1 s i with
   |none=>rw[hi] at h;simp at h
   |some a=>
    rw[hi] at h;simp only at h|-;exact (ZHG hu hs).trans h
  ·simp at hl
 ·rename_i c ho;split at hl
  ·rename_i f hcf;split at hl
   ·rename_i g hg;have hos:∀(l:List Operand),opds {s with mem:=m'} l=opds s l:=λl=>by
     induction l with
     |nil=>rfl
     |cons x l ih=>
      simp only[opds,ih];have:opd {s with mem:=m'} x=opd s x:=by cases x<;>rfl
      rw[this]
    cases hvs:opds s c.args.toList with
    |none=>rw[hvs] at hl;simp[ZoS] at hl
    |some vs=>
     rw[hvs] at hl;unfold ZoS at hl;split at hl
     ·rename_i b0 o0 l e;simp only[oinj] at e;split at hl
      ·rename_i hall;simp only[Option.map_some,oinj,pinj] at hl;obtain⟨rfl,rfl⟩:=hl;subst e;simp only[Yb,YU,Yaf] at hall;have hcal:∀m:Mem,ZaX E {s with mem:=m} c=some (.read g,[]):=λm=>by unfold ZaX;rw[hcf];simp only[opd1,opd,Option.bind_some,V.one,hg,Ya5,En.plain]
       obtain⟨p,ps,hps⟩:∃p ps,c.args.toList=p::ps:=by
        cases hc:c.args.toList with
        |nil=>rw[hc] at hvs;simp[opds] at hvs
        |cons p ps=>exact⟨p,ps,rfl⟩
       have hp:opd1 s p=some (.loc b0 o0):=by
        rw[hps] at hvs;simp only[opds] at hvs;split at hvs
        ·rename_i v r hv hr;simp only[oinj,YaJ] at hvs;unfold opd1;rw[hv,hvs.1];rfl
        ·simp at hvs
       have hb:∃l,nth s.mem.Bx b0=some l:=⟨_,by rw[Zi];exact Yg (by simpa [Zad] using hall.2.1)⟩;obtain⟨bx1,bx2⟩:=ZFn hall.2.2;refine .inl ⟨by rw[bx1];exact hb,⟨p,o0,by rw[bx1];exact hp⟩,λhm hst=> ?_⟩;have hm:=hm.1 bx2;rw[bx1] at hm;have hloc:ZPj g:=by have:=hE f _ hg;exact this.2.1
       have hs0:ZaX E s c=some (.read g,[]):=hcal s.mem;unfold ZcJ at h|-;rw[ho] at h|-;have hc1:Zlo E (.call c)=false:=by simp[Zlo,hcf,hg]
       have hc2:ZiN E (.call c)=true:=by simp[ZiN,hcf,hg]
       have hc3:∀m:Mem,(opds {s with mem:=m} c.args.toList=opds s c.args.toList)->Zfy E {s with mem:=m} (.call c)=true:=λm hm=>by simp only[Zfy,hcf,hcal m,hm,hvs]
       have hc4:Zfy E s (.call c)=true:=hc3 s.mem rfl;simp only[hc1,hc2,hc4,hc3 m' (hos _),Ym,YQ,Yw] at h|-;unfold Z6 at h|-;rw[ho] at h|-;simp only[hcf,hs0,hcal m',hvs,hos] at h|-;cases hgm:g (V.w (.one (.loc b0 o0))::l++[]) s.mem with
       |none=>rw[hgm] at h;simp at h
       |some q=>
        have:=hloc _ _ m' _ hgm (hst rfl) (λb o hbo=>by
         simp only[YG,Ys] at hbo;rcases hbo with e|e
         ·simp only[V.w.injEq,W.one.injEq,A.loc.injEq] at e;rw[e.1];exact hm
         ·have:=hall.1 _ e
          simp[ZYI] at this)
        rw[this];rw[hgm] at h;exact h
      ·simp at hl
     ·simp at hl
   ·rename_i g hg;simp only[oinj,pinj] at hl;obtain⟨_,rfl⟩:=hl;refine .inr ⟨rfl,λhst=> ?_⟩;have hos:∀(l:List Operand),opds {s with mem:=m'} l=opds s l:=λl=>by
     induction l with
     |nil=>rfl
     |cons x l ih=>
      simp only[opds,ih];have:opd {s with mem:=m'} x=opd s x:=by cases x<;>rfl
      rw[this]
    have hcal:∀m:Mem,ZaX E {s with mem:=m} c=some (.pure g,[]):=λm=>by unfold ZaX;rw[hcf];simp only[opd1,opd,Option.bind_some,V.one,hg,Ya5,En.plain]
    have hs0:ZaX E s c=some (.pure g,[]):=hcal s.mem;have hc1:Zlo E (.call c)=false:=by simp[Zlo,hcf,hg]
    have hc2:ZiN E (.call c)=false:=by simp[ZiN,hcf,hg]
    have hff:Zco m'=Zco s.mem:=funext (ZxE hst);unfold ZcJ at h|-;rw[ho] at h|-;cases hvs:opds s c.args.toList with
    |none=>
     have:Zfy E s (.call c)=false:=by simp only[Zfy,hcf,hs0,hvs]
     rw[hc1,hc2,this] at h;simp at h
    |some vs=>
     have e1:Zfy E {s with mem:=m'} (.call c)=Zfy E s (.call c):=by simp only[Zfy,hcf,hcal,hs0,hos,hvs,hff]
     rw[hc1,hc2,e1];rw[hc1,hc2] at h;cases hfz:Zfy E s (.call c) with
     |false=>rw[hfz] at h;simp at h
     |true=>
      rw[hfz] at h;simp only[Ym,Y1,Yk,Yw] at h|-;unfold Z6 at h|-;rw[ho] at h|-;simp only[hcf,hs0,hcal,hvs,hos,YG] at h|-;cases hz:Zac s vs with
      |none=>rw[hz] at h;simp at h
      |some q=>
       obtain⟨r,t⟩:=q;obtain⟨t',e2,_⟩:=Zjz (s':={s with mem:=m'}) hst hz;rw[hz] at h;rw[e2];simp only at h|-;cases hg2:g r with
       |none=>rw[hg2] at h;simp at h
       |some q=>rw[hg2] at h;exact h
   ·simp at hl
  ·simp at hl
 ·simp at hl
theorem RA.same {x:Ctx} {a:A} {v:Value} (h:RA x a v):∀{y:Ctx},y.M=x.M->y.S=x.S->y.fz=x.fz->RA y a v:=by
 induction h with
 |bool x l b=>intro y _ _ _;exact .bool _ _ _
 |int x l k n h=>intro y _ _ _;exact .int _ _ _ _ h
 |str x s=>intro y _ _ _;exact .str _ _
 |loc x b o p h=>intro y e _ _;exact .loc _ _ _ _ (by rw[e];exact h)
 |nilp x=>intro y _ _ _;exact .nilp _
 |nilsl x=>intro y _ _ _;exact .nilsl _
 |lst0 x r lit full nn l a cap h hf hn hz=>intro y _ _ _;exact .lst0 _ _ _ _ _ _ _ _ h hf hn hz
 |lst x r lit full nn l p o cap c h hf hcap hml hz hr ih=>
  intro y e1 e2 e3;exact .lst _ _ _ _ _ _ _ _ _ c h hf hcap hml (λi j a h1 h2=>by rw[e3];exact hz i j a h1 h2) (λi j a h1 h2=>ih i j a h1 h2 rfl rfl e3)
 |tip x h ver s v hs hv hval hat=>intro y _ e _;exact .tip _ _ _ s _ (by rw[e];exact hs) hv hval hat
 |fp x l p o c hf hr ih=>intro y e1 e2 e3;exact .fp _ _ _ _ c (λj a h=>by rw[e3];exact hf j a h) (λj a h=>ih j a h rfl rfl e3)
 |sp x h ver i o s v hs hv hval hat=>intro y _ e _;exact .sp _ _ _ _ _ s _ (by rw[e];exact hs) hv hval hat
 |clo x f caps cs c hl hc hr ih=>intro y e1 e2 e3;exact .clo _ _ _ _ c hl hc (λj a h=>ih j a h e1 e2 e3)
 |raw x v h=>intro y _ _ _;exact .raw _ _ h
 |junk x v h=>intro y _ _ _;exact .junk _ _ h
theorem RL.same {x y:Ctx} (e1:y.M=x.M) (e2:y.S=x.S) (e3:y.fz=x.fz):∀{l:List A} {vs:List Value},RL x l vs->RL y l vs
 |[],[],_=>trivial
 |_::_,_::_,h=>⟨h.1.same e1 e2 e3,RL.same e1 e2 e3 h.2⟩
 |[],_::_,h=>h.elim
 |_::_,[],h=>h.elim
theorem RW.same {x y:Ctx} (e1:y.M=x.M) (e2:y.S=x.S) (e3:y.fz=x.fz) {a:W} {v:Value} (h:RW x a v):RW y a v:=by
 cases a with
 |one a=>exact RA.same h e1 e2 e3
 |agg l=>obtain⟨C,hv,hl⟩:=h;exact⟨C,hv,hl.same e1 e2 e3⟩
 |junk=>trivial
theorem RWs.same {x y:Ctx} (e1:y.M=x.M) (e2:y.S=x.S) (e3:y.fz=x.fz):∀{l:List W} {vs:List Value},RWs x l vs->RWs y l vs
 |[],[],_=>trivial
 |_::_,_::_,h=>⟨RW.same e1 e2 e3 h.1,RWs.same e1 e2 e3 h.2⟩
 |[],_::_,h=>h.elim
 |_::_,[],h=>h.elim
theorem RV.same {x y:Ctx} (e1:y.M=x.M) (e2:y.S=x.S) (e3:y.fz=x.fz) {a:V} {v:Value} (h:RV x a v):RV y a v:=by
 cases a with
 |w a=>exact RW.same e1 e2 e3 h
 |tup l=>obtain⟨C,hv,hl⟩:=h;exact⟨C,hv,hl.same e1 e2 e3⟩
def Ctx.bar (x:Ctx) (q:Nat->Prop):Ctx:={x with own:=λk=>x.own k/\¬q k}
def Ctx.back (x y:Ctx):Ctx:={y with own:=x.own}
structure PendD (x:Ctx) (w:World) (l:List A) (p:Nat):Prop where
 cell:∃C T,w.heap[p]? =some (.cells (List.toArray C) T (0,0))/\∀y,RL y l C
 own:x.own p
 fz:∀o,x.fz p o=none
 M:∀b,nth x.M b≠some p
 S:∀h s cap,nth x.S h=some s->s.blk≠some (p,cap)
variable {p:Nat}
theorem PendD.lt {x:Ctx} {w:World} (h:PendD x w l p):p<w.heap.size:=by obtain⟨C,T,h1,_⟩:=h.cell;exact (Yv.1 h1).1
theorem MK.bar {x:Ctx} {m:Mem} {w:World} (h:MK x m w) {q:Nat->Prop} (hq:∀p,q p->∃l,PendD x w l p):MK (x.bar q) m w where
 fresh:=λk hk=>⟨h.fresh k hk,λhp=>by obtain⟨l,hl⟩:=hq k hp;have:=hl.lt;omega⟩
 fz:=h.fz
 ml:=h.ml
 box:=λb l p hl hp=>by obtain⟨C,T,h1,h2⟩:=h.box b l p hl hp;exact⟨C,T,h1,RL.same (x:=x) (y:=x.bar q) rfl rfl rfl h2⟩
 mown:=λb p hp=>⟨⟨(h.mown b p hp).1,λhq'=>by obtain⟨l,hl⟩:=hq p hq';exact hl.M b hp⟩,(h.mown b p hp).2⟩
 inj:=h.inj
 sl:=h.sl
 stg:=λi g s h1 h2=>(h.stg i g s h1 h2).ctx (λ_ _ _ h=>h) (λ_ _ _ _=>rfl)
 sown:=λi s p cap h1 h2=>⟨⟨(h.sown i s p cap h1 h2).1,λhq'=>by obtain⟨l,hl⟩:=hq p hq';exact hl.S i s cap h1 h2⟩,(h.sown i s p cap h1 h2).2⟩
 sinj:=h.sinj
theorem MK.back {x y:Ctx} {m:Mem} {w:World} {q:Nat->Prop} (h:MK y m w) (hy:y.own=(x.bar q).own):MK (x.back y) m w where
 fresh:=λk hk=>by have:=h.fresh k hk;rw[hy] at this;exact this.1
 fz:=h.fz
 ml:=h.ml
 box:=λb l p hl hp=>by obtain⟨C,T,h1,h2⟩:=h.box b l p hl hp;exact⟨C,T,h1,RL.same (x:=y) (y:=x.back y) rfl rfl rfl h2⟩
 mown:=λb p hp=>⟨by have:=(h.mown b p hp).1;rw[hy] at this;exact this.1,(h.mown b p hp).2⟩
 inj:=h.inj
 sl:=h.sl
 stg:=λi g s h1 h2=>(h.stg i g s h1 h2).ctx (λ_ _ _ h=>h) (λ_ _ _ _=>rfl)
 sown:=λi s p cap h1 h2=>⟨by have:=(h.sown i s p cap h1 h2).1;rw[hy] at this;exact this.1,(h.sown i s p cap h1 h2).2⟩
 sinj:=h.sinj
variable {y:Ctx}
theorem Ext.back {x:Ctx} {q:Nat->Prop} (h:Ext (x.bar q) y):Ext x (x.back y):=
 ⟨rfl,h.M,h.S,h.fz,λb o v e=>(h.new b o v e).imp id λo=>o.1⟩
theorem Step.back {x:Ctx} {q:Nat->Prop} {w:World} (h:Step (x.bar q) w w'):Step x w w':=
 ⟨h.os,h.tape,h.output,h.size,λk hk=>h.block k λo=>hk o.1⟩
theorem PendD.back {x:Ctx} {q:Nat->Prop} {w:World} (h:PendD x w l p) (hp:q p) (he:Ext (x.bar q) y) (hm:MK y m w') (hs:Step (x.bar q) w w'):PendD (x.back y) w' l p:=by
 have hno:¬y.own p:=by rw[he.own];exact λo=>o.2 hp
 refine⟨?_,h.own,λo=> ?_,λb e=>hno (hm.mown b p e).1,λi s cap e1 e2=>hno (hm.sown i s p cap e1 e2).1⟩
 ·obtain⟨C,T,h1,h2⟩:=h.cell;exact⟨C,T,by rw[hs.block p (λo=>o.2 hp)];exact h1,h2⟩
 ·cases hv:y.fz p o with
  |none=>exact hv
  |some v=>
   rcases he.new p o v hv with e|e
   ·have:=h.fz o;rw[show x.fz p o=some v from e] at this;simp at this
   ·exact absurd hp e.2
theorem PendD.absorb {x:Ctx} {w:World} (h:PendD x w l p) (hm:MK x m w):
  MK {x with M:=x.M++[p]} {m with Bx:=m.Bx++[l]} w/\RA {x with M:=x.M++[p]} (.loc (len m.Bx) 0) (.pointer (some ⟨p,0,none⟩)):=by
 have hx:Ext x {x with M:=x.M++[p]}:=ZuD x _;have hml:=hm.ml;have hnew:∀b p',nth (x.M++[p]) b=some p'->nth x.M b=some p'\/(b=x.M.length/\p'=p):=λb p' e=>Zs e
 refine⟨⟨hm.fresh,hm.fz,by simp[hml],?_,?_,?_,hm.sl,?_,?_,hm.sinj⟩,?_⟩
 ·intro b l' p' hl' hp;rcases Zs hl' with e|⟨e1,e2⟩
  ·rcases hnew b p' hp with e'|⟨e',_⟩
   ·obtain⟨C',T',h1,h2⟩:=hm.box b l' p' e e';exact⟨C',T',h1,h2.mono hx⟩
   ·have:=ZZ e;omega
  ·rcases hnew b p' hp with e'|⟨_,e'⟩
   ·have:=ZZ e';omega
   ·subst e';subst e2;obtain⟨C,T,h1,h2⟩:=h.cell;exact⟨C,T,h1,h2 _⟩
 ·intro b p' hp;rcases hnew b p' hp with e|⟨_,e⟩
  ·exact hm.mown b p' e
  ·subst e;exact⟨h.own,h.fz⟩
 ·intro b b' p' hp hp';rcases hnew b p' hp with e|⟨e,e1⟩<;>rcases hnew b' p' hp' with e'|⟨e',e1'⟩
  ·exact hm.inj b b' p' e e'
  ·subst e1';exact absurd e (h.M b)
  ·subst e1;exact absurd e' (h.M b')
  ·omega
 ·intro i g s hg hs;exact (hm.stg i g s hg hs).ctx (λ_ _ _ h=>h) (λ_ _ _ _=>rfl)
 ·intro i s p' cap hs hbk;obtain⟨h1,h2⟩:=hm.sown i s p' cap hs hbk;refine⟨h1,λb e=> ?_⟩;rcases hnew b p' e with e'|⟨_,e'⟩
  ·exact h2 b e'
  ·subst e';exact h.S i s cap hs hbk
 ·refine .loc _ _ _ _ ?_;rw[Zi,Zad,<-hml];simp
section
variable {E:Env} {chg:Bool} {A:Array Oper} {S:Nat->St} {T:Nat->Ty}
def ZM (listed:Array Bool) (i:Nat):Prop:=listed.getD i false=true
structure MidD (A:Array Oper) (S:Nat->St) (T:Nat->Ty) (x0:Ctx) (w0:World) (x:Ctx) (listed:Array Bool) (a:Act) (w:World) (x':Ctx) (kc:Nat) (P:Nat->Nat):Prop where
 hk:kc<=A.size
 nf:∀c,c<A.size->(T c).isHard->(c<kc↔ZM listed c)
 fr:∀c,c<A.size->(T c).isFresh->c<kc->ZM listed c
 m:MK x' (S kc).mem w
 e:Ext x0 x'
 xx:ExtM x x'
 t:Step x0 w0 w
 pd:∀c l tb oc d,A[c]? =some oc->oc.dst=some d->T c=.fresh l tb->ZM listed c->kc<=c->PendD x' w l (P c)/\a.tmps.getD d undef=.pointer (some ⟨P c,0,none⟩)
 inj:∀c c',c<A.size->c'<A.size->(T c).isFresh->(T c').isFresh->ZM listed c->ZM listed c'->kc<=c->kc<=c'->P c=P c'->c=c'
 slot:∀t k v,k<=A.size->(∀i oi,A[i]? =some oi->oi.dst=some t->(i<k↔ZM listed i))->(∀i oi,A[i]? =some oi->oi.dst=some t->(T i).isFresh->i<k->i<kc)->nth (S k).Sl t=some v->RV x' v (a.tmps.getD t undef)
structure Inv (A:Array Oper) (S:Nat->St) (T:Nat->Ty) (x0:Ctx) (w0:World) (x:Ctx) (listed:Array Bool) (a:Act) (w:World):Prop where
 size:listed.size=A.size
 closed:∀j oj,A[j]? =some oj->ZM listed j->∀e∈oj.after,Region.binds .any e=true->ZM listed e.on
 fr:a.tmps.size=(S 0).Sl.length
 d:a.defers=[]
 r:∃x' kc P,MidD A S T x0 w0 x listed a w x' kc P/\(kc=A.size\/(T kc).isChain/\¬ZM listed kc)
theorem ZFG {s:St} {ty:Ty} (h:Zg7 E chg A.toList s ty o s'):s'.Sl.length=s.Sl.length:=by
 obtain⟨s1,w,hg,h⟩:=h;have:=(Zd9 hg).1;cases ty with
 |skip=>obtain⟨_,rfl⟩:=h;rw[Zb9,this]
 |free v=>obtain⟨_,_,_,_,rfl⟩:=h;rw[Zb9,this]
 |read v rb=>obtain⟨_,_,_,_,_,_,rfl⟩:=h;rw[Zb9,this]
 |chain r tb=>obtain⟨_,_,_,_,_,rfl⟩:=h;rw[putRes,Zb9];exact this
 |fresh l tb=>obtain⟨_,_,_,_,_,rfl⟩:=h;rw[putRes,Zb9];exact this
theorem Zhh {s:St} {ty:Ty} (h:Zg7 E chg A.toList s ty o s') (hc:¬ty.isChain):s'.mem=s.mem:=by
 obtain⟨s1,w,hg,h⟩:=h;have:=(Zd9 hg).2;cases ty with
 |skip=>obtain⟨_,rfl⟩:=h;rw[ZfQ,this]
 |free v=>obtain⟨_,_,_,_,rfl⟩:=h;rw[ZfQ,this]
 |read v rb=>obtain⟨_,_,_,_,_,_,rfl⟩:=h;rw[ZfQ,this]
 |chain r tb=>exact absurd trivial hc
 |fresh l tb=>exact absurd trivial hc
theorem Zgu {s:St} {ty:Ty} (h:Zg7 E chg A.toList s ty o s') (hc:ty.isChain):∃s1 r,(mask s1 o).mem=s.mem/\ty.touch=Zeg E (mask s1 o) o r/\(Z6 E (mask s1 o) o).val=some r/\s'.mem=r.m/\chg=true:=by
 obtain⟨s1,w,hg,h⟩:=h;have hm:=(Zd9 hg).2;cases ty with
 |skip=>exact hc.elim
 |free v=>exact hc.elim
 |read v rb=>exact hc.elim
 |chain r tb=>obtain⟨_,h1,h2,h3,_,rfl⟩:=h;exact⟨s1,r,hm,h2,h3,by rw[putRes,ZfQ],h1⟩
 |fresh l tb=>obtain⟨_,h1,h2,h3,_,rfl⟩:=h;exact⟨s1,_,hm,h2,h3,by rw[putRes,ZfQ],h1⟩
theorem Zel {s:St} {d:Option Nat} {t:Nat} (h:d≠some t):nth (put s d v).Sl t=nth s.Sl t:=by
 cases d with
 |none=>rfl
 |some d=>exact ZB (λe=>h (by rw[e]))
theorem ZyA {s:St} {ty:Ty} (h:Zg7 E chg A.toList s ty o s') {t:Nat} (ht:o.dst≠some t) {x:Ctx} (hu:∀v,nth s.Sl t=some v->RV x v u):∀v,nth s'.Sl t=some v->RV x v u:=by
 obtain⟨s1,w,hg,h⟩:=h;have h1:=Zo9 hg hu;cases ty with
 |skip=>obtain⟨_,rfl⟩:=h;intro v hv;rw[Zel ht] at hv;exact h1 v hv
 |free v=>obtain⟨_,_,_,_,rfl⟩:=h;intro v hv;rw[Zel ht] at hv;exact h1 v hv
 |read v rb=>obtain⟨_,_,_,_,_,_,rfl⟩:=h;intro v hv;rw[Zel ht] at hv;exact h1 v hv
 |chain r tb=>obtain⟨_,_,_,_,_,rfl⟩:=h;intro v hv;rw[putRes,Zel ht] at hv;exact h1 v hv
 |fresh l tb=>obtain⟨_,_,_,_,_,rfl⟩:=h;intro v hv;rw[putRes,Zel ht] at hv;exact h1 v hv
variable (hst:∀k o,A[k]? =some o->Zg7 E chg A.toList (S k) (T k) o (S (k+1)))
include hst
theorem lens:∀k,k<=A.size->(S k).Sl.length=(S 0).Sl.length
 |0,_=>rfl
 |k+1,h=>by obtain⟨o,ho⟩:∃o,A[k]? =some o:=⟨_,YP (by omega)⟩;rw[ZFG (hst k o ho),lens k (by omega)]
theorem ZEG {k':Nat} (hk:k<=k') (hk':k'<=A.size) (h:∀c,k<=c->c<k'->¬(T c).isChain):(S k').mem=(S k).mem:=by
 induction k' with
 |zero=>
  have:k=0:=by omega
  subst this;rfl
 |succ n ih=>
  by_cases e:k=n+1
  ·subst e;rfl
  ·obtain⟨o,ho⟩:∃o,A[n]? =some o:=⟨_,YP (by omega)⟩;rw[Zhh (hst n o ho) (h n (by omega) (by omega)),ih (by omega) (by omega) (λc h1 h2=>h c h1 (by omega))]
theorem ZTZ (hE:Zbx E) {k':Nat} (hk:k<=k') (hk':k'<=A.size) (hb:bxP b<(S k).mem.Bx.length) (h:∀c,k<=c->c<k'->(T c).isChain->ZaK (T c).touch (some (b,ns))=true):
  bxP b<(S k').mem.Bx.length/\ZiG b (S k).mem (S k').mem/\(ns=true->(S k').mem.Sg=(S k).mem.Sg):=by
 induction k' with
 |zero=>
  have:k=0:=by omega
  subst this;exact⟨hb,.refl _ _,λ_=>rfl⟩
 |succ n ih=>
  by_cases e:k=n+1
  ·subst e;exact⟨hb,.refl _ _,λ_=>rfl⟩
  ·obtain⟨o,ho⟩:∃o,A[n]? =some o:=⟨_,YP (by omega)⟩;obtain⟨h1,h2,h3⟩:=ih (by omega) (by omega) (λc h1 h2=>h c h1 (by omega));rcases Ya6 (T n).isChain with hc|hc
   ·have ha:=h n (by omega) (by omega) hc;obtain⟨s1,r,hm1,htb,hres,hSm,_⟩:=Zgu (hst n o ho) hc;cases hT:(T n).touch with
    |none=>rw[hT] at ha;simp[ZaK] at ha
    |some b'=>
     obtain⟨b',st⟩:=b';rw[hT] at ha htb;obtain⟨q1,q3,q2⟩:=Zp8 hE hres htb.symm;have hm1':(mask s1 o).mem=(S n).mem:=hm1;rw[hm1'] at q1 q3;simp only[ZaK,Yb,YJ,Yan] at ha;rw[hSm];exact⟨by omega,h2.trans (by have:=q2 b ha.1 (by rw[hm1'];exact h1);rw[hm1'] at this;exact this),λhn=>by rw[q3 (ha.2.resolve_right (by rw[hn];simp)),h3 hn]⟩
   ·rw[Zhh (hst n o ho) hc];exact⟨h1,h2,h3⟩
theorem ZSU (hE:Zbx E) {k':Nat} (hk:k<=k') (hk':k'<=A.size) (h:∀c,k<=c->c<k'->(T c).isChain->ZaK (T c).touch (some (b,true))=true):
  (S k').mem.Sg=(S k).mem.Sg:=by
 induction k' with
 |zero=>
  have:k=0:=by omega
  subst this;rfl
 |succ n ih=>
  by_cases e:k=n+1
  ·subst e;rfl
  ·obtain⟨o,ho⟩:∃o,A[n]? =some o:=⟨_,YP (by omega)⟩;have h3:=ih (by omega) (by omega) (λc h1 h2=>h c h1 (by omega));rcases Ya6 (T n).isChain with hc|hc
   ·have ha:=h n (by omega) (by omega) hc;obtain⟨s1,r,hm1,htb,hres,hSm,_⟩:=Zgu (hst n o ho) hc;cases hT:(T n).touch with
    |none=>rw[hT] at ha;simp[ZaK] at ha
    |some b'=>
     obtain⟨b',st⟩:=b';rw[hT] at ha htb;obtain⟨q1,q3,q2⟩:=Zp8 hE hres htb.symm;rw[hm1] at q1 q3;simp only[ZaK,Yb,YJ,Yan] at ha;rw[hSm,q3 (ha.2.resolve_right (by simp)),h3]
   ·rw[Zhh (hst n o ho) hc];exact h3
theorem Zly {t k':Nat} (hk:k<=k') (hk':k'<=A.size) (h:∀i oi,A[i]? =some oi->oi.dst=some t->¬(k<=i/\i<k')) {x:Ctx} (hu:∀v,nth (S k).Sl t=some v->RV x v u):
  ∀v,nth (S k').Sl t=some v->RV x v u:=by
 induction k' with
 |zero=>
  have:k=0:=by omega
  subst this;exact hu
 |succ n ih=>
  by_cases e:k=n+1
  ·subst e;exact hu
  ·obtain⟨o,ho⟩:∃o,A[n]? =some o:=⟨_,YP (by omega)⟩;exact ZyA (hst n o ho) (λht=>h n o ho ht ⟨by omega,by omega⟩) (ih (by omega) (by omega) (λi oi h1 h2 h3=>h i oi h1 h2 ⟨h3.1,by omega⟩))
variable (hE:Zbx E) (hlex:lexL A.toList=true) (hch:∀k k',k<A.size->k'<k->(T k').bound (T k)->Waits A.toList k' k)
variable (hfr:∀f of d,f<A.size->(T f).isFresh->A[f]? =some of->of.dst=some d->∀l ol,f<l->A[l]? =some ol->ol.dst≠some d/\(tbit (Zkx A.toList ol) d=true->∀c,c<f->(T c).isChain->Waits A.toList c l))
variable (hrd:∀j,j<A.size->(T j).isRead->(∀c,c<j->¬(T c).isFresh)\/(∀c,c<j->(T c).isChain->ZaK (T c).touch (T j).loc=true)\/∀c,c<j->(T c).isChain->Waits A.toList c j)
include hlex hch
omit hst hch in
theorem ZOs {i:Nat} {oi oj:Oper} (hi:A[i]? =some oi) (hj:A[j]? =some oj) (hlt:i<j) (h:oi.apart A oj=false):∃e∈oj.after,Region.binds .any e=true/\e.on=i:=by
 rcases Ya6 (∃e∈oj.after,Region.binds .any e=true/\e.on=i) with h1|h1
 ·exact h1
 ·have:=(ZoX hlex i oi hi).2 j oj hlt hj (λe he hb hon=>h1 ⟨e,he,hb,hon⟩);rw[h] at this;simp at this
omit hst hch hlex in
theorem ZBb {oi oj:Oper} {t:Nat} (h1:oi.dst=some t) (h2:t∈oj.looksAt A):oi.apart A oj=false:=by rw[YK];intro h;exact (Oper.apart_spec h).1 t h1 h2
omit hst hch hlex in
theorem ZBa {oi oj:Oper} {t:Nat} (h1:oj.dst=some t) (h2:t∈oi.looksAt A):oi.apart A oj=false:=by rw[YK];intro h;exact (Oper.apart_spec h).2.2 t h1 h2
omit hst hch hlex in
theorem Zor {oi oj:Oper} {t:Nat} (h1:oi.dst=some t) (h2:oj.dst=some t):oi.apart A oj=false:=by rw[YK];intro h;exact (Oper.apart_spec h).2.1 t h1 h2
omit hst hch hlex in
theorem ZkV {listed:Array Bool} (hcl:∀j oj,A[j]? =some oj->ZM listed j->∀e∈oj.after,Region.binds .any e=true->ZM listed e.on) {i:Nat} (h:Waits A.toList i j)
  (hj:∀oj,A[j]? =some oj->∀e∈oj.after,Region.binds .any e=true->ZM listed e.on):ZM listed i:=by
 induction h with
 |one j o e h1 he hb hi=>exact hi▸hj o (by rw[Zi] at h1;simpa using h1) e he hb
 |more j o e h1 he hb hi ih=>
  refine ih λoj hoj e' he' hb'=> ?_
  exact hcl e.on oj hoj (hj o (by rw[Zi] at h1;simpa using h1) e he hb) e' he' hb'
include hst hfr
omit hlex hch in
theorem ZBc {x0 x:Ctx} {w0:World} {listed:Array Bool} {a:Act} {w:World} {P:Nat->Nat} (hcl:∀j oj,A[j]? =some oj->ZM listed j->∀e∈oj.after,Region.binds .any e=true->ZM listed e.on):
  ∀(n kc:Nat) (x':Ctx),A.size-kc<=n->MidD A S T x0 w0 x listed a w x' kc P->∃x'' kc',MidD A S T x0 w0 x listed a w x'' kc' P/\(kc'=A.size\/(T kc').isChain/\¬ZM listed kc'):=by
 intro n
 induction n with
 |zero=>intro kc x' hn h;exact⟨x',kc,h,.inl (by have:=h.hk;omega)⟩
 |succ n ih=>
  intro kc x' hn h;by_cases hsz:kc=A.size
  ·exact⟨x',kc,h,.inl hsz⟩
  have hlt:kc<A.size:=by have:=h.hk;omega
  obtain⟨o,ho⟩:∃o,A[kc]? =some o:=⟨_,YP hlt⟩;rcases Ya6 (T kc).isChain with hc|hc
  ·rcases Ya6 (ZM listed kc) with hl|hl
   ·rcases Ty.hard_or hc with hh|hf
    ·have:=(h.nf kc hlt hh).2 hl;omega
    ·--the variable's turn
     have hso:=hst kc o ho;cases hT:T kc with
     |skip=>rw[hT] at hf;exact hf.elim
     |free _=>rw[hT] at hf;exact hf.elim
     |read _ _=>rw[hT] at hf;exact hf.elim
     |chain _ _=>rw[hT] at hf;exact hf.elim
     |fresh l tb=>
      rw[hT] at hso;obtain⟨s1,w1,hg,rfl,hcg,_,_,⟨ty,d,hop,hz,hd,_⟩,hS⟩:=hso;obtain⟨hp,htmp⟩:=h.pd kc l tb o d ho hd hT hl (Ye _);obtain⟨hm1,hra⟩:=hp.absorb h.m;have hx:Ext x' {x' with M:=x'.M++[P kc]}:=ZuD x' _;have hs1:s1.mem=(S kc).mem:=(Zd9 hg).2;have hSm:(S (kc+1)).mem={(S kc).mem with Bx:=(S kc).mem.Bx++[l]}:=by rw[hS,putRes,ZfQ];simp only[Zep,mask,hs1]
      refine ih (kc+1) {x' with M:=x'.M++[P kc]} (by omega) ⟨by omega,λc hc' hh=> ?_,λc hc' hf' hlt'=> ?_,by rw[hSm];exact hm1,h.e.trans hx,h.xx.trans hx.extM,h.t,λc l' tb' oc d' hoc hd' hTc hl' hk'=> ?_,λc c' h1 h2 h3 h4 h5 h6 h7 h8 h9=>h.inj c c' h1 h2 h3 h4 h5 h6 (by omega) (by omega) h9,λt k v hk hw hfk hv=> ?_⟩
      ·have hne:c≠kc:=λe=>by rw[e,hT] at hh;exact hh
       rw[<-h.nf c hc' hh];omega
      ·by_cases e:c=kc
       ·rw[e];exact hl
       ·exact h.fr c hc' hf' (by omega)
      ·obtain⟨q1,q2⟩:=h.pd c l' tb' oc d' hoc hd' hTc hl' (by omega);refine⟨⟨q1.cell,q1.own,q1.fz,λb e=> ?_,q1.S⟩,q2⟩;rcases Zs e with e|⟨_,e⟩
       ·exact q1.M b e
       ·have:=h.inj c kc (Yv.1 hoc).1 hlt (by rw[hTc];trivial) (by rw[hT];trivial) hl' hl (by omega) (Ye _) e;omega
      ·by_cases ht:t=d
       ·subst ht;have hkk:kc<k:=(hw kc o ho hd).2 hl;refine Zly hst (k:=kc+1) (k':=k) (by omega) hk (λi oi hi hdi hb=> ?_) (λv hv=> ?_) v hv
        ·exact (hfr kc o t hlt (by rw[hT];trivial) ho hd i oi (by omega) hi).1 hdi
        ·rw[hS] at hv;simp only[putRes,hd,put] at hv;rcases Zen hv with ⟨_,e,_⟩|⟨e,_⟩
         ·rw[e,htmp];show RA _ _ _;simp only[Zep,mask,hs1];exact hra
         ·exact absurd rfl e
       ·refine (h.slot t k v hk hw (λi oi hi hdi hf' hik=> ?_) hv).mono hx;have:=hfk i oi hi hdi hf' hik;by_cases e:i=kc
        ·exfalso;subst e;rw[ho] at hi;simp only[oinj] at hi;subst hi;rw[hd] at hdi;simp only[oinj] at hdi;exact ht hdi.symm
        ·omega
   ·exact⟨x',kc,h,.inr ⟨hc,hl⟩⟩
  ·have hne:∀c,(T c).isChain->c≠kc:=λc h e=>hc (e▸h)
   refine ih (kc+1) x' (by omega) ⟨by omega,λc hc' hh=> ?_,λc hc' hf' hlt'=> ?_,by rw[Zhh (hst kc o ho) hc];exact h.m,h.e,h.xx,h.t,λc l' tb' oc d' hoc hd' hTc hl' hk'=>h.pd c l' tb' oc d' hoc hd' hTc hl' (by omega),λc c' h1 h2 h3 h4 h5 h6 h7 h8 h9=>h.inj c c' h1 h2 h3 h4 h5 h6 (by omega) (by omega) h9,λt k v hk hw hfk hv=> ?_⟩
   ·have:=hne c (Ty.hard hh).1;rw[<-h.nf c hc' hh];omega
   ·have:=hne c (Ty.fresh_chain hf').1;exact h.fr c hc' hf' (by omega)
   ·refine h.slot t k v hk hw (λi oi hi hdi hf' hik=> ?_) hv;have:=hfk i oi hi hdi hf' hik;have:=hne i (Ty.fresh_chain hf').1;omega
include hE hrd
theorem ZRK {x0 x:Ctx} {w0:World} {Q:Exit->Act->World->Prop} {listed:Array Bool} {a:Act} {w:World} (inv:Inv A S T x0 w0 x listed a w) (hready:j∈Region.ready .any A listed)
  {K:Act->World->Prop} (hK:∀a' w',Inv A S T x0 w0 x (listed.setIfInBounds j true) a' w'->K a' w'):wpOp E.P A Q j K a w:=by
 obtain⟨hun,oj,hj,hall⟩:=mem_ready.1 hready;have hjlt:j<A.size:=(Yv.1 hj).1;have hunl:¬ZM listed j:=by unfold ZM;rw[YL,YP (by rw[inv.size];exact hjlt)] at hun|-;simp only[Option.getD_some] at hun|-;rw[hun];simp
 obtain⟨x',kc,P,md,hmax⟩:=inv.r;have hchL:∀c,c<kc->(T c).isChain->ZM listed c:=λc h hc=>by
  have hlt:c<A.size:=by have:=md.hk;omega
  rcases Ty.hard_or hc with hh|hf
  ·exact (md.nf c hlt hh).1 h
  ·exact md.fr c hlt hf h
 have hwr:∀t,t∈oj.looksAt A\/oj.dst=some t->∀i oi,A[i]? =some oi->oi.dst=some t->i≠j->(i<j↔ZM listed i):=by
  intro t ht i oi hi hdi hne;constructor
  ·intro hlt;obtain⟨e,he,hb,hon⟩:=ZOs hlex hi hj hlt (by rcases ht with ht|ht;exact ZBb hdi ht;exact Zor hdi ht);exact hon▸hall e he hb
  ·intro hl;rcases Yae i j with h|h
   ·exact h
   ·exfalso;obtain⟨e,he,hb,hon⟩:=ZOs hlex hj hi (by omega) (by rcases ht with ht|ht;exact ZBa hdi ht;exact Zor ht hdi);exact hunl (hon▸inv.closed i oi hi hl e he hb)
 have hall':∀o,A[j]? =some o->∀e∈o.after,Region.binds .any e=true->ZM listed e.on:=λo ho e he' hb=>by
  have:o=oj:=by rw[hj] at ho;simpa using ho.symm
  subst this;exact hall e he' hb
 have hwaits:∀c,Waits A.toList c j->ZM listed c:=λc h=>ZkV inv.closed h hall'
 have hlook:∀t,t∈oj.looksAt A->∀v,nth (S j).Sl t=some v->RV x' v (a.tmps.getD t undef):=by
  intro t ht v hv;refine md.slot t j v (by omega) (λi oi hi hdi=> ?_) (λf oi hi hdi hf hfj=> ?_) hv
  ·by_cases hij:i=j
   ·subst hij;exact⟨λh=>by omega,λh=>absurd h hunl⟩
   ·exact hwr t (.inl ht) i oi hi hdi hij
  ·--a variable that j ZpV at has had its turn
   rcases Yae f kc with h|h
   ·exact h
   ·exfalso;have hflt:f<A.size:=by omega
    have hw:=(hfr f oi t hflt hf hi hdi j oj hfj hj).2 (Zup ht);rcases hmax with h1|⟨h1,h2⟩
    ·omega
    ·by_cases e:kc=f
     ·subst e;exact h2 ((hwr t (.inl ht) kc oi hi hdi (by omega)).1 hfj)
     ·exact h2 (hwaits kc (hw kc (by omega) h1))
 obtain⟨s1,wt,hg,hty⟩:=hst j oj hj;have hlooks:∀t,t∈ZpV oj->t∈oj.looksAt A:=by intro t ht;unfold Oper.looksAt;exact List.mem_append_left _ ht
 have hAj:nth A.toList j=some oj:=by rw[Zi];simpa using hj
 have hwanted:Region.wanted oj (yielded A a.tmps)=wt:=by
  have:=Zuv (a:=a) (x:=x') hg (λi want oi d hgd hi hd v hv=>by
   refine hlook d ?_ v hv;unfold Oper.looksAt;refine List.mem_append_right _ ?_;rw[Zi] at hi;simp only[hgd];have hi':A[i]? =some oi:=by simpa using hi
   simp[hi',hd])
  simpa using this
 have hlen:(S j).Sl.length=a.tmps.size:=by rw[lens hst j (by omega),inv.fr]
 have hlen1:s1.Sl.length=a.tmps.size:=by rw[(Zd9 hg).1,hlen]
 have hrf0:RF x' (mask s1 oj).Sl a.tmps:=ZWv hlen1 λt ht=>Zo9 hg (hlook t (hlooks t ht))
 let q:Nat->Prop:=λp=>∃c l tb oc d,A[c]? =some oc/\oc.dst=some d/\T c=.fresh l tb/\ZM listed c/\kc<=c/\p=P c
 have hq:∀p,q p->∃l,PendD x' w l p:=λp ⟨c,l,tb,oc,d,h1,h2,h3,h4,h5,h6⟩=>⟨l,h6▸(md.pd c l tb oc d h1 h2 h3 h4 h5).1⟩
 have hmb:MK (x'.bar q) (S kc).mem w:=md.m.bar hq;have hrf:RF (x'.bar q) (mask s1 oj).Sl a.tmps:=⟨hrf0.size,λi v hv=>RV.same (x:=x') (y:=x'.bar q) rfl rfl rfl (hrf0.slot i v hv)⟩;have hl':∀i,i<A.size->(ZM (listed.setIfInBounds j true) i↔i=j\/ZM listed i):=by
  intro i hi;unfold ZM;by_cases e:j=i
  ·subst e;simp[YL,inv.size,hi]
  ·rw[getD_set_ne false e];exact⟨λh=>.inr h,λh=>h.elim (λh=>absurd h.symm e) id⟩
 have hclosed':∀i oi,A[i]? =some oi->ZM (listed.setIfInBounds j true) i->∀e∈oi.after,Region.binds .any e=true->ZM (listed.setIfInBounds j true) e.on:=by
  intro i oi hi hl e he' hb;have hon:ZM listed e.on:=by
   rcases (hl' i (Yv.1 hi).1).1 hl with rfl|hl
   ·exact hall' oi hi e he' hb
   ·exact inv.closed i oi hi hl e he' hb
  exact getD_set_true hon
 have hputsz:∀u,(a.put oj.dst u).tmps.size=a.tmps.size:=λu=>by cases oj.dst<;>simp[Act.put]
 have hputne:∀u t,oj.dst≠some t->(a.put oj.dst u).tmps.getD t undef=a.tmps.getD t undef:=λu t ht=>by
  cases hd:oj.dst with
  |none=>rfl
  |some d=>
   have:d≠t:=λe=>ht (by rw[hd,e])
   simp[Act.put,YL,this]
 have hputeq:∀u t,oj.dst=some t->t<a.tmps.size->(a.put oj.dst u).tmps.getD t undef=u:=λu t ht htl=>by rw[ht];simp[Act.put,YL,htl]
 have hinv:∀(y:Ctx) (u:Value) (w':World) (kc':Nat) (P':Nat->Nat),MidD A S T x0 w0 x (listed.setIfInBounds j true) (a.put oj.dst u) w' y kc' P'->K (a.put oj.dst u) w':=λy u w' kc' P' h=>by obtain⟨y',kc'',h1,h2⟩:=ZBc hst hfr hclosed' _ kc' y (Ye _) h;refine hK _ _ ⟨by simp[inv.size],hclosed',by rw[hputsz];exact inv.fr,by rw[Zsm];exact inv.d,y',kc'',P',h1,h2⟩
 have hpne:∀c oc d,A[c]? =some oc->oc.dst=some d->(T c).isFresh->ZM listed c->oj.dst≠some d:=by
  intro c oc d hc hd hf hl hdj;have hclt:=(Yv.1 hc).1;rcases Yae c j with h|h
  ·exact (hfr c oc d hclt hf hc hd j oj h hj).1 hdj
  ·have hne:c≠j:=λe=>by subst e;exact hunl hl
   have:=(hwr d (.inr hdj) c oc hc hd hne).2 hl;omega
 have fin:∀(x'':Ctx) (u:Value) (w':World) (kc':Nat),¬(T j).isFresh->kc<=kc'->kc'<=A.size->
   (∀c,c<A.size->(T c).isHard->(c<kc'↔ZM (listed.setIfInBounds j true) c))->(∀c,(T c).isFresh->(c<kc'↔c<kc))->MK x'' (S kc').mem w'->Ext (x'.bar q) x''->Step (x'.bar q) w w'->
   (∀t,oj.dst=some t->∀v,nth (S (j+1)).Sl t=some v->RV x'' v u)->K (a.put oj.dst u) w':=by
  intro x'' u w' kc' hnf hkk hkc' hnf' hfr' hm' hx'' hst'' hres;have hex:Ext x' (x'.back x''):=hx''.back;refine hinv (x'.back x'') u w' kc' P ⟨hkc',hnf',λc hc hf hlt=> ?_,hm'.back hx''.own,md.e.trans hex,md.xx.trans hex.extM,md.t.trans hst''.back md.e.own,λc l tb oc d hc hd hT hl hk=> ?_,λc c' h1 h2 h3 h4 h5 h6 h7 h8 h9=> ?_,λt k v hk hwt hfk hv=> ?_⟩
  ·exact (hl' c hc).2 (.inr (md.fr c hc hf ((hfr' c hf).1 hlt)))
  ·have hcf:(T c).isFresh:=by rw[hT];trivial
   have hll:ZM listed c:=by
    rcases (hl' c (Yv.1 hc).1).1 hl with e|e
    ·exact absurd (e▸hcf) hnf
    ·exact e
   obtain⟨q1,q2⟩:=md.pd c l tb oc d hc hd hT hll (by omega);refine⟨q1.back ⟨c,l,tb,oc,d,hc,hd,hT,hll,by omega,rfl⟩ hx'' hm' hst'',?_⟩;rw[hputne u d (hpne c oc d hc hd hcf hll)];exact q2
  ·have g:∀c,c<A.size->(T c).isFresh->ZM (listed.setIfInBounds j true) c->ZM listed c:=λc hc hf hl=>by
    rcases (hl' c hc).1 hl with e|e
    ·exact absurd (e▸hf) hnf
    ·exact e
   exact md.inj c c' h1 h2 h3 h4 (g c h1 h3 h5) (g c' h2 h4 h6) (by omega) (by omega) h9
  ·by_cases ht:oj.dst=some t
   ·--j's own slot
    have hjk:j<k:=(hwt j oj hj ht).2 ((hl' j hjlt).2 (.inl rfl));have htl:t<a.tmps.size:=by have:=ZZ hv;rw[lens hst k hk,<-inv.fr] at this;exact this
    rw[hputeq u t ht htl];refine Zly hst (x:=x'.back x'') (k:=j+1) (k':=k) (by omega) hk (λi oi hi hdi hb=> ?_) (λv hv=>RV.same (x:=x'') (y:=x'.back x'') rfl rfl rfl (hres t ht v hv)) v hv;have h1:=(hwt i oi hi hdi).1 hb.2;rcases (hl' i (Yv.1 hi).1).1 h1 with rfl|h1
    ·omega
    ·have:=(hwr t (.inr ht) i oi hi hdi (by omega)).2 h1;omega
   ·rw[hputne u t ht];refine (md.slot t k v hk (λi oi hi hdi=> ?_) (λi oi hi hdi hf hik=>(hfr' i hf).1 (hfk i oi hi hdi hf hik)) hv).mono hex;have hne:i≠j:=λe=>by
     subst e;have:oi=oj:=by rw[hj] at hi;simpa using hi.symm
     subst this;exact ht hdi
    rw[hwt i oi hi hdi,hl' i (Yv.1 hi).1];exact⟨λh=>h.elim (λh=>absurd h hne) id,.inr⟩
 have hkcN:¬(T j).isChain->∀c,c<A.size->(T c).isHard->(c<kc↔ZM (listed.setIfInBounds j true) c):=by
  intro hnc c hc hcc;have hne:c≠j:=λe=>hnc (e▸(Ty.hard hcc).1)
  rw[md.nf c hc hcc,hl' c hc];exact⟨.inr,λh=>h.elim (λh=>absurd h hne) id⟩
 have hnoF:¬(T j).isChain->¬(T j).isFresh:=λh hf=>h (Ty.fresh_chain hf).1
 have hdstv:∀(s2:St) (v0:V),s2.Sl=s1.Sl->∀t,oj.dst=some t->∀v,nth (put s2 oj.dst v0).Sl t=some v->v=v0:=by
  intro s2 v0 hs2 t ht v hv;rw[ht] at hv;simp only[put] at hv;rcases Zen hv with ⟨_,e,_⟩|⟨h,_⟩
  ·exact e
  ·exact absurd rfl h
 have e1:(mask s1 oj).mem=(S j).mem:=(Zd9 hg).2;have hafter:∀c,c<A.size->(T c).isChain->j<c->Waits A.toList j c->¬ZM listed c:=λc hc hcc hlt hw hl=>by exact hunl (ZkV inv.closed hw λo ho e he' hb=>inv.closed c o ho hl e he' hb)
 unfold wpOp;simp only[hj];cases hT:T j with
 |skip=>
  rw[hT] at hty;obtain⟨rfl,hS⟩:=hty;have hnc:¬(T j).isChain:=by rw[hT];exact λh=>h
  rw[hwanted];refine fin (x'.bar q) undef w kc (hnoF hnc) (Ye _) md.hk (hkcN hnc) (λ_ _=>Iff.rfl) hmb (Ext.refl _) (Step.refl _ w) (λt ht v hv=> ?_);rw[hS] at hv;have:=hdstv s1 Zmr rfl t ht v hv;subst this;exact⟨[],rfl,Tv⟩
 |free v0=>
  rw[hT] at hty;obtain⟨rfl,chk,hfre,hc,hS⟩:=hty;have hnc:¬(T j).isChain:=by rw[hT];exact λh=>h
  rw[hwanted];refine .inl ?_;have hmc:chg=false->(mask s1 oj).mem=(S kc).mem:=by
   intro hcg;have hno:∀c,c<A.size->¬(T c).isChain:=by intro c hc hcc;obtain⟨o,ho⟩:∃o,A[c]? =some o:=⟨_,YP hc⟩;obtain⟨_,_,_,_,_,_,h⟩:=Zgu (hst c o ho) hcc;rw[hcg] at h;simp at h
   have e2:(S j).mem=(S kc).mem:=by
    rcases Nat.le_total j kc with h|h
    ·exact (ZEG hst h md.hk (λc _ hc=>hno c (by have:=md.hk;omega))).symm
    ·exact ZEG hst h (by omega) (λc _ hc=>hno c (by omega))
   rw[e1,e2]
  have hmr:MemR (x'.bar q) (ZE0 chg (mask s1 oj)).mem w:=by
   cases hcg:chg with
   |true=>exact hmb.toR.bare
   |false=>
    show MemR (x'.bar q) (mask s1 oj).mem w;rw[hmc hcg];exact hmb.toR
  have hrf':RF (x'.bar q) (ZE0 chg (mask s1 oj)).Sl a.tmps:=by cases chg<;>exact hrf
  refine Zrb hE hrf' hmr hmb (λhrd=>by cases hcg:chg<;>rw[hcg] at hrd<;>simp at hrd;exact hmc hcg) hfre hc λu w' x'' hv hm' hx'' hw'=> ?_
  refine fin x'' u w' kc (hnoF hnc) (Ye _) md.hk (hkcN hnc) (λ_ _=>Iff.rfl) hm' hx'' (hw'.step hmb) (λt ht v hv'=> ?_);rw[hS] at hv';have:=hdstv s1 v0 rfl t ht v hv';subst this;exact hv
 |read v0 rb=>
  rw[hT] at hty;obtain⟨rfl,hcg,hrb,chk,hfre,hc,hS⟩:=hty;have hnc:¬(T j).isChain:=by rw[hT];exact λh=>h
  rw[hwanted];refine .inl ?_;have hrj:(T j).isRead:=by rw[hT];trivial
  have hloc:(T j).loc=rb:=by rw[hT];rfl
  have hback:∀c,j<=c->c<kc->(T c).isChain->ZaK (T c).touch rb=true:=by
   intro c h1 h2 hcc;have hclt:c<A.size:=by have:=md.hk;omega
   have hne:c≠j:=λe=>hnc (e▸hcc)
   cases hap:ZaK (T c).touch rb with
   |true=>rfl
   |false=>exact absurd (hchL c h2 hcc) (hafter c hclt hcc (by omega) (hch c j hclt (by omega) (.inr (.inl ⟨hcc,hrj,by rw[hloc];exact hap⟩))))
  have hforth:∀c,kc<=c->c<j->(T c).isChain->ZaK (T c).touch rb=true:=by
   intro c h1 h2 hcc;have hclt:c<A.size:=by omega
   rcases hrd j hjlt hrj with h|h|h
   ·cases hap:ZaK (T c).touch rb with
    |true=>rfl
    |false=>
     have hcl:=hwaits c (hch j c hjlt h2 (.inr (.inr ⟨hrj,hcc,by rw[hloc];exact hap⟩)));rcases Ty.hard_or hcc with hh|hf
     ·have:=(md.nf c hclt hh).2 hcl;omega
     ·exact absurd hf (h c h2)
   ·rw[<-hloc];exact h c h2 hcc
   ·exfalso;rcases hmax with g|⟨g1,g2⟩
    ·omega
    ·exact g2 (hwaits kc (h kc (by omega) g1))
  have hfr':ZcJ E true {mask s1 oj with mem:=(S kc).mem} oj=some (chk,v0):=by
   cases hrb':rb with
   |none=>
    have hmem:(mask s1 oj).mem=(S kc).mem:=by
     rw[e1];rcases Nat.le_total j kc with h|h
     ·refine (ZEG hst h md.hk (λc h1 h2 hcc=> ?_)).symm;have:=hback c h1 h2 hcc;rw[hrb'] at this;cases (T c).touch<;>simp[ZaK] at this
     ·refine ZEG hst h (by omega) (λc h1 h2 hcc=> ?_);have:=hforth c h1 h2 hcc;rw[hrb'] at this;cases (T c).touch<;>simp[ZaK] at this
    rw[<-hmem];exact hfre
   |some b=>
    obtain⟨b,ns⟩:=b;rw[hrb'] at hrb hback hforth;rcases ZHz (m':=(S kc).mem) hE hfre hrb.symm with ⟨⟨l0,hl0⟩,⟨p,o',hp⟩,hfin⟩|⟨rfl,hfin⟩
    ·refine (fun (q:_/\_)=>hfin q.1 q.2) ?_;have hbj:bxP b<(S j).mem.Bx.length:=by rw[<-e1];exact ZZ hl0
     have hbk:bxP b<(S kc).mem.Bx.length:=by
      have hv:=Zak hrf hp;rw[<-hmb.ml];generalize a.eval p=u at hv;cases hv with
      |loc _ _ _ q hq=>exact ZZ hq
     rw[e1];rcases Nat.le_total j kc with h|h
     ·exact (ZTZ hst hE h md.hk hbj hback).2
     ·exact (λq=>⟨q.1.symm hbk,λhn=>(q.2 hn).symm⟩) (ZTZ hst hE h (by omega) hbk hforth).2
    ·refine hfin ?_;rw[e1];rcases Nat.le_total j kc with h|h
     ·exact ZSU hst hE h md.hk hback
     ·exact (ZSU hst hE h (by omega) hforth).symm
  refine Zrb hE (s:={mask s1 oj with mem:=(S kc).mem}) hrf hmb.toR hmb (λ_=>rfl) hfr' hc λu w' x'' hv hm' hx'' hw'=> ?_
  refine fin x'' u w' kc (hnoF hnc) (Ye _) md.hk (hkcN hnc) (λ_ _=>Iff.rfl) hm' hx'' (hw'.step hmb) (λt ht v hv'=> ?_);rw[hS] at hv';have:=hdstv s1 v0 rfl t ht v hv';subst this;exact hv
 |chain r tb=>
  rw[hT] at hty;obtain⟨rfl,hcg,htb,hres,hc,hS⟩:=hty;rw[hwanted];refine .inl ?_;have hhj:(T j).isHard:=by rw[hT];trivial
  have hcj:(T j).isChain:=by rw[hT];trivial
  have hbef:∀c,c<j->(T c).isChain->ZM listed c:=λc h hcc=>hwaits c (hch j c hjlt h (.inl ⟨hhj,hcc⟩))
  have hjk:kc=j:=by
   rcases Yae j kc with h|h
   ·exact absurd ((md.nf j hjlt hhj).1 h) hunl
   ·rcases hmax with g|⟨g1,g2⟩
    ·omega
    ·rcases Yae kc j with h'|h'
     ·exact absurd (hbef kc h' g1) g2
     ·omega
  have hmem:(mask s1 oj).mem=(S kc).mem:=by rw[e1,hjk]
  refine Zqe hE hrf inv.d (by rw[hmem];exact hmb) hres hc λv w' x'' hv hm' hx'' hst''=> ?_
  have hSm:(S (j+1)).mem=r.m:=by rw[hS,putRes,ZfQ]
  refine fin x'' v w' (j+1) (Ty.hard hhj).2 (by omega) (by omega) (λc hc' hcc=> ?_) (λc hf=> ?_) (by rw[hSm];exact hm') hx'' hst'' (λt ht v' hv'=> ?_)
  ·rw[hl' c hc',<-md.nf c hc' hcc];omega
  ·have:c≠j:=λe=>(Ty.hard hhj).2 (e▸hf)
   omega
  ·rw[hS] at hv';have:=hdstv {s1 with mem:=r.m,bd:=r.bd,sd:=r.sd} r.v rfl t ht v' hv';subst this;exact hv
 |fresh l tb=>
  rw[hT] at hty;obtain⟨rfl,hcg,htb,hres,⟨ty,d,hop,hz,hd,hdl⟩,hS⟩:=hty;rw[hwanted];refine .inl ?_;have hfj:(T j).isFresh:=by rw[hT];trivial
  have hkj:kc<=j:=by
   rcases Yae j kc with h|h
   ·exact absurd (md.fr j hjlt hfj h) hunl
   ·exact h
  obtain⟨zv,hz1,hz2⟩:=Zeb (P:=E.P) (x:=x') hz;have hzy:∀y,RL y l zv.cells.toList:=λy=>by
   obtain⟨zv',h1,h2⟩:=Zeb (P:=E.P) (x:=y) hz;have:=(hz1 w).symm.trans (h1 w);injection this with e
   rw[e];exact h2
  have hrun:(execOp a.eval oj).run E.P w=.ok (.value (.pointer (some ⟨w.heap.size,0,none⟩))) (w.alloc (.cells zv.cells.toList.toArray ty)):=by simp[execOp,hop,Instr.alloc,hz1,newVar,newRow]
  have hold:=ZI.alloc w (.cells zv.cells.toList.toArray ty);have hm':=md.m.old hold;have hstp:Step x' w (w.alloc (.cells zv.cells.toList.toArray ty)):=hold.step md.m rfl rfl rfl;have hnewP:PendD x' (w.alloc (.cells zv.cells.toList.toArray ty)) l w.heap.size:=
   ⟨⟨zv.cells.toList,ty,by simp only[World.alloc];simp,hzy⟩,md.m.fresh _ (Ye _),md.m.fz_new (Ye _),λb e=>by have:=md.m.M_lt e;omega,λh s cap e1 e2=>by have:=md.m.S_lt e1 e2;omega⟩
  refine ZcC (v:=.pointer (some ⟨w.heap.size,0,none⟩)) (w':=w.alloc (.cells zv.cells.toList.toArray ty)) (.inl hrun) ?_;have hPne:∀c oc d' l' tb',A[c]? =some oc->oc.dst=some d'->T c=.fresh l' tb'->ZM listed c->kc<=c->P c<w.heap.size:=λc oc d' l' tb' h1 h2 h3 h4 h5=>(md.pd c l' tb' oc d' h1 h2 h3 h4 h5).1.lt
  have hdf:∀c,c<A.size->(T c).isFresh->∃oc d' l' tb',A[c]? =some oc/\oc.dst=some d'/\T c=.fresh l' tb':=λc hc hf=>by
   obtain⟨o,ho⟩:∃o,A[c]? =some o:=⟨_,YP hc⟩;have:=hst c o ho;cases hTc:T c with
   |skip=>rw[hTc] at hf;exact hf.elim
   |free _=>rw[hTc] at hf;exact hf.elim
   |read _ _=>rw[hTc] at hf;exact hf.elim
   |chain _ _=>rw[hTc] at hf;exact hf.elim
   |fresh l' tb'=>
    rw[hTc] at this;obtain⟨_,_,_,_,_,_,_,⟨_,d',_,_,hd',_⟩,_⟩:=this;exact⟨o,d',l',tb',ho,hd',rfl⟩
  refine hinv x' (.pointer (some ⟨w.heap.size,0,none⟩)) _ kc (λc=>if c=j then w.heap.size else P c) ⟨md.hk,λc hc hh=> ?_,λc hc hf hlt=>(hl' c hc).2 (.inr (md.fr c hc hf hlt)),hm',md.e,md.xx,md.t.trans hstp md.e.own,λc l' tb' oc d' hc hd' hT' hl hk=> ?_,
   λc c' h1 h2 h3 h4 h5 h6 h7 h8 h9=> ?_,λt k v hk hwt hfk hv=> ?_⟩
  ·have hne:c≠j:=λe=>by rw[e] at hh;exact (Ty.hard hh).2 hfj
   rw[md.nf c hc hh,hl' c hc];exact⟨.inr,λh=>h.elim (λh=>absurd h hne) id⟩
  ·by_cases e:c=j
   ·subst e;rw[hj] at hc;simp only[oinj] at hc;subst hc;rw[hT] at hT';simp only[Ty.fresh.injEq] at hT';obtain⟨rfl,rfl⟩:=hT';rw[YX rfl];refine⟨hnewP,hputeq _ d' hd' ?_⟩;rw[hd] at hd';simp only[oinj] at hd';subst hd';rw[<-hlen1];exact hdl
   ·rw[Y3 e];have hcf:(T c).isFresh:=by rw[hT'];trivial
    have hll:ZM listed c:=((hl' c (Yv.1 hc).1).1 hl).resolve_left e;obtain⟨q1,q2⟩:=md.pd c l' tb' oc d' hc hd' hT' hll hk;refine⟨⟨?_,q1.own,q1.fz,q1.M,q1.S⟩,by rw[hputne _ d' (hpne c oc d' hc hd' hcf hll)];exact q2⟩;obtain⟨C,T',g1,g2⟩:=q1.cell;exact⟨C,T',(hold.2 _ q1.lt).trans g1,g2⟩
  ·have g:∀c,c<A.size->c≠j->ZM (listed.setIfInBounds j true) c->ZM listed c:=λc hc hne hl=>((hl' c hc).1 hl).resolve_left hne
   have g2:∀c,c<A.size->c≠j->(T c).isFresh->ZM (listed.setIfInBounds j true) c->kc<=c->P c<w.heap.size:=λc hc hne hf hl hk=>by obtain⟨oc,d',l',tb',f1,f2,f3⟩:=hdf c hc hf;exact hPne c oc d' l' tb' f1 f2 f3 (g c hc hne hl) hk
   replace h9:(if c=j then w.heap.size else P c)=if c'=j then w.heap.size else P c':=h9
   by_cases e:c=j<;>by_cases e':c'=j
   ·rw[e,e']
   ·rw[YX e,Y3 e'] at h9;have:=g2 c' h2 e' h4 h6 h8;omega
   ·rw[Y3 e,YX e'] at h9;have:=g2 c h1 e h3 h5 h7;omega
   ·rw[Y3 e,Y3 e'] at h9;exact md.inj c c' h1 h2 h3 h4 (g c h1 e h5) (g c' h2 e' h6) h7 h8 h9
  ·have ht:oj.dst≠some t:=λht=>by have h1:=(hwt j oj hj ht).2 ((hl' j hjlt).2 (.inl rfl));have:=hfk j oj hj ht hfj h1;omega
   rw[hputne _ t ht];refine md.slot t k v hk (λi oi hi hdi=> ?_) (λi oi hi hdi hf hik=>hfk i oi hi hdi hf hik) hv;have hne:i≠j:=λe=>by
    subst e;have:oi=oj:=by rw[hj] at hi;simpa using hi.symm
    subst this;exact ht hdi
   rw[hwt i oi hi hdi,hl' i (Yv.1 hi).1];exact⟨λh=>h.elim (λh=>absurd h hne) id,.inr⟩
def Zg9 (A:Array Oper) (listed:Array Bool):Nat:=((List.range A.size).filter λi=> !listed.getD i false).length
omit hst hlex hch hfr hrd hE in
theorem ZiC {listed:Array Bool} (hs:listed.size=A.size) (hj:j<A.size) (h:listed.getD j false=false):Zg9 A (listed.setIfInBounds j true)<Zg9 A listed:=by
 unfold Zg9;have key:∀l:List Nat,l.Nodup->j∈l->(l.filter λi=> !(listed.setIfInBounds j true).getD i false).length<(l.filter λi=> !listed.getD i false).length/\
   True:=by
  intro l
  induction l with
  |nil=>intro _ h;simp at h
  |cons i l ih=>
   intro hnd hm;refine⟨?_,Tv⟩;rw[List.nodup_cons] at hnd;by_cases e:j=i
   ·subst e;have h1:(listed.setIfInBounds j true).getD j false=true:=by simp[YL,hs,hj]
    have h2:(l.filter λi=> !(listed.setIfInBounds j true).getD i false)=(l.filter λi=> !listed.getD i false):=by apply List.filter_congr;intro i hi;rw[getD_set_ne false (λe=>by subst e;exact hnd.1 hi)]
    rw[List.filter_cons_of_neg (by simp[h1]),List.filter_cons_of_pos (by simp[h]),h2];simp
   ·have hm':j∈l:=by simpa [e] using hm
    have:=(ih hnd.2 hm').1;have e1:(listed.setIfInBounds j true).getD i false=listed.getD i false:=getD_set_ne false e;by_cases hb:listed.getD i false=true
    ·rw[List.filter_cons_of_neg (by rw[e1,hb];simp),List.filter_cons_of_neg (by rw[hb];simp)];exact this
    ·rw[List.filter_cons_of_pos (by rw[e1];simpa using hb),List.filter_cons_of_pos (by simpa using hb)];simpa using this
 exact (key _ List.nodup_range (by simpa using hj)).1
theorem ZNM {x0 x:Ctx} {w0:World} {Q:Exit->Act->World->Prop} (hQ:∀x' a w,RH x0 w0 x' (S A.size) a w->ExtM x x'->Q .normal a w):∀(fuel:Nat) (listed:Array Bool) (a:Act) (w:World),
  Inv A S T x0 w0 x listed a w->Zg9 A listed<=fuel->wpAny E.P .any A Q fuel listed a w:=by
 have all:∀listed a w,Inv A S T x0 w0 x listed a w->Region.ready .any A listed=[]->Q .normal a w:=by
  intro listed a w inv hr;have hall:∀j,j<A.size->ZM listed j:=by
   intro j
   induction j using Nat.strongRecOn with
   |_ j ih=>
    intro hj;rcases Ya6 (ZM listed j) with h|h
    ·exact h
    ·exfalso;obtain⟨oj,hoj⟩:∃o,A[j]? =some o:=⟨_,YP hj⟩;have:j∈Region.ready .any A listed:=by
      refine mem_ready.2 ⟨?_,oj,hoj,λe he hb=>ih e.on ((ZoX hlex j oj hoj).1 e he hb) ?_⟩
      ·unfold ZM at h;rw[YL,YP (by rw[inv.size];exact hj)] at h|-;simp only[Option.getD_some] at h|-;simpa using h
      ·have:=(ZoX hlex j oj hoj).1 e he hb;omega
     rw[hr] at this;simp at this
  obtain⟨x',kc,P,md,hmax⟩:=inv.r;have hkc:kc=A.size:=by
   rcases hmax with h|⟨_,h⟩
   ·exact h
   ·rcases Yae kc A.size with h'|h'
    ·exact absurd (hall kc h') h
    ·exact Nat.le_antisymm md.hk h'
  subst hkc;refine hQ x' a w ⟨⟨⟨by rw[lens hst A.size (Ye _),inv.fr],λi v hv=> ?_⟩,md.m,inv.d⟩,md.e,md.t⟩ md.xx;exact md.slot i A.size v (Ye _) (λi' oi hi _=>⟨λh=>hall i' h,λ_=>(Yv.1 hi).1⟩) (λ_ _ _ _ _ h=>h) hv
 intro fuel
 induction fuel with
 |zero=>
  intro listed a w inv hf;have hr:Region.ready .any A listed=[]:=by
   cases hr:Region.ready .any A listed with
   |nil=>rfl
   |cons j l=>
    exfalso;have hj:j∈Region.ready .any A listed:=by rw[hr];simp
    obtain⟨hun,oj,hoj,_⟩:=mem_ready.1 hj;have hlt:=(Yv.1 hoj).1
    have:=ZiC (A:=A) inv.size hlt (by
     rw[YL,YP (by rw[inv.size];exact hlt)] at hun|-
     simpa using hun)
    omega
  exact⟨hr,all listed a w inv hr⟩
 |succ fuel ih=>
  intro listed a w inv hf;refine⟨λhr=>all listed a w inv hr,λj hj=> ?_⟩;obtain⟨hun,oj,hoj,_⟩:=mem_ready.1 hj;have hlt:=(Yv.1 hoj).1
  have:=ZiC (A:=A) inv.size hlt (by
   rw[YL,YP (by rw[inv.size];exact hlt)] at hun|-
   simpa using hun)
  exact ZRK hst hE hlex hch hfr hrd inv hj λa' w' inv'=>ih _ a' w' inv' (by omega)
end
variable {id:Nat}
theorem ZSf {E:Env} (hE:Zbx E) {x0 x:Ctx} {w0 w:World} {s:St} {a:Act} {A:Array Oper} {chg:Bool} {Q:Exit->Act->World->Prop} (hP:E.P.follows .mixedOrders=true) (hlex:lexL A.toList=true)
  (hr:RH x0 w0 x s a w) (h:Hold x0 w0 x Q (Zfd s (ZcN E chg (Zdq A.toList []) A.toList A.toList 0 false [] [] s).val)):(Code.region id A true).wp E.P Q a w:=by
 have hk:(ZcN E chg (Zdq A.toList []) A.toList A.toList 0 false [] [] s).val.k≠ .stop:=by intro hk;unfold Zfd at h;rw[hk] at h;exact Hold.stop hr h
 obtain⟨S,T,h1,h2,h3,h4⟩:=ZzA (λ_ _ h=>Zpw h) A.toList 0 false [] [] s hk;simp only[Yu] at h2 h3 h4;have hlen:A.toList.length=A.size:=by simp
 rw[hlen] at h2 h4;rw[h2] at h;simp only[Zfd] at h;have hst:∀k o,A[k]? =some o->Zg7 E chg A.toList (S k) (T k) o (S (k+1)):=λk o ho=>h3 k o (by rw[Zi];simpa using ho)
 have hnth:∀(k:Nat) (o:Oper),A[k]? =some o->nth A.toList k=some o:=λk o ho=>by rw[Zi];simpa using ho
 have hfr:∀f of d,f<A.size->(T f).isFresh->A[f]? =some of->of.dst=some d->∀l ol,f<l->A[l]? =some ol->ol.dst≠some d/\(tbit (Zkx A.toList ol) d=true->∀c,c<f->(T c).isChain->Waits A.toList c l):=by intro f of d hf hT ho hd l ol hl hol;have:=(h4 f hf).fr (by rw[Yu];exact hT) of d (hnth f of ho) hd l ol hl (hnth l ol hol);simp only[Yu] at this;exact⟨this.1,λhm=>(this.2 hm).2⟩
 have hrd:∀j,j<A.size->(T j).isRead->(∀c,c<j->¬(T c).isFresh)\/(∀c,c<j->(T c).isChain->ZaK (T c).touch (T j).loc=true)\/∀c,c<j->(T c).isChain->Waits A.toList c j:=by intro j hj hT;have:=(h4 j hj).rd (by rw[Yu];exact hT);simp only[Yu] at this;exact this.imp (λh=>h.2) (λh=>h.imp (λh=>h.2) λh=>h.2)
 refine wp_region_any hP (ZNM hst hE hlex (λk k' hk hk' hb=>by have:=(h4 k hk).bd k' hk';simp only[Yu] at this;exact this hb) hfr hrd (x0:=x0) (x:=x) (w0:=w0) (λx' a' w' hr' hxx=> ?_) A.size _ a _ ?_ ?_)
 ·exact h x' a' w' hr' hxx
 ·have hr':=hr.same (Zb5.drew w);have hno:∀i,¬ZM (Array.replicate A.size false) i:=by intro i hi;unfold ZM at hi;rw[YL,Array.getElem?_replicate] at hi;split at hi<;>simp at hi
  have hcl:∀j oj,A[j]? =some oj->ZM (Array.replicate A.size false) j->∀e∈oj.after,Region.binds .any e=true->ZM (Array.replicate A.size false) e.on:=λj oj _ hl=>absurd hl (hno j)
  obtain⟨x',kc,q1,q2⟩:=ZBc hst hfr (x:=x) (P:=λ_=>0) hcl A.size 0 x (by omega) ⟨Yr _,λc _ _=>⟨λh=>by omega,λh=>absurd h (hno c)⟩,λc _ _ h=>by omega,by rw[h1];exact hr'.r.m,hr.e,ExtM.refl x,hr'.t,λc _ _ _ _ _ _ _ h=>absurd h (hno c),
   λc _ _ _ _ _ h=>absurd h (hno c),λt k v hk' hwt _ hv=>by
    refine Zly hst (k:=0) (k':=k) (Yr _) hk' (λi oi hi hd hb=>hno i ((hwt i oi hi hd).1 hb.2)) (λv hv=> ?_) v hv;rw[h1] at hv
    exact hr.r.f.slot t v hv⟩
  exact⟨by simp,hcl,by rw[h1];exact hr.r.f.size.symm,hr.r.d,x',kc,_,q1,q2⟩
 ·unfold Zg9;have:=List.length_filter_le (λi=> !(Array.replicate A.size false).getD i false) (List.range A.size);simpa using this
theorem RF.retag {x:Ctx} {sl:List V} {t:Array Value} (h:RF x sl t) (d:Nat) (hv:RV x v (t.getD d undef)):RF x (setN sl d v) t:=by
 refine⟨by simp[ZH,h.size],λi v' e=> ?_⟩;by_cases hd:d=i
 ·subst hd;have hlt:=ZZ e;rw[ZH] at hlt e;rw[Zi,Yay (by simpa using hlt)] at e;simp only[oinj] at e;subst e;exact hv
 ·rw[Zi,ZH,Yao hd,<-Zi] at e;exact h.slot i v' e
theorem RH.retag {x0 x:Ctx} {w0 w:World} {s:St} {a:Act} (h:RH x0 w0 x s a w) (d:Nat) {v:V} (hv:RV x v (a.tmps.getD d undef)):RH x0 w0 x (S3.put s (some d) v) a w:=
 ⟨⟨h.r.f.retag d hv,h.r.m,h.r.d⟩,h.e,h.t⟩
theorem RH.ofMem {x0 x:Ctx} {w0 w:World} {s:St} {a:Act} (h:RH x0 w0 x s a w) (h1:s'.Sl=s.Sl) (h2:s'.mem=s.mem):RH x0 w0 x s' a w:=
 ⟨⟨by rw[h1];exact h.r.f,by rw[h2];exact h.r.m,h.r.d⟩,h.e,h.t⟩
theorem Hold.backD {x0 x:Ctx} {w0:World} {s:St} {Q:Exit->Act->World->Prop} {o:Out} (h:Hold x0 w0 x Q (S3.backD s o)):Hold x0 w0 x Q o:=
 λx' a' w' hr hx=>h x' a' w' (hr.ofMem rfl rfl) hx
theorem ZH4 {s:St} {o:Out} (h:Keep (Zar s) o.s):Keep s (S3.backD s o).s where
 sl:=h.sl
 slot:=λt ht=>by simp only[S3.backD,ZfH,Yq] at ht;exact⟨ht.1,(h.slot t ht.2).2⟩
 bl:=h.bl
 box:=λb l hl=>by obtain⟨l',h1,h2,h3⟩:=h.box b l hl;refine⟨l',h1,h2,λj hj=> ?_⟩;simp only[S3.backD,Zde,Yq] at hj;exact⟨hj.1,(h3 j hj.2).2⟩
 gl:=h.gl
 stg:=λi g hg=>by obtain⟨g',h1,h2,h3⟩:=h.stg i g hg;refine⟨g',h1,h2,λhj=> ?_⟩;simp only[S3.backD,Zdf,Yq] at hj;exact⟨hj.1,(h3 hj.2).2⟩
theorem ZfC {s:St} {t:RT Out} (h:AllK (Zar s) t):AllK s (t.map (backD s)):=RT.All.map (h.mono λ_ k=>ZH4 k)
theorem ZaJ (s:St):(Zar s).dirty=0/\(Zar s).bd=[]/\(Zar s).sd=[]:=⟨rfl,rfl,rfl⟩
theorem RH.reset {x0 x:Ctx} {w0 w:World} {s:St} {a:Act} (h:RH x0 w0 x s a w):RH x0 w0 x (Zar s) a w:=h.ofMem rfl rfl
theorem ZCw (id:Nat) (o:Out):(unexit id o).s=o.s:=by
 unfold unexit;split
 ·split<;>rfl
 ·rfl
theorem Hold.unexit {x0 x:Ctx} {w0:World} {id:Nat} {Q:Exit->Act->World->Prop} {o:Out} (h:Hold x0 w0 x Q (S3.unexit id o)):Hold x0 w0 x (Exit.inBlock id Q) o:=by
 intro x' a' w' hr hx;have h':=h x' a' w' (by rw[ZCw];exact hr) hx;unfold S3.unexit at h';split at h'
 ·rename_i i hk;rw[hk];split at h'
  ·rename_i hi;simp only[Yt] at hi;simp only[QK,Exit.inBlock,hi,if_true];exact h'
  ·rename_i hi;have hne:i≠id:=by intro e;subst e;simp at hi
   rw[hk] at h';simp only[QK,Exit.inBlock,hne,if_false];exact h'
 ·rename_i hk;cases hko:o.k with
  |normal=>rw[hko] at h';exact h'
  |exit i=>exact absurd hko (hk i)
  |ret=>rw[hko] at h';exact h'
  |stop=>rw[hko] at h';exact h'
theorem ZJy {a b:K} (h:ZJz a b=true):a=b:=by cases a<;>cases b<;>simp[ZJz] at h<;>first|rfl|(subst h;rfl)
section
variable {s:St} (hs:s.dirty=0/\s.bd=[]/\s.sd=[])
include hs
theorem ZHP {nm:Nm} {x y:Out} (h1:Keep s x.s) (h2:Keep s y.s):AllK s (ZOb c (len s.mem.Bx) (len s.mem.Sg) nm x y):=by
 unfold ZOb;split
 ·split
  ·rename_i m hm;exact ZBw hs h1 h2 hm
  ·exact⟨h1,h2⟩
 ·exact⟨h1,h2⟩
theorem Zrc {c:Bool} {nm:Nm} {x:Out} (h1:Keep s x.s):∀{e:RT Out},AllK s e->AllK s (ZHO c (len s.mem.Bx) (len s.mem.Sg) nm x e)
 | .Lf y,h=>ZHP hs h1 h
 | .br b t f,h=>by
  unfold ZHO;split
  ·exact⟨Zrc h1 h.1,h.2⟩
  ·exact⟨h1,h⟩
theorem ZjA {c:Bool} {nm:Nm} {e:RT Out} (h2:AllK s e):∀{t:RT Out},AllK s t->AllK s (fork c (len s.mem.Bx) (len s.mem.Sg) nm t e)
 | .Lf x,h1=>by
  unfold fork;split
  ·exact⟨h2,h1⟩
  ·split
   ·exact⟨h1,h2⟩
   ·exact Zrc hs h1 h2
 | .br b t f,h1=>by
  unfold fork;split
  ·exact⟨ZjA h2 h1.1,h1.2⟩
  ·exact⟨h1,h2⟩
theorem ZbS {nm:Nm}:∀{t:RT Out},AllK s t->AllK s (ZiF (len s.mem.Bx) (len s.mem.Sg) nm t)
 | .Lf _,h=>h
 | .br _ _ _,h=>ZjA hs (ZbS (And.right h)) (ZbS (And.left h))
end
section
variable {x0 x:Ctx} {w0 w:World} {s:St} {a:Act} (hr:RH x0 w0 x s a w) {nm:Nm} {Q:Exit->Act->World->Prop}
include hr
theorem ZRZ {y1 y2:Out} (h1:Keep s y1.s) (h2:Keep s y2.s) (h:Hold x0 w0 x Q (ZOb c (len s.mem.Bx) (len s.mem.Sg) nm y1 y2).val):Hold x0 w0 x Q (cond c y1 y2):=by
 unfold ZOb at h;split at h
 ·rename_i hk;split at h
  ·rename_i m hm;intro x' a' w' hr' hx';have hmm:=ZNd hr h1 h2 hm;have hk':=ZJy hk;have hs':(cond c y1 y2).s=cond c y1.s y2.s:=by cases c<;>rfl
   have hkk:(cond c y1 y2).k=y1.k:=by cases c;exact hk'.symm;rfl
   rw[hs'] at hr';obtain⟨x'',hr'',hx''⟩:=hmm x' a' w' hr' hx';rw[hkk];exact h x'' a' w' hr'' hx''
  ·exact h
 ·exact h
theorem ZuA {c:Bool} {y:Out} (h1:Keep s y.s):∀{e:RT Out},AllK s e->Hold x0 w0 x Q (ZHO c (len s.mem.Bx) (len s.mem.Sg) nm y e).val->Hold x0 w0 x Q (cond c y e.val)
 | .Lf z,h2,h=>ZRZ hr h1 h2 h
 | .br b t f,h2,h=>by
  unfold ZHO at h;split at h
  ·cases c with
   |true=>exact ZuA (c:=true) (e:=t) h1 h2.1 h
   |false=>
    cases b with
    |true=>exact ZuA (c:=false) (e:=t) h1 h2.1 h
    |false=>exact h
  ·cases c<;>exact h
theorem ZkJ {c:Bool} {e:RT Out} (h2:AllK s e):∀{t:RT Out},AllK s t->Hold x0 w0 x Q (fork c (len s.mem.Bx) (len s.mem.Sg) nm t e).val->Hold x0 w0 x Q (cond c t.val e.val)
 | .Lf y,h1,h=>by
  unfold fork at h;split at h
  ·cases c<;>exact h
  ·split at h
   ·cases c<;>exact h
   ·exact ZuA hr h1 h2 h
 | .br b t f,h1,h=>by
  unfold fork at h;split at h
  ·cases c with
   |true=>
    cases b with
    |true=>exact ZkJ (c:=true) (t:=t) h2 h1.1 h
    |false=>exact h
   |false=>exact ZkJ (c:=false) (t:=t) h2 h1.1 h
  ·cases c<;>exact h
theorem Zfe (hs:s.dirty=0/\s.bd=[]/\s.sd=[]):∀{t:RT Out},AllK s t->Hold x0 w0 x Q (ZiF (len s.mem.Bx) (len s.mem.Sg) nm t).val->Hold x0 w0 x Q t.val
 | .Lf _,_,h=>h
 | .br c t e,hk,h=>by
  have hk1:AllK s t:=And.left hk;have hk2:AllK s e:=And.right hk;have h':=ZkJ hr (ZbS hs hk2) (ZbS hs hk1) h;cases c with
  |true=>
   have r:Hold x0 w0 x Q t.val:=Zfe hs hk1 h';exact r
  |false=>
   have r:Hold x0 w0 x Q e.val:=Zfe hs hk2 h';exact r
end
theorem Zqd {E:Env} (hE:Zbx E) {s:St} {k:St->RT Out} (hk:∀s',Keep s s'->AllK s' (k s')):AllK s (ZJh E s o k):=by
 unfold ZJh;refine RT.All.bind ((Zgt hE).mono λr hr=> ?_);cases r with
 |none=>exact Zaf s
 |some r=>exact Zg4 ((hk _ ((hr r rfl).keep _)).trans ((hr r rfl).keep _))
theorem ZBN {nm:Nm} {s:St} {g:Option (Nat×Bool)} {run skip:St->RT Out} (h1:∀s',AllK s' (run s')) (h2:∀s',AllK s' (skip s')):AllK s (ZxB nm ops s g run skip):=by
 have hb:∀(t e:RT Out) (b:Bool),AllK (Zar s) t->AllK (Zar s) e->AllK s ((fork b (len s.mem.Bx) (len s.mem.Sg) nm t e).map (backD s)):=λt e b ht he=>
  ZfC (ZjA (s:=Zar s) (ZaJ s) he ht)
 unfold ZxB;repeat' split
 all_goals first
  |exact Zaf s
  |exact h1 s
  |exact h2 s
  |exact hb _ _ _ ((h1 _).trans (Keep.put _ _ _)) ((h2 _).trans (Keep.put _ _ _))
  |exact hb _ _ _ ((h2 _).trans (Keep.put _ _ _)) ((h1 _).trans (Keep.put _ _ _))
theorem Zea {E:Env} (hE:Zbx E) {ops:List Oper}:∀(l:List Oper) (s:St),AllK s (ZHR E ops l s)
 |[],s=>Keep.refl s
 |_::l,_=>ZBN (λ_=>Zqd hE λs'' _=>Zea hE l s'') (λ_=>(Zea hE l _).trans (Keep.put _ _ _))
theorem ZPN {E:Env} (hE:Zbx E) {x0 x:Ctx} {w0 w:World} {s:St} {a:Act} {k:St->RT Out} {Q:Exit->Act->World->Prop} {next:Act->World->Prop}
  (hr:RH x0 w0 x s a w) (h:Hold x0 w0 x Q (ZJh E s o k).val)
  (hn:∀x' s' a' w',RH x0 w0 x' s' a' w'->ExtM x x'->Hold x0 w0 x' Q (k s').val->next a' w'):o.wp E.P a w next Q:=by
 unfold ZJh at h;rw[RT.val_bind] at h;cases hres:(Z6 E s o).val with
 |none=>rw[hres] at h;exact (Hold.stop hr h).elim
 |some r=>
  rw[hres] at h;obtain⟨hc,h⟩:=Hold.chk hr (show Hold x0 w0 x Q (chkT r.chk s (k (putRes s o.dst r))).val from h);exact Zqe hE hr.r.f hr.r.d hr.r.m hres hc λv w' x' hv hm he ht=>hn x' _ _ _ (hr.putRes o.dst hv hm he ht) he.extM (h.ext he.extM)
theorem ZN4 {x0 x:Ctx} {w0 w:World} {s:St} {a:Act} {nm:Nm} {run skip:St->RT Out} {Q:Exit->Act->World->Prop} (k1:∀s',AllK s' (run s')) (k2:∀s',AllK s' (skip s'))
  (hr:RH x0 w0 x s a w) (h:Hold x0 w0 x Q (ZxB nm ops s o.guard run skip).val):
  (Region.wanted o (yielded ops.toArray a.tmps)=true/\∃s',RH x0 w0 x s' a w/\Hold x0 w0 x Q (run s').val)\/
  (Region.wanted o (yielded ops.toArray a.tmps)=false/\∃s',RH x0 w0 x s' a w/\Hold x0 w0 x Q (skip s').val):=by
 unfold ZxB at h;split at h
 ·rename_i hg;exact .inl ⟨by simp[Region.wanted,hg],s,hr,h⟩
 ·rename_i j want hg;split at h
  ·rename_i oj hoj;split at h
   ·rename_i d hd;have hy:=ZpZ (a:=a) hoj hd;have hw:Region.wanted o (yielded ops.toArray a.tmps)=((match a.tmps.getD d undef with| .bool b=>some b|_=>none)==some want):=by simp only[Region.wanted,hg,hy];try rfl
    split at h
    ·rename_i b hs;have hv:=Zc0 (hr.r.f.slot d _ hs);rw[hv] at hw;split at h
     ·rename_i hb;exact .inl ⟨by rw[hw];simpa using hb,s,hr,h⟩
     ·rename_i hb;exact .inr ⟨by rw[hw];simpa using hb,s,hr,h⟩
    ·rename_i b hs;have hv:=Zc0 (hr.r.f.slot d _ hs);rw[hv] at hw;have hr0:RH x0 w0 x (Zar s) a w:=hr.reset;have hrt:∀c,c=b->RH x0 w0 x (S3.put (Zar s) (some d) (.w (.one (.bool true c)))) a w:=λc e=>hr0.retag d (by rw[hv,e];exact .bool _ _ _)
     have kr:∀v,AllK (Zar s) (run (S3.put (Zar s) (some d) v)):=λv=>(k1 _).trans (Keep.put _ _ _)
     have ks:∀v,AllK (Zar s) (skip (S3.put (Zar s) (some d) v)):=λv=>(k2 _).trans (Keep.put _ _ _)
     cases want with
     |true=>
      simp only at h;rw[RT.val_map] at h;have h':=ZkJ hr0 (ks _) (kr _) h.backD;cases b with
      |true=>exact .inl ⟨by rw[hw];rfl,_,hrt true rfl,h'⟩
      |false=>exact .inr ⟨by rw[hw];rfl,_,hrt false rfl,h'⟩
     |false=>
      simp only at h;rw[RT.val_map] at h;have h':=ZkJ hr0 (kr _) (ks _) h.backD;cases b with
      |true=>exact .inr ⟨by rw[hw];rfl,_,hrt true rfl,h'⟩
      |false=>exact .inl ⟨by rw[hw];rfl,_,hrt false rfl,h'⟩
    ·rename_i hs;obtain⟨C,hv,hC⟩:=hr.r.f.slot d _ hs;rw[hv] at hw;exact .inr ⟨by rw[hw];rfl,s,hr,h⟩
    ·exact (Hold.stop hr h).elim
   ·exact (Hold.stop hr h).elim
  ·exact (Hold.stop hr h).elim
theorem RH.skip {x0 x:Ctx} {w0 w:World} {s:St} {a:Act} (h:RH x0 w0 x s a w) (d:Option Nat):RH x0 w0 x (S3.put s d Zmr) (a.put d undef) w:=
 ⟨⟨RF.put h.r.f d ⟨[],rfl,Tv⟩,by rw[ZfQ];exact h.r.m,by rw[Zsm];exact h.r.d⟩,h.e,h.t⟩
theorem ZuE {E:Env} (hE:Zbx E) {x0:Ctx} {w0:World} {ops:List Oper} {Q:Exit->Act->World->Prop}:∀(l:List Oper) (x:Ctx) (w:World) (s:St) (a:Act),
  RH x0 w0 x s a w->Hold x0 w0 x Q (ZHR E ops l s).val->wpList E.P ops.toArray Q l a w
 |[],x,w,s,a,hr,h=>h x a w hr (ExtM.refl x)
 |o::l,x,w,s,a,hr,h=>by
  simp only[ZHR] at h;unfold wpList;rcases ZN4 (λ_=>Zqd hE λs'' _=>Zea hE l s'') (λ_=>(Zea hE l _).trans (Keep.put _ _ _)) hr h with ⟨hw,s',hr',h'⟩|⟨hw,s',hr',h'⟩
  ·rw[YX hw];refine .inl (ZPN hE hr' h' λx' s2 a' w' hr2 hx h2=>ZuE hE l x' w' s2 a' hr2 h2)
  ·rw[Y3 (by simp[hw])];exact ZuE hE l x w _ _ (hr'.skip o.dst) h'
theorem ZBO {s:St} {g:Option (Nat×Bool)} {run skip:St->RT Out} (h1:∀s',AllK s' (run s')) (h2:∀s',AllK s' (skip s')):AllK s (Zq8 ops s g run skip):=by
 unfold Zq8;repeat' split
 all_goals first
  |exact Zaf s
  |exact h1 s
  |exact h2 s
  |exact⟨(h1 _).trans (Keep.put _ _ _),(h2 _).trans (Keep.put _ _ _)⟩
  |exact⟨(h2 _).trans (Keep.put _ _ _),(h1 _).trans (Keep.put _ _ _)⟩
theorem KeepR.unmask {s:St} {r:Res} (h:KeepR (mask s o) r):KeepR s r:=⟨h.bl,h.box,h.gl,h.stg⟩
theorem Zdi {E:Env} (hE:Zbx E) {chg:Bool} {cls:List Nat} {ops:List Oper}:∀(l:List Oper) (i:Nat) (fl:Bool) (cs rs:List (Nat×Option (Nat×Bool))) (s:St),AllK s (ZcN E chg cls ops l i fl cs rs s)
 |[],_,_,_,_,s=>Keep.refl s
 |o::l,i,fl,cs,rs,s=>by
  simp only[ZcN];have hb:∀(s':St) (fl':Bool) (c:Res->Bool) (cs':Res->List (Nat×Option (Nat×Bool))),AllK s' ((Z6 E (mask s' o) o).bind (ZOU s' o.dst c (λr=>ZcN E chg cls ops l (i+1) fl' (cs' r) rs))):=λs' fl' c cs'=>by
   refine RT.All.bind ((Zgt hE).mono λr hr=> ?_);cases r with
   |none=>exact Zaf s'
   |some r=>
    have:=(hr r rfl).unmask;show AllK s' (match c r with|true=>_|false=>_);split
    ·exact Zg4 ((Zdi hE l _ _ _ _ _).trans (this.keep _))
    ·exact Zaf s'
  refine ZBO (λs'=> ?_) (λs'=>(Zdi hE l _ _ _ _ _).trans (Keep.put _ _ _));split
  ·exact Zg4 ((Zdi hE l _ _ _ _ _).trans (Keep.put _ _ _))
  ·split
   ·split
    ·split
     ·exact Zg4 ((Zdi hE l _ _ _ _ _).trans (Keep.put _ _ _))
     ·exact Zaf s'
    ·split
     ·exact hb s' _ _ (λr=>(i,Zeg E (mask s' o) o r)::cs)
     ·split
      ·exact hb s' _ _ (λr=>(i,Zeg E (mask s' o) o r)::cs)
      ·exact Zaf s'
   ·exact Zaf s'
theorem Zqb {s:St} {t:RT Out} (h:AllK s t):AllK s (t.map (Zfd s)):=RT.All.map (h.mono λo k=>by
 unfold Zfd;split
 ·exact Keep.refl s
 ·exact k)
theorem Zke {E:Env}:∀(l:List Oper) (s:St),Keep s (Zif E s l)
 |[],s=>Keep.refl s
 |o::l,s=>by
  unfold Zif;repeat' split
  all_goals first
   |exact Zke l s
   |(rename_i hfz;exact (Zd0 hfz).trans (Zke l _))
theorem Zsr {E:Env} {x0:Ctx} {w0 w:World} {a:Act}:∀(l:List Oper) (x:Ctx) (s:St),RH x0 w0 x s a w->∃x',RH x0 w0 x' (Zif E s l) a w/\ExtM x x'
 |[],x,s,hr=>⟨x,hr,ExtM.refl x⟩
 |o::l,x,s,hr=>by
  unfold Zif;repeat' split
  all_goals first
   |exact Zsr l x s hr
   |skip
  all_goals
   rename_i vs hvs _ vs' s' hfz;obtain⟨x1,m1,e1,_,k1⟩:=ZfZ hr.r.m (Zko hr.r.f hvs) hfz;have hr1:RH x0 w0 x1 s' a w:=⟨⟨by rw[k1.sl];exact hr.r.f.mono e1,m1,hr.r.d⟩,hr.e.trans e1,hr.t⟩;obtain⟨x2,hr2,hx2⟩:=Zsr l x1 s' hr1;exact⟨x2,hr2,e1.extM.trans hx2⟩
theorem ZBW {E:Env} (hE:Zbx E) (ops:List Oper) (s:St):AllK s (ZFa E ops s):=
 ZfC (ZbS (s:=Zar s) (ZaJ s) (Zqb (Zdi hE _ _ _ _ _ _)))
theorem ZOw {E:Env} (hE:Zbx E) {x0 x:Ctx} {w0 w:World} {s:St} {a:Act} {A:Array Oper} {Q:Exit->Act->World->Prop} (hP:E.P.follows .mixedOrders=true) (hlex:lexL A.toList=true)
  (hr:RH x0 w0 x s a w) (h:Hold x0 w0 x Q (ZFa E A.toList s).val):(Code.region id A true).wp E.P Q a w:=by unfold ZFa at h;rw[RT.val_map] at h;have h':=Zfe hr.reset (ZaJ s) (Zqb (Zdi hE _ _ _ _ _ _)) h.backD;rw[RT.val_map] at h';exact ZSf hE hP hlex hr.reset h'
def Za1 (E:Env) (c:Code) (f:Ora):Prop:=
 (∀s,AllK s (f s))/\∀x0 w0 x s a w Q,RH x0 w0 x s a w->Hold x0 w0 x Q (f s).val->c.wp E.P Q a w
def Z3 (E:Env):Code->Prop
 | .seq a b=>Z3 E a/\Z3 E b
 | .cond _ a b=>Z3 E a/\Z3 E b
 | .block id c=>match c with
  | .loop b=>match E.loops id with
   |some f=>Za1 E (.block id (.loop b)) f
   |none=>Z3 E b
  |c=>Z3 E c
 |_=>True
theorem Zle (E:Env) (id:Nat) (c:Code) (s:St) (hc:∀b,c≠ .loop b):ZbI E (.block id c) s=(ZiF (len s.mem.Bx) (len s.mem.Sg) ⟨E.named,true⟩ ((ZbI E c (Zar s)).map (unexit id))).map (backD s):=by cases c<;>first|rfl|exact absurd rfl (hc _)
theorem Zf7 {E:Env} {c:Code} (hc:∀b,c≠ .loop b) (h:Z3 E (.block id c)):Z3 E c:=by cases c<;>first|exact h|exact absurd rfl (hc _)
theorem Zha {s:St} {t:RT Out} (h:AllK s t):AllK s (t.map (unexit id)):=RT.All.map (h.mono λo k=>by rw[ZCw];exact k)
theorem Zh5 {round:St->RT Out} (h:∀s,AllK s (round s)):∀(n:Nat) (s:St),AllK s (ZjW round n s)
 |0,s=>Zaf s
 |n+1,s=>by
  unfold ZjW seqT;refine RT.All.bind ((h s).mono λo k=> ?_);split
  ·exact (Zh5 h n o.s).trans k
  ·exact k
theorem Zao {E:Env} (hE:Zbx E):∀(c:Code) (s:St),Z3 E c->AllK s (ZbI E c s)
 | .skip,s,_=>Keep.refl s
 | .region _ ops draw,s,_=>by
  unfold ZbI;split
  ·exact ZfC (ZbS (s:=Zar s) (ZaJ s) (Zea hE _ _))
  ·split
   ·exact Zaf s
   ·exact (ZBW hE _ _).trans (Zke (E:=E) _ _)
 | .seq c d,s,h=>by
  unfold ZbI seqT;refine RT.All.bind ((Zao hE c s h.1).mono λo k=> ?_);split
  ·exact (Zao hE d o.s h.2).trans k
  ·exact k
 | .cond x c d,s,h=>by
  unfold ZbI;split
  ·split
   ·exact Zao hE c s h.1
   ·exact Zao hE d s h.2
  ·exact ZfC (ZjA (s:=Zar s) (ZaJ s) (Zao hE d _ h.2) (Zao hE c _ h.1))
  ·exact Zaf s
 | .block id c,s,h=>by
  by_cases hc:∀b,c≠ .loop b
  ·rw[Zle E id c s hc];exact ZfC (ZbS (s:=Zar s) (ZaJ s) (Zha (Zao hE c _ (Zf7 hc h))))
  ·have:∃b,c=.loop b:=by cases c<;>first|exact⟨_,rfl⟩|exact absurd (λb e=>by cases e) hc
   obtain⟨b,rfl⟩:=this;unfold ZbI;unfold Z3 at h;split
   ·rename_i f hf;simp only[hf] at h;exact h.1 s
   ·rename_i hf;simp only[hf] at h;exact ZfC (ZbS (s:=Zar s) (ZaJ s) (Zha (Zh5 (λs'=>Zao hE b s' h) _ _)))
 | .exit _,s,_=>Keep.refl s
 | .ret,s,_=>Keep.refl s
 | .loop _,s,_=>Zaf s
 | .rangeFunc ..,s,_=>Zaf s
 | .scope _,s,_=>Zaf s
 | .label _,s,_=>Zaf s
 | .goto _,s,_=>Zaf s
 | .refuse _,s,_=>Zaf s
theorem Zve {P:Program} {x0:Ctx} {w0:World} {b:Code} {round:St->RT Out} {Q:Exit->Act->World->Prop}
  (hb:∀(x:Ctx) (s:St) (a:Act) (w:World) (Q:Exit->Act->World->Prop),RH x0 w0 x s a w->Hold x0 w0 x Q (round s).val->b.wp P Q a w):
  ∀(n:Nat) (x:Ctx) (s:St) (a:Act) (w:World),RH x0 w0 x s a w->Hold x0 w0 x Q (ZjW round n s).val->Code.rounds P b Q n a w
 |0,x,s,a,w,hr,h=>(Hold.stop hr h).elim
 |n+1,x,s,a,w,hr,h=>by
  rw[rounds_succ];unfold ZjW seqT at h;rw[RT.val_bind] at h;refine hb x s a w _ hr λx' a' w' hr' hx'=> ?_
  generalize hv:(round s).val=o at*;obtain⟨k,s'⟩:=o;cases k with
  |normal=>exact Zve hb n x' s' a' w' hr' (h.ext hx')
  |exit i=>exact h x' a' w' hr' hx'
  |ret=>exact h x' a' w' hr' hx'
  |stop=>exact h x' a' w' hr' hx'
theorem Zcw {E:Env} (hE:Zbx E) {x0:Ctx} {w0:World}:∀(c:Code),Z3 E c->∀(x:Ctx) (s:St) (a:Act) (w:World) (Q:Exit->Act->World->Prop),
  RH x0 w0 x s a w->Hold x0 w0 x Q (ZbI E c s).val->c.wp E.P Q a w
 | .skip,_,x,s,a,w,Q,hr,h=>wp_skip (h x a w hr (ExtM.refl x))
 | .region id ops draw,_,x,s,a,w,Q,hr,h=>by
  unfold ZbI at h;split at h
  ·rw[RT.val_map] at h;have h':=Zfe hr.reset (ZaJ s) (Zea hE _ _) h.backD;exact wp_region_list (by have:=ZuE hE ops.toList x w _ a hr.reset h';simpa using this)
  ·split at h
   ·exact (Hold.stop hr h).elim
   ·rename_i hd;simp only[Yb] at hd;obtain⟨x',hr',hx'⟩:=Zsr (E:=E) ops.toList x s hr;exact ZOw hE hd.2 hd.1 hr' (h.ext hx')
 | .seq c d,hl,x,s,a,w,Q,hr,h=>by
  unfold ZbI seqT at h;rw[RT.val_bind] at h;refine wp_seq (Zcw hE c hl.1 x s a w _ hr λx' a' w' hr' hx'=> ?_);generalize hv:(ZbI E c s).val=o at*;obtain⟨k,s'⟩:=o;cases k with
  |normal=>exact Zcw hE d hl.2 x' s' a' w' Q hr' (h.ext hx')
  |exit i=>exact h x' a' w' hr' hx'
  |ret=>exact h x' a' w' hr' hx'
  |stop=>exact h x' a' w' hr' hx'
 | .cond y c d,hl,x,s,a,w,Q,hr,h=>by
  unfold ZbI at h;split at h
  ·rename_i b hb;have hv:=Zc0 (Zak hr.r.f hb);cases b with
   |true=>exact wp_cond_true hv (Zcw hE c hl.1 x s a w Q hr h)
   |false=>exact wp_cond_false hv (Zcw hE d hl.2 x s a w Q hr h)
  ·rename_i b hb;have hv:=Zc0 (Zak hr.r.f hb);rw[RT.val_map] at h;have hr':RH x0 w0 x (Zar s) a w:=hr.ofMem rfl rfl;have h':=ZkJ hr' (Zao hE d _ hl.2) (Zao hE c _ hl.1) h.backD;cases b with
   |true=>exact wp_cond_true hv (Zcw hE c hl.1 x _ a w Q hr' h')
   |false=>exact wp_cond_false hv (Zcw hE d hl.2 x _ a w Q hr' h')
  ·exact (Hold.stop hr h).elim
 | .block id c,hl,x,s,a,w,Q,hr,h=>by
  by_cases hc:∀b,c≠ .loop b
  ·rw[Zle E id c s hc,RT.val_map] at h;have hr':RH x0 w0 x (Zar s) a w:=hr.ofMem rfl rfl;have h':=Zfe hr' (ZaJ s) (Zha (Zao hE c _ (Zf7 hc hl))) h.backD;rw[RT.val_map] at h';exact wp_block (Zcw hE c (Zf7 hc hl) x _ a w _ hr' h'.unexit)
  ·have:∃b,c=.loop b:=by cases c<;>first|exact⟨_,rfl⟩|exact absurd (λb e=>by cases e) hc
   obtain⟨b,rfl⟩:=this;unfold ZbI at h;unfold Z3 at hl;split at h
   ·rename_i f hf;simp only[hf] at hl;exact hl.2 x0 w0 x s a w Q hr h
   ·rename_i hf;simp only[hf] at hl;rw[RT.val_map] at h;have hr':RH x0 w0 x (Zar s) a w:=hr.ofMem rfl rfl;have h':=Zfe hr' (ZaJ s) (Zha (Zh5 (λs'=>Zao hE b s' hl) _ _)) h.backD;rw[RT.val_map] at h';exact wp_block (wp_loop_rounds E.fuel (Zve (λx s a w Q hr h=>Zcw hE b hl x s a w Q hr h) E.fuel x _ a w hr' h'.unexit))
 | .exit i,_,x,s,a,w,Q,hr,h=>wp_exit (h x a w hr (ExtM.refl x))
 | .ret,_,x,s,a,w,Q,hr,h=>wp_ret (h x a w hr (ExtM.refl x))
 | .loop _,_,x,s,a,w,Q,hr,h=>(Hold.stop hr h).elim
 | .rangeFunc ..,_,x,s,a,w,Q,hr,h=>(Hold.stop hr h).elim
 | .scope _,_,x,s,a,w,Q,hr,h=>(Hold.stop hr h).elim
 | .label _,_,x,s,a,w,Q,hr,h=>(Hold.stop hr h).elim
 | .goto _,_,x,s,a,w,Q,hr,h=>(Hold.stop hr h).elim
 | .refuse _,_,x,s,a,w,Q,hr,h=>(Hold.stop hr h).elim
def resG (tmps:Array Value):ResultVar->Sem Value
 | .tmp t=>pure (tmps.getD t undef)
 | .cell c t=>do loadVar t (<-asAddr (tmps.getD c undef))
theorem ZFL (fn:Func) (tmps:Array Value):results fn tmps=(do let vs<-fn.results.mapM (resG tmps);pure (if h:vs.size=1 then vs[0] else .tuple vs)):=by unfold results;congr 1
theorem Zib {P:Program} {x:Ctx} {w:World} {s:St} {a:Act} (hr:Rel x s a w):∀(l:List ResultVar) (ws:List W),ZeO P s l=some ws->
  ∃vs,RWs x ws vs/\(l.mapM (resG a.tmps)).run P w=.ok vs w
 |[],ws,h=>by simp only[ZeO,oinj] at h;subst h;exact⟨[],trivial,by simp⟩
 | .tmp t::l,ws,h=>by
  simp only[ZeO] at h;split at h
  ·rename_i y r hy hl;simp only[oinj] at h;subst h;obtain⟨vs,h1,h2⟩:=Zib hr l r hl;refine⟨a.tmps.getD t undef::vs,⟨hr.f.slot t _ hy,h1⟩,?_⟩;rw[List.mapM_cons];simp only[resG,Sem.run_bind,Sem.run_pure,Result.andThen_ok];rw[h2];rfl
  ·simp at h
 | .cell t ty::l,ws,h=>by
  simp only[ZeO] at h;split at h
  ·rename_i p r hp hl;split at h
   ·rename_i y hy;simp only[oinj] at h;subst h;obtain⟨vs,h1,h2⟩:=Zib hr l r hl;have hpv:=hr.f.slot t _ hp;obtain⟨u,h3,h4⟩:=ZEO (P:=P) hr.m.toR hpv hy;have h3:=h3 w (ZI.refl w);refine⟨u::vs,⟨h4,h1⟩,?_⟩;rw[List.mapM_cons];have h5:(resG a.tmps (.cell t ty)).run P w=.ok u w:=by
     show ((do loadVar ty (<-asAddr (a.tmps.getD t undef)):Sem Value)).run P w=.ok u w;unfold Zxm at hy;split at hy
     ·rename_i q hq;obtain⟨b,o,e,_⟩:=Zrk hr.m.toR hpv hq;rw[e] at h3|-;simpa [Instr.loadAt,Instr.sureAddr,asAddr] using h3
     ·simp at hy
    rw[Sem.run_bind,h5];simp only[Result.andThen_ok];rw[Sem.run_bind,h2];rfl
   ·simp at h
  ·simp at h
variable {fn:Func}
theorem ZFM {P:Program} {x:Ctx} {w:World} {s:St} {a:Act} (hr:Rel x s a w) (h:Zr2 P fn s=some v):
  ∃val,(results fn a.tmps).run P w=.ok val w/\RV x v val:=by
 unfold Zr2 at h;have key:∀ws,ZeO P s fn.results.toList=some ws->∃vs,RWs x ws vs/\(fn.results.mapM (resG a.tmps)).run P w=.ok vs.toArray w:=by intro ws hws;obtain⟨vs,h1,h2⟩:=Zib (P:=P) hr _ _ hws;refine⟨vs,h1,?_⟩;rw[Array.mapM_eq_mapM_toList,Sem.run_map,h2];rfl
 have fin:∀vs:List Value,(fn.results.mapM (resG a.tmps)).run P w=.ok vs.toArray w->
   (results fn a.tmps).run P w=.ok (if h:vs.toArray.size=1 then vs.toArray[0] else .tuple vs.toArray) w:=by intro vs hvs;rw[ZFL,Sem.run_bind,hvs];rfl
 split at h
 ·rename_i y hy;simp only[oinj] at h;subst h;obtain⟨vs,h1,h2⟩:=key _ hy
  match vs,h1 with
  |[u],h1=>exact⟨u,by have:=fin [u] h2;simpa using this,h1.1⟩
 ·rename_i l hne hl;simp only[oinj] at h;subst h;obtain⟨vs,h1,h2⟩:=key _ hl;refine⟨.tuple vs.toArray,?_,vs,rfl,h1⟩;have:=fin vs h2;rw[this];have hlen:vs.toArray.size≠1:=by
   intro e
   match vs,h1 with
   |[u],h1=>
    match l,h1 with
    |[y],_=>exact hne y rfl
   |[],_=>simp at e
   |_::_::_,_=>simp at e
  rw[dif_neg hlen]
 ·simp at h
theorem ZJN {α:Type} (x:α):∀n,rep x n=List.replicate n x
 |0=>rfl
 |n+1=>by simp[rep,ZJN x n,List.replicate_succ]
theorem RVs.length {x:Ctx}:∀{l:List V} {vs:List Value},RVs x l vs->l.length=vs.length
 |[],[],_=>rfl
 |_::l,_::r,h=>by have:=RVs.length (l:=l) (vs:=r) h.2;simp only[List.length_cons,this]
 |[],_::_,h=>h.elim
 |_::_,[],h=>h.elim
theorem RVs.nth {x:Ctx}:∀{l:List V} {vs:List Value},RVs x l vs->∀(j:Nat) (a:V),nth l j=some a->∃v,vs[j]? =some v/\RV x a v
 |[],[],_,j,a,e=>by simp[S3.nth] at e
 |b::l,v::r,h,0,a,e=>by simp[S3.nth] at e;subst e;exact⟨v,by simp,h.1⟩
 |b::l,v::r,h,j+1,a,e=>by simp only[S3.nth] at e;simpa using RVs.nth h.2 j a e
 |[],_::_,h,_,_,_=>h.elim
 |_::_,[],h,_,_,_=>h.elim
theorem ZPO {x:Ctx} {w:World} (hm:MK x m w) (hv:RVs x vs args) (fn:Func):
  Rel x (Zan fn vs m) {tmps:=args.toArray++Array.replicate (fn.ntmps-args.toArray.size) undef,defers:=[]} w:=by
 have hl:=hv.length;refine⟨⟨?_,λi v h=> ?_⟩,hm,rfl⟩
 ·simp[Zan,ZJN,Zad,hl]
 ·simp only[Zan,ZJN,Zad] at h;rw[Zi] at h;by_cases hi:i<vs.length
  ·rw[Yp hi,<-Zi] at h;obtain⟨u,h1,h2⟩:=hv.nth i v h;have:(args.toArray++Array.replicate (fn.ntmps-args.toArray.size) undef).getD i undef=u:=by rw[YL,Array.getElem?_append_left (by simp;omega)];simp[h1]
   rw[this];exact h2
  ·rw[YT (by omega)] at h;have hv:v=Zmr:=by rw[List.getElem?_replicate] at h;split at h<;>simp at h;exact h.symm
   subst hv;have:(args.toArray++Array.replicate (fn.ntmps-args.toArray.size) undef).getD i undef=undef:=by rw[YL,Array.getElem?_append_right (by simp;omega)];rw[Array.getElem?_replicate];split<;>rfl
   rw[this];exact⟨[],rfl,Tv⟩
theorem ZaC {E:Env} (hE:Zbx E) {c:Code} (hf:E.P.funcs[f]? =some fn) (hb:fn.body=some c) (hl:Z3 E c)
  {x:Ctx} {w:World} (hm:MK x m w) (hv:RVs x vs args) {r:Res} (h:(Zo E fn vs m).val=some r):
  Calls E.P f args.toArray w (λe w'=>∃val x',e=.returned val/\RV x' r.v val/\MK x' r.m w'/\Ext x x'/\Step x w w'):=by
 unfold Zo at h;rw[hb] at h;simp only[RT.val_map] at h;refine calls_of_wp hf hb (Zcw hE (x0:=x) (w0:=w) c hl x _ _ w _ ⟨ZPO hm hv fn,Ext.refl x,Step.refl x w⟩ ?_);intro x' a' w' hr _;generalize hv:(ZbI E c (Zan fn vs m)).val=o at*;have fin:∀s' v,o.s=s'->Zr2 E.P fn s'=some v->ofSt s' none v=r->a'.defers=[]/\∃val,(results fn a'.tmps).run E.P w'=.ok val w'/\
   (∃val' x'',Ending.returned val=Ending.returned val'/\RV x'' r.v val'/\MK x'' r.m w'/\Ext x x''/\Step x w w'):=by intro s' v hs hrv hmm;subst hs;obtain⟨val,h1,h2⟩:=ZFM hr.r hrv;subst hmm;exact⟨hr.r.d,val,h1,val,x',rfl,h2,hr.r.m,hr.e,hr.t⟩
 unfold ZE6 at h;split at h
 ·rename_i hk;rw[hk];split at h
  ·rename_i u hu;simp only[oinj] at h;exact fin o.s u rfl hu h
  ·simp at h
 ·rename_i hk;rw[hk];split at h
  ·rename_i u hu;simp only[oinj] at h;exact fin o.s u rfl hu h
  ·simp at h
 ·simp at h
theorem ZBS {P:Program} {o:Out} (h:Keep (Zan fn vs m) o.s) {r:Res} (hr:ZE6 P fn o=some r):KeepC m r:=by
 have fin:∀v,ofSt o.s none v=r->KeepC m r:=by
  intro v hv;subst hv
  exact⟨h.bl,λb l hl=>by
   obtain⟨l',h1,h2,h3⟩:=h.box b l hl;exact⟨l',h1,h2,λj hj=>(h3 j hj).2⟩,h.gl,λi g hg=>by
   obtain⟨g',h1,h2,h3⟩:=h.stg i g hg
   exact⟨g',h1,h2,λhj=>(h3 hj).2⟩⟩
 unfold ZE6 at hr;split at hr
 ·split at hr
  ·simp only[oinj] at hr;exact fin _ hr
  ·simp at hr
 ·split at hr
  ·simp only[oinj] at hr;exact fin _ hr
  ·simp at hr
 ·simp at hr
theorem ZBU {E:Env} (hE:Zbx E) {c:Code} (hb:fn.body=some c) (hl:Z3 E c) (vs:List V) (m:Mem):(Zo E fn vs m).All (λr=>∀q,r=some q->KeepC m q):=by unfold Zo;rw[hb];exact RT.All.map ((Zao hE c _ hl).mono λo h q hq=>ZBS h hq)
theorem ZNS {E:Env} (hE:Zbx E) {c:Code} (hf:E.P.funcs[f]? =some fn) (hb:fn.body=some c) (hl:Z3 E c) (hcall:Zy E.P f):
  Za E.P f (.tree (Zo E fn)):=
 ⟨hcall,ZBU hE hb hl,λ_ _ _ hr _ _ _ _ hm hv=>ZaC hE hf hb hl hm hv hr⟩
def Ctx.own0 (w:World) (fz:Nat->Nat->Option Value):Ctx:={own:=λk=>w.heap.size<=k,M:=[],S:=[],fz:=fz}
theorem Zij {x:Ctx} {w:World} (hm:MK x m w):MK (Ctx.own0 w x.fz) ZdF w where
 fresh:=λ_ h=>h
 fz:=hm.fz
 ml:=rfl
 box:=λb l p h=>by simp[ZdF,Zn] at h
 mown:=λb p h=>by simp[Ctx.own0,Zn] at h
 inj:=λb b' p h=>by simp[Ctx.own0,Zn] at h
 sl:=rfl
 stg:=λi g s h=>by simp[ZdF,Zn] at h
 sown:=λi s p cap h=>by simp[Ctx.own0,Zn] at h
 sinj:=λi i' s s' p cap cap' h=>by simp[Ctx.own0,Zn] at h
theorem Zab {w:World} {fz:Nat->Nat->Option Value} (h:Step (Ctx.own0 w fz) w w'):Zb5 w w':=
 ⟨⟨h.size,λk hk=>h.block k (by simp[Ctx.own0];omega)⟩,h.os,h.tape,h.output⟩
theorem Ziu {x:Ctx} {w:World} {x2:Ctx} (hm:MK x m w) (hx:Ext (Ctx.own0 w x.fz) x2) (hz:∀b o v,x2.fz b o=some v->w'.cell? ⟨b,o,none⟩=some v) (hs:ZI w w'):
  MK {x with fz:=x2.fz} m w'/\Ext x {x with fz:=x2.fz}:=by
 have hold:∀b,b<w.heap.size->∀o,x2.fz b o=x.fz b o:=by
  intro b hb o;cases h:x2.fz b o with
  |some v=>
   rcases hx.new b o v h with e|e
   ·exact e.symm
   ·simp[Ctx.own0] at e;omega
  |none=>
   cases h':x.fz b o with
   |none=>rfl
   |some v=>rw[hx.fz b o v h'] at h;simp at h
 have hle:FzLe x {x with fz:=x2.fz}:=λb o v e=>hx.fz b o v e
 have hext:Ext x {x with fz:=x2.fz}:=by
  refine⟨rfl,λ_ _ e=>e,λ_ s e=>⟨s,e,SLe.refl s⟩,hx.fz,λb o v e=> ?_⟩;rcases hx.new b o v e with e|e
  ·exact .inl e
  ·exact .inr (hm.fresh b e)
 refine⟨?_,hext⟩;have h:=hm.old hs;refine⟨h.fresh,hz,h.ml,λb l p h1 h2=> ?_,λb p h1=>⟨(h.mown b p h1).1,λo=> ?_⟩,h.inj,h.sl,λi g s h1 h2=> ?_,h.sown,h.sinj⟩
 ·obtain⟨C,T,e1,e2⟩:=h.box b l p h1 h2;exact⟨C,T,e1,e2.mono hext⟩
 ·show x2.fz p o=none;rw[hold p (hm.M_lt h1) o];exact (hm.mown b p h1).2 o
 ·exact (h.stg i g s h1 h2).ctx hle λp cap hb o=>hold p (hm.S_lt h2 hb) o
