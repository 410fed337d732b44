import Derived.Test.YtghoimllhpjkjaaGreatBndM
set_option linter.unusedSimpArgs false
open Go Go.S3 Go.Proofs
set_option linter.unusedVariables false
set_option maxRecDepth 100000
namespace Go.Proofs.YtghoimllhpjkjaaGreat
noncomputable section
abbrev Z2J:List Sh:=[]
abbrev Z0S:Rs:=Rs.one (Sh.one R.bool)
def kKbT:RT (Option (Bool)):=
 let x1:LINT×Bool×Bool×Bool×Bool×Int×Int:=((false,false,false,false,false,false,false,false,false),false,false,false,false,0,0)
 let x2:List EVTT:=[(1,0,[62,7],x1),(1,0,[50,5,0,7],x1),(4,0,[],x1)]
 let x3:TC:=(1,(0,0,0,0,0,0,0,(false,false,false,false,false,false,false),0,0),false,false,false,0,false,false,false,false,false,false,false)
 let x4:=Zdk x3 x2
 let x5:Nat:=List.length x4
 let x6:= !iN x5==3
 let x7:=Ze 1 x5
 let x8:=x6||x7
 let x9:= !x8
 let x10:TR:=(R.get Zt x4 1).2.1
 let x11:= !x10.1==7
 let x12:=x6||(x11||x7)
 let x13:= !x12
 let x14:= !x10.2.2.2.2.2.2.2.2.2==5
 let x15:=x6||(x11||(x14||Ze 2 x5))
 let p1:=(!(R.get Zt x4 2).2.1.2.2.2.2.2.2.2.2.2==0)::x14::x11::x6::(!x15)::x13::x9::[]
 .br (ZUo x2) (.br (ZI4 [(0,65535,true,0)] [] x2) (.br (orR p1 (smC (memX x3 [(0,65535,true,0)] [] x2))) (.br (x9||(x13||x15)) (.br (x9||x12) (.br (x8) (.Lf (some (true))) (.Lf none)) (.Lf none)) (.Lf none)) (.Lf none)) (.Lf none)) (.Lf none)
def kKb:Bool:=getO Z0S.Df (kKbT).val
def kKbC:Bool:=okB (kKbT).val
def kKbE:En:=Zg Z2J Z0S (λa=>some (kKbC)) (λa=>kKb)
theorem ZYb:Za Tryz.prog 45 kKbE:=
 pureP 31 [(39,ZGf),(56,Zz3),(58,ZjC)] [] Z2J Z0S ⟨ZJi,ZEP,Zie,Tv⟩ Tryz.func45 Tryz.call45 trivial (t:=λa=>kKbT)
end
end Go.Proofs.YtghoimllhpjkjaaGreat
open Go Go.S3 Go.Proofs Go.Proofs.Cells
namespace Go.Proofs.YtghoimllhpjkjaaGreat
noncomputable section
theorem lvalB {t:RT (Option Bool)} (h:t.val=some true):okB t.val=true/\getO false t.val=true:=by rw[h];exact⟨rfl,rfl⟩
theorem ZSk:kKbC=true/\kKb=true:=lvalB (t:=kKbT) (by kernel_rfl)
theorem Zbt (e:EVTT) (c:TC) (l:LINT):Zd6 e c l=(e.1,e.2.1,e.2.2.1,l,c.2.2.2.2.2.2.2.1,c.2.2.2.2.2.2.1,c.2.2.2.2.2.2.2.2.2.1,c.2.2.2.2.2.2.2.2.1,e.2.2.2.2.2.2.2.2):=rfl
def EvB (ev:List EVTT) (n:Nat):Prop:=∀e∈ev,e.2.2.1.length<=n
variable {ev:List EVTT} {n:Nat}
theorem EvB.app (h:EvB ev n) {e:EVTT} (he:e.2.2.1.length<=n):EvB (ev++[e]) n:=λx hx=>by
 rcases Yaa.1 hx with hx|hx
 ·exact h x hx
 ·rw[YaO] at hx;subst hx;exact he
theorem EvB.mono {m:Nat} (h:EvB ev n) (hn:n<=m):EvB ev m:=λe he=>YT (h e he) hn
theorem ZLZ (c:CORT) (t d:Int):(ZcW c t d).length<=c.2.2.1.length+1:=by unfold ZcW;cases t==3<;>simp
theorem evE_b (h:EvB ev n) (c:CORT) (hc:c.2.2.1.length<=n) (l:LINT) (d:Int) (cell:Cell) (moved:Bool):EvB (evE ev c l d cell moved) (n+1):=by
 have h1:=h.mono (YaD n);have h2:=ZLZ c (ZS c) d;have e1:EvB (bif (finS c l d).2 then ev++[Zd6 (Zf6 c.2.1,c.2.1,ZcW c (ZS c) d,Zd4,false,false,false,false,0,0) (Zj c.1 l) l] else ev) (n+1):=by
  cases (finS c l d).2
  ·exact h1
  ·exact h1.app (by rw[Zbt];show (ZcW c (ZS c) d).length<=_;omega)
 have e2:EvB (bif ZcG c then ev++[Zd6 (6,c.2.1,c.2.2.1,Zd4,false,false,false,false,0,0) c.1 l] else ev) (n+1):=by
  cases ZcG c
  ·exact h1
  ·exact h1.app (by rw[Zbt];show c.2.2.1.length<=_;omega)
 unfold evE;dsimp only;cases l.2.2.1
 ·cases moved
  ·exact e1
  ·exact e1.app (Yu _)
 ·exact e2.app (by rw[Zbt];exact Yu _)
theorem ZYf (b:BRDT) (Z9:TC):∀(l:List INPT) (st:STT) (n:Nat),RunOk b st n->EvB st.2.2.2.1 n->EvB (Za0 b Z9 st l).2.2.2.1 (n+l.length)
 |[],st,n,h,he=>he
 |i::l,st,n,h,he=>by have:=ZYf b Z9 l (ZaC b Z9 st i) (n+1) (ZFY b Z9 st i n h) (evE_b he st.1.1 h.k _ _ _ _);rw[show n+(i::l).length=n+1+l.length by simp;omega];exact this
theorem Z1O (b:BRDT) (l:List INPT) (hg:smG b.2.1=true) (hm:b.2.2.2.2.2.2.length<=100000) (hl:l.length<=1000):
  (Zgh b l).1.2.2.1.length<=2001/\EvB (Zgh b l).1.2.2.1 1000/\(Zgh b l).1.2.2.2.1.length<=2001:=by
 obtain⟨_,_,h0⟩:=Zsh b hg hm;unfold Zgh;cases hx:(wNew b).2 !=0
 ·have h0:=(h0 (by simpa using hx)).1;have hf:=Zwm b (Z3 b) l (ZbD b) 0 h0;have hb:=ZYf b (Z3 b) l (ZbD b) 0 h0 (λe he=>by simp[ZbD] at he);rw[Yy] at hf hb;have h1:=hf.ev;have h2:=hf.k;have h3:=hf.cp;have hb:=hb.mono hl;show (endS (Z3 b) (Za0 b (Z3 b) (ZbD b) l)).2.2.1.length<=2001/\EvB (endS (Z3 b) (Za0 b (Z3 b) (ZbD b) l)).2.2.1 1000/\(endS (Z3 b) (Za0 b (Z3 b) (ZbD b) l)).2.2.2.1.length<=2001;unfold endS;cases ZcG (Za0 b (Z3 b) (ZbD b) l).1.1
  ·exact⟨by simp only[Yb];omega,hb,by simp only[Yb];omega⟩
  ·refine⟨by simp;omega,hb.app (by show (Za0 b (Z3 b) (ZbD b) l).1.1.2.2.1.length<=_;omega),by simp;omega⟩
 ·exact⟨by simp,λe he=>by simp at he,by simp⟩
def brdK (n:List Int) (h:Bool):BRDT:=((Zah (n,0)).1.1,(Zah (n,0)).1.2.1,(Zah (n,0)).1.2.2.1,(Zah (n,0)).1.2.2.2.1,(bif !h then 240 else (Zah (n,0)).1.2.2.2.2.1),(Zah (n,0)).1.2.2.2.2.2)
def scrK (n:List Int):List INPT:=Zbg (Zc2 (Zah (n,0)).2 90).1
theorem ZN8 (n:List Int) (h:Bool):ZIh n h=true/\Zwb n h=(brdK n h,(Zgh (brdK n h) (scrK n)).1)/\smG (brdK n h).2.1=true/\(brdK n h).2.2.2.2.2.2.length<=200/\(scrK n).length<=90/\((brdK n h).1=1\/(brdK n h).1=2):=by
 obtain⟨c1,b1,⟨s1,bs1,hr⟩,hch,_,l,hl,hi⟩:=Zy4 (ZSM n) (by omega);obtain⟨c2,_,l2⟩:=ZD7 bs1 (by omega);obtain⟨c3,b3,l3,_⟩:=ZLw b1 (by omega) 90 (by omega);have hg:smG (brdK n h).2.1=true:=by show smG (Zah (n,0)).1.2.1=true;rw[hr];exact smGb (by omega)
 have hm:(brdK n h).2.2.2.2.2.2.length<=200:=by show (Zah (n,0)).1.2.2.2.2.2.2.length<=200;rw[hi];exact YT (ZbU l) hl
 have hd:=(Zqz (Zc2 (Zah (n,0)).2 90).1 (by have:(Zc2 (Zah (n,0)).2 90).1.length<=4*90:=l3;omega)).2;have hsl:(scrK n).length<=90:=by unfold scrK;rw[hd];have:(Zc2 (Zah (n,0)).2 90).1.length<=4*90:=l3;omega
 obtain⟨w1,w2⟩:=ZYw (brdK n h) (Zc2 (Zah (n,0)).2 90).1 hg (by omega) (by have:(Zc2 (Zah (n,0)).2 90).1.length<=4*90:=l3;omega);have c3':Zhg (Zah (n,0)).2 90=true:=c3;have hv:(Zzu n h).val=some (brdK n h,(Zgh (brdK n h) (scrK n)).1):=by have e:((Zah (n,0)).1.1,(Zah (n,0)).1.2.1,(Zah (n,0)).1.2.2.1,(Zah (n,0)).1.2.2.2.1,(bif !h then 240 else (Zah (n,0)).1.2.2.2.2.1),(Zah (n,0)).1.2.2.2.2.2)=brdK n h:=rfl;simp only[Zzu,RT.val,c1,c3',e,w1,w2,Yh,Ya];rfl
 exact⟨by simp only[ZIh,hv];rfl,by simp only[Zwb,hv,getO],hg,hm,hsl,hch⟩
end
end Go.Proofs.YtghoimllhpjkjaaGreat
open Go.IntKind (u8 u16 i64)
namespace Go.Proofs.YtghoimllhpjkjaaGreat
noncomputable section
def cyA:TC->List EVTT->List TY
 |_,[]=>[]
 |c,e::l=>Zp c e++cyA (Zan c e) l
theorem Zfg (c:TC) (l:List EVTT) (e:EVTT):Zai c (l++[e])=Zan (Zai c l) e:=by unfold Zai;rw[Yat];rfl
theorem ZgT:∀(l:List EVTT) (c:TC) (e:EVTT),cyA c (l++[e])=cyA c l++Zp (Zai c l) e
 |[],c,e=>by simp[cyA,Zai]
 |x::l,c,e=>by have:=ZgT l (Zan c x) e;simp only[List.cons_append,cyA,this,Yn];rfl
theorem Zed:∀(l:List EVTT) (c:TC) (e:EVTT),Zdk c (l++[e])=Zdk c l++[Zan (Zai c l) e]
 |[],c,e=>rfl
 |x::l,c,e=>by have:=Zed l (Zan c x) e;simp only[List.cons_append,Zdk,this];rfl
theorem Zkk (c:TC) (l:List EVTT):ZpA c (Zdk c l)=Zai c l:=by
 rcases Y7 l with rfl|⟨l',e,rfl⟩
 ·rfl
 ·rw[Y8,Zed,Zfg];simp[ZpA]
def cyI (l:List ITMT):List TY:=(l.filter λy=>y.1==1&&decide (y.2.2.2.1>=3)).map λy=>y.2.1
theorem ZbA (l:List ITMT) (y:ITMT):cyI (l++[y])=cyI l++(bif y.1==1&&decide (y.2.2.2.1>=3) then [y.2.1] else []):=by unfold cyI;rw[List.filter_append,List.map_append];cases h:y.1==1&&decide (y.2.2.2.1>=3)<;>simp[List.filter,h]
def unl (c:TC):Int×(Int×Int×Int×Int×Int×Int×Int×(Bool×Bool×Bool×Bool×Bool×Bool×Bool)×Int×Int)×Bool×Bool×Bool×Int×Bool×Bool×Bool:=(c.1,c.2.1,c.2.2.1,c.2.2.2.1,c.2.2.2.2.1,c.2.2.2.2.2.1,c.2.2.2.2.2.2.2.2.2.2)
theorem Zxd (c:TC) (l:LINT):unl (Zj c l)=unl c:=by unfold Zj ZB7;simp only[RT.val];cases !rOn c.1<;>rfl
theorem ZWy (c:TC):Zi c 0=c:=rfl
variable {a b:TC}
theorem ZNi (h:unl a=unl b) (s:Int):unl (Zi a s)=unl (Zi b s):=by
 unfold Zi ZfB;simp only[RT.val];cases decide (s<1)||decide (s>5)
 ·simp only[unl,pinj] at h|-;obtain⟨h1,h2,h3,h4,h5,h6,h7⟩:=h;simp only[h1,h2,h3,h4,h5,h6,h7,and_self];simp only[Yb,unl,h1,h2,h3,h4,h5,h6,h7,and_self]
 ·exact h
theorem ZOl (h1:a.1=b.1) (h2:a.2.1=b.2.1):ZN a=ZN b:=by unfold ZN ZjZ;simp only[RT.val,h1,h2]
theorem ZTx (c:TC) (s:Int):(Zi c s).1=c.1/\(Zi c s).2.1=c.2.1:=by unfold Zi ZfB;simp only[RT.val];cases decide (s<1)||decide (s>5)<;>exact⟨rfl,rfl⟩
theorem ZjM (h:unl a=unl b):a.1=b.1/\a.2.1=b.2.1:=by simp only[unl,pinj] at h;exact⟨h.1,h.2.1⟩
theorem ZWq (h1:a.1=b.1) (h2:a.2.1=b.2.1) (inj:Bool) (g:List Int) (i:InsT):ZfS a inj g i=ZfS b inj g i:=by unfold ZfS Zcf Zbk opC ZbQ popX ZK ZdA ZgM Zfm pcOf spOf;simp only[h1,h2]
theorem Zi2 (h:unl a=unl b) (s:Int) (g:List Int):Zh a s g=Zh b s g:=by
 obtain⟨h1,h2⟩:=ZjM h;have hp:ZeC a s g=ZeC b s g:=by
  unfold ZeC pcOf ZbQ spOf;simp only[h1,h2];cases Zc s
  ·cases g with
   |nil=>rfl
   |cons o g=>simp only[Yb,ZWq h1 h2]
  ·rfl
 unfold Zh;rw[hp]
theorem ZlN (c:TC) (s:Int):(Zh c s []).2=true:=by unfold Zh ZeC pick;cases Zc s<;>rfl
variable {p q:TC}
theorem ZEl (h:unl p=unl q) (e:EVTT) (he:e.2.2.2.2.1=q.2.2.2.2.2.2.2.1/\e.2.2.2.2.2.1=q.2.2.2.2.2.2.1/\e.2.2.2.2.2.2.1=q.2.2.2.2.2.2.2.2.2.1/\e.2.2.2.2.2.2.2.1=q.2.2.2.2.2.2.2.2.1):ZeK p e=q:=by obtain⟨e1,e2,e3,e4⟩:=he;simp only[unl,pinj] at h;obtain⟨h1,h2,h3,h4,h5,h6,h7⟩:=h;unfold ZeK;rw[e1,e2,e3,e4,h1,h2,h3,h4,h5,h6,h7]
theorem ZEH (c:TC) (s:Int):∀(r g:List Int) (b:Int),(cyX c s g r).length=r.length->(Zh c s (g++r)).2=true->cyX c s g (r++[b])=cyX c s g r++[ZeJ c (Zh c s (g++r)).1 b]/\(cyX c s g (r++[b])).length=(r++[b]).length
 |[],g,b,_,h=>by rw[Yw] at h|-;simp only[List.nil_append,cyX,h,Ya,List.length_cons,List.length_nil,and_self]
 |x::r,g,b,hl,h=>by
  simp only[List.cons_append,cyX] at hl|-;cases hn:(Zh c s g).2
  ·rw[hn] at hl;simp at hl
  ·rw[hn] at hl;simp only[Ya,List.length_cons] at hl|-;have h':(Zh c s (g++[x]++r)).2=true:=by rw[Yn];exact h
   obtain⟨q1,q2⟩:=ZEH c s r (g++[x]) b (by omega) h';rw[q1] at q2|-;rw[Yn] at q2|-;exact⟨rfl,by simpa using q2⟩
structure Sem (s0:TC) (c:CORT) (ev:List EVTT) (cp:List TC) (it:List ITMT):Prop where
 hcp:cp=Zdk s0 ev
 un:unl c.1=unl (Zi (Zai s0 ev) c.2.1)
 nx:1<=c.2.2.2.2.1/\c.2.2.2.2.1<=9
 rest:c.2.1=0->c.1.2.2.2.2.1=true->(c.2.2.2.2.1=8\/c.2.2.2.2.1=9)/\c.2.2.1=[]
 nine:c.2.2.2.2.1=9->c.2.1=0/\c.1.2.2.2.2.1=true
 cy:(c.2.2.2.2.1<4\/6<c.2.2.2.2.1)->c.2.2.2.1=(Zh c.1 c.2.1 c.2.2.1).1/\(Zh c.1 c.2.1 c.2.2.1).2=true
 hit:cyI it=cyA s0 ev++cyX (Zi (Zai s0 ev) c.2.1) c.2.1 [] c.2.2.1
 ln:(cyX (Zi (Zai s0 ev) c.2.1) c.2.1 [] c.2.2.1).length=c.2.2.1.length
 pt:(c.2.2.2.2.1=2\/c.2.2.2.2.1=3\/c.2.2.2.2.1=7)->∃(l:List ITMT) (y:ITMT),it=l++[y]/\y.1=1/\y.2.2.2.1=(bif c.2.2.2.2.1==2 then 1 else 2)
 ps:4<=c.2.2.2.2.1->c.2.2.2.2.1<=6->∃(l:List ITMT) (y:ITMT),it=l++[y]/\y.1=1/\y.2.2.2.1=c.2.2.2.2.1-1/\y.2.1=c.2.2.2.1
theorem ZYP (h:unl a=unl b):a.2.2.2.2.1=b.2.2.2.2.1:=by simp only[unl,pinj] at h;exact h.2.2.2.2.1
theorem ZpM (c:TC) (s:Int) (h:Bool):(idlX c s h=8\/idlX c s h=9\/idlX c s h=1)/\(idlX c s h=9->s=0/\c.2.2.2.2.1=true)/\(s=0->c.2.2.2.2.1=true->idlX c s h=8\/idlX c s h=9):=by
 unfold idlX;cases h
 ·cases hh:c.2.2.2.2.1&&s==0
  ·simp only[Yb];refine⟨.inr (.inr trivial),λe=>by omega,λe1 e2=> ?_⟩;rw[e1,e2] at hh;simp at hh
  ·simp only[Ya,Yb];simp at hh;exact⟨.inr (.inl trivial),λ_=>⟨hh.2,hh.1⟩,λ_ _=>.inr trivial⟩
 ·simp only[Ya];exact⟨.inl trivial,λe=>by omega,λ_ _=>.inl trivial⟩
variable {s0:TC} {c:CORT} {ev:List EVTT} {cp:List TC} {it:List ITMT}
theorem ZUg (h:Sem s0 c ev cp it) (e:EVTT) (h1:Zan (Zai s0 ev) e=Zai s0 ev) (h2:Zp (Zai s0 ev) e=[]):
  Sem s0 c (ev++[e]) (cp++[ZpA s0 cp]) it:=by
 have hl:Zai s0 (ev++[e])=Zai s0 ev:=by rw[Zfg,h1]
 refine⟨by rw[h.hcp,Zed,Zkk,h1],by rw[hl];exact h.un,h.nx,h.rest,h.nine,h.cy,by rw[hl,ZgT,h2,Yw];exact h.hit,by rw[hl];exact h.ln,h.pt,h.ps⟩
theorem Zzs (s:Int):ZgS (Zf6 s)=true:=by
 unfold Zf6 ZMt ZgS;simp only[RT.val];cases Zc s
 ·cases s==5<;>rfl
 ·rfl
theorem ZN0 (p:TC) (s:Int) (g:List Int) (h:Bool) (l:LINT) (hcp:cp=Zdk s0 ev) (un:unl p=unl (Zi (Zai s0 ev) s)) (hh:s=0->p.2.2.2.2.1=true->False)
  (hit:cyI it=cyA s0 ev++cyX (Zi (Zai s0 ev) s) s [] g) (ln:(cyX (Zi (Zai s0 ev) s) s [] g).length=g.length):
  Sem s0 (endX p s g h l) (bif (Zh p s g).2 then ev else ev++[Zd6 (Zf6 s,s,g,Zd4,false,false,false,false,0,0) p l]) (bif (Zh p s g).2 then cp else cp++[finX p s g l]) it:=by
 unfold endX;dsimp only;cases hn:(Zh p s g).2
 ·simp only[Yb];generalize hq:finX p s g l=q;generalize ZdN q l=k;generalize he:Zd6 (Zf6 s,s,g,Zd4,false,false,false,false,0,0) p l=e;have hpat:ZeK (Zi (Zai s0 ev) s) e=p:=ZEl un.symm e (by rw[<-he,Zbt];exact⟨rfl,rfl,rfl,rfl⟩);have ha:Zan (Zai s0 ev) e=q:=by
   have e1:e.1=Zf6 s:=by rw[<-he,Zbt]
   have e2:e.2.1=s:=by rw[<-he,Zbt]
   have e3:e.2.2.1=g:=by rw[<-he,Zbt]
   have e4:e.2.2.2.1=l:=by rw[<-he,Zbt]
   unfold Zan;rw[e1,Zzs,e2,hpat,e3,e4];exact hq
  have hc:Zp (Zai s0 ev) e=cyX (Zi (Zai s0 ev) s) s [] g:=by
   have e1:e.1=Zf6 s:=by rw[<-he,Zbt]
   have e2:e.2.1=s:=by rw[<-he,Zbt]
   have e3:e.2.2.1=g:=by rw[<-he,Zbt]
   unfold Zp cycE;rw[e1,Zzs,e2,e3];rfl
  have hl:Zai s0 (ev++[e])=q:=by rw[Zfg,ha]
  obtain⟨i1,i2,i3⟩:=ZpM (Zi q k) k h;refine⟨by rw[hcp,Zed,ha],by rw[hl],?_,λa b=>⟨i3 a b,rfl⟩,i2,λ_=>⟨rfl,ZlN _ _⟩,?_,by rw[hl];rfl,λe=> ?_,λe1 e2=> ?_⟩
  ·show 1<=idlX (Zi q k) k h/\idlX (Zi q k) k h<=9;omega
  ·rw[hl,ZgT,hc,hit];show _=_++[];rw[Yw]
  ·exfalso;replace e:idlX (Zi q k) k h=2\/idlX (Zi q k) k h=3\/idlX (Zi q k) k h=7:=e;omega
  ·exfalso;replace e1:4<=idlX (Zi q k) k h:=e1;replace e2:idlX (Zi q k) k h<=6:=e2;omega
 ·simp only[Ya];obtain⟨i1,i2,i3⟩:=ZpM p s h;refine⟨hcp,un,?_,λa b=>(hh a b).elim,λe=>((hh (i2 e).1 (i2 e).2)).elim,λ_=>⟨rfl,hn⟩,hit,ln,λe=> ?_,λe1 e2=> ?_⟩
  ·show 1<=idlX p s h/\idlX p s h<=9;omega
  ·exfalso;replace e:idlX p s h=2\/idlX p s h=3\/idlX p s h=7:=e;omega
  ·exfalso;replace e1:4<=idlX p s h:=e1;replace e2:idlX p s h<=6:=e2;omega
variable {k:Int}
theorem Zey {l:List ITMT} {n:ITMT} (hk:k≠1) (hn:n.1=k):cyI (ZzA l k c n)=cyI l:=by
 have h1:∀y:ITMT,y.1=k->∀l,cyI (l++[y])=cyI l:=λy hy l=>by
  rw[ZbA];have:(y.1==1)=false:=by rw[hy];simpa using hk
  rw[this];simp
 unfold ZzA;cases hl:l.getLast? with
 |none=>exact h1 n hn l
 |some y=>
  simp only;obtain⟨l',rfl⟩:∃l',l=l'++[y]:=by
   rcases Y7 l with rfl|⟨l',z,rfl⟩
   ·simp at hl
   ·rw[Y8] at hl|-;simp at hl;subst hl;exact⟨l',rfl⟩
  cases hs:ZN6 y k c
  ·exact h1 n hn _
  ·have hy:y.1=k:=by simp[ZN6] at hs;exact hs.1
   simp only[Ya,Za6];rw[h1 (Z0J y) hy,h1 y hy]
theorem Zk4 (c:CORT) (t d:Int) (h:(t==3)=false):Zab c t d=c.2.2.2.1:=by unfold Zab Zil;simp only[RT.val,h,Yb]
theorem Z1j (c:CORT) (d:Int) (p:TC) (h:p.1=c.1.1):Zab c 3 d=Zbr p c.2.2.2.1 d:=by unfold Zab Zil Zbr;rw[h];rfl
theorem ZxH (h:p.1=q.1) (x:TY) (d:Int):Zbr p x d=Zbr q x d:=by unfold Zbr;rw[h]
theorem Zry (p a:TC) (h:a.1=p.1) (x:TY) (d:Int):ZeJ a x (Zbr p x d).2.2.1=Zbr p x d:=by unfold ZeJ Zbr;rw[h];cases ZbC x.1<;>rfl
theorem ZIx (ev:List EVTT) (c:CORT) (l:LINT) (d:Int) (cell:Cell) (hr:l.2.2.1=false):evE ev c l d cell false=bif (finS c l d).2 then ev++[Zd6 (Zf6 c.2.1,c.2.1,ZcW c (ZS c) d,Zd4,false,false,false,false,0,0) (Zj c.1 l) l] else ev:=by unfold evE;rw[hr];rfl
theorem ZV9 (cp:List TC) (s0:TC) (c a:CORT) (l:LINT) (d:Int) (hr:l.2.2.1=false):evC cp s0 c a l d false=bif (finS c l d).2 then cp++[(finS c l d).1] else cp:=by unfold evC;rw[hr];rfl
theorem itN (y:ITMT) (n:Int) (h:y.2.2.2.1=n) (h1:0<=n) (h2:n<=100):IntKind.wrap .i64 (y.2.2.2.1+1)=n+1:=by rw[h,wrap_i64 _ (by omega) (by omega)]
theorem ZUh (h:Sem s0 c ev cp it) (l:LINT) (d:Int) (cell:Cell) (hr:l.2.2.1=false):
  Sem s0 (ZD c l d) (evE ev c l d cell false) (evC cp s0 c (ZD c l d) l d false) (Zdu it c (Zab c (ZS c) d) (ZS c)):=by
 rw[ZIx _ _ _ _ _ hr,ZV9 _ _ _ _ _ _ hr];obtain⟨hcp,un,nx,rest,nine,cy,hit,ln,pt,ps⟩:=h;obtain⟨p0,s,g,x,n,hd⟩:=c;simp only at un nx rest nine cy hit ln pt ps;have hst:ZS (p0,s,g,x,n,hd)=n:=by
  have h1:(decide (n<1)||decide (n>9))=false:=by simp;omega
  simp only[ZS,ZmT,RT.val,h1,Yb]
 have hsx:Zao n=n:=by
  have h1:(decide (n<1)||decide (n>9))=false:=by simp;omega
  simp only[Zao,h1,Yb]
 have hup:=Zxd p0 l;have hchip:(Zj p0 l).1=p0.1:=(ZjM hup).1;have hun:unl (Zj p0 l)=unl (Zi (Zai s0 ev) s):=hup.trans un;have hhl:(Zj p0 l).2.2.2.2.1=p0.2.2.2.2.1:=ZYP hup;have hnxt:∀g,Zh (Zj p0 l) s g=Zh p0 s g:=λg=>Zi2 hup s g
 rw[hst];have hcases:n=1\/n=2\/n=3\/n=4\/n=5\/n=6\/n=7\/n=8\/n=9:=by omega
 have hnf:∀k:Int,n=k->Zgu k x=false->(k==3)=false->(finS (p0,s,g,x,n,hd) l d).2=false:=λk hk he h3=>by
  unfold finS rdS;have:(n !=3)=true:=by rw[hk];simpa [bne] using h3
  simp only[hr,this,hk▸he,Ya,Yb,Yk]
 have sem456:∀k:Int,(k=4\/k=5\/k=6)->n=k->Sem s0 (ZD (p0,s,g,x,n,hd) l d) (bif (finS (p0,s,g,x,n,hd) l d).2 then ev++[Zd6 (Zf6 s,s,ZcW (p0,s,g,x,n,hd) n d,Zd4,false,false,false,false,0,0) (Zj p0 l) l] else ev)
   (bif (finS (p0,s,g,x,n,hd) l d).2 then cp++[(finS (p0,s,g,x,n,hd) l d).1] else cp) (Zdu it (p0,s,g,x,n,hd) (Zab (p0,s,g,x,n,hd) n d) n):=by
  intro k hk e;subst e;obtain⟨l',y,rfl,y1,yN,yc⟩:=ps (by rcases hk with rfl|rfl|rfl<;>decide) (by rcases hk with rfl|rfl|rfl<;>decide);clear pt ps;have b1:(n==1)=false:=by rcases hk with rfl|rfl|rfl<;>rfl
  have b2:(n==2)=false:=by rcases hk with rfl|rfl|rfl<;>rfl
  have b3:(n==3)=false:=by rcases hk with rfl|rfl|rfl<;>rfl
  have b7:(n==7)=false:=by rcases hk with rfl|rfl|rfl<;>rfl
  have b8:(n==8)=false:=by rcases hk with rfl|rfl|rfl<;>rfl
  have b9:(n==9)=false:=by rcases hk with rfl|rfl|rfl<;>rfl
  have b10:(n==10)=false:=by rcases hk with rfl|rfl|rfl<;>rfl
  have b3':(n !=3)=true:=by rcases hk with rfl|rfl|rfl<;>rfl
  have hi:Zdu (l'++[y]) (p0,s,g,x,n,hd) (Zab (p0,s,g,x,n,hd) n d) n=l'++[(y.1,x,y.2.2.1,n,y.2.2.2.2)]:=by
   rw[Zk4 _ _ _ b3];have hkn:Zlc n=1:=by unfold Zlc;simp only[b8,b9,b10,Yb]
   have hcn:cycN (p0,s,g,x,n,hd) n x=x:=by unfold cycN;simp only[b8,b9,b10,Yb]
   unfold Zdu;simp only[hkn,hcn,b1,b7];show ZdE (l'++[y]) _=_;rw[Za6,itN y (n-1) yN (by omega) (by omega)];simp
  rw[hi];have hit':cyI (l'++[(y.1,x,y.2.2.1,n,y.2.2.2.2)])=cyA s0 ev++cyX (Zi (Zai s0 ev) s) s [] g:=by rw[<-hit,ZbA,ZbA];have q1:decide (n>=3)=true:=Yq (by omega);have q2:decide (y.2.2.2.1>=3)=true:=Yq (by omega);simp only[y1,q1,q2,yc]
  have hno:s=0->(Zj p0 l).2.2.2.2.1=true->False:=λa b=>by have:=rest a (by rw[<-hhl];exact b);omega
  have hby:ZcW (p0,s,g,x,n,hd) n d=g:=by unfold ZcW;simp only[b3,Yb]
  have hrd:rdS (p0,s,g,x,n,hd) n d=(x,g):=by unfold rdS;simp only[b3',Ya]
  have hen:Zgu n x= !(decide (n<x.2.2.2)&& !(n==6)):=by
   unfold Zgu ZkP;rcases hk with rfl|rfl|rfl
   ·by_cases q:(4:Int)<x.2.2.2
    ·have q1:decide (x.2.2.2<=4)=false:=Yv (by omega);have q2:decide ((4:Int)<x.2.2.2)=true:=Yq q;simp only[RT.val,q2];exact q1
    ·have q1:decide (x.2.2.2<=4)=true:=Yq (by omega);have q2:decide ((4:Int)<x.2.2.2)=false:=Yv q;simp only[RT.val,q2];exact q1
   ·by_cases q:(5:Int)<x.2.2.2
    ·have q1:decide (x.2.2.2<=5)=false:=Yv (by omega);have q2:decide ((5:Int)<x.2.2.2)=true:=Yq q;simp only[RT.val,q2];exact q1
    ·have q1:decide (x.2.2.2<=5)=true:=Yq (by omega);have q2:decide ((5:Int)<x.2.2.2)=false:=Yv q;simp only[RT.val,q2];exact q1
   ·cases decide ((6:Int)<x.2.2.2)<;>rfl
  have hclk:ZD (p0,s,g,x,n,hd) l d=bif decide (n<x.2.2.2)&& !(n==6) then (Zj p0 l,s,g,x,n+1,hd) else endX (Zj p0 l) s g hd l:=by unfold ZD;simp only[hr,hsx,b1,b2,b3,b7,b8,b9,Yag,Yb]
  cases hle:decide (n<x.2.2.2)&& !(n==6)
  ·have hck:ZD (p0,s,g,x,n,hd) l d=endX (Zj p0 l) s g hd l:=by rw[hclk,hle];rfl
   have hf:finS (p0,s,g,x,n,hd) l d=bif (Zh (Zj p0 l) s g).2 then (ZwJ,false) else (finX (Zj p0 l) s g l,true):=by unfold finS;simp only[hr,hrd,hen,hle,Ya,Yb,Yf,Yk]
   have:=ZN0 (Zj p0 l) s g hd l hcp hun hno hit' ln;rw[hck,hf,hby];cases hn:(Zh (Zj p0 l) s g).2
   ·rw[hn] at this;exact this
   ·rw[hn] at this;exact this
  ·have hf:(finS (p0,s,g,x,n,hd) l d).2=false:=by unfold finS;simp only[hr,hrd,hen,hle,Ya,Yb,Yf,Yk]
   have hck:ZD (p0,s,g,x,n,hd) l d=(Zj p0 l,s,g,x,n+1,hd):=by rw[hclk,hle];rfl
   have h6:n≠6:=by simp at hle;exact hle.2
   rw[hck,hf];refine⟨hcp,hun,by show 1<=n+1/\n+1<=9;omega,λa b=>(hno a b).elim,λe=>by replace e:n+1=9:=e;omega,λe=>by replace e:n+1<4\/6<n+1:=e;omega,hit',ln,λe=>by replace e:n+1=2\/n+1=3\/n+1=7:=e;omega,λ_ _=>⟨l',_,rfl,y1,?_,rfl⟩⟩;show n=n+1-1;omega
 rcases hcases with e|e|e|e|e|e|e|e|e
 ·--T1
  subst e;rw[hnf 1 rfl rfl rfl];have hck:ZD (p0,s,g,x,1,hd) l d=(Zj p0 l,s,g,x,2,hd):=by unfold ZD;simp only[hr,hsx];rfl
  rw[hck,Zk4 _ _ _ rfl];refine⟨hcp,hun,⟨(by decide:(1:Int)<=2),(by decide:(2:Int)<=9)⟩,λa b=> ?_,λe=>by simp at e,λ_=>by rw[hnxt];exact cy (by omega),?_,ln,λ_=>⟨it,_,rfl,rfl,rfl⟩,λe=>by simp at e⟩
  ·have:=rest a (by rw[<-hhl];exact b);omega
  ·show cyI (it++[_])=_;rw[ZbA];show cyI it++[]=_;rw[Yw];exact hit
 ·--T2
  subst e;rw[hnf 2 rfl rfl rfl];obtain⟨l',y,rfl,y1,yN⟩:=pt (.inl rfl);have hi:Zdu (l'++[y]) (p0,s,g,x,2,hd) (Zab (p0,s,g,x,2,hd) 2 d) 2=l'++[(y.1,x,y.2.2.1,2,y.2.2.2.2)]:=by rw[Zk4 _ _ _ rfl];show ZdE (l'++[y]) _=_;rw[Za6,itN y 1 yN (by decide) (by decide)];rfl
  have hcy:cyI (l'++[(y.1,x,y.2.2.1,2,y.2.2.2.2)])=cyI (l'++[y]):=by rw[ZbA,ZbA];have:y.2.2.2.1=1:=yN;rw[this,y1];rfl
  rw[hi];have hno:s=0->p0.2.2.2.2.1=true->False:=λa b=>by have:=rest a b;omega
  have hck:ZD (p0,s,g,x,2,hd) l d=(Zj p0 l,s,g,x,bif l.1|| !Z1 x.1 then 3 else 7,bif l.1|| !Z1 x.1 then l.2.1 else hd):=by unfold ZD;simp only[hr,hsx];show (bif l.1|| !Z1 x.1 then _ else _)=_;cases l.1|| !Z1 x.1<;>rfl
  rw[hck];have hk:(bif l.1|| !Z1 x.1 then (3:Int) else 7)=3\/(bif l.1|| !Z1 x.1 then (3:Int) else 7)=7:=by cases l.1|| !Z1 x.1<;>simp
  generalize (bif l.1|| !Z1 x.1 then (3:Int) else 7)=k at hk;refine⟨hcp,hun,by show 1<=k/\k<=9;omega,λa b=>(hno a (by rw[<-hhl];exact b)).elim,λe=>by replace e:k=9:=e;omega,λ_=>by rw[hnxt];exact cy (by omega),by rw[hcy];exact hit,ln,λ_=>⟨l',_,rfl,y1,?_⟩,λe1 e2=>by replace e1:4<=k:=e1;replace e2:k<=6:=e2;omega⟩;show (2:Int)=bif k==2 then 1 else 2
  rcases hk with rfl|rfl<;>rfl
 ·--T3
  subst e;obtain⟨l',y,rfl,y1,yN⟩:=pt (.inr (.inl rfl));obtain⟨cy1,cy2⟩:=cy (by omega);generalize hx3:Zbr (Zj p0 l) x d=x3;have hx3':Zbr p0 x d=x3:=by rw[<-ZxH hchip];exact hx3
  have hcur:Zab (p0,s,g,x,3,hd) 3 d=x3:=by rw[Z1j _ _ (Zj p0 l) hchip];exact hx3
  have hi:Zdu (l'++[y]) (p0,s,g,x,3,hd) (Zab (p0,s,g,x,3,hd) 3 d) 3=l'++[(y.1,x3,y.2.2.1,3,y.2.2.2.2)]:=by rw[hcur];show ZdE (l'++[y]) _=_;rw[Za6,itN y 2 yN (by decide) (by decide)];rfl
  rw[hi];have hac:=ZTx (Zai s0 ev) s;have hna:∀g,Zh (Zi (Zai s0 ev) s) s g=Zh p0 s g:=λg=>(Zi2 un s g).symm
  obtain⟨k1,k2⟩:=ZEH (Zi (Zai s0 ev) s) s g [] x3.2.2.1 ln (by rw[List.nil_append,hna];exact cy2);rw[List.nil_append,hna,<-cy1,<-hx3',Zry p0 (Zi (Zai s0 ev) s) (ZjM un).1.symm,hx3'] at k1;have hit':cyI (l'++[(y.1,x3,y.2.2.1,3,y.2.2.2.2)])=cyA s0 ev++cyX (Zi (Zai s0 ev) s) s [] (g++[x3.2.2.1]):=by rw[k1,<-List.append_assoc,<-hit,ZbA,ZbA];have:y.2.2.2.1=2:=yN;rw[this,y1];show cyI l'++[x3]=cyI l'++[]++[x3];rw[Yw]
  have hno:s=0->(Zj p0 l).2.2.2.2.1=true->False:=λa b=>by have:=rest a (by rw[<-hhl];exact b);omega
  have hby:ZcW (p0,s,g,x,3,hd) 3 d=g++[x3.2.2.1]:=by unfold ZcW;rw[hcur];rfl
  have hrd:rdS (p0,s,g,x,3,hd) 3 d=(x3,g++[x3.2.2.1]):=by show (Zbr p0 x d,g++[(Zbr p0 x d).2.2.1])=_;rw[hx3']
  have hen:Zgu 3 x3=le3 x3.2.2.2:=rfl;cases hle:le3 x3.2.2.2
  ·have hf:(finS (p0,s,g,x,3,hd) l d).2=false:=by unfold finS;simp only[hr,hrd,hen,hle,Ya,Yb,Yk]
   have hck:ZD (p0,s,g,x,3,hd) l d=(Zj p0 l,s,g++[x3.2.2.1],x3,4,hd):=by unfold ZD;simp only[hr,hsx,hx3,hle];rfl
   rw[hck,hf];exact⟨hcp,hun,⟨(by decide:(1:Int)<=4),(by decide:(4:Int)<=9)⟩,λa b=>(hno a b).elim,λe=>by simp at e,λe=>by simp at e,hit',k2,λe=>by simp at e,λ_ _=>⟨l',_,rfl,y1,rfl,rfl⟩⟩
  ·have hck:ZD (p0,s,g,x,3,hd) l d=endX (Zj p0 l) s (g++[x3.2.2.1]) hd l:=by unfold ZD;simp only[hr,hsx,hx3,hle];rfl
   have hf:finS (p0,s,g,x,3,hd) l d=bif (Zh (Zj p0 l) s (g++[x3.2.2.1])).2 then (ZwJ,false) else (finX (Zj p0 l) s (g++[x3.2.2.1]) l,true):=by unfold finS;simp only[hr,hrd,hen,hle,Ya,Yb,Yf]
   have:=ZN0 (Zj p0 l) s (g++[x3.2.2.1]) hd l hcp hun hno hit' k2;rw[hck,hf,hby];cases hn:(Zh (Zj p0 l) s (g++[x3.2.2.1])).2
   ·rw[hn] at this;exact this
   ·rw[hn] at this;exact this
 ·exact sem456 4 (.inl rfl) e
 ·exact sem456 5 (.inr (.inl rfl)) e
 ·exact sem456 6 (.inr (.inr rfl)) e
 ·--TWait
  subst e;rw[hnf 7 rfl rfl rfl];obtain⟨l',y,rfl,y1,yN⟩:=pt (.inr (.inr rfl));have hi:Zdu (l'++[y]) (p0,s,g,x,7,hd) (Zab (p0,s,g,x,7,hd) 7 d) 7=l'++[(y.1,x,IntKind.wrap .i64 (y.2.2.1+1),y.2.2.2)]:=by rw[Zk4 _ _ _ rfl];show ZdE (l'++[y]) _=_;rw[Za6];rfl
  have hcy:cyI (l'++[(y.1,x,IntKind.wrap .i64 (y.2.2.1+1),y.2.2.2)])=cyI (l'++[y]):=by rw[ZbA,ZbA];have:y.2.2.2.1=2:=yN;rw[this,y1];rfl
  rw[hi];have hno:s=0->p0.2.2.2.2.1=true->False:=λa b=>by have:=rest a b;omega
  have hck:ZD (p0,s,g,x,7,hd) l d=(Zj p0 l,s,g,x,bif l.1|| !Z1 x.1 then 3 else 7,bif l.1|| !Z1 x.1 then l.2.1 else hd):=by unfold ZD;simp only[hr,hsx];show (bif l.1|| !Z1 x.1 then _ else _)=_;cases l.1|| !Z1 x.1<;>rfl
  rw[hck];have hk:(bif l.1|| !Z1 x.1 then (3:Int) else 7)=3\/(bif l.1|| !Z1 x.1 then (3:Int) else 7)=7:=by cases l.1|| !Z1 x.1<;>simp
  generalize (bif l.1|| !Z1 x.1 then (3:Int) else 7)=k at hk;refine⟨hcp,hun,by show 1<=k/\k<=9;omega,λa b=>(hno a (by rw[<-hhl];exact b)).elim,λe=>by replace e:k=9:=e;omega,λ_=>by rw[hnxt];exact cy (by omega),by rw[hcy];exact hit,ln,λ_=>⟨l',_,rfl,y1,?_⟩,λe1 e2=>by replace e1:4<=k:=e1;replace e2:k<=6:=e2;omega⟩;show y.2.2.2.1=bif k==2 then 1 else 2
  rw[show y.2.2.2.1=2 from yN];rcases hk with rfl|rfl<;>rfl
 ·--THold
  subst e;rw[hnf 8 rfl rfl rfl];have hck:ZD (p0,s,g,x,8,hd) l d=(Zj p0 l,s,g,x,idlX (Zj p0 l) s l.2.1,hd):=by unfold ZD;simp only[hr,hsx];rfl
  have hcy:cyI (Zdu it (p0,s,g,x,8,hd) (Zab (p0,s,g,x,8,hd) 8 d) 8)=cyI it:=Zey (by decide) rfl;rw[hck];obtain⟨i1,i2,i3⟩:=ZpM (Zj p0 l) s l.2.1;generalize idlX (Zj p0 l) s l.2.1=k at i1 i2 i3;refine⟨hcp,hun,by show 1<=k/\k<=9;omega,λa b=>⟨i3 a b,(rest a (by rw[<-hhl];exact b)).2⟩,i2,λ_=>by rw[hnxt];exact cy (by omega),by rw[hcy];exact hit,ln,λe=>by replace e:k=2\/k=3\/k=7:=e;omega,λe1 e2=>by replace e1:4<=k:=e1;replace e2:k<=6:=e2;omega⟩
 ·--THalt
  subst e;rw[hnf 9 rfl rfl rfl];obtain⟨z1,z2⟩:=nine rfl;obtain⟨_,z3⟩:=rest z1 z2;subst z1;subst z3;have hcy:cyI (Zdu it (p0,0,[],x,9,hd) (Zab (p0,0,[],x,9,hd) 9 d) 9)=cyI it:=Zey (by decide) rfl;have hck:ZD (p0,0,[],x,9,hd) l d=bif ZdN (Zj p0 l) l==0 then (Zj p0 l,0,[],x,bif l.2.1 then 8 else 9,hd) else (Zi (Zj p0 l) (ZdN (Zj p0 l) l),ZdN (Zj p0 l) l,[],(Zh (Zi (Zj p0 l) (ZdN (Zj p0 l) l)) (ZdN (Zj p0 l) l) []).1,bif l.2.1 then 8 else 1,hd):=by unfold ZD;simp only[hr,hsx];rfl
  rw[hck];generalize ZdN (Zj p0 l) l=k;cases hk:k==0
  ·simp only[Yb];have hk0:k≠0:=by simpa using hk
   have hn:(bif l.2.1 then (8:Int) else 1)=8\/(bif l.2.1 then (8:Int) else 1)=1:=by cases l.2.1<;>simp
   generalize (bif l.2.1 then (8:Int) else 1)=n at hn;refine⟨hcp,ZNi (hun.trans (by rw[ZWy])) k,by show 1<=n/\n<=9;omega,λa _=>(hk0 a).elim,λe=>by replace e:n=9:=e;omega,λ_=>⟨rfl,ZlN _ _⟩,by rw[hcy];exact hit,rfl,λe=>by replace e:n=2\/n=3\/n=7:=e;omega,λe1 e2=>by replace e1:4<=n:=e1;replace e2:n<=6:=e2;omega⟩
  ·simp only[Ya];have hn:(bif l.2.1 then (8:Int) else 9)=8\/(bif l.2.1 then (8:Int) else 9)=9:=by cases l.2.1<;>simp
   generalize (bif l.2.1 then (8:Int) else 9)=n at hn;refine⟨hcp,hun,by show 1<=n/\n<=9;omega,λa _=>⟨hn,rfl⟩,λ_=>⟨rfl,by rw[<-hhl] at z2;exact z2⟩,λ_=>by rw[hnxt];exact cy (by omega),by rw[hcy];exact hit,rfl,λe=>by replace e:n=2\/n=3\/n=7:=e;omega,λe1 e2=>by replace e1:4<=n:=e1;replace e2:n<=6:=e2;omega⟩
theorem Z2Q (k t:Int) (x:TY) (d:Int) (i o:Bool):ZSE (ZmZ k t x d i o)=(t==8):=by
 unfold ZmZ ZGw ZSE;simp only[RT.val];cases h8:t==8
 ·cases t==9
  ·cases t==10
   ·cases rOn k<;>rfl
   ·rfl
  ·rfl
 ·rfl
theorem Zyt {l:LINT} {d:Int} (h:ZSE (Zuw c l d)=true):l.2.2.1=false/\Zao c.2.2.2.2.1=8:=by
 unfold Zuw at h;rw[Z2Q] at h;cases hl:l.2.2.1
 ·rw[hl] at h;simp at h;exact⟨rfl,h⟩
 ·rw[hl] at h;simp at h
theorem ZNZ (h:Sem s0 c ev cp it) (l:LINT) (d:Int) (cell:Cell) (moved:Bool) (hr:l.2.2.1=true) (x:TY):
  Sem s0 (ZD c l d) (evE ev c l d cell moved) (evC cp s0 c (ZD c l d) l d moved) (Zdu it c x 10):=by
 have hck:ZD c l d=Zr4 (ZN c.1) 0:=by unfold ZD;rw[hr];rfl
 have he:evE ev c l d cell moved=(bif ZcG c then ev++[Zd6 (6,c.2.1,c.2.2.1,Zd4,false,false,false,false,0,0) c.1 l] else ev)++[Zd6 (4,0,[],Zd4,false,false,false,false,0,0) c.1 l]:=by unfold evE;rw[hr];rfl
 have hc:evC cp s0 c (ZD c l d) l d moved=(bif ZcG c then cp++[ZpA s0 cp] else cp)++[ZN c.1]:=by unfold evC;rw[hr,hck];rfl
 rw[he,hc,hck];have hcyi:cyI (Zdu it c x 10)=cyI it:=Zey (by decide) rfl;obtain⟨ev',cp',hev,hcp',hl',hcy⟩:∃ev' cp',(bif ZcG c then ev++[Zd6 (6,c.2.1,c.2.2.1,Zd4,false,false,false,false,0,0) c.1 l] else ev)=ev'/\(bif ZcG c then cp++[ZpA s0 cp] else cp)=cp'/\(cp'=Zdk s0 ev'/\Zai s0 ev'=Zai s0 ev)/\cyA s0 ev'=cyI it:=by
  cases hb:ZcG c
  ·refine⟨ev,cp,rfl,rfl,⟨h.hcp,rfl⟩,?_⟩;have hg:c.2.2.1=[]:=by
    unfold ZcG ZGY at hb;simp only[RT.val] at hb;have hx:(decide (iN (List.length c.2.2.1)>0)||c.2.1 !=0)=false:=by
     cases hq:(decide (iN (List.length c.2.2.1)>0)||c.2.1 !=0)
     ·rfl
     ·rw[hq] at hb;cases h2:decide (c.2.2.2.2.1>=2)<;>rw[h2] at hb<;>simp at hb
    rw[Yo] at hx;have:=hx.1;simp only[iN,Y4] at this;exact YU.1 (by omega)
   have:=h.hit;rw[hg] at this;rw[this];show _=_++[];rw[Yw]
  ·generalize hcut:Zd6 (6,c.2.1,c.2.2.1,Zd4,false,false,false,false,0,0) c.1 l=e;have e1:e.1=6:=by rw[<-hcut,Zbt]
   have e2:e.2.1=c.2.1:=by rw[<-hcut,Zbt]
   have e3:e.2.2.1=c.2.2.1:=by rw[<-hcut,Zbt]
   have ha:Zan (Zai s0 ev) e=Zai s0 ev:=by unfold Zan ZgS;rw[e1];rfl
   refine⟨_,_,rfl,rfl,⟨?_,by simp only[Ya];rw[Zfg,ha]⟩,?_⟩
   ·simp only[Ya];rw[h.hcp,Zed,Zkk,ha]
   ·simp only[Ya];rw[ZgT,h.hit];unfold Zp cycE ZgS;rw[e1,e2,e3];rfl
 rw[hev,hcp'];generalize hrs:Zd6 (4,0,[],Zd4,false,false,false,false,0,0) c.1 l=e;have e1:e.1=4:=by rw[<-hrs,Zbt]
 have hreg:=ZjM h.un;have hac:=ZTx (Zai s0 ev) c.2.1;have ha:Zan (Zai s0 ev') e=ZN c.1:=by
  have:Zan (Zai s0 ev') e=ZN (Zai s0 ev'):=by unfold Zan ZgS;rw[e1];rfl
  rw[this,hl'.2];exact ZOl (by rw[hreg.1,hac.1]) (by rw[hreg.2,hac.2])
 have hc0:Zp (Zai s0 ev') e=[]:=by unfold Zp cycE ZgS;rw[e1];rfl
 have hl:Zai s0 (ev'++[e])=ZN c.1:=by rw[Zfg,ha]
 refine⟨by rw[hl'.1,Zed,ha],by rw[hl];rfl,⟨(by decide:(1:Int)<=1),(by decide:(1:Int)<=9)⟩,λ_ b=> ?_,λe=> ?_,λ_=>⟨rfl,ZlN _ _⟩,?_,rfl,λe=> ?_,λe _=> ?_⟩
 ·have:(ZN c.1).2.2.2.2.1=false:=rfl;replace b:(ZN c.1).2.2.2.2.1=true:=b;rw[this] at b;simp at b
 ·replace e:(1:Int)=9:=e;omega
 ·rw[hcyi,ZgT,hc0,hcy,hl];show _=_++[]++[];rw[Yw,Yw]
 ·replace e:(1:Int)=2\/(1:Int)=3\/(1:Int)=7:=e;omega
 ·replace e:(4:Int)<=1:=e;omega
theorem Zxv (b:BRDT) (s0:TC) (st:STT) (i:INPT) (h:Sem s0 st.1.1 st.2.2.2.1 st.2.2.2.2 st.2.2.1):Sem s0 (ZaC b s0 st i).1.1 (ZaC b s0 st i).2.2.2.1 (ZaC b s0 st i).2.2.2.2 (ZaC b s0 st i).2.2.1:=by
 have hcore:(Zaq b st.1 i).1.1=ZD st.1.1 (Zcm b (ZE b st.1 i) i) (busS b (ZE b st.1 i) i).2:=ZkC b st.1 i;show Sem s0 (Zaq b st.1 i).1.1 (evE st.2.2.2.1 st.1.1 (Zcm b (ZE b st.1 i) i) (busS b (ZE b st.1 i) i).2 (Zaq b st.1 i).2.2.2.2.1 (Zdn b st.1 i)) (evC st.2.2.2.2 s0 st.1.1 (Zaq b st.1 i).1.1 (Zcm b (ZE b st.1 i) i) (busS b (ZE b st.1 i) i).2 (Zdn b st.1 i))
  (Zdu st.2.2.1 st.1.1 (Zab st.1.1 (nowS st.1 i) (busS b (ZE b st.1 i) i).2) (nowS st.1 i))
 rw[hcore];have hl2:(Zcm b (ZE b st.1 i) i).2.2.1=i.2.2.1:=rfl;generalize hL:Zcm b (ZE b st.1 i) i=l at hl2|-;generalize hD:(busS b (ZE b st.1 i) i).2=d;cases hr:i.2.2.1
 ·have hnow:nowS st.1 i=ZS st.1.1:=by unfold nowS;rw[hr];rfl
  rw[hnow];rw[hr] at hl2;have hcalm:=ZUh h l d (Zaq b st.1 i).2.2.2.2.1 hl2;cases hm:Zdn b st.1 i
  ·exact hcalm
  ·--a byte is moved:in a hold state
   have h8:Zao st.1.1.2.2.2.2.1=8:=by unfold Zdn at hm;rw[Yc] at hm;have hp:=hm.1;unfold pinS at hp;rw[hL,hD,(Zju b (ZE b st.1 i) i).1] at hp;exact (Zyt hp).2
   have hf:(finS st.1.1 l d).2=false:=by
    have h8':st.1.1.2.2.2.2.1=8:=by
     have:=h.nx;have h1:(decide (st.1.1.2.2.2.2.1<1)||decide (st.1.1.2.2.2.2.1>9))=false:=by simp;omega
     simp only[Zao,h1,Yb] at h8;exact h8
    unfold finS rdS;rw[hl2,h8'];rfl
   have e1:evE st.2.2.2.1 st.1.1 l d (Zaq b st.1 i).2.2.2.2.1 true=st.2.2.2.1++[(5,0,[],Zd4,false,false,false,false,(Zaq b st.1 i).2.2.2.2.1)]:=by unfold evE;rw[hl2,hf];rfl
   have e2:evE st.2.2.2.1 st.1.1 l d (Zaq b st.1 i).2.2.2.2.1 false=st.2.2.2.1:=by unfold evE;rw[hl2,hf];rfl
   have e3:evC st.2.2.2.2 s0 st.1.1 (ZD st.1.1 l d) l d true=st.2.2.2.2++[ZpA s0 st.2.2.2.2]:=by unfold evC;rw[hl2,hf];rfl
   have e4:evC st.2.2.2.2 s0 st.1.1 (ZD st.1.1 l d) l d false=st.2.2.2.2:=by unfold evC;rw[hl2,hf];rfl
   rw[e1,e3];rw[e2,e4] at hcalm;exact ZUg hcalm _ rfl rfl
 ·have hnow:nowS st.1 i=10:=by unfold nowS;rw[hr];rfl
  rw[hnow];exact ZNZ h l d _ _ (by rw[hl2,hr]) _
theorem ZsQ (b:BRDT) (s0:TC):∀(l:List INPT) (st:STT),Sem s0 st.1.1 st.2.2.2.1 st.2.2.2.2 st.2.2.1->Sem s0 (Za0 b s0 st l).1.1 (Za0 b s0 st l).2.2.2.1 (Za0 b s0 st l).2.2.2.2 (Za0 b s0 st l).2.2.1
 |[],st,h=>h
 |i::l,st,h=>ZsQ b s0 l (ZaC b s0 st i) (Zxv b s0 st i h)
theorem ZRM (b:BRDT) (hg:smG b.2.1=true) (hm:b.2.2.2.2.2.2.length<=100000) (hx:((wNew b).2 !=0)=false):wNew b=(newS b,0):=by
 have hv:(ZAe b).val=some (bif ZcQ b !=0 then (ZAa,ZcQ b) else ((newS b),0)):=by unfold ZAe;have hc:=smCb (l:=b.2.2.2.2.2.2) (by omega);simp only[RT.val,ZwP b hg hc,hc,Ya];cases ZcQ b !=0<;>rfl
 have hx':(ZcQ b !=0)=false:=by
  cases hq:ZcQ b !=0
  ·rfl
  ·exfalso;simp only[wNew,hv,getO,hq,Ya] at hx;simp at hx
 simp only[wNew,hv,getO,hx',Yb]
theorem ZIn (b:BRDT) (hw:wNew b=(newS b,0)):Z3 b=Zdq b/\Sem (Z3 b) (ZbD b).1.1 (ZbD b).2.2.2.1 (ZbD b).2.2.2.2 (ZbD b).2.2.1:=by
 have hs:Z3 b=Zdq b:=by unfold Z3;rw[hw];rfl
 refine⟨hs,?_⟩;have e:(ZbD b).1.1=(Z3 b,0,[],(1,0,0,4),1,false):=by unfold ZbD Z3;rw[hw];rfl
 rw[e];refine⟨rfl,rfl,⟨(by decide:(1:Int)<=1),(by decide:(1:Int)<=9)⟩,λ_ q=> ?_,λe=> ?_,λ_=>⟨?_,ZlN _ _⟩,rfl,rfl,λe=> ?_,λe _=> ?_⟩
 ·have:(Z3 b).2.2.2.2.1=false:=by rw[hs];rfl
  replace q:(Z3 b).2.2.2.2.1=true:=q;rw[this] at q;simp at q
 ·replace e:(1:Int)=9:=e;omega
 ·have:Z3 b=Zdq b:=hs;show ((1,0,0,4):TY)=(Zh (Z3 b) 0 []).1;rw[this];rfl
 ·replace e:(1:Int)=2\/(1:Int)=3\/(1:Int)=7:=e;omega
 ·replace e:(4:Int)<=1:=e;omega
theorem ZN9 (b:BRDT) (l:List INPT) (hg:smG b.2.1=true) (hm:b.2.2.2.2.2.2.length<=100000):
  (Zgh b l).1.2.2.2.1=Zdk (Zdq b) (Zgh b l).1.2.2.1/\cyI (Zgh b l).1.2.1=cyA (Zdq b) (Zgh b l).1.2.2.1:=by
 unfold Zgh;cases hx:(wNew b).2 !=0
 ·obtain⟨hs,hi⟩:=ZIn b (ZRM b hg hm hx);have hf:=ZsQ b (Z3 b) l (ZbD b) hi;rw[<-hs];show (endS (Z3 b) (Za0 b (Z3 b) (ZbD b) l)).2.2.2.1=Zdk (Z3 b) (endS (Z3 b) (Za0 b (Z3 b) (ZbD b) l)).2.2.1/\cyI (endS (Z3 b) (Za0 b (Z3 b) (ZbD b) l)).2.1=cyA (Z3 b) (endS (Z3 b) (Za0 b (Z3 b) (ZbD b) l)).2.2.1;generalize Za0 b (Z3 b) (ZbD b) l=st at hf;unfold endS;cases hb:ZcG st.1.1
  ·refine⟨hf.hcp,?_⟩;have hg:st.1.1.2.2.1=[]:=by
    unfold ZcG ZGY at hb;simp only[RT.val] at hb;have hx:(decide (iN (List.length st.1.1.2.2.1)>0)||st.1.1.2.1 !=0)=false:=by
     cases hq:(decide (iN (List.length st.1.1.2.2.1)>0)||st.1.1.2.1 !=0)
     ·rfl
     ·rw[hq] at hb;cases h2:decide (st.1.1.2.2.2.2.1>=2)<;>rw[h2] at hb<;>simp at hb
    rw[Yo] at hx;have:=hx.1;simp only[iN,Y4] at this;exact YU.1 (by omega)
   have:=hf.hit;rw[hg] at this;show cyI st.2.2.1=_;rw[this];show _++[]=_;rw[Yw];rfl
  ·simp only[Ya];have ha:Zan (Zai (Z3 b) st.2.2.2.1) (7,st.1.1.2.1,st.1.1.2.2.1,Zd4,false,false,false,false,0,0)=Zai (Z3 b) st.2.2.2.1:=rfl;refine⟨by rw[hf.hcp,Zed,Zkk,ha],?_⟩;rw[ZgT];exact hf.hit
 ·exact⟨rfl,rfl⟩
theorem Z1T {w a b:Int} {m:Bool} (hw:inR .u16 w) (a0:0<=a) (a1:a<6) (b0:0<=b) (b1:b<5):
  badR (w,u16.wrap (if 65535<i64.wrap (i64.wrap w+R.get (R.int i64) [0,3,15,255,4095,65535] a) then 65535 else i64.wrap (i64.wrap w+R.get (R.int i64) [0,3,15,255,4095,65535] a)),m,R.get (R.int i64) [0,0,1,2,5] b)=false:=by
 rw[Zh8] at hw;obtain⟨x,ex,hx⟩:∃x:Int,R.get (R.int i64) [0,3,15,255,4095,65535] a=x/\0<=x/\x<=65535:=by
  have:a=0\/a=1\/a=2\/a=3\/a=4\/a=5:=by omega
  rcases this with rfl|rfl|rfl|rfl|rfl|rfl<;>exact⟨_,rfl,by decide,by decide⟩
 obtain⟨y,ey,hy⟩:∃y:Int,R.get (R.int i64) [0,0,1,2,5] b=y/\0<=y/\y<=100:=by
  have:b=0\/b=1\/b=2\/b=3\/b=4:=by omega
  rcases this with rfl|rfl|rfl|rfl|rfl<;>exact⟨_,rfl,by decide,by decide⟩
 rw[ex,ey];have w1:IntKind.wrap .i64 w=w:=wrap_i64 _ (by omega) (by omega);have w2:IntKind.wrap .i64 (w+x)=w+x:=wrap_i64 _ (by omega) (by omega);rw[w1,w2];have hu:∀z:Int,0<=z->z<=65535->IntKind.wrap .u16 z=z:=λz h1 h2=>by rw[Zsb];omega
 unfold badR;simp only;rw[Yo,Yo];refine⟨?_,Yv (by omega),Yv (by omega)⟩;by_cases h:65535<w+x
 ·rw[YV h,hu _ (by omega) (by omega)];exact Yv (by omega)
 ·rw[Y0 h,hu _ (by omega) (by omega)];exact Yv (by omega)
variable {s:List Int×Int}
theorem ZyW (h:NB s k) (hk:k<=500000) (n:Nat) (hn:n<=100):
  ZbX s (n:Int)=true/\NB (Z4 s (n:Int)).2 (k+1+5*n)/\(Z4 s (n:Int)).1.length<=n/\∀r∈(Z4 s (n:Int)).1,badR r=false:=by
 have hms:=mst;have w0:IntKind.wrap .i64 ((n:Int)+1)=(n:Int)+1:=wrap_i64 _ (by omega) (by omega);obtain⟨c1,b1,d0,d1⟩:=Zv h (by omega) ((n:Int)+1) (by omega) (by omega);obtain⟨L,N,hs1⟩:∃L N,(L,N)=(Zd s ((n:Int)+1)).2:=⟨_,_,rfl⟩;obtain⟨q,hq⟩:∃q:Nat,(Zd s ((n:Int)+1)).1=(q:Int):=⟨_,(Yam d0).symm⟩;rw[<-hs1] at b1;obtain⟨r,hr,h1,L',N',o,hs',⟨ho,hvv⟩,hR⟩:=ZH (fl:=false) (t:=ZbW) (fuel:=λa=>400)
  (λa=>∃(i:Nat) (L:List Int) (N:Int) (o:List ZM),i<=q/\NB (L,N) (k+1+5*((q-i:Nat):Int))/\(o.length<=q-i/\∀r∈o,badR r=false)/\a=((i:Int),(L,N),o,()))
  (λa=>Int.toNat a.1) (λr=>r.1=false/\∃(L:List Int) (N:Int) (o:List ZM),NB (L,N) (k+1+5*(q:Int))/\(o.length<=q/\∀r∈o,badR r=false)/\r.2=((0:Int),(L,N),o,()))
  (by
   rintro a ⟨i,L,N,o,hi,hs',⟨ho,hv⟩,rfl⟩;cases i with
   |zero=>
    right;left;exact⟨_,by simp only[ZbW,RT.val];rfl,rfl,L,N,o,by simpa using hs',⟨by omega,hv⟩,rfl⟩
   |succ i=>
    left;have d:decide (((i+1:Nat):Int)>0)=true:=Yq (by omega);obtain⟨kw,bw,hwr⟩:=ZHO hs' (by omega);obtain⟨k1,b1,e0,e1⟩:=Zv bw (by omega) 6 (by decide) (by decide);obtain⟨k2,b2,_⟩:=Zv b1 (by omega) 3 (by decide) (by decide);obtain⟨k3,b3,f0,f1⟩:=Zv b2 (by omega) 5 (by decide) (by decide);have r1:Ze (Zd (ZaS (L,N)).2 6).1 6=true:=ZC.2 ⟨e0,e1⟩;have r2:Ze (Zd (Zd (Zd (ZaS (L,N)).2 6).2 3).2 5).1 5=true:=ZC.2 ⟨f0,f1⟩;have hb:∀x:ZM,Nat.ble (o++[x]).length most=true:=λx=>Zau (by simp;omega)
    have w:IntKind.wrap .i64 (((i+1:Nat):Int)-1)=(i:Int):=by rw[wrap_i64 _ (by omega) (by omega)];omega
    obtain⟨o',ho'⟩:∃o':List ZM,o'=o++[((ZaS (L,N)).1,u16.wrap (if 65535<i64.wrap (i64.wrap (ZaS (L,N)).1+R.get (R.int i64) [0,3,15,255,4095,65535] (Zd (ZaS (L,N)).2 6).1) then 65535 else i64.wrap (i64.wrap (ZaS (L,N)).1+R.get (R.int i64) [0,3,15,255,4095,65535] (Zd (ZaS (L,N)).2 6).1)),decide ((Zd (Zd (ZaS (L,N)).2 6).2 3).1>0),R.get (R.int i64) [0,0,1,2,5] (Zd (Zd (Zd (ZaS (L,N)).2 6).2 3).2 5).1)]:=⟨_,rfl⟩;refine⟨((i:Int),((Zd (Zd (Zd (ZaS (L,N)).2 6).2 3).2 5).2.1,(Zd (Zd (Zd (ZaS (L,N)).2 6).2 3).2 5).2.2),o',()),?_,⟨i,_,_,o',by omega,b3.up (by omega),⟨by rw[ho'];simp;omega,λr hr=>by rw[ho'] at hr;rcases Yaa.1 hr with hr|hr;exact hv r hr;rw[YaO] at hr;rw[hr];exact Z1T hwr e0 e1 f0 f1⟩,rfl⟩,by simp only;omega⟩
    simp only[ZbW,RT.val,List.length_cons,List.length_nil,Nat.reduceAdd,d,kw,k1,k2,k3,r1,r2,hb,w,ho',Ya,Yf,Yj,Yh,Yx])
  ((q:Int),(L,N),[],()) ⟨q,L,N,[],Ye _,by simpa using b1,⟨by simp,λr hr=>by simp at hr⟩,rfl⟩ (by simp only;omega)
 obtain⟨r1,r2⟩:=r;simp only at h1 hR;subst h1 hR;have hv:(Zep s (n:Int)).val=some (o,L',N'):=by simp only[Zep,RT.val,w0,c1,hq,<-hs1,hr,okB,getO,Ya]
 simp only[ZbX,Z4,hv,okB,getO];exact⟨trivial,hs'.up (by omega),by omega,hvv⟩
theorem ZVI (h:NB s k) (hk:k<=400000):∀r∈(nMap s).1,badR r=false:=by
 obtain⟨c1,b1,l1,hv1⟩:=ZyW h (by omega) 2 (by omega);have c1:ZbX s 2=true:=c1;have b1:NB (Z4 s 2).2 (k+1+5*((2:Nat):Int)):=b1;have l1:(Z4 s 2).1.length<=2:=l1;have hv1:∀r∈(Z4 s 2).1,badR r=false:=hv1;obtain⟨c2,b2,d0,d1⟩:=Zv b1 (by omega) 3 (by decide) (by decide);have hs:∀x:ZM,Nat.ble ((Z4 s 2).1++[x]).length most=true:=λx=>Zau (by have:=mst;simp;omega)
 have hg:∀l:List ZM,Stg.l (newG ZdW ZdX l)=l:=λ_=>rfl
 have hv:(ZD8 s).val=some ((Z4 s 2).1++[(0,65535,true,IntKind.wrap .i64 (Int.tdiv (Zd (Z4 s 2).2 3).1 2))],(Zd (Z4 s 2).2 3).2):=by simp only[ZD8,RT.val,hg,c1,c2,hs,Yf,Yj,Yh,Ya]
 simp only[nMap,hv,getO];intro r hr;rcases Yaa.1 hr with hr|hr
 ·exact hv1 r hr
 ·rw[YaO] at hr;subst hr;have:(Zd (Z4 s 2).2 3).1=0\/(Zd (Z4 s 2).2 3).1=1\/(Zd (Z4 s 2).2 3).1=2:=by omega
  rcases this with e|e|e<;>rw[e]<;>rfl
theorem Z1l (n:List Int) (h:Bool):ZcQ (brdK n h)=0:=by
 obtain⟨c1,b1,⟨s1,bs1,hr⟩,hch,hio,l,hl,hi⟩:=Zy4 (ZSM n) (by omega);obtain⟨c2,_,l2⟩:=ZD7 bs1 (by omega);have hbad:=ZVI bs1 (by omega);have hg:smG (brdK n h).2.1=true:=(ZN8 n h).2.2.1;have e1:(brdK n h).2.1=(nMap s1).1:=hr;have e2:(brdK n h).2.2.2.2.2.2=normX l:=hi;have e3:(brdK n h).1=1\/(brdK n h).1=2:=hch;have e4:0<=(brdK n h).2.2.1/\(brdK n h).2.2.1<=2:=hio;have hx:Zd8 (brdK n h).2.1=0:=by
  rw[e1];unfold Zd8;have q1:decide (iN (nMap s1).1.length>16)=false:=Yv (by simp only[iN];omega);have q2:(nMap s1).1.any badR=false:=by rw[List.any_eq_false];intro r hr;rw[hbad r hr];simp
  rw[q1,q2];rfl
 have hc:smC (normX l)=true:=smCm (by have:=ZbU l;omega);have hvl:vldB (normX l)=true:=Zlk.2 (Zdm l);have q3:((brdK n h).1 !=1&&(brdK n h).1 !=2)=false:=by rcases e3 with e|e<;>rw[e]<;>rfl
 have q4:decide ((brdK n h).2.2.1<0)=false:=Yv (by omega);have q5:decide ((brdK n h).2.2.1>100)=false:=Yv (by omega);have hv:(ZjG (brdK n h)).val=some 0:=by unfold ZjG;simp only[RT.val,q3,hg,hx,q4,q5,e2,hc,hvl,Yh,Yf,Yag,Ya,Yb];rfl
 simp only[ZcQ,hv,getO]
theorem ZHZ (g:List GT):∀(l:List EVTT) (c:TC) (m:List Cell) (e:EVTT),memF g c m (l++[e])=wrE (Zai c l) g (memF g c m l) e
 |[],c,m,e=>rfl
 |x::l,c,m,e=>by have:=ZHZ g l (Zan c x) (wrE c g m x) e;simp only[List.cons_append,memF,this];rfl
theorem ZYt (g:List GT) (m:List Cell) (l:List TY) (x:TY):wrL g m (l++[x])=wrY g (wrL g m l) x:=by unfold wrL;rw[Yat];rfl
def NoD (ev:List EVTT):Prop:=∀e∈ev,e.1≠5
theorem ZTA (k:Int):Zfx k=(k==3||(k==5||k==7)):=rfl
theorem ZYq (g:List GT) (m:List Cell) (x:TY) (p:TC) (d:Int):wrY g m (Zbr p x d)=bif Zfx x.1 then (bif x.1 !=7 then ZaO g m x.2.1 x.2.2.1 else m) else m:=by
 have e1:(Zbr p x d).1=x.1:=rfl;have e2:(Zbr p x d).2.1=x.2.1:=rfl;have e3:(Zbr p x d).2.2.1=bif ZbC x.1 then d else x.2.2.1:=rfl
 unfold wrY;rw[e1,e2,e3,ZTA];by_cases h3:x.1=3
 ·rw[h3];rfl
 by_cases h5:x.1=5
 ·rw[h5];rfl
 by_cases h7:x.1=7
 ·rw[h7];rfl
 have b3:(x.1==3)=false:=by simpa using h3
 have b5:(x.1==5)=false:=by simpa using h5
 have b7:(x.1==7)=false:=by simpa using h7
 rw[b3,b5,b7];rfl
theorem ZIE (h:Sem s0 c ev cp it) (d:Int):
  cyI (Zdu it c (Zab c (ZS c) d) (ZS c))=bif ZS c==3 then cyI it++[Zbr c.1 c.2.2.2.1 d] else cyI it:=by
 obtain⟨hcp,un,nx,rest,nine,cy,hit,ln,pt,ps⟩:=h;clear hit ln un hcp rest nine cy;obtain⟨p0,s,g,x,n,hd⟩:=c;simp only at nx pt ps;have hst:ZS (p0,s,g,x,n,hd)=n:=by
  have h1:(decide (n<1)||decide (n>9))=false:=by simp;omega
  simp only[ZS,ZmT,RT.val,h1,Yb]
 rw[hst];have hcases:n=1\/n=2\/n=3\/(n=4\/n=5\/n=6)\/n=7\/n=8\/n=9:=by omega
 rcases hcases with e|e|e|e|e|e|e
 ·subst e;rw[Zk4 _ _ _ rfl];show cyI (it++[_])=_;rw[ZbA];show cyI it++[]=_;rw[Yw];rfl
 ·subst e;obtain⟨l',y,rfl,y1,yN⟩:=pt (.inl rfl);rw[Zk4 _ _ _ rfl];show cyI (ZdE (l'++[y]) _)=cyI (l'++[y]);rw[Za6,itN y 1 yN (by decide) (by decide),ZbA,ZbA];have:y.2.2.2.1=1:=yN;rw[this,y1];rfl
 ·subst e;obtain⟨l',y,rfl,y1,yN⟩:=pt (.inr (.inl rfl));rw[Z1j _ _ p0 rfl];show cyI (ZdE (l'++[y]) _)=cyI (l'++[y])++[Zbr p0 x d];rw[Za6,itN y 2 yN (by decide) (by decide),ZbA,ZbA];have:y.2.2.2.1=2:=yN;rw[this,y1];show cyI l'++[Zbr p0 x d]=cyI l'++[]++[Zbr p0 x d];rw[Yw]
 ·obtain⟨l',y,rfl,y1,yN,yc⟩:=ps (by rcases e with rfl|rfl|rfl<;>decide) (by rcases e with rfl|rfl|rfl<;>decide);clear pt ps;have b3:(n==3)=false:=by rcases e with rfl|rfl|rfl<;>rfl
  rw[Zk4 _ _ _ b3,b3];have hi:Zdu (l'++[y]) (p0,s,g,x,n,hd) x n=l'++[(y.1,x,y.2.2.1,IntKind.wrap .i64 (y.2.2.2.1+1),y.2.2.2.2)]:=by rcases e with rfl|rfl|rfl<;>exact Za6 _ _ _
  rw[hi,itN y (n-1) yN (by omega) (by omega),ZbA];show _=cyI (l'++[y]);rw[ZbA];have q1:decide (n-1+1>=3)=true:=Yq (by omega);have q2:decide (y.2.2.2.1>=3)=true:=Yq (by omega);simp only[y1,q1,q2,yc]
 ·subst e;obtain⟨l',y,rfl,y1,yN⟩:=pt (.inr (.inr rfl));rw[Zk4 _ _ _ rfl];show cyI (ZdE (l'++[y]) _)=cyI (l'++[y]);rw[Za6,ZbA,ZbA];have:y.2.2.2.1=2:=yN;simp only[this,y1];rfl
 ·subst e;exact Zey (by decide) rfl
 ·subst e;exact Zey (by decide) rfl
theorem ZR4 (b:BRDT) (s0:TC) (st:STT) (i:INPT) (m0:List Cell) (h:Sem s0 st.1.1 st.2.2.2.1 st.2.2.2.2 st.2.2.1) (hm:st.1.2.1=wrL b.2.1 m0 (cyI st.2.2.1)) (hmv:Zdn b st.1 i=false):
  (ZaC b s0 st i).1.2.1=wrL b.2.1 m0 (cyI (ZaC b s0 st i).2.2.1):=by
 have hmem:(ZaC b s0 st i).1.2.1=(Zd5 b st.1 i).2.1:=by show (ZxF (Zy6 b st.1 i) i.2.2.1).2.1=_;unfold ZxF Zy6;rw[hmv];cases i.2.2.1<;>rfl
 have hits:(ZaC b s0 st i).2.2.1=Zdu st.2.2.1 st.1.1 (Zab st.1.1 (nowS st.1 i) (busS b (ZE b st.1 i) i).2) (nowS st.1 i):=rfl;have hco:=(Zwv b st.1 i).1;rw[hmem,hits];cases hr:i.2.2.1
 ·have hnow:nowS st.1 i=ZS st.1.1:=by unfold nowS;rw[hr];rfl
  rw[hnow,ZIE h];unfold Zd5 Zl1;rw[hr];cases h3:ZS st.1.1==3
  ·simp only[Yk,YX,YZ,Yb];rw[hco];exact hm
  ·simp only[Yk,YX,Ya];rw[ZYt,ZYq,<-hm];cases Zfx st.1.1.2.2.2.1.1
   ·simp only[Yb];exact hco
   ·simp only[Ya];unfold Zgd;cases st.1.1.2.2.2.1.1 !=7
    ·simp only[Yb];exact hco
    ·simp only[Ya];rw[hco]
 ·have hnow:nowS st.1 i=10:=by unfold nowS;rw[hr];rfl
  rw[hnow];have:cyI (Zdu st.2.2.1 st.1.1 (Zab st.1.1 10 (busS b (ZE b st.1 i) i).2) 10)=cyI st.2.2.1:=Zey (by decide) rfl;rw[this];unfold Zd5 Zl1;rw[hr];simp only[Yf,YZ,Yb];rw[hco];exact hm
theorem ZSV (ev:List EVTT) (c:CORT) (l:LINT) (d:Int) (cell:Cell) (moved:Bool):∃t,evE ev c l d cell moved=ev++t:=by
 unfold evE;dsimp only;cases l.2.2.1
 ·cases (finS c l d).2<;>cases moved
  ·exact⟨[],by simp⟩
  ·exact⟨_,rfl⟩
  ·exact⟨_,rfl⟩
  ·exact⟨_,by simp only[Ya,Yb];rw[Yn]⟩
 ·cases ZcG c
  ·exact⟨_,rfl⟩
  ·exact⟨_,by simp only[Ya];rw[Yn]⟩
theorem NoD.left {a t:List EVTT} (h:NoD (a++t)):NoD a:=λe he=>h e (List.mem_append_left _ he)
theorem ZHY (g:List GT):∀(l:List EVTT) (c:TC) (m:List Cell),NoD l->memF g c m l=wrL g m (cyA c l)
 |[],c,m,_=>rfl
 |e::l,c,m,h=>by
  have h5:(e.1==5)=false:=by simpa using h e YaC
  have:=ZHY g l (Zan c e) (wrE c g m e) λx hx=>h x (YO _ hx)
  simp only[memF,cyA,this];unfold wrE wrL;rw[h5,Yat];rfl
end
end Go.Proofs.YtghoimllhpjkjaaGreat
open Go.Proofs.Tryz (prog)
namespace Go.Proofs.YtghoimllhpjkjaaGreat
noncomputable section
def qDoE:En:=.tree (ZO (envX prog [(187,ZgB),(204,ZuM)] [] 9223389629049209151 8) Tryz.f150)
theorem ZXL:Za prog 150 qDoE:=Zaf (P:=prog) (n:=9223389629049209151) (k:=8) (l:=[(187,ZgB),(204,ZuM)]) (ol:=[]) ⟨Zh2,ZKv,Tv⟩ Tryz.func150 rfl (by kernel_rfl) Tryz.call150 trivial
def ZPW:LS:={n:=37,Sl:=[(0,.fix (A.loc 3 0)),(2,.code (Sh.one (R.int i64))),(5,.fix (A.loc 4 0)),(7,.fix (A.loc 5 0)),(8,.fix (A.loc 6 0)),(9,.code (Sh.one (R.sl (R.int u8)))),(10,.tip 1)],Bx:=[[.many Zt],[.many Zqp],[.many Zt],[.code rcRG,.code rcCE,.code (R.sl (R.int u8)),.tip 0],[.many Zt],[.many Zqp],[.many Zt]],Sg:=[⟨R.Pq (R.int u8) (R.int u8),166,true⟩,⟨(R.int u8),5,true⟩]}
def Ze9 (a:QT11):RT (Option (Go1 (QT11))):=
 let x1:=a.2.2.2.2.2.2.2.2.2.2.2.2.1
 let x2:=Zh a.2.2.2.2.2.2.2.2.1 a.1 x1
 let x3:= !x2.2
 let x4:=x2.1
 let x5:=x4.1
 let x6:=x5==1
 let x7:=x5==2
 let x8:=bif x6 then x6 else bif x7 then x7 else x5==4
 let x9:= !x8
 let x10:=smG a.2.2.2.2.2.1&&smC a.2.2.2.2.2.2.1
 let x11:=x9||x10
 let x12:= !x11
 let x13:=x5==3
 let x14:=bif x13 then x13 else x5==5
 let x15:= !x14
 let x16:=x8||(x15||x10)
 let x17:= !x16
 let x18:=x5==7
 let x19:= !x18
 let x20:=x4.2
 let x21:=x20.1
 let x22:=x20.2.1
 let x23:List (Int×Int):=a.2.2.2.2.2.2.2.2.2.2.2.1++[(u8.wrap x21,x22)]
 let x24:=x8||(x14||(x19||Nat.ble (List.length x23) most))
 let x25:= !x24
 let x26:=x5==6
 let x27:=x5==8
 let x28:=bif x26 then x26 else bif x27 then x27 else x5==9
 let x29:= !x28
 let x30:=x12||(x17||(x25||(x8||(x14||(x18||(x29||(iN (List.length a.2.2.2.2.2.2.2.1)==0||(!Ze 0 (List.length a.2.2.2.2.2.2.2.1)||decide (0<=1)&&decide (1<=iN (List.length a.2.2.2.2.2.2.2.1))&&(decide (iN (List.length a.2.2.2.2.2.2.2.1)=0)||decide (iN (List.length a.2.2.2.2.2.2.2.1)<=iN (List.length a.2.2.2.2.2.2.2.1)))))))))))
 let x31:= !x30
 let x32:=x12||(x17||(x25||(x8||(x14||(x18||(x29||(iN (List.length a.2.2.2.2.2.2.2.1)==0||Ze 0 (List.length a.2.2.2.2.2.2.2.1))))))))
 let x33:= !x32
 let x34:=x12||(x17||x24)
 let x35:= !x34
 let x36:=x12||x16
 let x37:= !x36
 let x38:List Int:=x1++[ZeH a.2.2.2.2.2.1 a.2.2.2.2.2.2.1 x21]
 let x39:=x31||(x33||(x35||(x37||(x12||(x9||Nat.ble (List.length x38) most)))))
 let x40:= !x39
 let x41:List Int:=x1++[x22]
 let x42:=Nat.ble (List.length x41) most
 let x43:=x31||(x33||(x35||(x37||(x12||(x8||(x15||x42))))))
 let x44:= !x43
 let x45:=x31||(x33||(x35||(x37||(x12||(x8||(x14||(x19||x42)))))))
 let x46:= !x45
 let x47:List Int:=x1++[0]
 let x48:=Nat.ble (List.length x47) most
 let x49:=x31||(x33||(x35||(x37||(x12||(x8||(x14||(x18||(x29||(!iN (List.length a.2.2.2.2.2.2.2.1)==0||x48)))))))))
 let x50:= !x49
 let x51:List Int:=x1++[R.get (R.int u8) a.2.2.2.2.2.2.2.1 0]
 let x52:=x31||(x33||(x35||(x37||(x12||(x8||(x14||(x18||(x29||(iN (List.length a.2.2.2.2.2.2.2.1)==0||Nat.ble (List.length x51) most)))))))))
 let x53:= !x52
 let x54:=x31||(x33||(x35||(x37||(x12||(x8||(x14||(x18||(x28||x48))))))))
 let x55:= !x54
 let x56:=x31||(x33||(x35||(x37||x11)))
 let x57:= !x56
 let x58:=x31||(x33||(x35||x36))
 let x59:= !x58
 let x60:=x31||(x33||x34)
 let x61:= !x60
 let x62:=x31||x32
 .br (x3||(x40||(x44||(x46||(x50||(x53||(x55||(x57||(x59||(x61||(!x62||x30))))))))))) (.br (x3||(x40||(x44||(x46||(x50||(x53||(x55||(x57||(x59||(x61||x62)))))))))) (.br (x3||(x40||(x44||(x46||(x50||(x53||(x55||(x57||(x59||x60))))))))) (.br (x3||(x40||(x44||(x46||(x50||(x53||(x55||(x57||x58)))))))) (.br (x3||(x40||(x44||(x46||(x50||(x53||(x55||x56))))))) (.br (x3||(x40||(x44||(x46||(x50||(x53||x54)))))) (.br (x3||(x40||(x44||(x46||(x50||x52))))) (.br (x3||(x40||(x44||(x46||x49)))) (.br (x3||(x40||(x44||x45))) (.br (x3||(x40||x43)) (.br (x3||x39) (.br (x3) (.Lf (some (Go1.ret (a.1,x1,a.2.2.1,a.2.2.2.1,a.2.2.2.2.1,a.2.2.2.2.2.1,a.2.2.2.2.2.2.1,a.2.2.2.2.2.2.2.1,a.2.2.2.2.2.2.2.2.1,a.2.2.2.2.2.2.2.2.2.1,finX a.2.2.2.2.2.2.2.2.1 a.1 x1 a.2.2.2.2.2.2.2.2.2.1,a.2.2.2.2.2.2.2.2.2.2.2.1,x1,PUnit.unit)))) (.Lf (some (Go1.cont (a.1,a.2.1,a.2.2.1,a.2.2.2.1,a.2.2.2.2.1,a.2.2.2.2.2.1,bif x8 then a.2.2.2.2.2.2.1 else bif x14 then ZaO a.2.2.2.2.2.1 a.2.2.2.2.2.2.1 x21 x22 else a.2.2.2.2.2.2.1,bif x8 then a.2.2.2.2.2.2.2.1 else bif x14 then a.2.2.2.2.2.2.2.1 else bif x18 then a.2.2.2.2.2.2.2.1 else bif x28 then bif iN (List.length a.2.2.2.2.2.2.2.1)==0 then a.2.2.2.2.2.2.2.1 else subL a.2.2.2.2.2.2.2.1 1 (iN (List.length a.2.2.2.2.2.2.2.1)) else a.2.2.2.2.2.2.2.1,a.2.2.2.2.2.2.2.2.1,a.2.2.2.2.2.2.2.2.2.1,a.2.2.2.2.2.2.2.2.2.2.1,bif x8 then a.2.2.2.2.2.2.2.2.2.2.2.1 else bif x14 then a.2.2.2.2.2.2.2.2.2.2.2.1 else bif x18 then x23 else a.2.2.2.2.2.2.2.2.2.2.2.1,bif x8 then x38 else bif x14 then x41 else bif x18 then x41 else bif x28 then bif iN (List.length a.2.2.2.2.2.2.2.1)==0 then x47 else x51 else x47,PUnit.unit))))) (.Lf none)) (.Lf none)) (.Lf none)) (.Lf none)) (.Lf none)) (.Lf none)) (.Lf none)) (.Lf none)) (.Lf none)) (.Lf none)) (.Lf none)
def ZnT:Ora:=Za2 true ZPW Ze9 (λa=>100)
theorem ZCq:ZaH (envX prog [(110,Zem),(111,ZRn),(113,ZrD),(150,qDoE)] [] 8191 8) (.block 0 (.loop (Z7 Tryz.f94.body 0))) ZnT:=
 loopP ⟨Zel,ZDD,ZlJ,ZXL,Tv⟩
def ZPX:En:=.tree (ZO (envX prog [(110,Zem),(111,ZRn),(113,ZrD),(150,qDoE)] [(0,ZnT)] 8191 8) Tryz.f94)
theorem ZPV:Za prog 94 ZPX:=Zaf (P:=prog) (n:=8191) (k:=8) (l:=[(110,Zem),(111,ZRn),(113,ZrD),(150,qDoE)]) (ol:=[(0,ZnT)]) ⟨Zel,ZDD,ZlJ,ZXL,Tv⟩ Tryz.func94 rfl (by kernel_rfl) Tryz.call94 ⟨ZCq,Tv⟩
def Zjf:En:=.tree (ZO (envX prog [(117,Zpq)] [] 7 8) Tryz.f93)
theorem ZpH:Za prog 93 Zjf:=Zaf (P:=prog) (n:=7) (k:=8) (l:=[(117,Zpq)]) (ol:=[]) ⟨Zpp,Tv⟩ Tryz.func93 rfl (by kernel_rfl) Tryz.call93 trivial
abbrev ZEx:List Sh:=[Sh.agg Zt,Sh.one rcRG,Sh.one rcCE,Sh.one (R.int i64),Sh.one (R.sl (R.int u8)),Sh.agg Zqp]
abbrev Zwf:Rs:=Rs.tup [Sh.agg Zt,Sh.one rcCE,Sh.one (R.sl (R.Pq (R.int u8) (R.int u8))),Sh.one (R.sl (R.int u8))]
def ZzG (c:TC) (rg:List (QT3)) (m:List (Int×Int)) (s:Int) (ins:List Int) (l:LINT):RT (Option (QT23)):=
 let x1:TC:=(0,(0,0,0,0,0,0,0,(false,false,false,false,false,false,false),0,0),false,false,false,0,false,false,false,false,false,false,false)
 let x2:QT11:=(s,[],c,l,x1,rg,Cells.normX m,ins,Zi c s,l,x1,[],[],())
 let x3:=runF true Ze9 (λa=>100) x2
 let x4:=getO (false,x2) x3
 let x5:=x4.2.2
 let x6:=x5.2.2.2.2.2
 let x7:=x6.2.2.2.2
 let x8:QT23:=(x7.1,x6.1,x7.2.1,x5.1)
 .br (smC m) (.br (okB x3) (.br x4.1 (.Lf (some (x8))) (.Lf (some (x8)))) (.Lf none)) (.Lf none)
def Z02 (c:TC) (rg:List (QT3)) (m:List (Int×Int)) (s:Int) (ins:List Int) (l:LINT):QT23:=getO Zwf.Df (ZzG c rg m s ins l).val
def ZSD (c:TC) (rg:List (QT3)) (m:List (Int×Int)) (s:Int) (ins:List Int) (l:LINT):Bool:=okB (ZzG c rg m s ins l).val
def Z2O:En:=Zg ZEx Zwf (λa=>some (ZSD a.1 a.2.1 a.2.2.1 a.2.2.2.1 a.2.2.2.2.1 a.2.2.2.2.2)) (λa=>Z02 a.1 a.2.1 a.2.2.1 a.2.2.2.1 a.2.2.2.2.1 a.2.2.2.2.2)
theorem ZV2:Za prog 37 Z2O:=
 pureP 131071 [(93,Zjf),(94,ZPX)] [] ZEx Zwf ⟨ZpH,ZPV,Tv⟩ Tryz.func37 Tryz.call37 trivial (t:=λa=>ZzG a.1 a.2.1 a.2.2.1 a.2.2.2.1 a.2.2.2.2.1 a.2.2.2.2.2)
abbrev ZIj:List Sh:=[Sh.one (R.sl (R.int u8)),Sh.one (R.sl (R.int u8))]
abbrev ZIk:Rs:=Rs.one (Sh.one R.bool)
def ZEs (a:List Int) (b:List Int):RT (Bool):=
 .Lf (ByteArray.toList (ZUb a)==ByteArray.toList (ZUb b))
def ZIl (a:List Int) (b:List Int):Bool:=(ZEs a b).val
def ZEt:En:=Zg ZIj ZIk (λ_=>none) (λa=>ZIl a.1 a.2)
theorem ZzB:Za prog 41 ZEt:=
 pureQ 31 [] [] ZIj ZIk trivial Tryz.func41 Tryz.call41 trivial (t:=λa=>ZEs a.1 a.2)
theorem cor (a b:Bool):(bif a then a else b)=(a||b):=by cases a<;>rfl
theorem Z2L (l:List Int):(iN l.length==0||Ze 0 l.length)=true:=by
 cases l with
 |nil=>rfl
 |cons x l=>simp[iN,Ze]
theorem Z0V (l:List Int):(iN l.length==0||(!Ze 0 l.length||decide (0<=1)&&decide (1<=iN l.length)&&(decide (iN l.length=0)||decide (iN l.length<=iN l.length))))=true:=by
 cases l with
 |nil=>rfl
 |cons x l=>simp[iN,Ze];omega
theorem Z0W (l g:List Int):(bif iN l.length==0 then g++[0] else g++[R.get (R.int .u8) l 0])=g++[l.getD 0 0]:=by
 cases l with
 |nil=>rfl
 |cons x l=>
  have:(iN (x::l).length==0)=false:=by simp[iN];omega
  rw[this];rfl
theorem Z2K (l:List Int):(bif iN l.length==0 then l else subL l 1 (iN l.length))=l.drop 1:=by
 cases l with
 |nil=>rfl
 |cons x l=>
  have:(iN (x::l).length==0)=false:=by simp[iN];omega
  rw[this];simp[subL,iN]
theorem ZlT (c:CpuT) (s:Int) (n:Nat) (g:List Int) (m:MacT):goX c s (n+1) g m=bif (Zh c s g).2 then goX c s n (g++[(doX (Zh c s g).1 m).1]) (doX (Zh c s g).1 m).2 else (g,m):=rfl
structure Rm (rg:List ZM) (m:List Cell) (outs:List (Int×Int)) (g:List Int):Prop where
 r:smG rg=true
 m:smC m=true
 o:∀x,Nat.ble (outs++[x]).length most=true
 g:∀x,Nat.ble (g++[x]).length most=true
theorem Z03 (s g0 c0 l0 cz rg m ins c l cz2 outs g) (h:Rm rg m outs g):
  (Ze9 (s,g0,c0,l0,cz,rg,m,ins,c,l,cz2,outs,g,())).val=some (bif (Zh c s g).2 then
   Go1.cont (s,g0,c0,l0,cz,rg,(doX (Zh c s g).1 (rg,m,ins,outs)).2.2.1,(doX (Zh c s g).1 (rg,m,ins,outs)).2.2.2.1,c,l,cz2,(doX (Zh c s g).1 (rg,m,ins,outs)).2.2.2.2,g++[(doX (Zh c s g).1 (rg,m,ins,outs)).1],())
   else Go1.ret (s,g,c0,l0,cz,rg,m,ins,c,l,finX c s g l,outs,g,())):=by
 have i1:=Z2L ins;have i2:=Z0V ins;have i3:=Z0W ins g;have i4:=Z2K ins;simp only[Ze9,RT.val,cor,h.r,h.m,h.o,h.g,i1,i2,Yh,Ys,Yf,Yj,Yx,YW,Ya];cases (Zh c s g).2
 ·rfl
 ·simp only[Yf,Yb,Ya,i3,i4];unfold doX;generalize (Zh c s g).1=x;cases x.1==1||(x.1==2||x.1==4)
  ·cases x.1==3||x.1==5
   ·cases x.1==7
    ·cases x.1==6||(x.1==8||x.1==9)<;>rfl
    ·rfl
   ·rfl
  ·rfl
def ZpQ (a:Int×List Int×CpuT×LnT×CpuT×List ZM×List Cell×List Int×CpuT×LnT×CpuT×List (Int×Int)×List Int×PUnit):List Int:=a.2.2.2.2.2.2.2.2.2.2.2.2.1
theorem Z2P (A:List Int×CpuT×LnT×CpuT×CpuT) (c:CpuT) (s:Int) (l:LnT) (M0:MacT) (hr:smG M0.1=true) (hm:M0.2.1.length+20<=most) (ho:M0.2.2.2.length+20<=most):
  ∃r,runF true Ze9 (λ_=>100) (s,A.1,A.2.1,A.2.2.1,A.2.2.2.1,M0.1,M0.2.1,M0.2.2.1,c,l,A.2.2.2.2,M0.2.2.2,[],())=some r/\r=(true,s,(goX c s 6 [] M0).1,A.2.1,A.2.2.1,A.2.2.2.1,M0.1,(goX c s 6 [] M0).2.2.1,(goX c s 6 [] M0).2.2.2.1,c,l,finX c s (goX c s 6 [] M0).1 l,(goX c s 6 [] M0).2.2.2.2,(goX c s 6 [] M0).1,()):=by
 have hms:=mst;obtain⟨r,h1,h2⟩:=ZH (fl:=true) (t:=Ze9) (fuel:=λ_=>100)
  (λa=>∃(g:List Int) (M:MacT),a=(s,A.1,A.2.1,A.2.2.1,A.2.2.2.1,M0.1,M.2.1,M.2.2.1,c,l,A.2.2.2.2,M.2.2.2,g,())/\M.1=M0.1/\g.length<=5/\goX c s (6-g.length) g M=goX c s 6 [] M0/\M.2.1.length<=M0.2.1.length+g.length/\M.2.2.2.length<=M0.2.2.2.length+g.length)
  (λa=>6-(ZpQ a).length) (λr=>r=(true,s,(goX c s 6 [] M0).1,A.2.1,A.2.2.1,A.2.2.2.1,M0.1,(goX c s 6 [] M0).2.2.1,(goX c s 6 [] M0).2.2.2.1,c,l,finX c s (goX c s 6 [] M0).1 l,(goX c s 6 [] M0).2.2.2.2,(goX c s 6 [] M0).1,()))
  (by
   rintro a ⟨g,M,rfl,hM,hg,hR,hl,hq⟩;have rm:Rm M0.1 M.2.1 M.2.2.2 g:=⟨hr,by rw[show smC M.2.1=sm M.2.1 from rfl,ZkM];omega,λx=>by rw[YH];simp;omega,λx=>by rw[YH];simp;omega⟩;have hs:=Z03 s A.1 A.2.1 A.2.2.1 A.2.2.2.1 M0.1 M.2.1 M.2.2.1 c l A.2.2.2.2 M.2.2.2 g rm;have e6:6-g.length=(5-g.length)+1:=by omega
   rw[e6] at hR;have hMe:M=(M0.1,M.2.1,M.2.2.1,M.2.2.2):=by rw[<-hM]
   cases hn:(Zh c s g).2
   ·right;right;rw[hn,Yb] at hs;refine⟨_,rfl,hs,?_⟩;rw[ZlT c s (5-g.length) g M,hn,Yb] at hR;rw[<-hR]
   ·left;rw[hn,Ya,<-hMe] at hs;have h5:g.length<5:=by
     refine Nat.lt_of_not_le λh=> ?_
     rw[ZHM c s g h] at hn;simp at hn
    have hd:=Z2U (Zh c s g).1 M;rw[ZlT c s (5-g.length) g M,hn,Ya] at hR;refine⟨_,hs,⟨g++[(doX (Zh c s g).1 M).1],(doX (Zh c s g).1 M).2,rfl,hd.1.trans hM,by simp;omega,?_,?_,?_⟩,?_⟩
    ·rw[show 6-(g++[(doX (Zh c s g).1 M).1]).length=5-g.length by simp only[Yd,List.length_singleton];omega];exact hR
    ·have:=hd.2.2.1;simp;omega
    ·have:=hd.2.2.2.2;simp;omega
    ·simp[ZpQ];omega)
  (s,A.1,A.2.1,A.2.2.1,A.2.2.2.1,M0.1,M0.2.1,M0.2.2.1,c,l,A.2.2.2.2,M0.2.2.2,[],()) ⟨[],M0,rfl,rfl,by simp,rfl,by simp,by simp⟩ (by simp[ZpQ])
 exact⟨r,h1,h2⟩
def czX:CpuT:=(0,(0,0,0,0,0,0,0,(false,false,false,false,false,false,false),0,0),false,false,false,0,false,false,false,false,false,false,false)
def ZFU (rg:List ZM) (m:List Cell) (ins:List Int):MacT:=(rg,normX m,ins,[])
def ZAJ (c:CpuT) (rg:List ZM) (m:List Cell) (s:Int) (ins:List Int) (l:LnT):CpuT×List Cell×List (Int×Int)×List Int:=
 let r:=Z1J c s l (ZFU rg m ins)
 (r.1,r.2.1.2.1,r.2.1.2.2.2,r.2.2)
theorem Z2N (c:CpuT) (rg:List ZM) (m:List Cell) (s:Int) (ins:List Int) (l:LnT) (hr:smG rg=true) (hm:m.length+20<=most):
  ZSD c rg m s ins l=true/\Z02 c rg m s ins l=ZAJ c rg m s ins l:=by
 have hms:=mst;have hl:=ZbU m;have hs:smC m=true:=by show sm m=true;rw[ZkM];omega
 obtain⟨r,h1,h2⟩:=Z2P ([],c,l,czX,czX) (Zi c s) s l (ZFU rg m ins) hr (by show (normX m).length+20<=most;omega) (by show 0+20<=most;omega);subst h2;simp only[ZFU,czX] at h1;have hv:(ZzG c rg m s ins l).val=some (ZAJ c rg m s ins l):=by simp only[ZzG,RT.val,hs,h1,okB,getO,Ya];rfl
 exact⟨by simp only[ZSD,hv];rfl,by simp only[Z02,hv,getO]⟩
end
end Go.Proofs.YtghoimllhpjkjaaGreat
