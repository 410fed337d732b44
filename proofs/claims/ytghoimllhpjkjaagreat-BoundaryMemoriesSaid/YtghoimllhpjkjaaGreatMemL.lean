import Derived.Test.YtghoimllhpjkjaaGreatBndR
import Derived.Test.YtghoimllhpjkjaaGreatS3D
import Derived.Test.YtghoimllhpjkjaaGreatProg
open Go.IntKind (u8 u16 i64)
open Go Go.S3 Go.Proofs Go.Proofs.Cells
set_option linter.unusedVariables false
set_option linter.unusedSimpArgs false
set_option maxRecDepth 100000
namespace Go.Proofs.YtghoimllhpjkjaaGreat
noncomputable section
def cyA:TC->List EVTT->List TY
 |_,[]=>[]
 |c,e::l=>ZbE c e++cyA (Za6 c e) l
theorem Zgw (c:TC) (l:List EVTT) (e:EVTT):Zbn c (l++[e])=Za6 (Zbn c l) e:=by unfold Zbn;rw[List.foldl_append];rfl
theorem Zkh:∀(l:List EVTT) (c:TC) (e:EVTT),cyA c (l++[e])=cyA c l++ZbE (Zbn c l) e
 |[],c,e=>by simp[cyA,Zbn]
 |x::l,c,e=>by
  have:=Zkh l (Za6 c x) e
  simp only[List.cons_append,cyA,this,List.append_assoc]
  rfl
theorem Zd9:∀(l:List EVTT) (c:TC) (e:EVTT),Zfo c (l++[e])=Zfo c l++[Za6 (Zbn c l) e]
 |[],c,e=>rfl
 |x::l,c,e=>by
  have:=Zd9 l (Za6 c x) e
  simp only[List.cons_append,Zfo,this]
  rfl
theorem ZjZ (c:TC) (l:List EVTT):Zo7 c (Zfo c l)=Zbn c l:=by
 rcases List.eq_nil_or_concat l with rfl|⟨l',e,rfl⟩
 ·rfl
 ·rw[List.concat_eq_append,Zd9,Zgw];simp[Zo7]
def cyI (l:List ITMT):List TY:=(l.filter λy=>y.1==1&&decide (y.2.2.2.1>=3)).map λy=>y.2.1
theorem ZbF (l:List ITMT) (y:ITMT):cyI (l++[y])=cyI l++(bif y.1==1&&decide (y.2.2.2.1>=3) then [y.2.1] else []):=by
 unfold cyI
 rw[List.filter_append,List.map_append]
 cases h:y.1==1&&decide (y.2.2.2.1>=3)<;>simp[List.filter,h]
def unl (c:TC):Int×(Int×Int×Int×Int×Int×Int×Int×(Bool×Bool×Bool×Bool×Bool×Bool×Bool)×Int×Int)×Bool×Bool×Bool×Int×Bool×Bool×Bool:=(c.1,c.2.1,c.2.2.1,c.2.2.2.1,c.2.2.2.2.1,c.2.2.2.2.2.1,c.2.2.2.2.2.2.2.2.2.2)
theorem ZLX (c:TC) (l:LINT):unl (Zm c l)=unl c:=by
 unfold Zm ZBd
 simp only[RT.val]
 cases !rOn c.1<;>rfl
theorem ZUN (c:TC):Zu c 0=c:=rfl
theorem ZW5 {a b:TC} (h:unl a=unl b) (s:Int):unl (Zu a s)=unl (Zu b s):=by
 unfold Zu Zg1
 simp only[RT.val]
 cases decide (s<1)||decide (s>5)
 ·simp only[unl,pinj] at h|-
  obtain⟨h1,h2,h3,h4,h5,h6,h7⟩:=h
  simp only[h1,h2,h3,h4,h5,h6,h7,and_self]
  simp only[cond_false,unl,h1,h2,h3,h4,h5,h6,h7,and_self]
 ·exact h
theorem ZM1 {a b:TC} (h1:a.1=b.1) (h2:a.2.1=b.2.1):ZO a=ZO b:=by
 unfold ZO ZjD
 simp only[RT.val,h1,h2]
theorem ZRS (c:TC) (s:Int):(Zu c s).1=c.1/\(Zu c s).2.1=c.2.1:=by
 unfold Zu Zg1
 simp only[RT.val]
 cases decide (s<1)||decide (s>5)<;>exact⟨rfl,rfl⟩
theorem Zr0 {a b:TC} (h:unl a=unl b):a.1=b.1/\a.2.1=b.2.1:=by
 simp only[unl,pinj] at h
 exact⟨h.1,h.2.1⟩
theorem ZUH {a b:TC} (h1:a.1=b.1) (h2:a.2.1=b.2.1) (inj:Bool) (g:List Int) (i:InsT):ZhY a inj g i=ZhY b inj g i:=by
 unfold ZhY ZcC Zbp opC ZcI popX ZL Zex Zhk Zfb pcOf spOf
 simp only[h1,h2]
theorem ZGF {a b:TC} (h:unl a=unl b) (s:Int) (g:List Int):Zj a s g=Zj b s g:=by
 obtain⟨h1,h2⟩:=Zr0 h
 have hp:Zgo a s g=Zgo b s g:=by
  unfold Zgo pcOf ZcI spOf
  simp only[h1,h2]
  cases Zc s
  ·cases g with
   |nil=>rfl
   |cons o g=>simp only[cond_false,ZUH h1 h2]
  ·rfl
 unfold Zj
 rw[hp]
theorem Zls (c:TC) (s:Int):(Zj c s []).2=true:=by
 unfold Zj Zgo pick
 cases Zc s<;>rfl
theorem ZDo {p q:TC} (h:unl p=unl q) (e:EVTT) (he:e.2.2.2.2.1=q.2.2.2.2.2.2.2.1/\e.2.2.2.2.2.1=q.2.2.2.2.2.2.1/\e.2.2.2.2.2.2.1=q.2.2.2.2.2.2.2.2.2.1/\e.2.2.2.2.2.2.2.1=q.2.2.2.2.2.2.2.2.1):ZF8 p e=q:=by
 obtain⟨e1,e2,e3,e4⟩:=he
 simp only[unl,pinj] at h
 obtain⟨h1,h2,h3,h4,h5,h6,h7⟩:=h
 unfold ZF8
 rw[e1,e2,e3,e4,h1,h2,h3,h4,h5,h6,h7]
theorem ZRA (c:TC) (s:Int):∀(r g:List Int) (b:Int),(cyX c s g r).length=r.length->(Zj c s (g++r)).2=true->cyX c s g (r++[b])=cyX c s g r++[Zq2 c (Zj c s (g++r)).1 b]/\(cyX c s g (r++[b])).length=(r++[b]).length
 |[],g,b,_,h=>by
  rw[List.append_nil] at h|-
  simp only[List.nil_append,cyX,h,cond_true,List.length_cons,List.length_nil,and_self]
 |x::r,g,b,hl,h=>by
  simp only[List.cons_append,cyX] at hl|-
  cases hn:(Zj c s g).2
  ·rw[hn] at hl;simp at hl
  ·rw[hn] at hl
   simp only[cond_true,List.length_cons] at hl|-
   have h':(Zj c s (g++[x]++r)).2=true:=by rw[List.append_assoc];exact h
   obtain⟨q1,q2⟩:=ZRA c s r (g++[x]) b (by omega) h'
   rw[q1] at q2|-
   rw[List.append_assoc] at q2|-
   exact⟨rfl,by simpa using q2⟩
structure Sem (s0:TC) (c:CORT) (ev:List EVTT) (cp:List TC) (it:List ITMT):Prop where
 hcp:cp=Zfo s0 ev
 un:unl c.1=unl (Zu (Zbn s0 ev) c.2.1)
 nx:1<=c.2.2.2.2.1/\c.2.2.2.2.1<=9
 rest:c.2.1=0->c.1.2.2.2.2.1=true->(c.2.2.2.2.1=8\/c.2.2.2.2.1=9)/\c.2.2.1=[]
 nine:c.2.2.2.2.1=9->c.2.1=0/\c.1.2.2.2.2.1=true
 cy:(c.2.2.2.2.1<4\/6<c.2.2.2.2.1)->c.2.2.2.1=(Zj c.1 c.2.1 c.2.2.1).1/\(Zj c.1 c.2.1 c.2.2.1).2=true
 hit:cyI it=cyA s0 ev++cyX (Zu (Zbn s0 ev) c.2.1) c.2.1 [] c.2.2.1
 ln:(cyX (Zu (Zbn s0 ev) c.2.1) c.2.1 [] c.2.2.1).length=c.2.2.1.length
 pt:(c.2.2.2.2.1=2\/c.2.2.2.2.1=3\/c.2.2.2.2.1=7)->∃(l:List ITMT) (y:ITMT),it=l++[y]/\y.1=1/\y.2.2.2.1=(bif c.2.2.2.2.1==2 then 1 else 2)
 ps:4<=c.2.2.2.2.1->c.2.2.2.2.1<=6->∃(l:List ITMT) (y:ITMT),it=l++[y]/\y.1=1/\y.2.2.2.1=c.2.2.2.2.1-1/\y.2.1=c.2.2.2.1
theorem ZW4 {a b:TC} (h:unl a=unl b):a.2.2.2.2.1=b.2.2.2.2.1:=by
 simp only[unl,pinj] at h
 exact h.2.2.2.2.1
theorem Zph (c:TC) (s:Int) (h:Bool):(idlX c s h=8\/idlX c s h=9\/idlX c s h=1)/\(idlX c s h=9->s=0/\c.2.2.2.2.1=true)/\(s=0->c.2.2.2.2.1=true->idlX c s h=8\/idlX c s h=9):=by
 unfold idlX
 cases h
 ·cases hh:c.2.2.2.2.1&&s==0
  ·simp only[cond_false]
   refine⟨.inr (.inr trivial),λe=>by omega,λe1 e2=> ?_⟩
   rw[e1,e2] at hh;simp at hh
  ·simp only[cond_true,cond_false]
   simp at hh
   exact⟨.inr (.inl trivial),λ_=>⟨hh.2,hh.1⟩,λ_ _=>.inr trivial⟩
 ·simp only[cond_true]
  exact⟨.inl trivial,λe=>by omega,λ_ _=>.inl trivial⟩
theorem ZSA {s0:TC} {c:CORT} {ev:List EVTT} {cp:List TC} {it:List ITMT} (h:Sem s0 c ev cp it) (e:EVTT) (h1:Za6 (Zbn s0 ev) e=Zbn s0 ev) (h2:ZbE (Zbn s0 ev) e=[]):
  Sem s0 c (ev++[e]) (cp++[Zo7 s0 cp]) it:=by
 have hl:Zbn s0 (ev++[e])=Zbn s0 ev:=by rw[Zgw,h1]
 refine⟨by rw[h.hcp,Zd9,ZjZ,h1],by rw[hl];exact h.un,h.nx,h.rest,h.nine,h.cy,by rw[hl,Zkh,h2,List.append_nil];exact h.hit,by rw[hl];exact h.ln,h.pt,h.ps⟩
theorem ZyH (s:Int):ZpY (ZkP s)=true:=by
 unfold ZkP ZK8 ZpY
 simp only[RT.val]
 cases Zc s
 ·cases s==5<;>rfl
 ·rfl
theorem ZMH {s0:TC} {ev:List EVTT} {cp:List TC} {it:List ITMT} (p:TC) (s:Int) (g:List Int) (h:Bool) (l:LINT) (hcp:cp=Zfo s0 ev) (un:unl p=unl (Zu (Zbn s0 ev) s)) (hh:s=0->p.2.2.2.2.1=true->False)
  (hit:cyI it=cyA s0 ev++cyX (Zu (Zbn s0 ev) s) s [] g) (ln:(cyX (Zu (Zbn s0 ev) s) s [] g).length=g.length):
  Sem s0 (endX p s g h l) (bif (Zj p s g).2 then ev else ev++[Zff (ZkP s,s,g,Zfe,false,false,false,false,0,0) p l]) (bif (Zj p s g).2 then cp else cp++[finX p s g l]) it:=by
 unfold endX
 dsimp only
 cases hn:(Zj p s g).2
 ·simp only[cond_false]
  generalize hq:finX p s g l=q
  generalize ZfP q l=k
  generalize he:Zff (ZkP s,s,g,Zfe,false,false,false,false,0,0) p l=e
  have hpat:ZF8 (Zu (Zbn s0 ev) s) e=p:=ZDo un.symm e (by rw[<-he,Zbx];exact⟨rfl,rfl,rfl,rfl⟩)
  have ha:Za6 (Zbn s0 ev) e=q:=by
   have e1:e.1=ZkP s:=by rw[<-he,Zbx]
   have e2:e.2.1=s:=by rw[<-he,Zbx]
   have e3:e.2.2.1=g:=by rw[<-he,Zbx]
   have e4:e.2.2.2.1=l:=by rw[<-he,Zbx]
   unfold Za6
   rw[e1,ZyH,e2,hpat,e3,e4]
   exact hq
  have hc:ZbE (Zbn s0 ev) e=cyX (Zu (Zbn s0 ev) s) s [] g:=by
   have e1:e.1=ZkP s:=by rw[<-he,Zbx]
   have e2:e.2.1=s:=by rw[<-he,Zbx]
   have e3:e.2.2.1=g:=by rw[<-he,Zbx]
   unfold ZbE cycE
   rw[e1,ZyH,e2,e3]
   rfl
  have hl:Zbn s0 (ev++[e])=q:=by rw[Zgw,ha]
  obtain⟨i1,i2,i3⟩:=Zph (Zu q k) k h
  refine⟨by rw[hcp,Zd9,ha],by rw[hl],?_,λa b=>⟨i3 a b,rfl⟩,i2,λ_=>⟨rfl,Zls _ _⟩,?_,by rw[hl];rfl,λe=> ?_,λe1 e2=> ?_⟩
  ·show 1<=idlX (Zu q k) k h/\idlX (Zu q k) k h<=9
   omega
  ·rw[hl,Zkh,hc,hit]
   show _=_++[]
   rw[List.append_nil]
  ·exfalso
   replace e:idlX (Zu q k) k h=2\/idlX (Zu q k) k h=3\/idlX (Zu q k) k h=7:=e
   omega
  ·exfalso
   replace e1:4<=idlX (Zu q k) k h:=e1
   replace e2:idlX (Zu q k) k h<=6:=e2
   omega
 ·simp only[cond_true]
  obtain⟨i1,i2,i3⟩:=Zph p s h
  refine⟨hcp,un,?_,λa b=>(hh a b).elim,λe=>((hh (i2 e).1 (i2 e).2)).elim,λ_=>⟨rfl,hn⟩,hit,ln,λe=> ?_,λe1 e2=> ?_⟩
  ·show 1<=idlX p s h/\idlX p s h<=9
   omega
  ·exfalso
   replace e:idlX p s h=2\/idlX p s h=3\/idlX p s h=7:=e
   omega
  ·exfalso
   replace e1:4<=idlX p s h:=e1
   replace e2:idlX p s h<=6:=e2
   omega
theorem Zfa {l:List ITMT} {k:Int} {c:CORT} {n:ITMT} (hk:k≠1) (hn:n.1=k):cyI (ZyN l k c n)=cyI l:=by
 have h1:∀y:ITMT,y.1=k->∀l,cyI (l++[y])=cyI l:=λy hy l=>by
  rw[ZbF]
  have:(y.1==1)=false:=by rw[hy];simpa using hk
  rw[this];simp
 unfold ZyN
 cases hl:l.getLast? with
 |none=>exact h1 n hn l
 |some y=>
  simp only
  obtain⟨l',rfl⟩:∃l',l=l'++[y]:=by
   rcases List.eq_nil_or_concat l with rfl|⟨l',z,rfl⟩
   ·simp at hl
   ·rw[List.concat_eq_append] at hl|-
    simp at hl;subst hl;exact⟨l',rfl⟩
  cases hs:ZMN y k c
  ·exact h1 n hn _
  ·have hy:y.1=k:=by simp[ZMN] at hs;exact hs.1
   simp only[cond_true,Zba]
   rw[h1 (ZYU y) hy,h1 y hy]
theorem ZkJ (c:CORT) (t d:Int) (h:(t==3)=false):Zal c t d=c.2.2.2.1:=by
 unfold Zal Zh6
 simp only[RT.val,h,cond_false]
theorem Z0Q (c:CORT) (d:Int) (p:TC) (h:p.1=c.1.1):Zal c 3 d=Zcg p c.2.2.2.1 d:=by
 unfold Zal Zh6 Zcg
 rw[h];rfl
theorem ZM4 {p q:TC} (h:p.1=q.1) (x:TY) (d:Int):Zcg p x d=Zcg q x d:=by unfold Zcg;rw[h]
theorem ZI7 (p a:TC) (h:a.1=p.1) (x:TY) (d:Int):Zq2 a x (Zcg p x d).2.2.1=Zcg p x d:=by
 unfold Zq2 Zcg
 rw[h]
 cases ZcG x.1<;>rfl
theorem ZUq (ev:List EVTT) (c:CORT) (l:LINT) (d:Int) (cell:Cell) (hr:l.2.2.1=false):evE ev c l d cell false=bif (finS c l d).2 then ev++[Zff (ZkP c.2.1,c.2.1,ZeK c (Z3 c) d,Zfe,false,false,false,false,0,0) (Zm c.1 l) l] else ev:=by
 unfold evE;rw[hr];rfl
theorem ZUr (cp:List TC) (s0:TC) (c a:CORT) (l:LINT) (d:Int) (hr:l.2.2.1=false):evC cp s0 c a l d false=bif (finS c l d).2 then cp++[(finS c l d).1] else cp:=by
 unfold evC;rw[hr];rfl
theorem itN (y:ITMT) (n:Int) (h:y.2.2.2.1=n) (h1:0<=n) (h2:n<=100):IntKind.wrap .i64 (y.2.2.2.1+1)=n+1:=by
 rw[h,wrap_i64 _ (by omega) (by omega)]
theorem ZSB {s0:TC} {c:CORT} {ev:List EVTT} {cp:List TC} {it:List ITMT} (h:Sem s0 c ev cp it) (l:LINT) (d:Int) (cell:Cell) (hr:l.2.2.1=false):
  Sem s0 (Zac c l d) (evE ev c l d cell false) (evC cp s0 c (Zac c l d) l d false) (Zep it c (Zal c (Z3 c) d) (Z3 c)):=by
 rw[ZUq _ _ _ _ _ hr,ZUr _ _ _ _ _ _ hr]
 obtain⟨hcp,un,nx,rest,nine,cy,hit,ln,pt,ps⟩:=h
 obtain⟨p0,s,g,x,n,hd⟩:=c
 simp only at un nx rest nine cy hit ln pt ps
 have hst:Z3 (p0,s,g,x,n,hd)=n:=by
  have h1:(decide (n<1)||decide (n>9))=false:=by simp;omega
  simp only[Z3,Zsy,RT.val,h1,cond_false]
 have hsx:ZaD n=n:=by
  have h1:(decide (n<1)||decide (n>9))=false:=by simp;omega
  simp only[ZaD,h1,cond_false]
 have hup:=ZLX p0 l
 have hchip:(Zm p0 l).1=p0.1:=(Zr0 hup).1
 have hun:unl (Zm p0 l)=unl (Zu (Zbn s0 ev) s):=hup.trans un
 have hhl:(Zm p0 l).2.2.2.2.1=p0.2.2.2.2.1:=ZW4 hup
 have hnxt:∀g,Zj (Zm p0 l) s g=Zj p0 s g:=λg=>ZGF hup s g
 rw[hst]
 have hcases:n=1\/n=2\/n=3\/n=4\/n=5\/n=6\/n=7\/n=8\/n=9:=by omega
 have hnf:∀k:Int,n=k->ZjH k x=false->(k==3)=false->(finS (p0,s,g,x,n,hd) l d).2=false:=λk hk he h3=>by
  unfold finS rdS
  have:(n !=3)=true:=by rw[hk];simpa [bne] using h3
  simp only[hr,this,hk▸he,cond_true,cond_false,Bool.not_false]
 have sem456:∀k:Int,(k=4\/k=5\/k=6)->n=k->Sem s0 (Zac (p0,s,g,x,n,hd) l d) (bif (finS (p0,s,g,x,n,hd) l d).2 then ev++[Zff (ZkP s,s,ZeK (p0,s,g,x,n,hd) n d,Zfe,false,false,false,false,0,0) (Zm p0 l) l] else ev)
   (bif (finS (p0,s,g,x,n,hd) l d).2 then cp++[(finS (p0,s,g,x,n,hd) l d).1] else cp) (Zep it (p0,s,g,x,n,hd) (Zal (p0,s,g,x,n,hd) n d) n):=by
  intro k hk e
  subst e
  obtain⟨l',y,rfl,y1,yN,yc⟩:=ps (by rcases hk with rfl|rfl|rfl<;>decide) (by rcases hk with rfl|rfl|rfl<;>decide)
  clear pt ps
  have b1:(n==1)=false:=by rcases hk with rfl|rfl|rfl<;>rfl
  have b2:(n==2)=false:=by rcases hk with rfl|rfl|rfl<;>rfl
  have b3:(n==3)=false:=by rcases hk with rfl|rfl|rfl<;>rfl
  have b7:(n==7)=false:=by rcases hk with rfl|rfl|rfl<;>rfl
  have b8:(n==8)=false:=by rcases hk with rfl|rfl|rfl<;>rfl
  have b9:(n==9)=false:=by rcases hk with rfl|rfl|rfl<;>rfl
  have b10:(n==10)=false:=by rcases hk with rfl|rfl|rfl<;>rfl
  have b3':(n !=3)=true:=by rcases hk with rfl|rfl|rfl<;>rfl
  have hi:Zep (l'++[y]) (p0,s,g,x,n,hd) (Zal (p0,s,g,x,n,hd) n d) n=l'++[(y.1,x,y.2.2.1,n,y.2.2.2.2)]:=by
   rw[ZkJ _ _ _ b3]
   have hkn:ZkT n=1:=by unfold ZkT;simp only[b8,b9,b10,cond_false]
   have hcn:cycN (p0,s,g,x,n,hd) n x=x:=by unfold cycN;simp only[b8,b9,b10,cond_false]
   unfold Zep
   simp only[hkn,hcn,b1,b7]
   show ZdC (l'++[y]) _=_
   rw[Zba,itN y (n-1) yN (by omega) (by omega)]
   simp
  rw[hi]
  have hit':cyI (l'++[(y.1,x,y.2.2.1,n,y.2.2.2.2)])=cyA s0 ev++cyX (Zu (Zbn s0 ev) s) s [] g:=by
   rw[<-hit,ZbF,ZbF]
   have q1:decide (n>=3)=true:=decide_eq_true (by omega)
   have q2:decide (y.2.2.2.1>=3)=true:=decide_eq_true (by omega)
   simp only[y1,q1,q2,yc]
  have hno:s=0->(Zm p0 l).2.2.2.2.1=true->False:=λa b=>by have:=rest a (by rw[<-hhl];exact b);omega
  have hby:ZeK (p0,s,g,x,n,hd) n d=g:=by
   unfold ZeK;simp only[b3,cond_false]
  have hrd:rdS (p0,s,g,x,n,hd) n d=(x,g):=by unfold rdS;simp only[b3',cond_true]
  have hen:ZjH n x= !(decide (n<x.2.2.2)&& !(n==6)):=by
   unfold ZjH Zno
   rcases hk with rfl|rfl|rfl
   ·by_cases q:(4:Int)<x.2.2.2
    ·have q1:decide (x.2.2.2<=4)=false:=decide_eq_false (by omega)
     have q2:decide ((4:Int)<x.2.2.2)=true:=decide_eq_true q
     simp only[RT.val,q2];exact q1
    ·have q1:decide (x.2.2.2<=4)=true:=decide_eq_true (by omega)
     have q2:decide ((4:Int)<x.2.2.2)=false:=decide_eq_false q
     simp only[RT.val,q2];exact q1
   ·by_cases q:(5:Int)<x.2.2.2
    ·have q1:decide (x.2.2.2<=5)=false:=decide_eq_false (by omega)
     have q2:decide ((5:Int)<x.2.2.2)=true:=decide_eq_true q
     simp only[RT.val,q2];exact q1
    ·have q1:decide (x.2.2.2<=5)=true:=decide_eq_true (by omega)
     have q2:decide ((5:Int)<x.2.2.2)=false:=decide_eq_false q
     simp only[RT.val,q2];exact q1
   ·cases decide ((6:Int)<x.2.2.2)<;>rfl
  have hclk:Zac (p0,s,g,x,n,hd) l d=bif decide (n<x.2.2.2)&& !(n==6) then (Zm p0 l,s,g,x,n+1,hd) else endX (Zm p0 l) s g hd l:=by
   unfold Zac
   simp only[hr,hsx,b1,b2,b3,b7,b8,b9,Bool.or_self,cond_false]
  cases hle:decide (n<x.2.2.2)&& !(n==6)
  ·have hck:Zac (p0,s,g,x,n,hd) l d=endX (Zm p0 l) s g hd l:=by rw[hclk,hle];rfl
   have hf:finS (p0,s,g,x,n,hd) l d=bif (Zj (Zm p0 l) s g).2 then (ZHw,false) else (finX (Zm p0 l) s g l,true):=by
    unfold finS
    simp only[hr,hrd,hen,hle,cond_true,cond_false,Bool.not_true,Bool.not_false]
   have:=ZMH (Zm p0 l) s g hd l hcp hun hno hit' ln
   rw[hck,hf,hby]
   cases hn:(Zj (Zm p0 l) s g).2
   ·rw[hn] at this;exact this
   ·rw[hn] at this;exact this
  ·have hf:(finS (p0,s,g,x,n,hd) l d).2=false:=by
    unfold finS
    simp only[hr,hrd,hen,hle,cond_true,cond_false,Bool.not_true,Bool.not_false]
   have hck:Zac (p0,s,g,x,n,hd) l d=(Zm p0 l,s,g,x,n+1,hd):=by rw[hclk,hle];rfl
   have h6:n≠6:=by simp at hle;exact hle.2
   rw[hck,hf]
   refine⟨hcp,hun,by show 1<=n+1/\n+1<=9;omega,λa b=>(hno a b).elim,λe=>by replace e:n+1=9:=e;omega,λe=>by replace e:n+1<4\/6<n+1:=e;omega,hit',ln,λe=>by replace e:n+1=2\/n+1=3\/n+1=7:=e;omega,λ_ _=>⟨l',_,rfl,y1,?_,rfl⟩⟩
   show n=n+1-1
   omega
 rcases hcases with e|e|e|e|e|e|e|e|e
 ·--T1
  subst e
  rw[hnf 1 rfl rfl rfl]
  have hck:Zac (p0,s,g,x,1,hd) l d=(Zm p0 l,s,g,x,2,hd):=by unfold Zac;simp only[hr,hsx];rfl
  rw[hck,ZkJ _ _ _ rfl]
  refine⟨hcp,hun,⟨(by decide:(1:Int)<=2),(by decide:(2:Int)<=9)⟩,λa b=> ?_,λe=>by simp at e,λ_=>by rw[hnxt];exact cy (by omega),?_,ln,λ_=>⟨it,_,rfl,rfl,rfl⟩,λe=>by simp at e⟩
  ·have:=rest a (by rw[<-hhl];exact b)
   omega
  ·show cyI (it++[_])=_
   rw[ZbF]
   show cyI it++[]=_
   rw[List.append_nil];exact hit
 ·--T2
  subst e
  rw[hnf 2 rfl rfl rfl]
  obtain⟨l',y,rfl,y1,yN⟩:=pt (.inl rfl)
  have hi:Zep (l'++[y]) (p0,s,g,x,2,hd) (Zal (p0,s,g,x,2,hd) 2 d) 2=l'++[(y.1,x,y.2.2.1,2,y.2.2.2.2)]:=by
   rw[ZkJ _ _ _ rfl]
   show ZdC (l'++[y]) _=_
   rw[Zba,itN y 1 yN (by decide) (by decide)];rfl
  have hcy:cyI (l'++[(y.1,x,y.2.2.1,2,y.2.2.2.2)])=cyI (l'++[y]):=by
   rw[ZbF,ZbF]
   have:y.2.2.2.1=1:=yN
   rw[this,y1];rfl
  rw[hi]
  have hno:s=0->p0.2.2.2.2.1=true->False:=λa b=>by have:=rest a b;omega
  have hck:Zac (p0,s,g,x,2,hd) l d=(Zm p0 l,s,g,x,bif l.1|| !Zao x.1 then 3 else 7,bif l.1|| !Zao x.1 then l.2.1 else hd):=by
   unfold Zac
   simp only[hr,hsx]
   show (bif l.1|| !Zao x.1 then _ else _)=_
   cases l.1|| !Zao x.1<;>rfl
  rw[hck]
  have hk:(bif l.1|| !Zao x.1 then (3:Int) else 7)=3\/(bif l.1|| !Zao x.1 then (3:Int) else 7)=7:=by cases l.1|| !Zao x.1<;>simp
  generalize (bif l.1|| !Zao x.1 then (3:Int) else 7)=k at hk
  refine⟨hcp,hun,by show 1<=k/\k<=9;omega,λa b=>(hno a (by rw[<-hhl];exact b)).elim,λe=>by replace e:k=9:=e;omega,λ_=>by rw[hnxt];exact cy (by omega),by rw[hcy];exact hit,ln,λ_=>⟨l',_,rfl,y1,?_⟩,λe1 e2=>by replace e1:4<=k:=e1;replace e2:k<=6:=e2;omega⟩
  show (2:Int)=bif k==2 then 1 else 2
  rcases hk with rfl|rfl<;>rfl
 ·--T3
  subst e
  obtain⟨l',y,rfl,y1,yN⟩:=pt (.inr (.inl rfl))
  obtain⟨cy1,cy2⟩:=cy (by omega)
  generalize hx3:Zcg (Zm p0 l) x d=x3
  have hx3':Zcg p0 x d=x3:=by rw[<-ZM4 hchip];exact hx3
  have hcur:Zal (p0,s,g,x,3,hd) 3 d=x3:=by rw[Z0Q _ _ (Zm p0 l) hchip];exact hx3
  have hi:Zep (l'++[y]) (p0,s,g,x,3,hd) (Zal (p0,s,g,x,3,hd) 3 d) 3=l'++[(y.1,x3,y.2.2.1,3,y.2.2.2.2)]:=by
   rw[hcur]
   show ZdC (l'++[y]) _=_
   rw[Zba,itN y 2 yN (by decide) (by decide)];rfl
  rw[hi]
  have hac:=ZRS (Zbn s0 ev) s
  have hna:∀g,Zj (Zu (Zbn s0 ev) s) s g=Zj p0 s g:=λg=>(ZGF un s g).symm
  obtain⟨k1,k2⟩:=ZRA (Zu (Zbn s0 ev) s) s g [] x3.2.2.1 ln (by rw[List.nil_append,hna];exact cy2)
  rw[List.nil_append,hna,<-cy1,<-hx3',ZI7 p0 (Zu (Zbn s0 ev) s) (Zr0 un).1.symm,hx3'] at k1
  have hit':cyI (l'++[(y.1,x3,y.2.2.1,3,y.2.2.2.2)])=cyA s0 ev++cyX (Zu (Zbn s0 ev) s) s [] (g++[x3.2.2.1]):=by
   rw[k1,<-List.append_assoc,<-hit,ZbF,ZbF]
   have:y.2.2.2.1=2:=yN
   rw[this,y1]
   show cyI l'++[x3]=cyI l'++[]++[x3]
   rw[List.append_nil]
  have hno:s=0->(Zm p0 l).2.2.2.2.1=true->False:=λa b=>by have:=rest a (by rw[<-hhl];exact b);omega
  have hby:ZeK (p0,s,g,x,3,hd) 3 d=g++[x3.2.2.1]:=by
   unfold ZeK;rw[hcur];rfl
  have hrd:rdS (p0,s,g,x,3,hd) 3 d=(x3,g++[x3.2.2.1]):=by
   show (Zcg p0 x d,g++[(Zcg p0 x d).2.2.1])=_
   rw[hx3']
  have hen:ZjH 3 x3=le3 x3.2.2.2:=rfl
  cases hle:le3 x3.2.2.2
  ·have hf:(finS (p0,s,g,x,3,hd) l d).2=false:=by
    unfold finS
    simp only[hr,hrd,hen,hle,cond_true,cond_false,Bool.not_false]
   have hck:Zac (p0,s,g,x,3,hd) l d=(Zm p0 l,s,g++[x3.2.2.1],x3,4,hd):=by
    unfold Zac
    simp only[hr,hsx,hx3,hle]
    rfl
   rw[hck,hf]
   exact⟨hcp,hun,⟨(by decide:(1:Int)<=4),(by decide:(4:Int)<=9)⟩,λa b=>(hno a b).elim,λe=>by simp at e,λe=>by simp at e,hit',k2,λe=>by simp at e,λ_ _=>⟨l',_,rfl,y1,rfl,rfl⟩⟩
  ·have hck:Zac (p0,s,g,x,3,hd) l d=endX (Zm p0 l) s (g++[x3.2.2.1]) hd l:=by
    unfold Zac
    simp only[hr,hsx,hx3,hle]
    rfl
   have hf:finS (p0,s,g,x,3,hd) l d=bif (Zj (Zm p0 l) s (g++[x3.2.2.1])).2 then (ZHw,false) else (finX (Zm p0 l) s (g++[x3.2.2.1]) l,true):=by
    unfold finS
    simp only[hr,hrd,hen,hle,cond_true,cond_false,Bool.not_true]
   have:=ZMH (Zm p0 l) s (g++[x3.2.2.1]) hd l hcp hun hno hit' k2
   rw[hck,hf,hby]
   cases hn:(Zj (Zm p0 l) s (g++[x3.2.2.1])).2
   ·rw[hn] at this;exact this
   ·rw[hn] at this;exact this
 ·exact sem456 4 (.inl rfl) e
 ·exact sem456 5 (.inr (.inl rfl)) e
 ·exact sem456 6 (.inr (.inr rfl)) e
 ·--TWait
  subst e
  rw[hnf 7 rfl rfl rfl]
  obtain⟨l',y,rfl,y1,yN⟩:=pt (.inr (.inr rfl))
  have hi:Zep (l'++[y]) (p0,s,g,x,7,hd) (Zal (p0,s,g,x,7,hd) 7 d) 7=l'++[(y.1,x,IntKind.wrap .i64 (y.2.2.1+1),y.2.2.2)]:=by
   rw[ZkJ _ _ _ rfl]
   show ZdC (l'++[y]) _=_
   rw[Zba];rfl
  have hcy:cyI (l'++[(y.1,x,IntKind.wrap .i64 (y.2.2.1+1),y.2.2.2)])=cyI (l'++[y]):=by
   rw[ZbF,ZbF]
   have:y.2.2.2.1=2:=yN
   rw[this,y1];rfl
  rw[hi]
  have hno:s=0->p0.2.2.2.2.1=true->False:=λa b=>by have:=rest a b;omega
  have hck:Zac (p0,s,g,x,7,hd) l d=(Zm p0 l,s,g,x,bif l.1|| !Zao x.1 then 3 else 7,bif l.1|| !Zao x.1 then l.2.1 else hd):=by
   unfold Zac
   simp only[hr,hsx]
   show (bif l.1|| !Zao x.1 then _ else _)=_
   cases l.1|| !Zao x.1<;>rfl
  rw[hck]
  have hk:(bif l.1|| !Zao x.1 then (3:Int) else 7)=3\/(bif l.1|| !Zao x.1 then (3:Int) else 7)=7:=by cases l.1|| !Zao x.1<;>simp
  generalize (bif l.1|| !Zao x.1 then (3:Int) else 7)=k at hk
  refine⟨hcp,hun,by show 1<=k/\k<=9;omega,λa b=>(hno a (by rw[<-hhl];exact b)).elim,λe=>by replace e:k=9:=e;omega,λ_=>by rw[hnxt];exact cy (by omega),by rw[hcy];exact hit,ln,λ_=>⟨l',_,rfl,y1,?_⟩,λe1 e2=>by replace e1:4<=k:=e1;replace e2:k<=6:=e2;omega⟩
  show y.2.2.2.1=bif k==2 then 1 else 2
  rw[show y.2.2.2.1=2 from yN]
  rcases hk with rfl|rfl<;>rfl
 ·--THold
  subst e
  rw[hnf 8 rfl rfl rfl]
  have hck:Zac (p0,s,g,x,8,hd) l d=(Zm p0 l,s,g,x,idlX (Zm p0 l) s l.2.1,hd):=by unfold Zac;simp only[hr,hsx];rfl
  have hcy:cyI (Zep it (p0,s,g,x,8,hd) (Zal (p0,s,g,x,8,hd) 8 d) 8)=cyI it:=Zfa (by decide) rfl
  rw[hck]
  obtain⟨i1,i2,i3⟩:=Zph (Zm p0 l) s l.2.1
  generalize idlX (Zm p0 l) s l.2.1=k at i1 i2 i3
  refine⟨hcp,hun,by show 1<=k/\k<=9;omega,λa b=>⟨i3 a b,(rest a (by rw[<-hhl];exact b)).2⟩,i2,λ_=>by rw[hnxt];exact cy (by omega),by rw[hcy];exact hit,ln,λe=>by replace e:k=2\/k=3\/k=7:=e;omega,λe1 e2=>by replace e1:4<=k:=e1;replace e2:k<=6:=e2;omega⟩
 ·--THalt
  subst e
  rw[hnf 9 rfl rfl rfl]
  obtain⟨z1,z2⟩:=nine rfl
  obtain⟨_,z3⟩:=rest z1 z2
  subst z1;subst z3
  have hcy:cyI (Zep it (p0,0,[],x,9,hd) (Zal (p0,0,[],x,9,hd) 9 d) 9)=cyI it:=Zfa (by decide) rfl
  have hck:Zac (p0,0,[],x,9,hd) l d=bif ZfP (Zm p0 l) l==0 then (Zm p0 l,0,[],x,bif l.2.1 then 8 else 9,hd) else (Zu (Zm p0 l) (ZfP (Zm p0 l) l),ZfP (Zm p0 l) l,[],(Zj (Zu (Zm p0 l) (ZfP (Zm p0 l) l)) (ZfP (Zm p0 l) l) []).1,bif l.2.1 then 8 else 1,hd):=by
   unfold Zac;simp only[hr,hsx];rfl
  rw[hck]
  generalize ZfP (Zm p0 l) l=k
  cases hk:k==0
  ·simp only[cond_false]
   have hk0:k≠0:=by simpa using hk
   have hn:(bif l.2.1 then (8:Int) else 1)=8\/(bif l.2.1 then (8:Int) else 1)=1:=by cases l.2.1<;>simp
   generalize (bif l.2.1 then (8:Int) else 1)=n at hn
   refine⟨hcp,ZW5 (hun.trans (by rw[ZUN])) k,by show 1<=n/\n<=9;omega,λa _=>(hk0 a).elim,λe=>by replace e:n=9:=e;omega,λ_=>⟨rfl,Zls _ _⟩,by rw[hcy];exact hit,rfl,λe=>by replace e:n=2\/n=3\/n=7:=e;omega,λe1 e2=>by replace e1:4<=n:=e1;replace e2:n<=6:=e2;omega⟩
  ·simp only[cond_true]
   have hn:(bif l.2.1 then (8:Int) else 9)=8\/(bif l.2.1 then (8:Int) else 9)=9:=by cases l.2.1<;>simp
   generalize (bif l.2.1 then (8:Int) else 9)=n at hn
   refine⟨hcp,hun,by show 1<=n/\n<=9;omega,λa _=>⟨hn,rfl⟩,λ_=>⟨rfl,by rw[<-hhl] at z2;exact z2⟩,λ_=>by rw[hnxt];exact cy (by omega),by rw[hcy];exact hit,rfl,λe=>by replace e:n=2\/n=3\/n=7:=e;omega,λe1 e2=>by replace e1:4<=n:=e1;replace e2:n<=6:=e2;omega⟩
theorem Z0N (k t:Int) (x:TY) (d:Int) (i o:Bool):ZQ6 (Zmy k t x d i o)=(t==8):=by
 unfold Zmy ZFo ZQ6
 simp only[RT.val]
 cases h8:t==8
 ·cases t==9
  ·cases t==10
   ·cases rOn k<;>rfl
   ·rfl
  ·rfl
 ·rfl
theorem ZxI {c:CORT} {l:LINT} {d:Int} (h:ZQ6 (ZtW c l d)=true):l.2.2.1=false/\ZaD c.2.2.2.2.1=8:=by
 unfold ZtW at h
 rw[Z0N] at h
 cases hl:l.2.2.1
 ·rw[hl] at h
  simp at h
  exact⟨rfl,h⟩
 ·rw[hl] at h
  simp at h
theorem ZMG {s0:TC} {c:CORT} {ev:List EVTT} {cp:List TC} {it:List ITMT} (h:Sem s0 c ev cp it) (l:LINT) (d:Int) (cell:Cell) (moved:Bool) (hr:l.2.2.1=true) (x:TY):
  Sem s0 (Zac c l d) (evE ev c l d cell moved) (evC cp s0 c (Zac c l d) l d moved) (Zep it c x 10):=by
 have hck:Zac c l d=Zza (ZO c.1) 0:=by unfold Zac;rw[hr];rfl
 have he:evE ev c l d cell moved=(bif Zc3 c then ev++[Zff (6,c.2.1,c.2.2.1,Zfe,false,false,false,false,0,0) c.1 l] else ev)++[Zff (4,0,[],Zfe,false,false,false,false,0,0) c.1 l]:=by unfold evE;rw[hr];rfl
 have hc:evC cp s0 c (Zac c l d) l d moved=(bif Zc3 c then cp++[Zo7 s0 cp] else cp)++[ZO c.1]:=by unfold evC;rw[hr,hck];rfl
 rw[he,hc,hck]
 have hcyi:cyI (Zep it c x 10)=cyI it:=Zfa (by decide) rfl
 obtain⟨ev',cp',hev,hcp',hl',hcy⟩:∃ev' cp',(bif Zc3 c then ev++[Zff (6,c.2.1,c.2.2.1,Zfe,false,false,false,false,0,0) c.1 l] else ev)=ev'/\(bif Zc3 c then cp++[Zo7 s0 cp] else cp)=cp'/\(cp'=Zfo s0 ev'/\Zbn s0 ev'=Zbn s0 ev)/\cyA s0 ev'=cyI it:=by
  cases hb:Zc3 c
  ·refine⟨ev,cp,rfl,rfl,⟨h.hcp,rfl⟩,?_⟩
   have hg:c.2.2.1=[]:=by
    unfold Zc3 ZFR at hb
    simp only[RT.val] at hb
    have hx:(decide (iN (List.length c.2.2.1)>0)||c.2.1 !=0)=false:=by
     cases hq:(decide (iN (List.length c.2.2.1)>0)||c.2.1 !=0)
     ·rfl
     ·rw[hq] at hb;cases h2:decide (c.2.2.2.2.1>=2)<;>rw[h2] at hb<;>simp at hb
    rw[Bool.or_eq_false_iff] at hx
    have:=hx.1
    simp only[iN,decide_eq_false_iff_not] at this
    exact List.length_eq_zero_iff.1 (by omega)
   have:=h.hit
   rw[hg] at this
   rw[this]
   show _=_++[]
   rw[List.append_nil]
  ·generalize hcut:Zff (6,c.2.1,c.2.2.1,Zfe,false,false,false,false,0,0) c.1 l=e
   have e1:e.1=6:=by rw[<-hcut,Zbx]
   have e2:e.2.1=c.2.1:=by rw[<-hcut,Zbx]
   have e3:e.2.2.1=c.2.2.1:=by rw[<-hcut,Zbx]
   have ha:Za6 (Zbn s0 ev) e=Zbn s0 ev:=by unfold Za6 ZpY;rw[e1];rfl
   refine⟨_,_,rfl,rfl,⟨?_,by simp only[cond_true];rw[Zgw,ha]⟩,?_⟩
   ·simp only[cond_true];rw[h.hcp,Zd9,ZjZ,ha]
   ·simp only[cond_true]
    rw[Zkh,h.hit]
    unfold ZbE cycE ZpY
    rw[e1,e2,e3];rfl
 rw[hev,hcp']
 generalize hrs:Zff (4,0,[],Zfe,false,false,false,false,0,0) c.1 l=e
 have e1:e.1=4:=by rw[<-hrs,Zbx]
 have hreg:=Zr0 h.un
 have hac:=ZRS (Zbn s0 ev) c.2.1
 have ha:Za6 (Zbn s0 ev') e=ZO c.1:=by
  have:Za6 (Zbn s0 ev') e=ZO (Zbn s0 ev'):=by unfold Za6 ZpY;rw[e1];rfl
  rw[this,hl'.2]
  exact ZM1 (by rw[hreg.1,hac.1]) (by rw[hreg.2,hac.2])
 have hc0:ZbE (Zbn s0 ev') e=[]:=by unfold ZbE cycE ZpY;rw[e1];rfl
 have hl:Zbn s0 (ev'++[e])=ZO c.1:=by rw[Zgw,ha]
 refine⟨by rw[hl'.1,Zd9,ha],by rw[hl];rfl,⟨(by decide:(1:Int)<=1),(by decide:(1:Int)<=9)⟩,λ_ b=> ?_,λe=> ?_,λ_=>⟨rfl,Zls _ _⟩,?_,rfl,λe=> ?_,λe _=> ?_⟩
 ·have:(ZO c.1).2.2.2.2.1=false:=rfl
  replace b:(ZO c.1).2.2.2.2.1=true:=b
  rw[this] at b;simp at b
 ·replace e:(1:Int)=9:=e;omega
 ·rw[hcyi,Zkh,hc0,hcy,hl]
  show _=_++[]++[]
  rw[List.append_nil,List.append_nil]
 ·replace e:(1:Int)=2\/(1:Int)=3\/(1:Int)=7:=e;omega
 ·replace e:(4:Int)<=1:=e;omega
theorem ZwM (b:BRDT) (s0:TC) (st:STT) (i:INPT) (h:Sem s0 st.1.1 st.2.2.2.1 st.2.2.2.2 st.2.2.1):Sem s0 (Za5 b s0 st i).1.1 (Za5 b s0 st i).2.2.2.1 (Za5 b s0 st i).2.2.2.2 (Za5 b s0 st i).2.2.1:=by
 have hcore:(Za0 b st.1 i).1.1=Zac st.1.1 (ZcY b (ZX b st.1 i) i) (busS b (ZX b st.1 i) i).2:=Zrt b st.1 i
 show Sem s0 (Za0 b st.1 i).1.1 (evE st.2.2.2.1 st.1.1 (ZcY b (ZX b st.1 i) i) (busS b (ZX b st.1 i) i).2 (Za0 b st.1 i).2.2.2.2.1 (ZeG b st.1 i)) (evC st.2.2.2.2 s0 st.1.1 (Za0 b st.1 i).1.1 (ZcY b (ZX b st.1 i) i) (busS b (ZX b st.1 i) i).2 (ZeG b st.1 i))
  (Zep st.2.2.1 st.1.1 (Zal st.1.1 (nowS st.1 i) (busS b (ZX b st.1 i) i).2) (nowS st.1 i))
 rw[hcore]
 have hl2:(ZcY b (ZX b st.1 i) i).2.2.1=i.2.2.1:=rfl
 generalize hL:ZcY b (ZX b st.1 i) i=l at hl2|-
 generalize hD:(busS b (ZX b st.1 i) i).2=d
 cases hr:i.2.2.1
 ·have hnow:nowS st.1 i=Z3 st.1.1:=by unfold nowS;rw[hr];rfl
  rw[hnow]
  rw[hr] at hl2
  have hcalm:=ZSB h l d (Za0 b st.1 i).2.2.2.2.1 hl2
  cases hm:ZeG b st.1 i
  ·exact hcalm
  ·--a byte is moved:in a hold state
   have h8:ZaD st.1.1.2.2.2.2.1=8:=by
    unfold ZeG at hm
    rw[Bool.and_eq_true] at hm
    have hp:=hm.1
    unfold pinS at hp
    rw[hL,hD,(ZlD b (ZX b st.1 i) i).1] at hp
    exact (ZxI hp).2
   have hf:(finS st.1.1 l d).2=false:=by
    have h8':st.1.1.2.2.2.2.1=8:=by
     have:=h.nx
     have h1:(decide (st.1.1.2.2.2.2.1<1)||decide (st.1.1.2.2.2.2.1>9))=false:=by simp;omega
     simp only[ZaD,h1,cond_false] at h8
     exact h8
    unfold finS rdS
    rw[hl2,h8'];rfl
   have e1:evE st.2.2.2.1 st.1.1 l d (Za0 b st.1 i).2.2.2.2.1 true=st.2.2.2.1++[(5,0,[],Zfe,false,false,false,false,(Za0 b st.1 i).2.2.2.2.1)]:=by
    unfold evE;rw[hl2,hf];rfl
   have e2:evE st.2.2.2.1 st.1.1 l d (Za0 b st.1 i).2.2.2.2.1 false=st.2.2.2.1:=by
    unfold evE;rw[hl2,hf];rfl
   have e3:evC st.2.2.2.2 s0 st.1.1 (Zac st.1.1 l d) l d true=st.2.2.2.2++[Zo7 s0 st.2.2.2.2]:=by
    unfold evC;rw[hl2,hf];rfl
   have e4:evC st.2.2.2.2 s0 st.1.1 (Zac st.1.1 l d) l d false=st.2.2.2.2:=by
    unfold evC;rw[hl2,hf];rfl
   rw[e1,e3]
   rw[e2,e4] at hcalm
   exact ZSA hcalm _ rfl rfl
 ·have hnow:nowS st.1 i=10:=by unfold nowS;rw[hr];rfl
  rw[hnow]
  exact ZMG h l d _ _ (by rw[hl2,hr]) _
theorem ZEQ (b:BRDT) (s0:TC):∀(l:List INPT) (st:STT),Sem s0 st.1.1 st.2.2.2.1 st.2.2.2.2 st.2.2.1->Sem s0 (ZaJ b s0 st l).1.1 (ZaJ b s0 st l).2.2.2.1 (ZaJ b s0 st l).2.2.2.2 (ZaJ b s0 st l).2.2.1
 |[],st,h=>h
 |i::l,st,h=>ZEQ b s0 l (Za5 b s0 st i) (ZwM b s0 st i h)
theorem ZWl (b:BRDT) (hg:smG b.2.1=true) (hm:b.2.2.2.2.2.2.length<=100000) (hx:((wNew b).2 !=0)=false):wNew b=(newS b,0):=by
 have hv:(Zzm b).val=some (bif ZcU b !=0 then (Zzj,ZcU b) else ((newS b),0)):=by
  unfold Zzm
  have hc:=smCb (l:=b.2.2.2.2.2.2) (by omega)
  simp only[RT.val,Zv8 b hg hc,hc,cond_true]
  cases ZcU b !=0<;>rfl
 have hx':(ZcU b !=0)=false:=by
  cases hq:ZcU b !=0
  ·rfl
  ·exfalso
   simp only[wNew,hv,getO,hq,cond_true] at hx
   simp at hx
 simp only[wNew,hv,getO,hx',cond_false]
theorem ZHc (b:BRDT) (hw:wNew b=(newS b,0)):Z5 b=ZkA b/\Sem (Z5 b) (Zcf b).1.1 (Zcf b).2.2.2.1 (Zcf b).2.2.2.2 (Zcf b).2.2.1:=by
 have hs:Z5 b=ZkA b:=by unfold Z5;rw[hw];rfl
 refine⟨hs,?_⟩
 have e:(Zcf b).1.1=(Z5 b,0,[],(1,0,0,4),1,false):=by unfold Zcf Z5;rw[hw];rfl
 rw[e]
 refine⟨rfl,rfl,⟨(by decide:(1:Int)<=1),(by decide:(1:Int)<=9)⟩,λ_ q=> ?_,λe=> ?_,λ_=>⟨?_,Zls _ _⟩,rfl,rfl,λe=> ?_,λe _=> ?_⟩
 ·have:(Z5 b).2.2.2.2.1=false:=by rw[hs];rfl
  replace q:(Z5 b).2.2.2.2.1=true:=q
  rw[this] at q;simp at q
 ·replace e:(1:Int)=9:=e;omega
 ·have:Z5 b=ZkA b:=hs
  show ((1,0,0,4):TY)=(Zj (Z5 b) 0 []).1
  rw[this];rfl
 ·replace e:(1:Int)=2\/(1:Int)=3\/(1:Int)=7:=e;omega
 ·replace e:(4:Int)<=1:=e;omega
theorem ZMQ (b:BRDT) (l:List INPT) (hg:smG b.2.1=true) (hm:b.2.2.2.2.2.2.length<=100000):
  (Zds b l).1.2.2.2.1=Zfo (ZkA b) (Zds b l).1.2.2.1/\cyI (Zds b l).1.2.1=cyA (ZkA b) (Zds b l).1.2.2.1:=by
 unfold Zds
 cases hx:(wNew b).2 !=0
 ·obtain⟨hs,hi⟩:=ZHc b (ZWl b hg hm hx)
  have hf:=ZEQ b (Z5 b) l (Zcf b) hi
  rw[<-hs]
  show (endS (Z5 b) (ZaJ b (Z5 b) (Zcf b) l)).2.2.2.1=Zfo (Z5 b) (endS (Z5 b) (ZaJ b (Z5 b) (Zcf b) l)).2.2.1/\cyI (endS (Z5 b) (ZaJ b (Z5 b) (Zcf b) l)).2.1=cyA (Z5 b) (endS (Z5 b) (ZaJ b (Z5 b) (Zcf b) l)).2.2.1
  generalize ZaJ b (Z5 b) (Zcf b) l=st at hf
  unfold endS
  cases hb:Zc3 st.1.1
  ·refine⟨hf.hcp,?_⟩
   have hg:st.1.1.2.2.1=[]:=by
    unfold Zc3 ZFR at hb
    simp only[RT.val] at hb
    have hx:(decide (iN (List.length st.1.1.2.2.1)>0)||st.1.1.2.1 !=0)=false:=by
     cases hq:(decide (iN (List.length st.1.1.2.2.1)>0)||st.1.1.2.1 !=0)
     ·rfl
     ·rw[hq] at hb;cases h2:decide (st.1.1.2.2.2.2.1>=2)<;>rw[h2] at hb<;>simp at hb
    rw[Bool.or_eq_false_iff] at hx
    have:=hx.1
    simp only[iN,decide_eq_false_iff_not] at this
    exact List.length_eq_zero_iff.1 (by omega)
   have:=hf.hit
   rw[hg] at this
   show cyI st.2.2.1=_
   rw[this]
   show _++[]=_
   rw[List.append_nil];rfl
  ·simp only[cond_true]
   have ha:Za6 (Zbn (Z5 b) st.2.2.2.1) (7,st.1.1.2.1,st.1.1.2.2.1,Zfe,false,false,false,false,0,0)=Zbn (Z5 b) st.2.2.2.1:=rfl
   refine⟨by rw[hf.hcp,Zd9,ZjZ,ha],?_⟩
   rw[Zkh]
   exact hf.hit
 ·exact⟨rfl,rfl⟩
theorem ZZY {w a b:Int} {m:Bool} (hw:inR .u16 w) (a0:0<=a) (a1:a<6) (b0:0<=b) (b1:b<5):
  badR (w,u16.wrap (if 65535<i64.wrap (i64.wrap w+R.get (R.int i64) [0,3,15,255,4095,65535] a) then 65535 else i64.wrap (i64.wrap w+R.get (R.int i64) [0,3,15,255,4095,65535] a)),m,R.get (R.int i64) [0,0,1,2,5] b)=false:=by
 rw[ZhT] at hw
 obtain⟨x,ex,hx⟩:∃x:Int,R.get (R.int i64) [0,3,15,255,4095,65535] a=x/\0<=x/\x<=65535:=by
  have:a=0\/a=1\/a=2\/a=3\/a=4\/a=5:=by omega
  rcases this with rfl|rfl|rfl|rfl|rfl|rfl<;>exact⟨_,rfl,by decide,by decide⟩
 obtain⟨y,ey,hy⟩:∃y:Int,R.get (R.int i64) [0,0,1,2,5] b=y/\0<=y/\y<=100:=by
  have:b=0\/b=1\/b=2\/b=3\/b=4:=by omega
  rcases this with rfl|rfl|rfl|rfl|rfl<;>exact⟨_,rfl,by decide,by decide⟩
 rw[ex,ey]
 have w1:IntKind.wrap .i64 w=w:=wrap_i64 _ (by omega) (by omega)
 have w2:IntKind.wrap .i64 (w+x)=w+x:=wrap_i64 _ (by omega) (by omega)
 rw[w1,w2]
 have hu:∀z:Int,0<=z->z<=65535->IntKind.wrap .u16 z=z:=λz h1 h2=>by rw[ZrC];omega
 unfold badR
 simp only
 rw[Bool.or_eq_false_iff,Bool.or_eq_false_iff]
 refine⟨?_,decide_eq_false (by omega),decide_eq_false (by omega)⟩
 by_cases h:65535<w+x
 ·rw[if_pos h,hu _ (by omega) (by omega)];exact decide_eq_false (by omega)
 ·rw[if_neg h,hu _ (by omega) (by omega)];exact decide_eq_false (by omega)
theorem Zya {s:List Int×Int} {k:Int} (h:NB s k) (hk:k<=500000) (n:Nat) (hn:n<=100):
  ZbY s (n:Int)=true/\NB (Z2 s (n:Int)).2 (k+1+5*n)/\(Z2 s (n:Int)).1.length<=n/\∀r∈(Z2 s (n:Int)).1,badR r=false:=by
 have hms:=mst
 have w0:IntKind.wrap .i64 ((n:Int)+1)=(n:Int)+1:=wrap_i64 _ (by omega) (by omega)
 obtain⟨c1,b1,d0,d1⟩:=Zy h (by omega) ((n:Int)+1) (by omega) (by omega)
 obtain⟨L,N,hs1⟩:∃L N,(L,N)=(Zd s ((n:Int)+1)).2:=⟨_,_,rfl⟩
 obtain⟨q,hq⟩:∃q:Nat,(Zd s ((n:Int)+1)).1=(q:Int):=⟨_,(Int.toNat_of_nonneg d0).symm⟩
 rw[<-hs1] at b1
 obtain⟨r,hr,h1,L',N',o,hs',⟨ho,hvv⟩,hR⟩:=ZN (fl:=false) (t:=ZbX) (fuel:=λa=>400)
  (λa=>∃(i:Nat) (L:List Int) (N:Int) (o:List Z1),i<=q/\NB (L,N) (k+1+5*((q-i:Nat):Int))/\(o.length<=q-i/\∀r∈o,badR r=false)/\a=((i:Int),(L,N),o,()))
  (λa=>Int.toNat a.1) (λr=>r.1=false/\∃(L:List Int) (N:Int) (o:List Z1),NB (L,N) (k+1+5*(q:Int))/\(o.length<=q/\∀r∈o,badR r=false)/\r.2=((0:Int),(L,N),o,()))
  (by
   rintro a ⟨i,L,N,o,hi,hs',⟨ho,hv⟩,rfl⟩
   cases i with
   |zero=>
    right;left
    exact⟨_,by simp only[ZbX,RT.val];rfl,rfl,L,N,o,by simpa using hs',⟨by omega,hv⟩,rfl⟩
   |succ i=>
    left
    have d:decide (((i+1:Nat):Int)>0)=true:=decide_eq_true (by omega)
    obtain⟨kw,bw,hwr⟩:=ZGH hs' (by omega)
    obtain⟨k1,b1,e0,e1⟩:=Zy bw (by omega) 6 (by decide) (by decide)
    obtain⟨k2,b2,_⟩:=Zy b1 (by omega) 3 (by decide) (by decide)
    obtain⟨k3,b3,f0,f1⟩:=Zy b2 (by omega) 5 (by decide) (by decide)
    have r1:Zf (Zd (ZaV (L,N)).2 6).1 6=true:=ZK.2 ⟨e0,e1⟩
    have r2:Zf (Zd (Zd (Zd (ZaV (L,N)).2 6).2 3).2 5).1 5=true:=ZK.2 ⟨f0,f1⟩
    have hb:∀x:Z1,Nat.ble (o++[x]).length most=true:=λx=>ZaF (by simp;omega)
    have w:IntKind.wrap .i64 (((i+1:Nat):Int)-1)=(i:Int):=by rw[wrap_i64 _ (by omega) (by omega)];omega
    obtain⟨o',ho'⟩:∃o':List Z1,o'=o++[((ZaV (L,N)).1,u16.wrap (if 65535<i64.wrap (i64.wrap (ZaV (L,N)).1+R.get (R.int i64) [0,3,15,255,4095,65535] (Zd (ZaV (L,N)).2 6).1) then 65535 else i64.wrap (i64.wrap (ZaV (L,N)).1+R.get (R.int i64) [0,3,15,255,4095,65535] (Zd (ZaV (L,N)).2 6).1)),decide ((Zd (Zd (ZaV (L,N)).2 6).2 3).1>0),R.get (R.int i64) [0,0,1,2,5] (Zd (Zd (Zd (ZaV (L,N)).2 6).2 3).2 5).1)]:=⟨_,rfl⟩
    refine⟨((i:Int),((Zd (Zd (Zd (ZaV (L,N)).2 6).2 3).2 5).2.1,(Zd (Zd (Zd (ZaV (L,N)).2 6).2 3).2 5).2.2),o',()),?_,⟨i,_,_,o',by omega,b3.up (by omega),⟨by rw[ho'];simp;omega,λr hr=>by rw[ho'] at hr;rcases List.mem_append.1 hr with hr|hr;exact hv r hr;rw[List.mem_singleton] at hr;rw[hr];exact ZZY hwr e0 e1 f0 f1⟩,rfl⟩,by simp only;omega⟩
    simp only[ZbX,RT.val,List.length_cons,List.length_nil,Nat.reduceAdd,d,kw,k1,k2,k3,r1,r2,hb,w,ho',cond_true,Bool.not_true,Bool.false_or,Bool.or_true,Bool.or_false])
  ((q:Int),(L,N),[],()) ⟨q,L,N,[],Nat.le_refl _,by simpa using b1,⟨by simp,λr hr=>by simp at hr⟩,rfl⟩ (by simp only;omega)
 obtain⟨r1,r2⟩:=r
 simp only at h1 hR
 subst h1 hR
 have hv:(Zek s (n:Int)).val=some (o,L',N'):=by
  simp only[Zek,RT.val,w0,c1,hq,<-hs1,hr,okB,getO,cond_true]
 simp only[ZbY,Z2,hv,okB,getO]
 exact⟨trivial,hs'.up (by omega),by omega,hvv⟩
theorem ZT2 {s:List Int×Int} {k:Int} (h:NB s k) (hk:k<=400000):∀r∈(nMap s).1,badR r=false:=by
 obtain⟨c1,b1,l1,hv1⟩:=Zya h (by omega) 2 (by omega)
 have c1:ZbY s 2=true:=c1
 have b1:NB (Z2 s 2).2 (k+1+5*((2:Nat):Int)):=b1
 have l1:(Z2 s 2).1.length<=2:=l1
 have hv1:∀r∈(Z2 s 2).1,badR r=false:=hv1
 obtain⟨c2,b2,d0,d1⟩:=Zy b1 (by omega) 3 (by decide) (by decide)
 have hs:∀x:Z1,Nat.ble ((Z2 s 2).1++[x]).length most=true:=λx=>ZaF (by have:=mst;simp;omega)
 have hg:∀l:List Z1,Stg.l (newG ZdU ZdV l)=l:=λ_=>rfl
 have hv:(ZDa s).val=some ((Z2 s 2).1++[(0,65535,true,IntKind.wrap .i64 (Int.tdiv (Zd (Z2 s 2).2 3).1 2))],(Zd (Z2 s 2).2 3).2):=by
  simp only[ZDa,RT.val,hg,c1,c2,hs,Bool.not_true,Bool.false_or,Bool.or_true,cond_true]
 simp only[nMap,hv,getO]
 intro r hr
 rcases List.mem_append.1 hr with hr|hr
 ·exact hv1 r hr
 ·rw[List.mem_singleton] at hr
  subst hr
  have:(Zd (Z2 s 2).2 3).1=0\/(Zd (Z2 s 2).2 3).1=1\/(Zd (Z2 s 2).2 3).1=2:=by omega
  rcases this with e|e|e<;>rw[e]<;>rfl
theorem ZZs (n:List Int) (h:Bool):ZcU (brdK n h)=0:=by
 obtain⟨c1,b1,⟨s1,bs1,hr⟩,hch,hio,l,hl,hi⟩:=Zyi (ZRc n) (by omega)
 obtain⟨c2,_,l2⟩:=ZC9 bs1 (by omega)
 have hbad:=ZT2 bs1 (by omega)
 have hg:smG (brdK n h).2.1=true:=(ZMP n h).2.2.1
 have e1:(brdK n h).2.1=(nMap s1).1:=hr
 have e2:(brdK n h).2.2.2.2.2.2=normX l:=hi
 have e3:(brdK n h).1=1\/(brdK n h).1=2:=hch
 have e4:0<=(brdK n h).2.2.1/\(brdK n h).2.2.1<=2:=hio
 have hx:Zd4 (brdK n h).2.1=0:=by
  rw[e1]
  unfold Zd4
  have q1:decide (iN (nMap s1).1.length>16)=false:=decide_eq_false (by simp only[iN];omega)
  have q2:(nMap s1).1.any badR=false:=by
   rw[List.any_eq_false];intro r hr;rw[hbad r hr];simp
  rw[q1,q2];rfl
 have hc:smC (normX l)=true:=smCm (by have:=Zcl l;omega)
 have hvl:vldB (normX l)=true:=Zk1.2 (Zgs l)
 have q3:((brdK n h).1 !=1&&(brdK n h).1 !=2)=false:=by rcases e3 with e|e<;>rw[e]<;>rfl
 have q4:decide ((brdK n h).2.2.1<0)=false:=decide_eq_false (by omega)
 have q5:decide ((brdK n h).2.2.1>100)=false:=decide_eq_false (by omega)
 have hv:(Zjj (brdK n h)).val=some 0:=by
  unfold Zjj
  simp only[RT.val,q3,hg,hx,q4,q5,e2,hc,hvl,Bool.or_true,Bool.not_true,Bool.or_self,cond_true,cond_false]
  rfl
 simp only[ZcU,hv,getO]
theorem ZWJ (g:List GT) (m:List Cell) (l:List TY) (x:TY):wrL g m (l++[x])=wrY g (wrL g m l) x:=by unfold wrL;rw[List.foldl_append];rfl
def NoD (ev:List EVTT):Prop:=∀e∈ev,e.1≠5
theorem ZRV (k:Int):Zfp k=(k==3||(k==5||k==7)):=rfl
theorem ZWH (g:List GT) (m:List Cell) (x:TY) (p:TC) (d:Int):wrY g m (Zcg p x d)=bif Zfp x.1 then (bif x.1 !=7 then Zbw g m x.2.1 x.2.2.1 else m) else m:=by
 have e1:(Zcg p x d).1=x.1:=rfl
 have e2:(Zcg p x d).2.1=x.2.1:=rfl
 have e3:(Zcg p x d).2.2.1=bif ZcG x.1 then d else x.2.2.1:=rfl
 unfold wrY
 rw[e1,e2,e3,ZRV]
 by_cases h3:x.1=3
 ·rw[h3];rfl
 by_cases h5:x.1=5
 ·rw[h5];rfl
 by_cases h7:x.1=7
 ·rw[h7];rfl
 have b3:(x.1==3)=false:=by simpa using h3
 have b5:(x.1==5)=false:=by simpa using h5
 have b7:(x.1==7)=false:=by simpa using h7
 rw[b3,b5,b7];rfl
theorem ZUD {s0:TC} {c:CORT} {ev:List EVTT} {cp:List TC} {it:List ITMT} (h:Sem s0 c ev cp it) (d:Int):
  cyI (Zep it c (Zal c (Z3 c) d) (Z3 c))=bif Z3 c==3 then cyI it++[Zcg c.1 c.2.2.2.1 d] else cyI it:=by
 obtain⟨hcp,un,nx,rest,nine,cy,hit,ln,pt,ps⟩:=h
 clear hit ln un hcp rest nine cy
 obtain⟨p0,s,g,x,n,hd⟩:=c
 simp only at nx pt ps
 have hst:Z3 (p0,s,g,x,n,hd)=n:=by
  have h1:(decide (n<1)||decide (n>9))=false:=by simp;omega
  simp only[Z3,Zsy,RT.val,h1,cond_false]
 rw[hst]
 have hcases:n=1\/n=2\/n=3\/(n=4\/n=5\/n=6)\/n=7\/n=8\/n=9:=by omega
 rcases hcases with e|e|e|e|e|e|e
 ·subst e
  rw[ZkJ _ _ _ rfl]
  show cyI (it++[_])=_
  rw[ZbF]
  show cyI it++[]=_
  rw[List.append_nil];rfl
 ·subst e
  obtain⟨l',y,rfl,y1,yN⟩:=pt (.inl rfl)
  rw[ZkJ _ _ _ rfl]
  show cyI (ZdC (l'++[y]) _)=cyI (l'++[y])
  rw[Zba,itN y 1 yN (by decide) (by decide),ZbF,ZbF]
  have:y.2.2.2.1=1:=yN
  rw[this,y1];rfl
 ·subst e
  obtain⟨l',y,rfl,y1,yN⟩:=pt (.inr (.inl rfl))
  rw[Z0Q _ _ p0 rfl]
  show cyI (ZdC (l'++[y]) _)=cyI (l'++[y])++[Zcg p0 x d]
  rw[Zba,itN y 2 yN (by decide) (by decide),ZbF,ZbF]
  have:y.2.2.2.1=2:=yN
  rw[this,y1]
  show cyI l'++[Zcg p0 x d]=cyI l'++[]++[Zcg p0 x d]
  rw[List.append_nil]
 ·obtain⟨l',y,rfl,y1,yN,yc⟩:=ps (by rcases e with rfl|rfl|rfl<;>decide) (by rcases e with rfl|rfl|rfl<;>decide)
  clear pt ps
  have b3:(n==3)=false:=by rcases e with rfl|rfl|rfl<;>rfl
  rw[ZkJ _ _ _ b3,b3]
  have hi:Zep (l'++[y]) (p0,s,g,x,n,hd) x n=l'++[(y.1,x,y.2.2.1,IntKind.wrap .i64 (y.2.2.2.1+1),y.2.2.2.2)]:=by
   rcases e with rfl|rfl|rfl<;>exact Zba _ _ _
  rw[hi,itN y (n-1) yN (by omega) (by omega),ZbF]
  show _=cyI (l'++[y])
  rw[ZbF]
  have q1:decide (n-1+1>=3)=true:=decide_eq_true (by omega)
  have q2:decide (y.2.2.2.1>=3)=true:=decide_eq_true (by omega)
  simp only[y1,q1,q2,yc]
 ·subst e
  obtain⟨l',y,rfl,y1,yN⟩:=pt (.inr (.inr rfl))
  rw[ZkJ _ _ _ rfl]
  show cyI (ZdC (l'++[y]) _)=cyI (l'++[y])
  rw[Zba,ZbF,ZbF]
  have:y.2.2.2.1=2:=yN
  simp only[this,y1];rfl
 ·subst e;exact Zfa (by decide) rfl
 ·subst e;exact Zfa (by decide) rfl
theorem ZQA (b:BRDT) (s0:TC) (st:STT) (i:INPT) (m0:List Cell) (h:Sem s0 st.1.1 st.2.2.2.1 st.2.2.2.2 st.2.2.1) (hm:st.1.2.1=wrL b.2.1 m0 (cyI st.2.2.1)) (hmv:ZeG b st.1 i=false):
  (Za5 b s0 st i).1.2.1=wrL b.2.1 m0 (cyI (Za5 b s0 st i).2.2.1):=by
 have hmem:(Za5 b s0 st i).1.2.1=(Zd2 b st.1 i).2.1:=by
  show (ZwV (Zyk b st.1 i) i.2.2.1).2.1=_
  unfold ZwV Zyk
  rw[hmv]
  cases i.2.2.1<;>rfl
 have hits:(Za5 b s0 st i).2.2.1=Zep st.2.2.1 st.1.1 (Zal st.1.1 (nowS st.1 i) (busS b (ZX b st.1 i) i).2) (nowS st.1 i):=rfl
 have hco:=(ZvO b st.1 i).1
 rw[hmem,hits]
 cases hr:i.2.2.1
 ·have hnow:nowS st.1 i=Z3 st.1.1:=by unfold nowS;rw[hr];rfl
  rw[hnow,ZUD h]
  unfold Zd2 ZlF
  rw[hr]
  cases h3:Z3 st.1.1==3
  ·simp only[Bool.not_false,Bool.true_and,Bool.false_and,cond_false]
   rw[hco];exact hm
  ·simp only[Bool.not_false,Bool.true_and,cond_true]
   rw[ZWJ,ZWH,<-hm]
   cases Zfp st.1.1.2.2.2.1.1
   ·simp only[cond_false];exact hco
   ·simp only[cond_true]
    unfold Zf3
    cases st.1.1.2.2.2.1.1 !=7
    ·simp only[cond_false];exact hco
    ·simp only[cond_true];rw[hco]
 ·have hnow:nowS st.1 i=10:=by unfold nowS;rw[hr];rfl
  rw[hnow]
  have:cyI (Zep st.2.2.1 st.1.1 (Zal st.1.1 10 (busS b (ZX b st.1 i) i).2) 10)=cyI st.2.2.1:=Zfa (by decide) rfl
  rw[this]
  unfold Zd2 ZlF
  rw[hr]
  simp only[Bool.not_true,Bool.false_and,cond_false]
  rw[hco];exact hm
theorem ZZk (ev:List EVTT) (c:CORT) (l:LINT) (d:Int) (cell:Cell) (moved:Bool):∃t,evE ev c l d cell moved=ev++t:=by
 unfold evE
 dsimp only
 cases l.2.2.1
 ·cases (finS c l d).2<;>cases moved
  ·exact⟨[],by simp⟩
  ·exact⟨_,rfl⟩
  ·exact⟨_,rfl⟩
  ·exact⟨_,by simp only[cond_true,cond_false];rw[List.append_assoc]⟩
 ·cases Zc3 c
  ·exact⟨_,rfl⟩
  ·exact⟨_,by simp only[cond_true];rw[List.append_assoc]⟩
theorem ZHg (b:BRDT) (s0:TC):∀(l:List INPT) (st:STT),∃t,(ZaJ b s0 st l).2.2.2.1=st.2.2.2.1++t
 |[],st=>⟨[],by rw[List.append_nil];rfl⟩
 |i::l,st=>by
  obtain⟨t1,h1⟩:=ZHg b s0 l (Za5 b s0 st i)
  obtain⟨t2,h2⟩:=ZZk st.2.2.2.1 st.1.1 (Za0 b st.1 i).2.2.1 (Za0 b st.1 i).2.2.2.1 (Za0 b st.1 i).2.2.2.2.1 (Za0 b st.1 i).2.2.2.2.2
  refine⟨t2++t1,?_⟩
  have h3:(Za5 b s0 st i).2.2.2.1=st.2.2.2.1++t2:=h2
  show (ZaJ b s0 (Za5 b s0 st i) l).2.2.2.1=_
  rw[h1,h3,List.append_assoc]
theorem NoD.left {a t:List EVTT} (h:NoD (a++t)):NoD a:=λe he=>h e (List.mem_append_left _ he)
theorem ZGO (b:BRDT) (s0:TC) (m0:List Cell):∀(l:List INPT) (st:STT),Sem s0 st.1.1 st.2.2.2.1 st.2.2.2.2 st.2.2.1->st.1.2.1=wrL b.2.1 m0 (cyI st.2.2.1)->NoD (ZaJ b s0 st l).2.2.2.1->
  (ZaJ b s0 st l).1.2.1=wrL b.2.1 m0 (cyI (ZaJ b s0 st l).2.2.1)
 |[],st,h,hm,_=>hm
 |i::l,st,h,hm,hn=>by
  have hn':NoD (ZaJ b s0 (Za5 b s0 st i) l).2.2.2.1:=hn
  obtain⟨t,ht⟩:=ZHg b s0 l (Za5 b s0 st i)
  have hn1:NoD (Za5 b s0 st i).2.2.2.1:=by rw[ht] at hn';exact hn'.left
  have hmv:ZeG b st.1 i=false:=by
   cases hq:ZeG b st.1 i
   ·rfl
   ·exfalso
    have hp:=hq
    unfold ZeG at hp
    rw[Bool.and_eq_true] at hp
    have hp:=hp.1
    unfold pinS at hp
    have hr:=(ZxI hp).1
    have he:(Za5 b s0 st i).2.2.2.1=evE st.2.2.2.1 st.1.1 (ZcY b (ZX b st.1 i) i) (busS b (ZX b st.1 i) i).2 (Za0 b st.1 i).2.2.2.2.1 (ZeG b st.1 i):=rfl
    rw[he,hq] at hn1
    have:(5,0,[],Zfe,false,false,false,false,(Za0 b st.1 i).2.2.2.2.1)∈evE st.2.2.2.1 st.1.1 (ZcY b (ZX b st.1 i) i) (busS b (ZX b st.1 i) i).2 (Za0 b st.1 i).2.2.2.2.1 true:=by
     unfold evE
     rw[hr]
     exact List.mem_append_right _ (List.mem_singleton.2 rfl)
    exact hn1 _ this rfl
  exact ZGO b s0 m0 l (Za5 b s0 st i) (ZwM b s0 st i h) (ZQA b s0 st i m0 h hm hmv) hn'
theorem ZGR (g:List GT):∀(l:List EVTT) (c:TC) (m:List Cell),NoD l->memF g c m l=wrL g m (cyA c l)
 |[],c,m,_=>rfl
 |e::l,c,m,h=>by
  have h5:(e.1==5)=false:=by simpa using h e List.mem_cons_self
  have:=ZGR g l (Za6 c e) (wrE c g m e) λx hx=>h x (List.mem_cons_of_mem _ hx)
  simp only[memF,cyA,this]
  unfold wrE wrL
  rw[h5,List.foldl_append];rfl
theorem ZXn (b:BRDT) (l:List INPT) (hg:smG b.2.1=true) (hm:b.2.2.2.2.2.2.length<=100000) (hv:ZcU b=0) (hn:NoD (Zds b l).1.2.2.1):
  (Zds b l).1.2.2.2.2.2.1=memX (ZkA b) b.2.1 b.2.2.2.2.2.2 (Zds b l).1.2.2.1:=by
 have hx:((wNew b).2 !=0)=false:=by rw[(ZrI b hg hm).2.1,hv];rfl
 have h2:=(ZMQ b l hg hm).2
 unfold memX
 rw[ZGR _ _ _ _ hn,<-h2]
 obtain⟨hs,hi⟩:=ZHc b (ZWl b hg hm hx)
 have h0:=((ZrI b hg hm).2.2 (by simpa using hx)).2
 unfold Zds at hn|-
 rw[hx] at hn|-
 simp only[cond_false] at hn|-
 have hnd:NoD (ZaJ b (Z5 b) (Zcf b) l).2.2.2.1:=by
  unfold endS at hn
  cases hb:Zc3 (ZaJ b (Z5 b) (Zcf b) l).1.1
  ·rw[hb] at hn;exact hn
  ·rw[hb] at hn;exact NoD.left hn
 exact ZGO b (Z5 b) (normX b.2.2.2.2.2.2) l (Zcf b) hi h0 hnd
end
end Go.Proofs.YtghoimllhpjkjaaGreat
open Go Go.S3 Go.Proofs
namespace Go.Proofs.YtghoimllhpjkjaaGreat
noncomputable section
abbrev Zo8:List Sh:=[Sh.one (R.sl (R.int i64))]
abbrev ZhS:Rs:=Rs.one (Sh.one R.bool)
def ZyF:LS:={n:=44,slots:=[(2,.code (Sh.one R.bool)),(3,.fix (A.loc 0 0)),(4,.fix (A.loc 1 0)),(17,.code (Sh.one (R.sl ZbN))),(18,.code (Sh.one (R.int i64))),(19,.code (Sh.one (R.int i64)))],boxes:=[[.many (R.pair (R.int i64) (R.pair rcRG (R.pair (R.int i64) (R.pair (R.int u8) (R.pair (R.int u8) (R.pair R.bool rcCE))))))],[.many (R.pair (R.sl ZM5) (R.pair (R.sl Zz5) (R.pair (R.sl ZbN) (R.pair (R.sl ZF) (R.pair (R.pair ZF (R.pair (R.int i64) (R.pair (R.sl (R.int u8)) (R.pair (RY) (R.pair (R.int i64) R.bool))))) (R.pair rcCE (R.pair Zbe (R.pair (R.pair (R.int u16) (R.pair (R.int u8) (R.int i64))) (R.pair (R.int i64) (R.sl (R.pair (R.int u8) (R.int u8))))))))))))]],stgs:=[]}
def ZbZ (a:QT23):RT (Option (Go1 (QT23))):=
 let x1:=(R.get ZbN a.2.1 a.2.2.2.1).1==5
 let x2:BRDT×RUNT×PUnit:=(a.2.2.2.2.1,a.2.2.2.2.2.1,PUnit.unit)
 let x3:List EVTT×Int×Int×BRDT×RUNT×PUnit:=(a.2.1,a.2.2.1,a.2.2.2.1,x2)
 .br (decide (a.2.2.2.1<a.2.2.1)) (.br (!Zf a.2.2.2.1 (List.length a.2.1)||(!x1||kKbC)) (.br (Zf a.2.2.2.1 (List.length a.2.1)) (.br (x1) (.leaf (some (Go1.ret (true,x3)))) (.leaf (some (Go1.cont (a.1,a.2.1,a.2.2.1,i64.wrap (a.2.2.2.1+1),x2))))) (.leaf none)) (.leaf none)) (.leaf (some (Go1.brk (a.1,x3))))
def Zkz:Ora:=Zbm true ZyF ZbZ (λa=>1000000000000)
theorem ZpX:Za1 (envX Tryz.prog [(39,Zle),(45,kKbE),(54,ZQT),(58,Zjg),(60,ZDq)] [] 127 8) (.block 0 (.loop (Zae Tryz.f12.body 0))) Zkz:=
 loopP ⟨ZjC,ZWr,ZG8,Zh0,ZyI,Tv⟩
def Ze5 (n:List Int):RT (Option (Bool)):=
 let x1:QT23:=(false,(ZDs n true).2.2.2.1,iN (List.length (ZDs n true).2.2.2.1),0,(ZDs n true).1,(ZDs n true).2,())
 let x2:=runF true ZbZ (λa=>1000000000000) x1
 let x3:=getO (false,x1) x2
 let x4:=x3.2
 let x5:=x4.2.2.2.2
 let x6:=x5.1
 let x7:=x6.2
 let x8:=x7.1
 let x9:=x7.2.2.2.2.2
 let x10:=x5.2.1.2.2
 let x11:=x10.1
 let x12:=ZHL x8 x9 x11
 let x13:= !x12
 let x14:=memX (ZkA x6) x8 x9 x11
 let x15:=smC x14
 let x16:=decide (x14=x10.2.2.2.1)
 .br (!decide (iN (List.length n)>250)||kKbC) (.br (decide (iN (List.length n)>250)) (.leaf (some (true))) (.br (ZG9 n true) (.br (okB x2) (.br x3.1 (.leaf (some x4.1)) (.br (x13||(!x15||(!x16||kKbC))) (.br (x13||x15) (.br (x12) (.leaf (some (x16&&kKb))) (.leaf none)) (.leaf none)) (.leaf none))) (.leaf none)) (.leaf none))) (.leaf none)
def Zo9 (n:List Int):Bool:=getO ZhS.dflt (Ze5 n).val
def Zj0 (n:List Int):Bool:=okB (Ze5 n).val
def ZKr:Entry:=Zg Zo8 ZhS (λa=>some (Zj0 a)) (λa=>Zo9 a)
theorem lMemories_ok:Za Tryz.prog 12 ZKr:=
 pureP 127 [(39,Zle),(45,kKbE),(54,ZQT),(58,Zjg),(60,ZDq)] [(0,Zkz)] Zo8 ZhS ⟨ZjC,ZWr,ZG8,Zh0,ZyI,Tv⟩ Tryz.func12 Tryz.call12 ⟨ZpX,Tv⟩ (t:=λa=>Ze5 a)
theorem ZZo (l:List EVTT) (b:BRDT) (r:RUNT) (hl:l.length<=1000000):∃q,runF true ZbZ (λ_=>1000000000000) (false,l,(l.length:Int),0,b,r,())=some q/\
  ((q.1=true/\q.2.1=true)\/(q=(false,(false,l,(l.length:Int),(l.length:Int),b,r,()))/\NoD l)):=by
 have hms:=mst
 refine ZN (fl:=true) (t:=ZbZ) (fuel:=λ_=>1000000000000)
  (λa=>∃i:Nat,i<=l.length/\NoD (l.take i)/\a=(false,l,(l.length:Int),(i:Int),b,r,()))
  (λa=>Int.toNat (a.2.2.1-a.2.2.2.1)) _ ?_ _ ⟨0,Nat.zero_le _,λe he=>by simp at he,rfl⟩ (by simp only;omega)
 rintro a ⟨i,hi,hn,rfl⟩
 by_cases hlt:i<l.length
 ·have d:decide ((i:Int)<(l.length:Int))=true:=decide_eq_true (by omega)
  have hin:Zf (i:Int) l.length=true:=ZK.2 ⟨by omega,by omega⟩
  have w:IntKind.wrap .i64 ((i:Int)+1)=((i+1:Nat):Int):=by rw[wrap_i64 _ (by omega) (by omega)];omega
  cases h5:(R.get ZbN l (i:Int)).1==5
  ·left
   refine⟨(false,l,(l.length:Int),((i+1:Nat):Int),b,r,()),?_,⟨i+1,by omega,?_,rfl⟩,by simp only;omega⟩
   ·simp only[ZbZ,RT.val,d,hin,w,h5,Bool.not_false,Bool.true_or,Bool.or_true,cond_true,cond_false]
   ·rw[ZMx (r:=ZbN) l i hlt]
    intro e he
    rcases List.mem_append.1 he with he|he
    ·exact hn e he
    ·rw[List.mem_singleton] at he;subst he;simpa using h5
  ·right;right
   refine⟨(true,l,(l.length:Int),(i:Int),b,r,()),rfl,?_,.inl ⟨rfl,rfl⟩⟩
   simp only[ZbZ,RT.val,d,hin,w,h5,ZyG.1,Bool.or_true,cond_true]
 ·right;left
  have e1:i=l.length:=by omega
  subst e1
  have d:decide ((l.length:Int)<(l.length:Int))=false:=decide_eq_false (by omega)
  rw[List.take_length] at hn
  exact⟨(false,l,(l.length:Int),(l.length:Int),b,r,()),by simp only[ZbZ,RT.val,d,cond_false],.inr ⟨rfl,hn⟩⟩
theorem memories_law (n:List Int):Zj0 n=true/\Zo9 n=true:=by
 obtain⟨r1,r2,hg,hm,hs,_⟩:=ZMP n true
 obtain⟨e1,e2,e3⟩:=ZZT (brdK n true) (scrK n) hg (by omega) (by omega)
 have hw2:=wgh_b (Zds (brdK n true) (scrK n)).1.2.2.1 1000 e2
 have hw3:wgh (Zds (brdK n true) (scrK n)).1.2.2.1<=2001*1001:=Nat.le_trans hw2 (Nat.mul_le_mul e1 (Nat.le_refl _))
 have hM:ZHL (brdK n true).2.1 (brdK n true).2.2.2.2.2.2 (Zds (brdK n true) (scrK n)).1.2.2.1=true:=ZwP.2 ⟨hg,by omega,by omega,λe he=>by have:=e2 e he;omega⟩
 obtain⟨q,hq,hc⟩:=ZZo (Zds (brdK n true) (scrK n)).1.2.2.1 (brdK n true) (Zds (brdK n true) (scrK n)).1 (by omega)
 have hfl:∀(g:List GT) (l:List EVTT) (c:TC) (m:List Cell),(memF g c m l).length<=m.length+wgh l:=by
  intro g l
  induction l with
  |nil=>intro c m;exact Nat.le_refl _
  |cons e l ih=>
   intro c m
   have h1:=ih (Za6 c e) (wrE c g m e)
   have h2:=ZKR c g m e
   simp only[memF,wgh];omega
 have hS:∀k,smC (memX k (brdK n true).2.1 (brdK n true).2.2.2.2.2.2 (Zds (brdK n true) (scrK n)).1.2.2.1)=true:=λk=>smCm (by
  have h1:=hfl (brdK n true).2.1 (Zds (brdK n true) (scrK n)).1.2.2.1 k (normX (brdK n true).2.2.2.2.2.2)
  have h2:=Zcl (brdK n true).2.2.2.2.2.2
  unfold memX;omega)
 have hv:(Ze5 n).val=some true:=by
  unfold Ze5
  cases hx:decide (iN (List.length n)>250)
  ·simp only[RT.val,r1,r2,iN] at hq|-
   rcases hc with ⟨g1,g2⟩|⟨g1,g2⟩
   ·simp only[hq,okB,getO,g1,g2,ZyG.1,Bool.not_true,Bool.not_false,Bool.true_or,Bool.or_true,cond_true,cond_false]
   ·have he:=ZXn (brdK n true) (scrK n) hg (by omega) (ZZs n true) g2
    simp only[hq,okB,getO,g1,hM,hS,he,ZyG.1,ZyG.2,decide_true,Bool.not_true,Bool.not_false,Bool.false_or,Bool.true_or,Bool.or_true,Bool.and_self,cond_true,cond_false]
  ·simp only[RT.val,ZyG.1,Bool.or_true,cond_true]
 exact⟨by simp only[Zj0,hv];rfl,by simp only[Zo9,hv,getO]⟩
end
end Go.Proofs.YtghoimllhpjkjaaGreat
