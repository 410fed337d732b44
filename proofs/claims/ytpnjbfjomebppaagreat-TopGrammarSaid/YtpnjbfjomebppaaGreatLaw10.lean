import Derived.Test.YtpnjbfjomebppaaGreatBndR
open Go.IntKind (u8 u16 i64)
open Go Go.S3 Go.Proofs Go.Proofs.Cells
set_option linter.unusedVariables false
set_option linter.unusedSimpArgs false
set_option maxRecDepth 100000
namespace Go.Proofs.YtpnjbfjomebppaaGreat
noncomputable section
def cyA:TC->List EVTT->List TY
 |_,[]=>[]
 |c,e::l=>Zb4 c e++cyA (Zb8 c e) l
theorem Zfe (c:TC) (l:List EVTT) (e:EVTT):ZaN c (l++[e])=Zb8 (ZaN c l) e:=by unfold ZaN;rw[List.foldl_append];rfl
theorem Zie:∀(l:List EVTT) (c:TC) (e:EVTT),cyA c (l++[e])=cyA c l++Zb4 (ZaN c l) e
 |[],c,e=>by simp[cyA,ZaN]
 |x::l,c,e=>by have:=Zie l (Zb8 c x) e;simp only[List.cons_append,cyA,this,Yp];rfl
theorem Zec:∀(l:List EVTT) (c:TC) (e:EVTT),Zp1 c (l++[e])=Zp1 c l++[Zb8 (ZaN c l) e]
 |[],c,e=>rfl
 |x::l,c,e=>by have:=Zec l (Zb8 c x) e;simp only[List.cons_append,Zp1,this];rfl
theorem Zkz (c:TC) (l:List EVTT):Zlr c (Zp1 c l)=ZaN c l:=by
 rcases Yaf l with rfl|⟨l',e,rfl⟩
 ·rfl
 ·rw[Y8,Zec,Zfe];simp[Zlr]
def cyI (l:List ITMT):List TY:=(l.filter λy=>y.1==1&&decide (y.2.2.2.1>=3)).map λy=>y.2.1
theorem Zex (l:List ITMT) (y:ITMT):cyI (l++[y])=cyI l++(bif y.1==1&&decide (y.2.2.2.1>=3) then [y.2.1] else []):=by unfold cyI;rw[List.filter_append,List.map_append];cases h:y.1==1&&decide (y.2.2.2.1>=3)<;>simp[List.filter,h]
def unl (c:TC):Int×(Int×Int×Int×Int×Int×Int×Int×(Bool×Bool×Bool×Bool×Bool×Bool×Bool)×Int×Int)×Bool×Bool×Bool×Int×Bool×Bool×Bool:=(c.1,c.2.1,c.2.2.1,c.2.2.2.1,c.2.2.2.2.1,c.2.2.2.2.2.1,c.2.2.2.2.2.2.2.2.2.2)
theorem Zvp (c:TC) (l:LINT):unl (Zg c l)=unl c:=by unfold Zg Zst;simp only[RT.val];cases !rOn c.1<;>rfl
theorem ZSB (c:TC):Zo c 0=c:=rfl
variable {a b:TC}
theorem ZUh (h:unl a=unl b) (s:Int):unl (Zo a s)=unl (Zo b s):=by
 unfold Zo ZiK;simp only[RT.val];cases decide (s<1)||decide (s>5)
 ·simp only[unl,pinj] at h|-;obtain⟨h1,h2,h3,h4,h5,h6,h7⟩:=h;simp only[h1,h2,h3,h4,h5,h6,h7,and_self];simp only[Yb,unl,h1,h2,h3,h4,h5,h6,h7,and_self]
 ·exact h
theorem ZJ5 (h1:a.1=b.1) (h2:a.2.1=b.2.1):ZB a=ZB b:=by unfold ZB Zm4;simp only[RT.val,h1,h2]
theorem Zu9 (c:TC) (s:Int):(Zo c s).1=c.1/\(Zo c s).2.1=c.2.1:=by unfold Zo ZiK;simp only[RT.val];cases decide (s<1)||decide (s>5)<;>exact⟨rfl,rfl⟩
theorem ZrJ (h:unl a=unl b):a.1=b.1/\a.2.1=b.2.1:=by simp only[unl,pinj] at h;exact⟨h.1,h.2.1⟩
theorem ZSu (h1:a.1=b.1) (h2:a.2.1=b.2.1) (inj:Bool) (g:List Int) (i:InsT):ZgP a inj g i=ZgP b inj g i:=by unfold ZgP Zcm Zbn opC ZcM popX ZX Zd6 ZgH Zfl pcOf spOf;simp only[h1,h2]
theorem ZE2 (h:unl a=unl b) (s:Int) (g:List Int):Zi a s g=Zi b s g:=by
 obtain⟨h1,h2⟩:=ZrJ h;have hp:ZeS a s g=ZeS b s g:=by
  unfold ZeS pcOf ZcM spOf;simp only[h1,h2];cases Zd s
  ·cases g with
   |nil=>rfl
   |cons o g=>simp only[Yb,ZSu h1 h2]
  ·rfl
 unfold Zi;rw[hp]
theorem Zl0 (c:TC) (s:Int):(Zi c s []).2=true:=by unfold Zi ZeS pick;cases Zd s<;>rfl
variable {p q:TC}
theorem ZB5 (h:unl p=unl q) (e:EVTT) (he:e.2.2.2.2.1=q.2.2.2.2.2.2.2.1/\e.2.2.2.2.2.1=q.2.2.2.2.2.2.1/\e.2.2.2.2.2.2.1=q.2.2.2.2.2.2.2.2.2.1/\e.2.2.2.2.2.2.2.1=q.2.2.2.2.2.2.2.2.1):ZEi p e=q:=by obtain⟨e1,e2,e3,e4⟩:=he;simp only[unl,pinj] at h;obtain⟨h1,h2,h3,h4,h5,h6,h7⟩:=h;unfold ZEi;rw[e1,e2,e3,e4,h1,h2,h3,h4,h5,h6,h7]
theorem ZOX (c:TC) (s:Int):∀(r g:List Int) (b:Int),(cyX c s g r).length=r.length->(Zi c s (g++r)).2=true->cyX c s g (r++[b])=cyX c s g r++[ZqV c (Zi c s (g++r)).1 b]/\(cyX c s g (r++[b])).length=(r++[b]).length
 |[],g,b,_,h=>by rw[YC] at h|-;simp only[List.nil_append,cyX,h,Ya,List.length_cons,List.length_nil,and_self]
 |x::r,g,b,hl,h=>by
  simp only[List.cons_append,cyX] at hl|-;cases hn:(Zi c s g).2
  ·rw[hn] at hl;simp at hl
  ·rw[hn] at hl;simp only[Ya,List.length_cons] at hl|-;have h':(Zi c s (g++[x]++r)).2=true:=by rw[Yp];exact h
   obtain⟨q1,q2⟩:=ZOX c s r (g++[x]) b (by omega) h';rw[q1] at q2|-;rw[Yp] at q2|-;exact⟨rfl,by simpa using q2⟩
structure Sem (s0:TC) (c:CORT) (ev:List EVTT) (cp:List TC) (it:List ITMT):Prop where
 hcp:cp=Zp1 s0 ev
 un:unl c.1=unl (Zo (ZaN s0 ev) c.2.1)
 nx:1<=c.2.2.2.2.1/\c.2.2.2.2.1<=9
 rest:c.2.1=0->c.1.2.2.2.2.1=true->(c.2.2.2.2.1=8\/c.2.2.2.2.1=9)/\c.2.2.1=[]
 nine:c.2.2.2.2.1=9->c.2.1=0/\c.1.2.2.2.2.1=true
 cy:(c.2.2.2.2.1<4\/6<c.2.2.2.2.1)->c.2.2.2.1=(Zi c.1 c.2.1 c.2.2.1).1/\(Zi c.1 c.2.1 c.2.2.1).2=true
 hit:cyI it=cyA s0 ev++cyX (Zo (ZaN s0 ev) c.2.1) c.2.1 [] c.2.2.1
 ln:(cyX (Zo (ZaN s0 ev) c.2.1) c.2.1 [] c.2.2.1).length=c.2.2.1.length
 pt:(c.2.2.2.2.1=2\/c.2.2.2.2.1=3\/c.2.2.2.2.1=7)->∃(l:List ITMT) (y:ITMT),it=l++[y]/\y.1=1/\y.2.2.2.1=(bif c.2.2.2.2.1==2 then 1 else 2)
 ps:4<=c.2.2.2.2.1->c.2.2.2.2.1<=6->∃(l:List ITMT) (y:ITMT),it=l++[y]/\y.1=1/\y.2.2.2.1=c.2.2.2.2.1-1/\y.2.1=c.2.2.2.1
theorem ZUg (h:unl a=unl b):a.2.2.2.2.1=b.2.2.2.2.1:=by simp only[unl,pinj] at h;exact h.2.2.2.2.1
theorem Zff (c:TC) (s:Int) (h:Bool):(idlX c s h=8\/idlX c s h=9\/idlX c s h=1)/\(idlX c s h=9->s=0/\c.2.2.2.2.1=true)/\(s=0->c.2.2.2.2.1=true->idlX c s h=8\/idlX c s h=9):=by
 unfold idlX;cases h
 ·cases hh:c.2.2.2.2.1&&s==0
  ·simp only[Yb];refine⟨.inr (.inr trivial),λe=>by omega,λe1 e2=> ?_⟩;rw[e1,e2] at hh;simp at hh
  ·simp only[Ya,Yb];simp at hh;exact⟨.inr (.inl trivial),λ_=>⟨hh.2,hh.1⟩,λ_ _=>.inr trivial⟩
 ·simp only[Ya];exact⟨.inl trivial,λe=>by omega,λ_ _=>.inl trivial⟩
variable {s0:TC} {c:CORT} {ev:List EVTT} {cp:List TC} {it:List ITMT}
theorem ZPZ (h:Sem s0 c ev cp it) (e:EVTT) (h1:Zb8 (ZaN s0 ev) e=ZaN s0 ev) (h2:Zb4 (ZaN s0 ev) e=[]):
  Sem s0 c (ev++[e]) (cp++[Zlr s0 cp]) it:=by
 have hl:ZaN s0 (ev++[e])=ZaN s0 ev:=by rw[Zfe,h1]
 refine⟨by rw[h.hcp,Zec,Zkz,h1],by rw[hl];exact h.un,h.nx,h.rest,h.nine,h.cy,by rw[hl,Zie,h2,YC];exact h.hit,by rw[hl];exact h.ln,h.pt,h.ps⟩
theorem Zx5 (s:Int):Zqa (Zlp s)=true:=by
 unfold Zlp ZSC Zqa;simp only[RT.val];cases Zd s
 ·cases s==5<;>rfl
 ·rfl
theorem ZJN (p:TC) (s:Int) (g:List Int) (h:Bool) (l:LINT) (hcp:cp=Zp1 s0 ev) (un:unl p=unl (Zo (ZaN s0 ev) s)) (hh:s=0->p.2.2.2.2.1=true->False)
  (hit:cyI it=cyA s0 ev++cyX (Zo (ZaN s0 ev) s) s [] g) (ln:(cyX (Zo (ZaN s0 ev) s) s [] g).length=g.length):
  Sem s0 (endX p s g h l) (bif (Zi p s g).2 then ev else ev++[ZhO (Zlp s,s,g,ZfZ,false,false,false,false,0,0) p l]) (bif (Zi p s g).2 then cp else cp++[finX p s g l]) it:=by
 unfold endX;dsimp only;cases hn:(Zi p s g).2
 ·simp only[Yb];generalize hq:finX p s g l=q;generalize ZbQ q l=k;generalize he:ZhO (Zlp s,s,g,ZfZ,false,false,false,false,0,0) p l=e;have hpat:ZEi (Zo (ZaN s0 ev) s) e=p:=ZB5 un.symm e (by rw[<-he,Zbx];exact⟨rfl,rfl,rfl,rfl⟩);have ha:Zb8 (ZaN s0 ev) e=q:=by
   have e1:e.1=Zlp s:=by rw[<-he,Zbx]
   have e2:e.2.1=s:=by rw[<-he,Zbx]
   have e3:e.2.2.1=g:=by rw[<-he,Zbx]
   have e4:e.2.2.2.1=l:=by rw[<-he,Zbx]
   unfold Zb8;rw[e1,Zx5,e2,hpat,e3,e4];exact hq
  have hc:Zb4 (ZaN s0 ev) e=cyX (Zo (ZaN s0 ev) s) s [] g:=by
   have e1:e.1=Zlp s:=by rw[<-he,Zbx]
   have e2:e.2.1=s:=by rw[<-he,Zbx]
   have e3:e.2.2.1=g:=by rw[<-he,Zbx]
   unfold Zb4 cycE;rw[e1,Zx5,e2,e3];rfl
  have hl:ZaN s0 (ev++[e])=q:=by rw[Zfe,ha]
  obtain⟨i1,i2,i3⟩:=Zff (Zo q k) k h;refine⟨by rw[hcp,Zec,ha],by rw[hl],?_,λa b=>⟨i3 a b,rfl⟩,i2,λ_=>⟨rfl,Zl0 _ _⟩,?_,by rw[hl];rfl,λe=> ?_,λe1 e2=> ?_⟩
  ·show 1<=idlX (Zo q k) k h/\idlX (Zo q k) k h<=9;omega
  ·rw[hl,Zie,hc,hit];show _=_++[];rw[YC]
  ·exfalso;replace e:idlX (Zo q k) k h=2\/idlX (Zo q k) k h=3\/idlX (Zo q k) k h=7:=e;omega
  ·exfalso;replace e1:4<=idlX (Zo q k) k h:=e1;replace e2:idlX (Zo q k) k h<=6:=e2;omega
 ·simp only[Ya];obtain⟨i1,i2,i3⟩:=Zff p s h;refine⟨hcp,un,?_,λa b=>(hh a b).elim,λe=>((hh (i2 e).1 (i2 e).2)).elim,λ_=>⟨rfl,hn⟩,hit,ln,λe=> ?_,λe1 e2=> ?_⟩
  ·show 1<=idlX p s h/\idlX p s h<=9;omega
  ·exfalso;replace e:idlX p s h=2\/idlX p s h=3\/idlX p s h=7:=e;omega
  ·exfalso;replace e1:4<=idlX p s h:=e1;replace e2:idlX p s h<=6:=e2;omega
theorem ZpG {l:List ITMT} {k:Int} {n:ITMT} (hk:k≠1) (hn:n.1=k):cyI (Zf2 l k c n)=cyI l:=by
 have h1:∀y:ITMT,y.1=k->∀l,cyI (l++[y])=cyI l:=λy hy l=>by
  rw[Zex];have:(y.1==1)=false:=by rw[hy];simpa using hk
  rw[this];simp
 unfold Zf2;cases hl:l.getLast? with
 |none=>exact h1 n hn l
 |some y=>
  simp only;obtain⟨l',rfl⟩:∃l',l=l'++[y]:=by
   rcases Yaf l with rfl|⟨l',z,rfl⟩
   ·simp at hl
   ·rw[Y8] at hl|-;simp at hl;subst hl;exact⟨l',rfl⟩
  cases hs:Zzi y k c
  ·exact h1 n hn _
  ·have hy:y.1=k:=by simp[Zzi] at hs;exact hs.1
   simp only[Ya,Z4];rw[h1 (ZxM y) hy,h1 y hy]
theorem Zlk (c:CORT) (t d:Int) (h:(t==3)=false):Zr c t d=c.2.2.2.1:=by unfold Zr Zip;simp only[RT.val,h,Yb]
theorem ZYO (c:CORT) (d:Int) (p:TC) (h:p.1=c.1.1):Zr c 3 d=ZaF p c.2.2.2.1 d:=by unfold Zr Zip ZaF;rw[h];rfl
theorem ZvY (h:p.1=q.1) (x:TY) (d:Int):ZaF p x d=ZaF q x d:=by unfold ZaF;rw[h]
theorem ZGA (p a:TC) (h:a.1=p.1) (x:TY) (d:Int):ZqV a x (ZaF p x d).2.2.1=ZaF p x d:=by unfold ZqV ZaF;rw[h];cases Za2 x.1<;>rfl
theorem ZR5 (ev:List EVTT) (c:CORT) (l:LINT) (d:Int) (cell:Cell) (hr:l.2.2.1=false):evE ev c l d cell false=bif (finS c l d).2 then ev++[ZhO (Zlp c.2.1,c.2.1,Zc9 c (Zq c) d,ZfZ,false,false,false,false,0,0) (Zg c.1 l) l] else ev:=by unfold evE;rw[hr];rfl
theorem ZR6 (cp:List TC) (s0:TC) (c a:CORT) (l:LINT) (d:Int) (hr:l.2.2.1=false):evC cp s0 c a l d false=bif (finS c l d).2 then cp++[(finS c l d).1] else cp:=by unfold evC;rw[hr];rfl
theorem itN (y:ITMT) (n:Int) (h:y.2.2.2.1=n) (h1:0<=n) (h2:n<=100):IntKind.wrap .i64 (y.2.2.2.1+1)=n+1:=by rw[h,wrap_i64 _ (by omega) (by omega)]
theorem ZP0 (h:Sem s0 c ev cp it) (l:LINT) (d:Int) (cell:Cell) (hr:l.2.2.1=false):
  Sem s0 (Zn c l d) (evE ev c l d cell false) (evC cp s0 c (Zn c l d) l d false) (ZbR it c (Zr c (Zq c) d) (Zq c)):=by
 rw[ZR5 _ _ _ _ _ hr,ZR6 _ _ _ _ _ _ hr];obtain⟨hcp,un,nx,rest,nine,cy,hit,ln,pt,ps⟩:=h;obtain⟨p0,s,g,x,n,hd⟩:=c;simp only at un nx rest nine cy hit ln pt ps;have hst:Zq (p0,s,g,x,n,hd)=n:=by
  have h1:(decide (n<1)||decide (n>9))=false:=by simp;omega
  simp only[Zq,Zzw,RT.val,h1,Yb]
 have hsx:Z2 n=n:=by
  have h1:(decide (n<1)||decide (n>9))=false:=by simp;omega
  simp only[Z2,h1,Yb]
 have hup:=Zvp p0 l;have hchip:(Zg p0 l).1=p0.1:=(ZrJ hup).1;have hun:unl (Zg p0 l)=unl (Zo (ZaN s0 ev) s):=hup.trans un;have hhl:(Zg p0 l).2.2.2.2.1=p0.2.2.2.2.1:=ZUg hup;have hnxt:∀g,Zi (Zg p0 l) s g=Zi p0 s g:=λg=>ZE2 hup s g
 rw[hst];have hcases:n=1\/n=2\/n=3\/n=4\/n=5\/n=6\/n=7\/n=8\/n=9:=by omega
 have hnf:∀k:Int,n=k->Zp3 k x=false->(k==3)=false->(finS (p0,s,g,x,n,hd) l d).2=false:=λk hk he h3=>by
  unfold finS rdS;have:(n !=3)=true:=by rw[hk];simpa [bne] using h3
  simp only[hr,this,hk▸he,Ya,Yb,Yl]
 have sem456:∀k:Int,(k=4\/k=5\/k=6)->n=k->Sem s0 (Zn (p0,s,g,x,n,hd) l d) (bif (finS (p0,s,g,x,n,hd) l d).2 then ev++[ZhO (Zlp s,s,Zc9 (p0,s,g,x,n,hd) n d,ZfZ,false,false,false,false,0,0) (Zg p0 l) l] else ev)
   (bif (finS (p0,s,g,x,n,hd) l d).2 then cp++[(finS (p0,s,g,x,n,hd) l d).1] else cp) (ZbR it (p0,s,g,x,n,hd) (Zr (p0,s,g,x,n,hd) n d) n):=by
  intro k hk e;subst e;obtain⟨l',y,rfl,y1,yN,yc⟩:=ps (by rcases hk with rfl|rfl|rfl<;>decide) (by rcases hk with rfl|rfl|rfl<;>decide);clear pt ps;have b1:(n==1)=false:=by rcases hk with rfl|rfl|rfl<;>rfl
  have b2:(n==2)=false:=by rcases hk with rfl|rfl|rfl<;>rfl
  have b3:(n==3)=false:=by rcases hk with rfl|rfl|rfl<;>rfl
  have b7:(n==7)=false:=by rcases hk with rfl|rfl|rfl<;>rfl
  have b8:(n==8)=false:=by rcases hk with rfl|rfl|rfl<;>rfl
  have b9:(n==9)=false:=by rcases hk with rfl|rfl|rfl<;>rfl
  have b10:(n==10)=false:=by rcases hk with rfl|rfl|rfl<;>rfl
  have b3':(n !=3)=true:=by rcases hk with rfl|rfl|rfl<;>rfl
  have hi:ZbR (l'++[y]) (p0,s,g,x,n,hd) (Zr (p0,s,g,x,n,hd) n d) n=l'++[(y.1,x,y.2.2.1,n,y.2.2.2.2)]:=by
   rw[Zlk _ _ _ b3];have hkn:Zpa n=1:=by unfold Zpa;simp only[b8,b9,b10,Yb]
   have hcn:cycN (p0,s,g,x,n,hd) n x=x:=by unfold cycN;simp only[b8,b9,b10,Yb]
   unfold ZbR;simp only[hkn,hcn,b1,b7];show Zbk (l'++[y]) _=_;rw[Z4,itN y (n-1) yN (by omega) (by omega)];simp
  rw[hi];have hit':cyI (l'++[(y.1,x,y.2.2.1,n,y.2.2.2.2)])=cyA s0 ev++cyX (Zo (ZaN s0 ev) s) s [] g:=by rw[<-hit,Zex,Zex];have q1:decide (n>=3)=true:=Yz (by omega);have q2:decide (y.2.2.2.1>=3)=true:=Yz (by omega);simp only[y1,q1,q2,yc]
  have hno:s=0->(Zg p0 l).2.2.2.2.1=true->False:=λa b=>by have:=rest a (by rw[<-hhl];exact b);omega
  have hby:Zc9 (p0,s,g,x,n,hd) n d=g:=by unfold Zc9;simp only[b3,Yb]
  have hrd:rdS (p0,s,g,x,n,hd) n d=(x,g):=by unfold rdS;simp only[b3',Ya]
  have hen:Zp3 n x= !(decide (n<x.2.2.2)&& !(n==6)):=by
   unfold Zp3 ZSY;rcases hk with rfl|rfl|rfl
   ·by_cases q:(4:Int)<x.2.2.2
    ·have q1:decide (x.2.2.2<=4)=false:=YO (by omega);have q2:decide ((4:Int)<x.2.2.2)=true:=Yz q;simp only[RT.val,q2];exact q1
    ·have q1:decide (x.2.2.2<=4)=true:=Yz (by omega);have q2:decide ((4:Int)<x.2.2.2)=false:=YO q;simp only[RT.val,q2];exact q1
   ·by_cases q:(5:Int)<x.2.2.2
    ·have q1:decide (x.2.2.2<=5)=false:=YO (by omega);have q2:decide ((5:Int)<x.2.2.2)=true:=Yz q;simp only[RT.val,q2];exact q1
    ·have q1:decide (x.2.2.2<=5)=true:=Yz (by omega);have q2:decide ((5:Int)<x.2.2.2)=false:=YO q;simp only[RT.val,q2];exact q1
   ·cases decide ((6:Int)<x.2.2.2)<;>rfl
  have hclk:Zn (p0,s,g,x,n,hd) l d=bif decide (n<x.2.2.2)&& !(n==6) then (Zg p0 l,s,g,x,n+1,hd) else endX (Zg p0 l) s g hd l:=by unfold Zn;simp only[hr,hsx,b1,b2,b3,b7,b8,b9,YaM,Yb]
  cases hle:decide (n<x.2.2.2)&& !(n==6)
  ·have hck:Zn (p0,s,g,x,n,hd) l d=endX (Zg p0 l) s g hd l:=by rw[hclk,hle];rfl
   have hf:finS (p0,s,g,x,n,hd) l d=bif (Zi (Zg p0 l) s g).2 then (Zmh,false) else (finX (Zg p0 l) s g l,true):=by unfold finS;simp only[hr,hrd,hen,hle,Ya,Yb,Yf,Yl]
   have:=ZJN (Zg p0 l) s g hd l hcp hun hno hit' ln;rw[hck,hf,hby];cases hn:(Zi (Zg p0 l) s g).2
   ·rw[hn] at this;exact this
   ·rw[hn] at this;exact this
  ·have hf:(finS (p0,s,g,x,n,hd) l d).2=false:=by unfold finS;simp only[hr,hrd,hen,hle,Ya,Yb,Yf,Yl]
   have hck:Zn (p0,s,g,x,n,hd) l d=(Zg p0 l,s,g,x,n+1,hd):=by rw[hclk,hle];rfl
   have h6:n≠6:=by simp at hle;exact hle.2
   rw[hck,hf];refine⟨hcp,hun,by show 1<=n+1/\n+1<=9;omega,λa b=>(hno a b).elim,λe=>by replace e:n+1=9:=e;omega,λe=>by replace e:n+1<4\/6<n+1:=e;omega,hit',ln,λe=>by replace e:n+1=2\/n+1=3\/n+1=7:=e;omega,λ_ _=>⟨l',_,rfl,y1,?_,rfl⟩⟩;show n=n+1-1;omega
 rcases hcases with e|e|e|e|e|e|e|e|e
 ·--T1
  subst e;rw[hnf 1 rfl rfl rfl];have hck:Zn (p0,s,g,x,1,hd) l d=(Zg p0 l,s,g,x,2,hd):=by unfold Zn;simp only[hr,hsx];rfl
  rw[hck,Zlk _ _ _ rfl];refine⟨hcp,hun,⟨(by decide:(1:Int)<=2),(by decide:(2:Int)<=9)⟩,λa b=> ?_,λe=>by simp at e,λ_=>by rw[hnxt];exact cy (by omega),?_,ln,λ_=>⟨it,_,rfl,rfl,rfl⟩,λe=>by simp at e⟩
  ·have:=rest a (by rw[<-hhl];exact b);omega
  ·show cyI (it++[_])=_;rw[Zex];show cyI it++[]=_;rw[YC];exact hit
 ·--T2
  subst e;rw[hnf 2 rfl rfl rfl];obtain⟨l',y,rfl,y1,yN⟩:=pt (.inl rfl);have hi:ZbR (l'++[y]) (p0,s,g,x,2,hd) (Zr (p0,s,g,x,2,hd) 2 d) 2=l'++[(y.1,x,y.2.2.1,2,y.2.2.2.2)]:=by rw[Zlk _ _ _ rfl];show Zbk (l'++[y]) _=_;rw[Z4,itN y 1 yN (by decide) (by decide)];rfl
  have hcy:cyI (l'++[(y.1,x,y.2.2.1,2,y.2.2.2.2)])=cyI (l'++[y]):=by rw[Zex,Zex];have:y.2.2.2.1=1:=yN;rw[this,y1];rfl
  rw[hi];have hno:s=0->p0.2.2.2.2.1=true->False:=λa b=>by have:=rest a b;omega
  have hck:Zn (p0,s,g,x,2,hd) l d=(Zg p0 l,s,g,x,bif l.1|| !Zj x.1 then 3 else 7,bif l.1|| !Zj x.1 then l.2.1 else hd):=by unfold Zn;simp only[hr,hsx];show (bif l.1|| !Zj x.1 then _ else _)=_;cases l.1|| !Zj x.1<;>rfl
  rw[hck];have hk:(bif l.1|| !Zj x.1 then (3:Int) else 7)=3\/(bif l.1|| !Zj x.1 then (3:Int) else 7)=7:=by cases l.1|| !Zj x.1<;>simp
  generalize (bif l.1|| !Zj x.1 then (3:Int) else 7)=k at hk;refine⟨hcp,hun,by show 1<=k/\k<=9;omega,λa b=>(hno a (by rw[<-hhl];exact b)).elim,λe=>by replace e:k=9:=e;omega,λ_=>by rw[hnxt];exact cy (by omega),by rw[hcy];exact hit,ln,λ_=>⟨l',_,rfl,y1,?_⟩,λe1 e2=>by replace e1:4<=k:=e1;replace e2:k<=6:=e2;omega⟩;show (2:Int)=bif k==2 then 1 else 2
  rcases hk with rfl|rfl<;>rfl
 ·--T3
  subst e;obtain⟨l',y,rfl,y1,yN⟩:=pt (.inr (.inl rfl));obtain⟨cy1,cy2⟩:=cy (by omega);generalize hx3:ZaF (Zg p0 l) x d=x3;have hx3':ZaF p0 x d=x3:=by rw[<-ZvY hchip];exact hx3
  have hcur:Zr (p0,s,g,x,3,hd) 3 d=x3:=by rw[ZYO _ _ (Zg p0 l) hchip];exact hx3
  have hi:ZbR (l'++[y]) (p0,s,g,x,3,hd) (Zr (p0,s,g,x,3,hd) 3 d) 3=l'++[(y.1,x3,y.2.2.1,3,y.2.2.2.2)]:=by rw[hcur];show Zbk (l'++[y]) _=_;rw[Z4,itN y 2 yN (by decide) (by decide)];rfl
  rw[hi];have hac:=Zu9 (ZaN s0 ev) s;have hna:∀g,Zi (Zo (ZaN s0 ev) s) s g=Zi p0 s g:=λg=>(ZE2 un s g).symm
  obtain⟨k1,k2⟩:=ZOX (Zo (ZaN s0 ev) s) s g [] x3.2.2.1 ln (by rw[List.nil_append,hna];exact cy2);rw[List.nil_append,hna,<-cy1,<-hx3',ZGA p0 (Zo (ZaN s0 ev) s) (ZrJ un).1.symm,hx3'] at k1;have hit':cyI (l'++[(y.1,x3,y.2.2.1,3,y.2.2.2.2)])=cyA s0 ev++cyX (Zo (ZaN s0 ev) s) s [] (g++[x3.2.2.1]):=by rw[k1,<-List.append_assoc,<-hit,Zex,Zex];have:y.2.2.2.1=2:=yN;rw[this,y1];show cyI l'++[x3]=cyI l'++[]++[x3];rw[YC]
  have hno:s=0->(Zg p0 l).2.2.2.2.1=true->False:=λa b=>by have:=rest a (by rw[<-hhl];exact b);omega
  have hby:Zc9 (p0,s,g,x,3,hd) 3 d=g++[x3.2.2.1]:=by unfold Zc9;rw[hcur];rfl
  have hrd:rdS (p0,s,g,x,3,hd) 3 d=(x3,g++[x3.2.2.1]):=by show (ZaF p0 x d,g++[(ZaF p0 x d).2.2.1])=_;rw[hx3']
  have hen:Zp3 3 x3=le3 x3.2.2.2:=rfl;cases hle:le3 x3.2.2.2
  ·have hf:(finS (p0,s,g,x,3,hd) l d).2=false:=by unfold finS;simp only[hr,hrd,hen,hle,Ya,Yb,Yl]
   have hck:Zn (p0,s,g,x,3,hd) l d=(Zg p0 l,s,g++[x3.2.2.1],x3,4,hd):=by unfold Zn;simp only[hr,hsx,hx3,hle];rfl
   rw[hck,hf];exact⟨hcp,hun,⟨(by decide:(1:Int)<=4),(by decide:(4:Int)<=9)⟩,λa b=>(hno a b).elim,λe=>by simp at e,λe=>by simp at e,hit',k2,λe=>by simp at e,λ_ _=>⟨l',_,rfl,y1,rfl,rfl⟩⟩
  ·have hck:Zn (p0,s,g,x,3,hd) l d=endX (Zg p0 l) s (g++[x3.2.2.1]) hd l:=by unfold Zn;simp only[hr,hsx,hx3,hle];rfl
   have hf:finS (p0,s,g,x,3,hd) l d=bif (Zi (Zg p0 l) s (g++[x3.2.2.1])).2 then (Zmh,false) else (finX (Zg p0 l) s (g++[x3.2.2.1]) l,true):=by unfold finS;simp only[hr,hrd,hen,hle,Ya,Yb,Yf]
   have:=ZJN (Zg p0 l) s (g++[x3.2.2.1]) hd l hcp hun hno hit' k2;rw[hck,hf,hby];cases hn:(Zi (Zg p0 l) s (g++[x3.2.2.1])).2
   ·rw[hn] at this;exact this
   ·rw[hn] at this;exact this
 ·exact sem456 4 (.inl rfl) e
 ·exact sem456 5 (.inr (.inl rfl)) e
 ·exact sem456 6 (.inr (.inr rfl)) e
 ·--TWait
  subst e;rw[hnf 7 rfl rfl rfl];obtain⟨l',y,rfl,y1,yN⟩:=pt (.inr (.inr rfl));have hi:ZbR (l'++[y]) (p0,s,g,x,7,hd) (Zr (p0,s,g,x,7,hd) 7 d) 7=l'++[(y.1,x,IntKind.wrap .i64 (y.2.2.1+1),y.2.2.2)]:=by rw[Zlk _ _ _ rfl];show Zbk (l'++[y]) _=_;rw[Z4];rfl
  have hcy:cyI (l'++[(y.1,x,IntKind.wrap .i64 (y.2.2.1+1),y.2.2.2)])=cyI (l'++[y]):=by rw[Zex,Zex];have:y.2.2.2.1=2:=yN;rw[this,y1];rfl
  rw[hi];have hno:s=0->p0.2.2.2.2.1=true->False:=λa b=>by have:=rest a b;omega
  have hck:Zn (p0,s,g,x,7,hd) l d=(Zg p0 l,s,g,x,bif l.1|| !Zj x.1 then 3 else 7,bif l.1|| !Zj x.1 then l.2.1 else hd):=by unfold Zn;simp only[hr,hsx];show (bif l.1|| !Zj x.1 then _ else _)=_;cases l.1|| !Zj x.1<;>rfl
  rw[hck];have hk:(bif l.1|| !Zj x.1 then (3:Int) else 7)=3\/(bif l.1|| !Zj x.1 then (3:Int) else 7)=7:=by cases l.1|| !Zj x.1<;>simp
  generalize (bif l.1|| !Zj x.1 then (3:Int) else 7)=k at hk;refine⟨hcp,hun,by show 1<=k/\k<=9;omega,λa b=>(hno a (by rw[<-hhl];exact b)).elim,λe=>by replace e:k=9:=e;omega,λ_=>by rw[hnxt];exact cy (by omega),by rw[hcy];exact hit,ln,λ_=>⟨l',_,rfl,y1,?_⟩,λe1 e2=>by replace e1:4<=k:=e1;replace e2:k<=6:=e2;omega⟩;show y.2.2.2.1=bif k==2 then 1 else 2
  rw[show y.2.2.2.1=2 from yN];rcases hk with rfl|rfl<;>rfl
 ·--THold
  subst e;rw[hnf 8 rfl rfl rfl];have hck:Zn (p0,s,g,x,8,hd) l d=(Zg p0 l,s,g,x,idlX (Zg p0 l) s l.2.1,hd):=by unfold Zn;simp only[hr,hsx];rfl
  have hcy:cyI (ZbR it (p0,s,g,x,8,hd) (Zr (p0,s,g,x,8,hd) 8 d) 8)=cyI it:=ZpG (by decide) rfl;rw[hck];obtain⟨i1,i2,i3⟩:=Zff (Zg p0 l) s l.2.1;generalize idlX (Zg p0 l) s l.2.1=k at i1 i2 i3;refine⟨hcp,hun,by show 1<=k/\k<=9;omega,λa b=>⟨i3 a b,(rest a (by rw[<-hhl];exact b)).2⟩,i2,λ_=>by rw[hnxt];exact cy (by omega),by rw[hcy];exact hit,ln,λe=>by replace e:k=2\/k=3\/k=7:=e;omega,λe1 e2=>by replace e1:4<=k:=e1;replace e2:k<=6:=e2;omega⟩
 ·--THalt
  subst e;rw[hnf 9 rfl rfl rfl];obtain⟨z1,z2⟩:=nine rfl;obtain⟨_,z3⟩:=rest z1 z2;subst z1;subst z3;have hcy:cyI (ZbR it (p0,0,[],x,9,hd) (Zr (p0,0,[],x,9,hd) 9 d) 9)=cyI it:=ZpG (by decide) rfl;have hck:Zn (p0,0,[],x,9,hd) l d=bif ZbQ (Zg p0 l) l==0 then (Zg p0 l,0,[],x,bif l.2.1 then 8 else 9,hd) else (Zo (Zg p0 l) (ZbQ (Zg p0 l) l),ZbQ (Zg p0 l) l,[],(Zi (Zo (Zg p0 l) (ZbQ (Zg p0 l) l)) (ZbQ (Zg p0 l) l) []).1,bif l.2.1 then 8 else 1,hd):=by unfold Zn;simp only[hr,hsx];rfl
  rw[hck];generalize ZbQ (Zg p0 l) l=k;cases hk:k==0
  ·simp only[Yb];have hk0:k≠0:=by simpa using hk
   have hn:(bif l.2.1 then (8:Int) else 1)=8\/(bif l.2.1 then (8:Int) else 1)=1:=by cases l.2.1<;>simp
   generalize (bif l.2.1 then (8:Int) else 1)=n at hn;refine⟨hcp,ZUh (hun.trans (by rw[ZSB])) k,by show 1<=n/\n<=9;omega,λa _=>(hk0 a).elim,λe=>by replace e:n=9:=e;omega,λ_=>⟨rfl,Zl0 _ _⟩,by rw[hcy];exact hit,rfl,λe=>by replace e:n=2\/n=3\/n=7:=e;omega,λe1 e2=>by replace e1:4<=n:=e1;replace e2:n<=6:=e2;omega⟩
  ·simp only[Ya];have hn:(bif l.2.1 then (8:Int) else 9)=8\/(bif l.2.1 then (8:Int) else 9)=9:=by cases l.2.1<;>simp
   generalize (bif l.2.1 then (8:Int) else 9)=n at hn;refine⟨hcp,hun,by show 1<=n/\n<=9;omega,λa _=>⟨hn,rfl⟩,λ_=>⟨rfl,by rw[<-hhl] at z2;exact z2⟩,λ_=>by rw[hnxt];exact cy (by omega),by rw[hcy];exact hit,rfl,λe=>by replace e:n=2\/n=3\/n=7:=e;omega,λe1 e2=>by replace e1:4<=n:=e1;replace e2:n<=6:=e2;omega⟩
theorem ZYC (k t:Int) (x:TY) (d:Int) (i o:Bool):Zhv (Zba k t x d i o)=(t==8):=by
 unfold Zba ZiH Zhv;simp only[RT.val];cases h8:t==8
 ·cases t==9
  ·cases t==10
   ·cases rOn k<;>rfl
   ·rfl
  ·rfl
 ·rfl
theorem ZiW {l:LINT} {d:Int} (h:Zhv (ZbM c l d)=true):l.2.2.1=false/\Z2 c.2.2.2.2.1=8:=by
 unfold ZbM at h;rw[ZYC] at h;cases hl:l.2.2.1
 ·rw[hl] at h;simp at h;exact⟨rfl,h⟩
 ·rw[hl] at h;simp at h
theorem ZJM (h:Sem s0 c ev cp it) (l:LINT) (d:Int) (cell:Cell) (moved:Bool) (hr:l.2.2.1=true) (x:TY):
  Sem s0 (Zn c l d) (evE ev c l d cell moved) (evC cp s0 c (Zn c l d) l d moved) (ZbR it c x 10):=by
 have hck:Zn c l d=ZpM (ZB c.1) 0:=by unfold Zn;rw[hr];rfl
 have he:evE ev c l d cell moved=(bif Zef c then ev++[ZhO (6,c.2.1,c.2.2.1,ZfZ,false,false,false,false,0,0) c.1 l] else ev)++[ZhO (4,0,[],ZfZ,false,false,false,false,0,0) c.1 l]:=by unfold evE;rw[hr];rfl
 have hc:evC cp s0 c (Zn c l d) l d moved=(bif Zef c then cp++[Zlr s0 cp] else cp)++[ZB c.1]:=by unfold evC;rw[hr,hck];rfl
 rw[he,hc,hck];have hcyi:cyI (ZbR it c x 10)=cyI it:=ZpG (by decide) rfl;obtain⟨ev',cp',hev,hcp',hl',hcy⟩:∃ev' cp',(bif Zef c then ev++[ZhO (6,c.2.1,c.2.2.1,ZfZ,false,false,false,false,0,0) c.1 l] else ev)=ev'/\(bif Zef c then cp++[Zlr s0 cp] else cp)=cp'/\(cp'=Zp1 s0 ev'/\ZaN s0 ev'=ZaN s0 ev)/\cyA s0 ev'=cyI it:=by
  cases hb:Zef c
  ·refine⟨ev,cp,rfl,rfl,⟨h.hcp,rfl⟩,?_⟩;have hg:c.2.2.1=[]:=by
    unfold Zef ZKB at hb;simp only[RT.val] at hb;have hx:(decide (iN (List.length c.2.2.1)>0)||c.2.1 !=0)=false:=by
     cases hq:(decide (iN (List.length c.2.2.1)>0)||c.2.1 !=0)
     ·rfl
     ·rw[hq] at hb;cases h2:decide (c.2.2.2.2.1>=2)<;>rw[h2] at hb<;>simp at hb
    rw[Yn] at hx;have:=hx.1;simp only[iN,Le,Yaa] at this;exact YX.1 (by omega)
   have:=h.hit;rw[hg] at this;rw[this];show _=_++[];rw[YC]
  ·generalize hcut:ZhO (6,c.2.1,c.2.2.1,ZfZ,false,false,false,false,0,0) c.1 l=e;have e1:e.1=6:=by rw[<-hcut,Zbx]
   have e2:e.2.1=c.2.1:=by rw[<-hcut,Zbx]
   have e3:e.2.2.1=c.2.2.1:=by rw[<-hcut,Zbx]
   have ha:Zb8 (ZaN s0 ev) e=ZaN s0 ev:=by unfold Zb8 Zqa;rw[e1];rfl
   refine⟨_,_,rfl,rfl,⟨?_,by simp only[Ya];rw[Zfe,ha]⟩,?_⟩
   ·simp only[Ya];rw[h.hcp,Zec,Zkz,ha]
   ·simp only[Ya];rw[Zie,h.hit];unfold Zb4 cycE Zqa;rw[e1,e2,e3];rfl
 rw[hev,hcp'];generalize hrs:ZhO (4,0,[],ZfZ,false,false,false,false,0,0) c.1 l=e;have e1:e.1=4:=by rw[<-hrs,Zbx]
 have hreg:=ZrJ h.un;have hac:=Zu9 (ZaN s0 ev) c.2.1;have ha:Zb8 (ZaN s0 ev') e=ZB c.1:=by
  have:Zb8 (ZaN s0 ev') e=ZB (ZaN s0 ev'):=by unfold Zb8 Zqa;rw[e1];rfl
  rw[this,hl'.2];exact ZJ5 (by rw[hreg.1,hac.1]) (by rw[hreg.2,hac.2])
 have hc0:Zb4 (ZaN s0 ev') e=[]:=by unfold Zb4 cycE Zqa;rw[e1];rfl
 have hl:ZaN s0 (ev'++[e])=ZB c.1:=by rw[Zfe,ha]
 refine⟨by rw[hl'.1,Zec,ha],by rw[hl];rfl,⟨(by decide:(1:Int)<=1),(by decide:(1:Int)<=9)⟩,λ_ b=> ?_,λe=> ?_,λ_=>⟨rfl,Zl0 _ _⟩,?_,rfl,λe=> ?_,λe _=> ?_⟩
 ·have:(ZB c.1).2.2.2.2.1=false:=rfl;replace b:(ZB c.1).2.2.2.2.1=true:=b;rw[this] at b;simp at b
 ·replace e:(1:Int)=9:=e;omega
 ·rw[hcyi,Zie,hc0,hcy,hl];show _=_++[]++[];rw[YC,YC]
 ·replace e:(1:Int)=2\/(1:Int)=3\/(1:Int)=7:=e;omega
 ·replace e:(4:Int)<=1:=e;omega
theorem ZvR (b:BRDT) (s0:TC) (st:STT) (i:INPT) (h:Sem s0 st.1.1 st.2.2.2.1 st.2.2.2.2 st.2.2.1):Sem s0 (Zcl b s0 st i).1.1 (Zcl b s0 st i).2.2.2.1 (Zcl b s0 st i).2.2.2.2 (Zcl b s0 st i).2.2.1:=by
 have hcore:(Zaj b st.1 i).1.1=Zn st.1.1 (Zbs b (Zu b st.1 i) i) (busS b (Zu b st.1 i) i).2:=Zhq b st.1 i;show Sem s0 (Zaj b st.1 i).1.1 (evE st.2.2.2.1 st.1.1 (Zbs b (Zu b st.1 i) i) (busS b (Zu b st.1 i) i).2 (Zaj b st.1 i).2.2.2.2.1 (ZcT b st.1 i)) (evC st.2.2.2.2 s0 st.1.1 (Zaj b st.1 i).1.1 (Zbs b (Zu b st.1 i) i) (busS b (Zu b st.1 i) i).2 (ZcT b st.1 i))
  (ZbR st.2.2.1 st.1.1 (Zr st.1.1 (nowS st.1 i) (busS b (Zu b st.1 i) i).2) (nowS st.1 i))
 rw[hcore];have hl2:(Zbs b (Zu b st.1 i) i).2.2.1=i.2.2.1:=rfl;generalize hL:Zbs b (Zu b st.1 i) i=l at hl2|-;generalize hD:(busS b (Zu b st.1 i) i).2=d;cases hr:i.2.2.1
 ·have hnow:nowS st.1 i=Zq st.1.1:=by unfold nowS;rw[hr];rfl
  rw[hnow];rw[hr] at hl2;have hcalm:=ZP0 h l d (Zaj b st.1 i).2.2.2.2.1 hl2;cases hm:ZcT b st.1 i
  ·exact hcalm
  ·--a byte is moved:in a hold state
   have h8:Z2 st.1.1.2.2.2.2.1=8:=by unfold ZcT at hm;rw[Yc] at hm;have hp:=hm.1;unfold pinS at hp;rw[hL,hD,(Zhr b (Zu b st.1 i) i).1] at hp;exact (ZiW hp).2
   have hf:(finS st.1.1 l d).2=false:=by
    have h8':st.1.1.2.2.2.2.1=8:=by
     have:=h.nx;have h1:(decide (st.1.1.2.2.2.2.1<1)||decide (st.1.1.2.2.2.2.1>9))=false:=by simp;omega
     simp only[Z2,h1,Yb] at h8;exact h8
    unfold finS rdS;rw[hl2,h8'];rfl
   have e1:evE st.2.2.2.1 st.1.1 l d (Zaj b st.1 i).2.2.2.2.1 true=st.2.2.2.1++[(5,0,[],ZfZ,false,false,false,false,(Zaj b st.1 i).2.2.2.2.1)]:=by unfold evE;rw[hl2,hf];rfl
   have e2:evE st.2.2.2.1 st.1.1 l d (Zaj b st.1 i).2.2.2.2.1 false=st.2.2.2.1:=by unfold evE;rw[hl2,hf];rfl
   have e3:evC st.2.2.2.2 s0 st.1.1 (Zn st.1.1 l d) l d true=st.2.2.2.2++[Zlr s0 st.2.2.2.2]:=by unfold evC;rw[hl2,hf];rfl
   have e4:evC st.2.2.2.2 s0 st.1.1 (Zn st.1.1 l d) l d false=st.2.2.2.2:=by unfold evC;rw[hl2,hf];rfl
   rw[e1,e3];rw[e2,e4] at hcalm;exact ZPZ hcalm _ rfl rfl
 ·have hnow:nowS st.1 i=10:=by unfold nowS;rw[hr];rfl
  rw[hnow];exact ZJM h l d _ _ (by rw[hl2,hr]) _
theorem ZDc (b:BRDT) (s0:TC):∀(l:List INPT) (st:STT),Sem s0 st.1.1 st.2.2.2.1 st.2.2.2.2 st.2.2.1->Sem s0 (ZbN b s0 st l).1.1 (ZbN b s0 st l).2.2.2.1 (ZbN b s0 st l).2.2.2.2 (ZbN b s0 st l).2.2.1
 |[],st,h=>h
 |i::l,st,h=>ZDc b s0 l (Zcl b s0 st i) (ZvR b s0 st i h)
theorem ZE3 (b:BRDT) (hg:smG b.2.1=true) (hm:b.2.2.2.2.2.2.length<=100000) (hx:((wNew b).2 !=0)=false):wNew b=(newS b,0):=by
 have hv:(ZFY b).val=some (bif Zck b !=0 then (ZyO,Zck b) else ((newS b),0)):=by unfold ZFY;have hc:=smCb (l:=b.2.2.2.2.2.2) (by omega);simp only[RT.val,Zmk b hg hc,hc,Ya];cases Zck b !=0<;>rfl
 have hx':(Zck b !=0)=false:=by
  cases hq:Zck b !=0
  ·rfl
  ·exfalso;simp only[wNew,hv,getO,hq,Ya] at hx;simp at hx
 simp only[wNew,hv,getO,hx',Yb]
theorem ZFt (b:BRDT) (hw:wNew b=(newS b,0)):ZM b=Zpb b/\Sem (ZM b) (ZaS b).1.1 (ZaS b).2.2.2.1 (ZaS b).2.2.2.2 (ZaS b).2.2.1:=by
 have hs:ZM b=Zpb b:=by unfold ZM;rw[hw];rfl
 refine⟨hs,?_⟩;have e:(ZaS b).1.1=(ZM b,0,[],(1,0,0,4),1,false):=by unfold ZaS ZM;rw[hw];rfl
 rw[e];refine⟨rfl,rfl,⟨(by decide:(1:Int)<=1),(by decide:(1:Int)<=9)⟩,λ_ q=> ?_,λe=> ?_,λ_=>⟨?_,Zl0 _ _⟩,rfl,rfl,λe=> ?_,λe _=> ?_⟩
 ·have:(ZM b).2.2.2.2.1=false:=by rw[hs];rfl
  replace q:(ZM b).2.2.2.2.1=true:=q;rw[this] at q;simp at q
 ·replace e:(1:Int)=9:=e;omega
 ·have:ZM b=Zpb b:=hs;show ((1,0,0,4):TY)=(Zi (ZM b) 0 []).1;rw[this];rfl
 ·replace e:(1:Int)=2\/(1:Int)=3\/(1:Int)=7:=e;omega
 ·replace e:(4:Int)<=1:=e;omega
theorem ZJV (b:BRDT) (l:List INPT) (hg:smG b.2.1=true) (hm:b.2.2.2.2.2.2.length<=100000):
  (Zbo b l).1.2.2.2.1=Zp1 (Zpb b) (Zbo b l).1.2.2.1/\cyI (Zbo b l).1.2.1=cyA (Zpb b) (Zbo b l).1.2.2.1:=by
 unfold Zbo;cases hx:(wNew b).2 !=0
 ·obtain⟨hs,hi⟩:=ZFt b (ZE3 b hg hm hx);have hf:=ZDc b (ZM b) l (ZaS b) hi;rw[<-hs];show (endS (ZM b) (ZbN b (ZM b) (ZaS b) l)).2.2.2.1=Zp1 (ZM b) (endS (ZM b) (ZbN b (ZM b) (ZaS b) l)).2.2.1/\cyI (endS (ZM b) (ZbN b (ZM b) (ZaS b) l)).2.1=cyA (ZM b) (endS (ZM b) (ZbN b (ZM b) (ZaS b) l)).2.2.1;generalize ZbN b (ZM b) (ZaS b) l=st at hf;unfold endS;cases hb:Zef st.1.1
  ·refine⟨hf.hcp,?_⟩;have hg:st.1.1.2.2.1=[]:=by
    unfold Zef ZKB at hb;simp only[RT.val] at hb;have hx:(decide (iN (List.length st.1.1.2.2.1)>0)||st.1.1.2.1 !=0)=false:=by
     cases hq:(decide (iN (List.length st.1.1.2.2.1)>0)||st.1.1.2.1 !=0)
     ·rfl
     ·rw[hq] at hb;cases h2:decide (st.1.1.2.2.2.2.1>=2)<;>rw[h2] at hb<;>simp at hb
    rw[Yn] at hx;have:=hx.1;simp only[iN,Le,Yaa] at this;exact YX.1 (by omega)
   have:=hf.hit;rw[hg] at this;show cyI st.2.2.1=_;rw[this];show _++[]=_;rw[YC];rfl
  ·simp only[Ya];have ha:Zb8 (ZaN (ZM b) st.2.2.2.1) (7,st.1.1.2.1,st.1.1.2.2.1,ZfZ,false,false,false,false,0,0)=ZaN (ZM b) st.2.2.2.1:=rfl;refine⟨by rw[hf.hcp,Zec,Zkz,ha],?_⟩;rw[Zie];exact hf.hit
 ·exact⟨rfl,rfl⟩
end
end Go.Proofs.YtpnjbfjomebppaaGreat
open Go.Proofs.Tryz (prog)
open Go Go.S3 Go.Proofs
namespace Go.Proofs.YtpnjbfjomebppaaGreat
noncomputable section
def Zyh (n:Int) (low:Int) (high:Int):RT (Int):=
 .Lf (if (if high<n then high else n)>low then if high<n then high else n else low)
def gLim (n:Int) (low:Int) (high:Int):Int:=(Zyh n low high).val
def ZYE:En:=Zh ZyW ZTf (λ_=>none) (λa=>gLim a.1 a.2.1 a.2.2)
theorem ZWz:Zb prog 127 ZYE:=
 pureQ 127 [] [] _ _ trivial Tryz.func127 Tryz.call127 trivial
abbrev ZTF:List Sh:=[Sh.agg ZaB]
abbrev ZTG:Rs:=Rs.tup [So Kc,So Kc]
def Zyg (x:ITMT):RT (Int×Int):=
 .br (x.1==2) (.Lf ((8,gLim x.2.2.2.1 0 65536))) (.br (x.1==3) (.Lf ((9,gLim x.2.2.2.1 0 65536))) (.br (x.1==4) (.Lf ((10,gLim x.2.2.2.1 0 65536))) (.Lf ((0,0)))))
def gRep (x:ITMT):Int×Int:=(Zyg x).val
def ZWy:En:=Zh ZTF ZTG (λ_=>none) (λa=>gRep a)
theorem ZOg:Zb prog 73 ZWy:=
 pureQ 1359 [(127,ZYE)] [] _ _ ⟨ZWz,Tv⟩ Tryz.func73 Tryz.call73 trivial
abbrev ZOh:List Sh:=[Sh.agg ZaB,So R.bool]
def ZOi (x:ITMT) (f:Bool):RT (Bool):=
 let p1:=(decide (x.2.2.2.1>x.2.1.2.2.2))::(decide (x.2.2.2.1<1))::(decide (x.2.1.2.2.2>6))::(decide (x.2.1.2.2.2<3))::[]
 .br (orR p1 (!f&&x.2.2.2.1 !=x.2.1.2.2.2)) (.Lf (false)) (.br (decide (x.2.2.1<0)||decide (x.2.2.2.1<2)&&x.2.2.1 !=0) (.Lf (false)) (.Lf (x.2.2.1==0||pAcc x.2.1.1)))
def ZOl (x:ITMT) (f:Bool):Bool:=(ZOi x f).val
def ZOk:En:=Zh ZOh ZnL (λ_=>none) (λa=>ZOl a.1 a.2)
theorem ZFy:Zb prog 72 ZOk:=
 pureQ 137438954047 [(126,ZYh)] [] _ _ ⟨ZVZ,Tv⟩ Tryz.func72 Tryz.call72 trivial
abbrev ZFw:List Sh:=[So Kc,So (R.sl ZaB)]
def ZOf:LS:={n:=96,Sl:=[(1,.code (So (R.sl ZaB))),(4,.code (So R.bool)),(10,.code (So (R.sl ZaB))),(11,.code (So Kc)),(12,.code (So Kc))],Bx:=[],Sg:=[]}
def ZcY (a:List ITMT×Bool×List ITMT×Int×Int×PUnit):RT (Option (Go1 (List ITMT×Bool×List ITMT×Int×Int×PUnit))):=
 let x1:=i64.wrap (a.2.2.2.2.1+1)==iN (Le a.1)
 let x2:=x1||Zf (i64.wrap (a.2.2.2.2.1+1)) (Le a.1)
 let x3:= !x2
 let x4:ITMT:=R.get ZaB a.2.2.1 a.2.2.2.2.1
 let x5:=x4.1
 let x6:=x5==1
 let x7:=x6&& !ZOl x4 (x1||(R.get ZaB a.1 (i64.wrap (a.2.2.2.2.1+1))).1==4)
 let x8:=x4.2.2
 let x9:=x8.2
 let x10:=(gRep x4).1==0||(decide (x9.1<1)||x8.1 !=0)
 let p2:=x10::x6::x7::x3::(!Zf a.2.2.2.2.1 (Le a.2.2.1))::[]
 let x11:=Zf (i64.wrap (a.2.2.2.2.1-1)) (Le a.1)
 let x12:= !x11
 let x13:ITMT:=R.get ZaB a.1 (i64.wrap (a.2.2.2.2.1-1))
 let x14:=x13.1==x5
 let x15:= !x14
 let x16:=x13.2.2.2.2
 let x17:=x9.2
 let x18:=x16.1==x17.1
 let p1:=(!x18)::x12::x15::x12::(!decide (a.2.2.2.2.1>0))::[]
 let x19:=orR p1 x11
 let x20:= !x19
 let p3:=x20::p2
 let x21:= !decide (a.2.2.2.2.1>0)||(x12||(x15||x11))
 let p4:=(!decide (a.2.2.2.2.1>0))::(!x21)::p3
 let x22:List ITMT×Int×Int×PUnit:=(a.2.2.1,a.2.2.2.1,a.2.2.2.2.1,PUnit.unit)
 .br (decide (a.2.2.2.2.1<a.2.2.2.1)) (.br (orR p4 x11) (.br (orR p3 x21) (.br (orR p2 x19) (.br (!Zf a.2.2.2.2.1 (Le a.2.2.1)||x2) (.br (Zf a.2.2.2.2.1 (Le a.2.2.1)) (.br (x7) (Ls (Go1.ret (a.1,false,x22))) (.br (x6) (Ls (Go1.cont (a.1,a.2.1,a.2.2.1,a.2.2.2.1,i64.wrap (a.2.2.2.2.1+1),PUnit.unit))) (.br (x10) (Ls (Go1.ret (a.1,false,x22))) (.br (decide (a.2.2.2.2.1>0)&&(x14&&(x18&&x16.2==x17.2))) (Ls (Go1.ret (a.1,false,x22))) (Ls (Go1.cont (a.1,a.2.1,a.2.2.1,a.2.2.2.1,i64.wrap (a.2.2.2.2.1+1),PUnit.unit))))))) Ln) Ln) Ln) Ln) Ln) (Ls (Go1.brk (a.1,a.2.1,x22)))
def Zyf:Ora:=Zbr true ZOf ZcY (λa=>1000000000000)
theorem ZCg:Za1 (envX prog [(72,ZOk),(73,ZWy)] [] 1023 8) (.block 0 (.loop (Z7 Tryz.f19.body 0))) Zyf:=
 loopP ⟨ZFy,ZOg,Tv⟩
def Zpn (k:Int) (l:List ITMT):RT (Option (Bool)):=
 let x1:=runF true ZcY (λa=>1000000000000) (l,false,l,iN (Le l),0,())
 let x2:=getO (false,l,false,l,iN (Le l),0,()) x1
 .br (okB x1) (.br x2.1 (Ls x2.2.2.1) (Ls (true))) Ln
def ZFx (k:Int) (l:List ITMT):Bool:=getO ZnL.Df (Zpn k l).val
def ZuG (k:Int) (l:List ITMT):Bool:=okB (Zpn k l).val
def ZuF:En:=Zh ZFw ZnL (λa=>some (ZuG a.1 a.2)) (λa=>ZFx a.1 a.2)
theorem Zpm:Zb prog 19 ZuF:=
 pureP 1023 [(72,ZOk),(73,ZWy)] [(0,Zyf)] _ _ ⟨ZFy,ZOg,Tv⟩ Tryz.func19 Tryz.call19 ⟨ZCg,Tv⟩
abbrev Zm3:List Sh:=[So (R.sl Zfv),So (R.sl Zfv)]
def Zv1:LS:={n:=26,Sl:=[(0,.code (So (R.sl Zfv))),(1,.code (So (R.sl Zfv))),(4,.code (So R.bool)),(12,.code (So Kc)),(13,.code (So Kc))],Bx:=[],Sg:=[]}
def Zdu (a:List PINT×List PINT×Bool×Int×Int×PUnit):RT (Option (Go1 (List PINT×List PINT×Bool×Int×Int×PUnit))):=
 let x1:= !Zf a.2.2.2.2.1 (Le a.1)||Zf a.2.2.2.2.1 (Le a.2.1)
 let x2:PINT:=R.get Zfv a.1 a.2.2.2.2.1
 let x3:PINT:=R.get Zfv a.2.1 a.2.2.2.2.1
 let x34:Int×Int×PUnit:=(a.2.2.2.1,a.2.2.2.2.1,PUnit.unit)
 .br (decide (a.2.2.2.2.1<a.2.2.2.1)) (.br (!x1||Zf a.2.2.2.2.1 (Le a.1)) (.br (x1) (.br (!(R.eqf Zfv x2 x3 true)) (Ls (Go1.ret (a.1,a.2.1,false,x34))) (Ls (Go1.cont (a.1,a.2.1,a.2.2.1,a.2.2.2.1,i64.wrap (a.2.2.2.2.1+1),PUnit.unit)))) Ln) Ln) (Ls (Go1.brk (a.1,a.2.1,a.2.2.1,x34)))
def Zk2:Ora:=Zbr true Zv1 Zdu (λa=>1000000000000)
theorem Zp2:Za1 (envX prog [] [] 63 8) (.block 0 (.loop (Z7 Tryz.f24.body 0))) Zk2:=
 loopP trivial
def Ze7 (a:List PINT) (b:List PINT):RT (Option (Bool)):=
 let x1:=runF true Zdu (λa_1=>1000000000000) (a,b,false,iN (Le a),0,())
 let x2:=getO (false,a,b,false,iN (Le a),0,()) x1
 .br (iN (Le a) !=iN (Le b)) (Ls (false)) (.br (okB x1) (.br x2.1 (Ls x2.2.2.2.1) (Ls (true))) Ln)
def ZiF (a:List PINT) (b:List PINT):Bool:=getO ZnL.Df (Ze7 a b).val
def Zg6 (a:List PINT) (b:List PINT):Bool:=okB (Ze7 a b).val
def Zg5:En:=Zh Zm3 ZnL (λa=>some (Zg6 a.1 a.2)) (λa=>ZiF a.1 a.2)
theorem Zgm:Zb prog 24 Zg5:=
 pureP 63 [] [(0,Zk2)] _ _ trivial Tryz.func24 Tryz.call24 ⟨Zp2,Tv⟩
theorem ZLj (c:TC) (l:LINT):0<=ZbQ c l/\ZbQ c l<=5:=by
 have hv:∃k,(ZDB c l).val=k/\(0:Int)<=k/\k<=5:=by
  simp only[ZDB,RT.val,Bool.cond_eq_ite];repeat' split
  all_goals exact⟨_,rfl,by omega,by omega⟩
 obtain⟨k,hk,h0,h1⟩:=hv;simp only[ZbQ,hk];exact⟨h0,h1⟩
def ZIw (c:CORT):Prop:=0<=c.2.1/\c.2.1<=5
theorem ZJF (p:TC) (s:Int) (g:List Int) (h:Bool) (l:LINT) (hs:0<=s/\s<=5):ZIw (endX p s g h l):=by
 unfold endX;cases (Zi p s g).2
 ·exact ZLj _ _
 ·exact hs
theorem ZJG (c:CORT) (l:LINT) (d:Int) (hs:ZIw c):ZIw (Zn c l d):=by
 unfold Zn;dsimp only;cases l.2.2.1
 ·cases Z2 c.2.2.2.2.1==1
  ·cases Z2 c.2.2.2.2.1==2||Z2 c.2.2.2.2.1==7
   ·cases Z2 c.2.2.2.2.1==8
    ·cases Z2 c.2.2.2.2.1==9
     ·cases Z2 c.2.2.2.2.1==3
      ·cases decide (Z2 c.2.2.2.2.1<c.2.2.2.1.2.2.2)&& !(Z2 c.2.2.2.2.1==6)
       ·exact ZJF _ _ _ _ _ hs
       ·exact hs
      ·cases le3 (ZaF (Zg c.1 l) c.2.2.2.1 d).2.2.2
       ·exact hs
       ·exact ZJF _ _ _ _ _ hs
     ·cases ZbQ (Zg c.1 l) l==0
      ·exact ZLj _ _
      ·exact hs
    ·exact hs
   ·cases l.1|| !Zj c.2.2.2.1.1<;>exact hs
  ·exact hs
 ·exact⟨Int.le_refl 0,(by decide:(0:Int)<=5)⟩
def kindP (s:Int):Int:=bif s==0 then 1 else bif s==5 then 2 else 3
variable {c:CORT}
theorem ZRH (h:ZIw c):kindP c.2.1=Zlp c.2.1:=by
 have h:=h;unfold ZIw at h;generalize c.2.1=s at h;have e:s=0\/s=1\/s=2\/s=3\/s=4\/s=5:=by omega
 rcases e with rfl|rfl|rfl|rfl|rfl|rfl<;>rfl
theorem ZJY (hn:1<=c.2.2.2.2.1/\c.2.2.2.2.1<=9):Z2 c.2.2.2.2.1=c.2.2.2.2.1:=by
 have h1:(decide (c.2.2.2.2.1<1)||decide (c.2.2.2.2.1>9))=false:=by simp;omega
 simp only[Z2,h1,Yb]
theorem Zre (p:TC) (l:LINT):(Zg p l).1=p.1:=by simp only[Zg,Zst,RT.val];cases rOn p.1<;>rfl
theorem ZYP (c:CORT) (l:LINT) (d:Int) (hn:1<=c.2.2.2.2.1/\c.2.2.2.2.1<=9) (hr:l.2.2.1=false):
  (ZaE c l d).1=(finS c l d).2/\((finS c l d).2=true->(ZaE c l d).2.1=(finS c l d).1/\(ZaE c l d).2.2.1=Zc9 c (Zq c) d)/\(ZaE c l d).2.2.2.1=Zr c (Zq c) d/\(ZaE c l d).2.2.2.2=Zg c.1 l:=by
 have hsx:=ZJY hn;have hst:Zq c=c.2.2.2.2.1:=hsx;rw[hst];obtain⟨p0,s,g,x,n,hd⟩:=c;simp only at hn hsx;have hchip:=Zre p0 l;have hne:∀k:Int,n=k->(k==3)=false->Zr (p0,s,g,x,n,hd) n d=x:=λk hk h3=>by simp only[Zr,Zip,RT.val,hk,h3,Yb]
 have other:∀k:Int,n=k->(k==3)=false->(k==4||(k==5||k==6))=false->(∀y,Zp3 k y=false)->
   (ZaE (p0,s,g,x,n,hd) l d).1=(finS (p0,s,g,x,n,hd) l d).2/\((finS (p0,s,g,x,n,hd) l d).2=true->(ZaE (p0,s,g,x,n,hd) l d).2.1=(finS (p0,s,g,x,n,hd) l d).1/\(ZaE (p0,s,g,x,n,hd) l d).2.2.1=Zc9 (p0,s,g,x,n,hd) n d)/\(ZaE (p0,s,g,x,n,hd) l d).2.2.2.1=Zr (p0,s,g,x,n,hd) n d/\(ZaE (p0,s,g,x,n,hd) l d).2.2.2.2=Zg p0 l:=by
  intro k hk h3 h4 he;subst hk;have hch:ZaE (p0,s,g,x,n,hd) l d=(false,cpu0,[],x,Zg p0 l):=by unfold ZaE;simp only[hsx,h3,h4,YP,Yb]
  have hf:(finS (p0,s,g,x,n,hd) l d).2=false:=by unfold finS;simp only[hr,he,Yl,Ya,Yb]
  rw[hch,hf,hne n rfl h3];exact⟨rfl,λe=>by simp at e,rfl,rfl⟩
 have last:∀k:Int,n=k->(k==3)=false->(k==4||(k==5||k==6))=true->(∀y:TY,Zp3 k y= !(decide (k<y.2.2.2)&& !(k==6)))->
   (ZaE (p0,s,g,x,n,hd) l d).1=(finS (p0,s,g,x,n,hd) l d).2/\((finS (p0,s,g,x,n,hd) l d).2=true->(ZaE (p0,s,g,x,n,hd) l d).2.1=(finS (p0,s,g,x,n,hd) l d).1/\(ZaE (p0,s,g,x,n,hd) l d).2.2.1=Zc9 (p0,s,g,x,n,hd) n d)/\(ZaE (p0,s,g,x,n,hd) l d).2.2.2.1=Zr (p0,s,g,x,n,hd) n d/\(ZaE (p0,s,g,x,n,hd) l d).2.2.2.2=Zg p0 l:=by
  intro k hk h3 h4 he;subst hk;have hb3:(n !=3)=true:=by rw[bne,h3];rfl
  have hch:ZaE (p0,s,g,x,n,hd) l d=bif !(decide (n<x.2.2.2)&& !(n==6))&& !(Zi (Zg p0 l) s g).2 then (true,finX (Zg p0 l) s g l,g,x,Zg p0 l) else (false,cpu0,[],x,Zg p0 l):=by unfold ZaE;simp only[hsx,h3,h4,YI,Yb]
  have hf:finS (p0,s,g,x,n,hd) l d=bif decide (n<x.2.2.2)&& !(n==6) then (Zmh,false) else bif (Zi (Zg p0 l) s g).2 then (Zmh,false) else (finX (Zg p0 l) s g l,true):=by unfold finS rdS;simp only[hr,hb3,he,Bool.not_not,Ya,Yb]
  have hby:Zc9 (p0,s,g,x,n,hd) n d=g:=by unfold Zc9;simp only[h3,Yb]
  rw[hch,hf,hne n rfl h3,hby];cases decide (n<x.2.2.2)&& !(n==6)
  ·cases (Zi (Zg p0 l) s g).2
   ·exact⟨rfl,λ_=>⟨rfl,rfl⟩,rfl,rfl⟩
   ·exact⟨rfl,λe=>by simp at e,rfl,rfl⟩
  ·exact⟨rfl,λe=>by simp at e,rfl,rfl⟩
 have hcases:n=1\/n=2\/n=3\/n=4\/n=5\/n=6\/n=7\/n=8\/n=9:=by omega
 have ends45:∀k:Int,k=4\/k=5->∀y:TY,Zp3 k y= !(decide (k<y.2.2.2)&& !(k==6)):=λk hk y=>by
  have h6:(!(k==6))=true:=by rcases hk with rfl|rfl<;>rfl
  rw[h6,YR];have e:Zp3 k y=decide (y.2.2.2<=k):=by rcases hk with rfl|rfl<;>rfl
  rw[e];by_cases q:k<y.2.2.2
  ·rw[Yz q,YO (by omega)];rfl
  ·rw[YO q,Yz (by omega)];rfl
 rcases hcases with e|e|e|e|e|e|e|e|e
 ·exact other 1 e rfl rfl λ_=>rfl
 ·exact other 2 e rfl rfl λ_=>rfl
 ·subst e;generalize hx3:ZaF (Zg p0 l) x d=x3;have hx3':ZaF p0 x d=x3:=by rw[<-hx3];unfold ZaF;rw[hchip]
  have hcur:Zr (p0,s,g,x,3,hd) 3 d=x3:=by rw[<-hx3'];rfl
  have hrd:rdS (p0,s,g,x,3,hd) 3 d=(x3,g++[x3.2.2.1]):=by show (ZaF p0 x d,g++[(ZaF p0 x d).2.2.1])=_;rw[hx3']
  have hen:Zp3 3 x3=le3 x3.2.2.2:=rfl;have hby:Zc9 (p0,s,g,x,3,hd) 3 d=g++[x3.2.2.1]:=by unfold Zc9;rw[hcur];rfl
  have hch:ZaE (p0,s,g,x,3,hd) l d=bif le3 x3.2.2.2&& !(Zi (Zg p0 l) s (g++[x3.2.2.1])).2 then (true,finX (Zg p0 l) s (g++[x3.2.2.1]) l,g++[x3.2.2.1],x3,Zg p0 l) else (false,cpu0,[],x3,Zg p0 l):=by unfold ZaE;simp only[hsx,hx3];rfl
  have hf:finS (p0,s,g,x,3,hd) l d=bif le3 x3.2.2.2 then (bif (Zi (Zg p0 l) s (g++[x3.2.2.1])).2 then (Zmh,false) else (finX (Zg p0 l) s (g++[x3.2.2.1]) l,true)) else (Zmh,false):=by unfold finS;simp only[hr,hrd,hen,Yb];cases le3 x3.2.2.2<;>rfl
  rw[hch,hf,hcur,hby];cases le3 x3.2.2.2
  ·exact⟨rfl,λe=>by simp at e,rfl,rfl⟩
  ·cases (Zi (Zg p0 l) s (g++[x3.2.2.1])).2
   ·exact⟨rfl,λ_=>⟨rfl,rfl⟩,rfl,rfl⟩
   ·exact⟨rfl,λe=>by simp at e,rfl,rfl⟩
 ·exact last 4 e rfl rfl (ends45 4 (.inl rfl))
 ·exact last 5 e rfl rfl (ends45 5 (.inr rfl))
 ·exact last 6 e rfl rfl λy=>by cases decide ((6:Int)<y.2.2.2)<;>rfl
 ·exact other 7 e rfl rfl λ_=>rfl
 ·exact other 8 e rfl rfl λ_=>rfl
 ·exact other 9 e rfl rfl λ_=>rfl
def ZxE (n:Int):Int:=bif n==2 then 1 else bif n==3||n==7 then 2 else n-1
def ZyN (c:CORT) (it:List ITMT):Prop:=
 (1<=c.2.2.2.2.1/\c.2.2.2.2.1<=9)/\((c.2.2.2.2.1=8\/c.2.2.2.2.1=9\/c.2.2.2.2.1=1)\/∃l y,it=l++[y]/\y.2.1=c.2.2.2.1/\y.2.2.2.1=ZxE c.2.2.2.2.1)
theorem ZN8 (c:TC) (s:Int) (h:Bool):idlX c s h=8\/idlX c s h=9\/idlX c s h=1:=by
 unfold idlX;cases h
 ·cases c.2.2.2.2.1&&s==0
  ·exact .inr (.inr rfl)
  ·exact .inr (.inl rfl)
 ·exact .inl rfl
theorem Zjo (it:List ITMT) (h:c.2.2.2.2.1=8\/c.2.2.2.2.1=9\/c.2.2.2.2.1=1):ZyN c it:=⟨by omega,.inl h⟩
theorem Zx4 (p:TC) (s:Int) (g:List Int) (h:Bool) (l:LINT) (it:List ITMT):ZyN (endX p s g h l) it:=by
 apply Zjo;unfold endX;cases (Zi p s g).2
 ·exact ZN8 _ _ _
 ·exact ZN8 _ _ _
theorem ZNL {it:List ITMT} (h:ZyN c it) (l:LINT) (d:Int) (hr:l.2.2.1=false):ZyN (Zn c l d) (ZbR it c (Zr c (Zq c) d) (Zq c)):=by
 obtain⟨hn,h⟩:=h;have hsx:=ZJY hn;have hst:Zq c=c.2.2.2.2.1:=hsx;rw[hst];obtain⟨p0,s,g,x,n,hd⟩:=c;simp only at hn hsx h;have get:∀k:Int,n=k->(k==8)=false->(k==9)=false->(k==1)=false->∃l y,it=l++[y]/\y.2.1=x/\y.2.2.2.1=ZxE k:=λk hk h8 h9 h1=>by
  subst hk;rcases h with (h|h|h)|h
  ·rw[h] at h8;simp at h8
  ·rw[h] at h9;simp at h9
  ·rw[h] at h1;simp at h1
  ·exact h
 have more:∀k:Int,n=k->(k=4\/k=5\/k=6)->ZyN (Zn (p0,s,g,x,n,hd) l d) (ZbR it (p0,s,g,x,n,hd) (Zr (p0,s,g,x,n,hd) n d) n):=λk hk h4=>by
  subst hk;have b1:(n==1)=false:=by rcases h4 with rfl|rfl|rfl<;>rfl
  have b2:(n==2||n==7)=false:=by rcases h4 with rfl|rfl|rfl<;>rfl
  have b3:(n==3)=false:=by rcases h4 with rfl|rfl|rfl<;>rfl
  have b8:(n==8)=false:=by rcases h4 with rfl|rfl|rfl<;>rfl
  have b9:(n==9)=false:=by rcases h4 with rfl|rfl|rfl<;>rfl
  have hck:Zn (p0,s,g,x,n,hd) l d=bif decide (n<x.2.2.2)&& !(n==6) then (Zg p0 l,s,g,x,n+1,hd) else endX (Zg p0 l) s g hd l:=by unfold Zn;simp only[hr,hsx,b1,b2,b3,b8,b9,Yb]
  rw[hck];cases hb:decide (n<x.2.2.2)&& !(n==6)
  ·exact Zx4 _ _ _ _ _ _
  ·obtain⟨l',y,rfl,y1,y2⟩:=get n rfl b8 b9 b1;have h6:n≠6:=by simp at hb;exact hb.2
   refine⟨⟨by show 1<=n+1;omega,by show n+1<=9;omega⟩,.inr ⟨l',(y.1,x,y.2.2.1,n,y.2.2.2.2),?_,rfl,?_⟩⟩
   ·have e:ZxE n=n-1:=by rcases h4 with rfl|rfl|rfl<;>rfl
    rw[e] at y2;have w:IntKind.wrap .i64 (y.2.2.2.1+1)=n:=by rw[y2,wrap_i64 _ (by omega) (by omega)];omega
    rcases h4 with rfl|rfl|rfl
    ·show Zbk (l'++[y]) _=_;rw[Z4,w];rfl
    ·show Zbk (l'++[y]) _=_;rw[Z4,w];rfl
    ·exact absurd rfl h6
   ·show n=ZxE (n+1);rcases h4 with rfl|rfl|rfl
    ·rfl
    ·rfl
    ·exact absurd rfl h6
 have hcases:n=1\/n=2\/n=3\/n=4\/n=5\/n=6\/n=7\/n=8\/n=9:=by omega
 have wait:∀k:Int,k=3\/k=7->1<=k/\k<=9:=λk hk=>by omega
 rcases hcases with e|e|e|e|e|e|e|e|e
 ·subst e;have hck:Zn (p0,s,g,x,1,hd) l d=(Zg p0 l,s,g,x,2,hd):=by unfold Zn;simp only[hr,hsx];rfl
  rw[hck];exact⟨by show (1:Int)<=2/\(2:Int)<=9;decide,.inr ⟨it,_,rfl,rfl,rfl⟩⟩
 ·subst e;obtain⟨l',y,rfl,y1,y2⟩:=get 2 rfl rfl rfl rfl;have hck:Zn (p0,s,g,x,2,hd) l d=(Zg p0 l,s,g,x,bif l.1|| !Zj x.1 then 3 else 7,bif l.1|| !Zj x.1 then l.2.1 else hd):=by unfold Zn;simp only[hr,hsx];show (bif l.1|| !Zj x.1 then _ else _)=_;cases l.1|| !Zj x.1<;>rfl
  have w:IntKind.wrap .i64 (y.2.2.2.1+1)=2:=by rw[y2];rfl
  rw[hck];refine⟨wait _ (by cases l.1|| !Zj x.1<;>simp),.inr ⟨l',(y.1,x,y.2.2.1,2,y.2.2.2.2),?_,rfl,?_⟩⟩
  ·show Zbk (l'++[y]) _=_;rw[Z4,w];rfl
  ·show (2:Int)=ZxE (bif l.1|| !Zj x.1 then 3 else 7);cases l.1|| !Zj x.1<;>rfl
 ·subst e;obtain⟨l',y,rfl,y1,y2⟩:=get 3 rfl rfl rfl rfl;have hck:Zn (p0,s,g,x,3,hd) l d=bif le3 (ZaF (Zg p0 l) x d).2.2.2 then endX (Zg p0 l) s (g++[(ZaF (Zg p0 l) x d).2.2.1]) hd l else (Zg p0 l,s,g++[(ZaF (Zg p0 l) x d).2.2.1],ZaF (Zg p0 l) x d,4,hd):=by unfold Zn;simp only[hr,hsx];rfl
  rw[hck];cases le3 (ZaF (Zg p0 l) x d).2.2.2
  ·have w:IntKind.wrap .i64 (y.2.2.2.1+1)=3:=by rw[y2];rfl
   refine⟨by show (1:Int)<=4/\(4:Int)<=9;decide,.inr ⟨l',(y.1,ZaF (Zg p0 l) x d,y.2.2.1,3,y.2.2.2.2),?_,rfl,rfl⟩⟩;have hcur:Zr (p0,s,g,x,3,hd) 3 d=ZaF (Zg p0 l) x d:=by unfold ZaF;rw[Zre];rfl
   rw[hcur];show Zbk (l'++[y]) _=_;rw[Z4,w];rfl
  ·exact Zx4 _ _ _ _ _ _
 ·exact more 4 e (.inl rfl)
 ·exact more 5 e (.inr (.inl rfl))
 ·exact more 6 e (.inr (.inr rfl))
 ·subst e;obtain⟨l',y,rfl,y1,y2⟩:=get 7 rfl rfl rfl rfl;have hck:Zn (p0,s,g,x,7,hd) l d=(Zg p0 l,s,g,x,bif l.1|| !Zj x.1 then 3 else 7,bif l.1|| !Zj x.1 then l.2.1 else hd):=by unfold Zn;simp only[hr,hsx];show (bif l.1|| !Zj x.1 then _ else _)=_;cases l.1|| !Zj x.1<;>rfl
  rw[hck];refine⟨wait _ (by cases l.1|| !Zj x.1<;>simp),.inr ⟨l',(y.1,x,IntKind.wrap .i64 (y.2.2.1+1),y.2.2.2),?_,rfl,?_⟩⟩
  ·show Zbk (l'++[y]) _=_;rw[Z4];rfl
  ·show y.2.2.2.1=ZxE (bif l.1|| !Zj x.1 then 3 else 7);rw[y2];cases l.1|| !Zj x.1<;>rfl
 ·subst e;have hck:Zn (p0,s,g,x,8,hd) l d=(Zg p0 l,s,g,x,idlX (Zg p0 l) s l.2.1,hd):=by unfold Zn;simp only[hr,hsx];rfl
  rw[hck];exact Zjo _ (ZN8 _ _ _)
 ·subst e;have hck:(Zn (p0,s,g,x,9,hd) l d).2.2.2.2.1=bif ZbQ (Zg p0 l) l==0 then (bif l.2.1 then 8 else 9) else (bif l.2.1 then 8 else 1):=by unfold Zn;simp only[hr,hsx];show (bif ZbQ (Zg p0 l) l==0 then _ else _:CORT).2.2.2.2.1=_;cases ZbQ (Zg p0 l) l==0<;>rfl
  refine Zjo _ ?_;rw[hck];cases ZbQ (Zg p0 l) l==0<;>cases l.2.1<;>simp
def RbOk (st:STT):Prop:=ZIw st.1.1/\ZyN st.1.1 st.2.2.1
theorem ZUN (b:BRDT) (s0:TC) (st:STT) (i:INPT) (h:RbOk st):RbOk (Zcl b s0 st i):=by
 have hc:(Zcl b s0 st i).1.1=Zn st.1.1 (Zbs b (Zu b st.1 i) i) (busS b (Zu b st.1 i) i).2:=Zhq b st.1 i;refine⟨by rw[hc];exact ZJG _ _ _ h.1,?_⟩;rw[hc];show ZyN _ (ZbR st.2.2.1 st.1.1 (Zr st.1.1 (nowS st.1 i) (busS b (Zu b st.1 i) i).2) (nowS st.1 i));have hl2:(Zbs b (Zu b st.1 i) i).2.2.1=i.2.2.1:=rfl;cases hr:i.2.2.1
 ·have hnow:nowS st.1 i=Zq st.1.1:=by unfold nowS;rw[hr];rfl
  rw[hnow];exact ZNL h.2 _ _ (by rw[hl2,hr])
 ·refine Zjo _ (.inr (.inr ?_));unfold Zn;rw[hl2,hr];rfl
variable {α β:Type}
theorem Zme (c:Bool) (x y:α×β):(bif c then x.1 else y.1)=(bif c then x else y).1:=by cases c<;>rfl
theorem Zmd (c:Bool) (x y:α×β):(bif c then x.2 else y.2)=(bif c then x else y).2:=by cases c<;>rfl
theorem ZlN (p:α×β):(p.1,p.2)=p:=rfl
theorem ZUE (k t:Int) (x:TY) (d:Int) (i o:Bool):(Zba k t x d i o).1=t:=by
 simp only[Zba,ZiH,RT.val];cases t==8
 ·cases t==9
  ·cases t==10
   ·cases rOn k<;>rfl
   ·rfl
  ·rfl
 ·rfl
theorem ZS6 (c:CORT) (l:LINT) (d:Int):(ZbM c l d).1=bif l.2.2.1 then 10 else Zq c:=ZUE _ _ _ _ _ _
theorem ZrQ (d:QT3):(ZbF d).2.2=Zac d:=by rw[ZJr];cases Zac d<;>rfl
theorem ZO3 (b:BRDT) (s:SYST) (i:INPT) (hr:i.2.2.1=true):
  (busS b (Zu b s i) i).2=0/\(Zaj b s i).1=(Zn s.1 (Zbs b (Zu b s i) i) 0,s.2.1,ZUB (Zu b s i).2.2.1 0,(s.2.2.2.1.1,s.2.2.2.1.2.1,0),ZcE s,s.2.2.2.2.2)/\ZcT b s i=false:=by
 have hb:busS b (Zu b s i) i=(Zu b s i,0):=by unfold busS;dsimp only;rw[hr];rfl
 have hw:ZjP s i=false:=by unfold ZjP;rw[hr];rfl
 have hc:ZjD b s i=(Zn s.1 (Zbs b (Zu b s i) i) 0,s.2.1,(Zu b s i).2.2.1,s.2.2.2.1,ZcE s,s.2.2.2.2.2):=by unfold ZjD;dsimp only;rw[hb];rfl
 have hwr:Zds b s i=ZjD b s i:=by unfold Zds;rw[hw];rfl
 have hm:ZcT b s i=false:=by
  unfold ZcT;have:Zhv (pinS b s i)=false:=by
   cases h:Zhv (pinS b s i)
   ·rfl
   ·unfold pinS at h;have:=(ZiW h).1;rw[show (Zbs b (Zu b s i) i).2.2.1=i.2.2.1 from rfl,hr] at this;simp at this
  rw[this];rfl
 refine⟨by rw[hb],?_,hm⟩;show ZDl (Zk9 b s i) i.2.2.1=_;have:Zk9 b s i=ZjD b s i:=by unfold Zk9;dsimp only;rw[hm,hwr];rfl
 rw[this,hc,hr];rfl
theorem ZSq (b:BRDT) (s:SYST) (i:INPT) (hr:i.2.2.1=false) {L:LINT} {D:Int} {B:PICT} {w k7 x71 x72 d2:Bool} {d1 p:Int} {Wm:List Cell} {Wd:QT3}
  (hL:Zbs b (Zu b s i) i=L) (hD:(busS b (Zu b s i) i).2=D) (hB:(busS b (Zu b s i) i).1.2.2.1=B) (hw:(Zq s.1==3&&ZbV s.1.2.2.2.1.1)=w) (h7:(s.1.2.2.2.1.1 !=7)=k7)
  (hp:IntKind.wrap .u8 s.1.2.2.2.1.2.1=p) (h71:(ZeX b p).2=x71) (h72:x71=true->(ZeX b p).1=x72) (hd:Zio b p=(d1,d2))
  (hm:(bif w then bif k7 then ZcC b.2.1 s.2.1 s.1.2.2.2.1.2.1 s.1.2.2.2.1.2.2.1 else s.2.1 else s.2.1)=Wm)
  (hwd:(bif w then bif k7 then s.2.2.2.1 else bif x71 then s.2.2.2.1 else bif d2 then ZhR s.2.2.2.1 d1 s.1.2.2.2.1.2.2.1 else s.2.2.2.1 else s.2.2.2.1)=Wd):
  ZcT b s i=(Zhv (ZbM s.1 L D)&&Zac Wd)/\pinS b s i=ZbM s.1 L D/\
  (Zaj b s i).1=(Zn s.1 L D,(bif Zhv (ZbM s.1 L D)&&Zac Wd then ZcC b.2.1 Wm (ZbF Wd).2.1.1 (ZbF Wd).2.1.2 else Wm),(bif w then bif k7 then B else bif x71 then Zmr B x72 s.1.2.2.2.1.2.2.1 else B else B),
   (bif Zhv (ZbM s.1 L D)&&Zac Wd then (ZbF Wd).1 else Wd),ZcE s,(bif w then bif k7 then s.2.2.2.2.2 else s.2.2.2.2.2++[(p,s.1.2.2.2.1.2.2.1)] else s.2.2.2.2.2))/\
  (Zaj b s i).2.2.2.2.1=(bif Zhv (ZbM s.1 L D)&&Zac Wd then (ZbF Wd).2.1 else (0,0)):=by
 obtain⟨k1,k2,k3⟩:=Zhr b (Zu b s i) i;have hc:ZjD b s i=(Zn s.1 L D,s.2.1,B,s.2.2.2.1,ZcE s,s.2.2.2.2.2):=by unfold ZjD;dsimp only;rw[k1,k2,k3,hB,hL,hD];rfl
 have hws:ZjP s i=w:=by unfold ZjP;rw[hr];exact hw
 have hW:Zds b s i=(Zn s.1 L D,Wm,(bif w then bif k7 then B else bif x71 then Zmr B x72 s.1.2.2.2.1.2.2.1 else B else B),Wd,ZcE s,(bif w then bif k7 then s.2.2.2.2.2 else s.2.2.2.2.2++[(p,s.1.2.2.2.1.2.2.1)] else s.2.2.2.2.2)):=by
  unfold Zds Zqp;dsimp only;rw[hws,hc,hp,h7,hd,h71,<-hm,<-hwd];cases w
  ·rfl
  ·cases k7
   ·cases hx:x71
    ·rfl
    ·rw[h72 hx];rfl
   ·rfl
 have hP:pinS b s i=ZbM s.1 L D:=by unfold pinS;rw[k1,hL,hD];rfl
 have hM:ZcT b s i=(Zhv (ZbM s.1 L D)&&Zac Wd):=by unfold ZcT;rw[hP,hW]
 have hcell:(Zaj b s i).2.2.2.2.1=(bif Zhv (ZbM s.1 L D)&&Zac Wd then (ZbF Wd).2.1 else (0,0)):=by
  show (bif ZcT b s i then ((Zds b s i).2.2.2.1.1,(Zds b s i).2.2.2.1.2.1) else (0,0))=_;rw[hM,hW,ZJr];cases Zhv (ZbM s.1 L D)
  ·rfl
  ·cases Zac Wd<;>rfl
 refine⟨hM,hP,?_,hcell⟩;show ZDl (Zk9 b s i) i.2.2.1=_;rw[hr];show Zk9 b s i=_;unfold Zk9;dsimp only;rw[hM,hW,ZJr];cases Zhv (ZbM s.1 L D)
 ·rfl
 ·cases Zac Wd<;>rfl
abbrev TupB:=List INPT×Int×Int×CORT×List Cell×PICT×(QT3)×Int×BRDT×SYST×TC×List (Int×Int)×List PINT×List ITMT×List EVTT×List TC×PUnit
def tupB (l:List INPT) (j:Int) (b:BRDT) (s0:SYST) (Zag:TC) (st:STT):TupB:=(l,(l.length:Int),j,st.1.1,st.1.2.1,st.1.2.2.1,st.1.2.2.2.1,st.1.2.2.2.2.1,b,s0,Zlr Zag st.2.2.2.2,st.1.2.2.2.2.2,st.2.1,st.2.2.1,st.2.2.2.1,st.2.2.2.2,())
theorem ZH6 (c:CORT) (it':List ITMT) (y:ITMT) (d:Int) (h:ZyN c (it'++[y])):
  (bif Zq c==1 then it'++[y]++[(1,Zr c (Zq c) d,0,1,c.1.2.2.1,c.1.2.2.2.2.2.2.2.2.2.2.2.2)] else bif Zq c==7 then it'++[(y.1,y.2.1,IntKind.wrap .i64 (y.2.2.1+1),y.2.2.2)] else
   bif (bif Zq c==2 then Zq c==2 else bif Zq c==3 then Zq c==3 else bif Zq c==4 then Zq c==4 else bif Zq c==5 then Zq c==5 else Zq c==6) then it'++[(y.1,Zr c (Zq c) d,y.2.2.1,Zq c,y.2.2.2.2)] else
   bif Zq c==8 then (bif y.1==2&&(y.2.2.2.2.1==c.1.2.2.1&&y.2.2.2.2.2==c.1.2.2.2.2.2.2.2.2.2.2.2.2) then it'++[(y.1,y.2.1,y.2.2.1,IntKind.wrap .i64 (y.2.2.2.1+1),y.2.2.2.2)] else it'++[y]++[(2,(0,0,0,0),0,1,c.1.2.2.1,c.1.2.2.2.2.2.2.2.2.2.2.2.2)]) else
   bif Zq c==9 then (bif y.1==3&&(y.2.2.2.2.1==c.1.2.2.1&&y.2.2.2.2.2==c.1.2.2.2.2.2.2.2.2.2.2.2.2) then it'++[(y.1,y.2.1,y.2.2.1,IntKind.wrap .i64 (y.2.2.2.1+1),y.2.2.2.2)] else it'++[y]++[(3,(0,c.1.2.1.2.2.2.2.2.2.2.2.2,0,0),0,1,c.1.2.2.1,c.1.2.2.2.2.2.2.2.2.2.2.2.2)]) else it'++[y])=
  ZbR (it'++[y]) c (Zr c (Zq c) d) (Zq c):=by
 obtain⟨hn,h⟩:=h;have hT:Zq c=c.2.2.2.2.1:=ZJY hn;rw[<-hT] at hn h;have hy:¬(Zq c=8\/Zq c=9\/Zq c=1)->y.2.1=c.2.2.2.1/\y.2.2.2.1=ZxE (Zq c):=λhx=>by
  rcases h with h|⟨l,z,e,h1,h2⟩
  ·exact absurd h hx
  ·have:=YaW e rfl;obtain⟨_,e2⟩:=this;simp only[YaJ,and_true] at e2;rw[e2];exact⟨h1,h2⟩
 generalize Zq c=n at hn hy;have hj:∀f:ITMT->ITMT,Zbk (it'++[y]) f=it'++[f y]:=Z4 it' y;have hg:∀k:Int,n=k->ZxE k+1=k->¬(k=8\/k=9\/k=1)->IntKind.wrap .i64 (y.2.2.2.1+1)=n:=λk hk h1 h2=>by subst hk;rw[(hy h2).2,h1,wrap_i64 _ (by omega) (by omega)]
 have e:n=1\/n=2\/n=3\/n=4\/n=5\/n=6\/n=7\/n=8\/n=9:=by omega
 rcases e with e|e|e|e|e|e|e|e|e
 ·subst e;rfl
 ·have w:=hg 2 e rfl (by decide);subst e;show _=Zbk _ _;rw[hj,w];rfl
 ·have w:=hg 3 e rfl (by decide);subst e;show _=Zbk _ _;rw[hj,w];rfl
 ·have w:=hg 4 e rfl (by decide);subst e;show _=Zbk _ _;rw[hj,w];rfl
 ·have w:=hg 5 e rfl (by decide);subst e;show _=Zbk _ _;rw[hj,w];rfl
 ·have w:=hg 6 e rfl (by decide);subst e;show _=Zbk _ _;rw[hj,w];rfl
 ·subst e;show _=Zbk _ _;rw[hj,(hy (by decide)).1];rfl
 ·subst e;show _=Zf2 _ _ _ _;unfold Zf2;rw[List.getLast?_concat];dsimp only;rw[hj];rfl
 ·subst e;show _=Zf2 _ _ _ _;unfold Zf2;rw[List.getLast?_concat];dsimp only;rw[hj];rfl
theorem Zjp (s:TC) (l:List TC) (x:TC):Zlr s (l++[x])=x:=by simp[Zlr]
theorem l1:((1:Int)==1)=true/\((1:Int)==10)=false/\((1:Int) !=10)=true:=by decide
theorem l10:((10:Int)==1)=false/\((10:Int)==2)=false/\((10:Int)==3)=false/\((10:Int)==4)=false/\((10:Int)==5)=false/\((10:Int)==6)=false/\((10:Int)==7)=false/\((10:Int)==8)=false/\((10:Int)==9)=false/\((10:Int)==10)=true/\((10:Int) !=10)=false:=by decide
theorem ZQc (l:List INPT) (j:Nat) (b:BRDT) (s0:SYST) (Zag:TC) (st:STT) (n:Nat) (h:RunOk b st n) (q:RbOk st) (hj:j<l.length) (hl:l.length<=100000) (hn:n<=200000) (hpp:inR .u8 b.2.2.2.1) (i:INPT) (hi:R.get Zfw l (j:Int)=i):
  (Zc1 (tupB l (j:Int) b s0 Zag st)).val=some (Go1.cont (tupB l ((j+1:Nat):Int) b s0 Zag (Zcl b Zag st i))):=by
 have hms:=mst;obtain⟨s,tr,it,ev,cp⟩:=st;obtain⟨g,m,o,k,t,hitl,hev,hcp,ne⟩:=h;obtain⟨hsrc,hlast⟩:=q;simp only at g m o k t hitl hev hcp ne hsrc hlast;have d:decide ((j:Int)<(l.length:Int))=true:=Yz (by omega);have hin:Zf (j:Int) l.length=true:=ZF.2 ⟨by omega,by omega⟩;have w:IntKind.wrap .i64 ((j:Int)+1)=((j+1:Nat):Int):=by rw[wrap_i64 _ (by omega) (by omega)];omega
 obtain⟨p,hp⟩:∃p,IntKind.wrap .u8 s.1.2.2.2.1.2.1=p:=⟨_,rfl⟩;have hpr:inR .u8 p:=by rw[<-hp];exact Zar .u8 _
 obtain⟨p1,p2⟩:=ZQF hpr hpp;have b4:∀y:Int×Int,Nat.ble (List.length (s.2.2.2.2.2++[y])) most=true:=λy=>ZaV (by simp;omega)
 have b5:smC s.2.1=true:=smCb (by omega);have b6:∀t v,smC (ZcC b.2.1 s.2.1 t v)=true:=λt v=>smCb (by have:=Zmi b.2.1 s.2.1 t v;omega)
 have b7:∀c1 c2:Bool,∀t v,smC (bif c1 then bif c2 then ZcC b.2.1 s.2.1 t v else s.2.1 else s.2.1)=true:=λc1 c2 t v=>by cases c1<;>cases c2<;>first|exact b6 t v|exact b5
 have b9:ZmV s.1=true:=Zgj.2 (by omega);have btr:∀x:PINT,Nat.ble (tr++[x]).length most=true:=λx=>ZaV (by simp;omega)
 have bev:∀x:EVTT,Nat.ble (ev++[x]).length most=true:=λx=>ZaV (by simp;omega)
 have bev2:∀(c:Bool) (x y:EVTT),Nat.ble ((bif c then ev++[x] else ev)++[y]).length most=true:=λc x y=>ZaV (by cases c<;>simp<;>omega)
 have bcp:∀x:TC,Nat.ble (cp++[x]).length most=true:=λx=>ZaV (by simp;omega)
 have bcp2:∀(c:Bool) (x y:TC),Nat.ble ((bif c then cp++[x] else cp)++[y]).length most=true:=λc x y=>ZaV (by cases c<;>simp<;>omega)
 have bgt:Nat.ble (List.length s.1.2.2.1) most=true:=ZaV (by omega);have bit:∀x:ITMT,Nat.ble (it++[x]).length most=true:=λx=>ZaV (by simp;omega)
 have n1:decide (iN ([]:List ITMT).length>0)=false:=rfl;have n2:Zf (IntKind.wrap .i64 (iN ([]:List ITMT).length-1)) ([]:List ITMT).length=false:=rfl;obtain⟨Q,hQ⟩:∃Q,(Zu b s i).2.2.1=Q:=⟨_,rfl⟩;have hQ':(bif b.2.2.2.2.2.1 then s.2.2.1 else ZkY s.2.2.1 i.2.2.2.2.2.2.2.2.1)=Q:=by rw[<-hQ];unfold Zu;cases b.2.2.2.2.2.1<;>rfl
 obtain⟨L,hL⟩:∃L,Zbs b (Zu b s i) i=L:=⟨_,rfl⟩;have hL':=(ZWl b s i g).symm.trans hL;have hLr:L.2.2.1=i.2.2.1:=by rw[<-hL];rfl
 obtain⟨x71,h71⟩:∃x,(!b.2.2.2.2.2.1&&decide (IntKind.wrap .u8 (p-b.2.2.2.1)<2))=x:=⟨_,rfl⟩;obtain⟨x72,h72⟩:∃x,(IntKind.wrap .u8 (p-b.2.2.2.1)==1)=x:=⟨_,rfl⟩;have e71:(ZeX b p).2=x71:=by rw[ZTB,<-h71,p1]
 have e72:x71=true->(ZeX b p).1=x72:=λe=>by rw[<-h71,Yc] at e;rw[ZTB,<-h72,p2 e.2]
 have hnn:it=[]->Zq s.1=1:=ne;have hsn:∀it' y,it=it'++[y]->IntKind.wrap .i64 (iN (it'++[y]).length-1)=(it'.length:Int)/\decide (iN (it'++[y]).length>0)=true:=λit' y e=>by rw[e] at hitl;exact⟨ZIC it' y (by simp at hitl;omega),Yz (by simp only[iN,Le,Yd,List.length_singleton];omega)⟩
 have hit:it=[]\/∃it' y,it=it'++[y]:=by
  rcases Yaf it with e|⟨it',y,e⟩
  ·exact .inl e
  ·exact .inr ⟨it',y,by rw[e,Y8]⟩
 cases hr:i.2.2.1
 ·obtain⟨D,hD⟩:∃D,(busS b (Zu b s i) i).2=D:=⟨_,rfl⟩;have hb:=bus_p b (Zu b s i) i (!i.2.2.1&&(Zq s.1==3&&Za2 s.1.2.2.2.1.1)) (s.1.2.2.2.1.1==8||s.1.2.2.2.1.1==9) x71 x72 rfl rfl
   (by show _=(ZeX b (IntKind.wrap .u8 s.1.2.2.2.1.2.1)).2;rw[hp,e71]) (λe=>by show _=(ZeX b (IntKind.wrap .u8 s.1.2.2.2.1.2.1)).1;rw[hp,e72 e]) (λe=>by rw[<-h71,e];rfl)
  rw[hQ,hr] at hb;have hD2:(bif Zq s.1==3&&Za2 s.1.2.2.2.1.1 then bif decide (s.1.2.2.2.1.1>=1)&&decide (s.1.2.2.2.1.1<=5) then Zk1 b.2.1 s.2.1 s.1.2.2.2.1.2.1 else bif s.1.2.2.2.1.1==8||s.1.2.2.2.1.1==9 then bif !b.2.2.2.2.2.1 then (vAck Q).2 else i.2.2.2.2.2.2.2.2.2 else bif x71 then (ZpX Q x72).2 else bif decide (IntKind.wrap .u8 (p-b.2.2.2.2.1)<4) then Zms s.2.2.2.1 (IntKind.wrap .i64 (IntKind.wrap .u8 (p-b.2.2.2.2.1))) else i.2.2.2.2.2.2.2.2.2 else 0)=D:=by rw[<-hD,hb,ZTC,<-hp];rfl
  obtain⟨B,hB⟩:∃B,(busS b (Zu b s i) i).1.2.2.1=B:=⟨_,rfl⟩;have hB2:(bif Zq s.1==3&&Za2 s.1.2.2.2.1.1 then bif decide (s.1.2.2.2.1.1>=1)&&decide (s.1.2.2.2.1.1<=5) then Q else bif s.1.2.2.2.1.1==8||s.1.2.2.2.1.1==9 then bif !b.2.2.2.2.2.1 then (vAck Q).1 else Q else bif x71 then (ZpX Q x72).1 else Q else Q)=B:=by rw[<-hB,hb];rfl
  obtain⟨Wm,hm⟩:∃z,(bif Zq s.1==3&&ZbV s.1.2.2.2.1.1 then bif s.1.2.2.2.1.1 !=7 then ZcC b.2.1 s.2.1 s.1.2.2.2.1.2.1 s.1.2.2.2.1.2.2.1 else s.2.1 else s.2.1)=z:=⟨_,rfl⟩;have b10:smC Wm=true:=by rw[<-hm];exact b7 _ _ _ _
  obtain⟨Wd,hwd⟩:∃z,(bif Zq s.1==3&&ZbV s.1.2.2.2.1.1 then bif s.1.2.2.2.1.1 !=7 then s.2.2.2.1 else bif x71 then s.2.2.2.1 else bif decide (IntKind.wrap .u8 (p-b.2.2.2.2.1)<4) then ZhR s.2.2.2.1 (IntKind.wrap .i64 (IntKind.wrap .u8 (p-b.2.2.2.2.1))) s.1.2.2.2.1.2.2.1 else s.2.2.2.1 else s.2.2.2.1)=z:=⟨_,rfl⟩;obtain⟨kM,kP,kS,kC⟩:=ZSq b s i hr hL hD hB rfl rfl hp e71 e72 (ZTC b p) hm hwd;obtain⟨M,hM⟩:∃M,(Zhv (ZbM s.1 L D)&&Zac Wd)=M:=⟨_,rfl⟩;rw[hM] at kM kS kC;have hM':((ZbM s.1 L D).2.2.2.2.2.2.2.2.2.2.2.2.2.2.2.1&&Zac Wd)=M:=hM;rw[hr] at hLr;have hP1:(ZbM s.1 L D).1=Zq s.1:=by rw[ZS6,hLr];rfl
  have hn9:1<=s.1.2.2.2.2.1/\s.1.2.2.2.2.1<=9:=hlast.1;obtain⟨c1,c2,c3,c4⟩:=ZYP s.1 L D hn9 hLr;have hT10:(Zq s.1==10)=false:=by have:=ZJY hn9;show (Z2 s.1.2.2.2.2.1==10)=false;rw[this];simp;omega
  have hT10':(Zq s.1 !=10)=true:=by rw[bne,hT10];rfl
  rw[hr] at hL';have hR:Zcl b Zag (s,tr,it,ev,cp) i=((Zaj b s i).1,tr++[ZbM s.1 L D],ZbR (it) s.1 (Zr s.1 (Zq s.1) D) (Zq s.1),evE ev s.1 L D (Zaj b s i).2.2.2.2.1 M,evC cp Zag s.1 (Zn s.1 L D) L D M):=by
   have hnow:nowS s i=Zq s.1:=by unfold nowS;rw[hr];rfl
   have hcc:(Zaj b s i).1.1=Zn s.1 L D:=by rw[kS]
   show ((Zaj b s i).1,tr++[pinS b s i],ZbR (it) s.1 (Zr s.1 (nowS s i) (busS b (Zu b s i) i).2) (nowS s i),evE ev s.1 (Zbs b (Zu b s i) i) (busS b (Zu b s i) i).2 (Zaj b s i).2.2.2.2.1 (ZcT b s i),evC cp Zag s.1 (Zaj b s i).1.1 (Zbs b (Zu b s i) i) (busS b (Zu b s i) i).2 (ZcT b s i))=_;rw[hnow,hcc,kP,kM,hL,hD]
  have hMv:(M&&Zac Wd)=M:=by rw[<-hM];cases Zhv (ZbM s.1 L D)<;>cases Zac Wd<;>rfl
  have hMF:M=true->(finS s.1 L D).2=false:=λe=>by rw[<-hM,Yc] at e;have h8:=(ZiW e.1).2;rw[ZJY hn9] at h8;unfold finS rdS;rw[hLr,h8];rfl
  rcases hit with rfl|⟨it',y,rfl⟩
  have hT1:=hnn rfl;have hP0:(ZbM s.1 L D).1=1:=by rw[hP1,hT1]
  have hI:ZbR [] s.1 (Zr s.1 (Zq s.1) D) (Zq s.1)=[]++[(1,Zr s.1 (Zq s.1) D,0,1,s.1.1.2.2.1,s.1.1.2.2.2.2.2.2.2.2.2.2.2.2)]:=by rw[hT1];rfl
  unfold tupB Zc1;simp only[RT.val,hi,hr,hp,d,hin,w,g,b4,b5,b7,b9,btr,bev,bev2,bcp,bcp2,bgt,bit,ZRA,Zlx,ZFl,Zme,Zmd,clkX,pstR,hQ',hL',h71,h72,ZrQ,ZlN,ZcQ,ZbO,Bool.and_assoc,Yax,Y6,Yj,Yv,Yf,Yl,Yi,Yw,YI,YR,YP,Bool.not_or_self,Bool.or_not_self,Ya,Yb,hD2,hB2,hm,b10,hwd,hM',hP0,l1,n1,n2];rw[c3,hR,hI,hMv]
  rotate_left
  obtain⟨w0,w1⟩:=hsn it' y rfl;have w2:=λz:ITMT=>ZDk it' z
  have w3:=λz:ITMT=>ZFu (r:=ZaB) it' z
  have w4:=λz:ITMT=>ZlE it' y z
  have w5:=λz z2:ITMT=>ZlE it' z z2
  unfold tupB Zc1;simp only[RT.val,hi,hr,hp,d,hin,w,g,b4,b5,b7,b9,btr,bev,bev2,bcp,bcp2,bgt,bit,ZRA,Zlx,ZFl,Zme,Zmd,clkX,pstR,hQ',hL',h71,h72,ZrQ,ZlN,ZcQ,ZbO,Bool.and_assoc,Yax,Y6,Yj,Yv,Yf,Yl,Yi,Yw,YI,YR,YP,Bool.not_or_self,Bool.or_not_self,Ya,Yb,hD2,hB2,hm,b10,hwd,hM',hP1,hT10,hT10',w0,w1,w2,w3,w4,w5];rw[c3,ZH6 s.1 it' y D hlast,hR,hMv];all_goals
    unfold evE evC;simp only[kS,kC,hLr,c1,c4,Yb];cases hF:(finS s.1 L D).2
    ·cases M
     ·rfl
     ·simp only[Ya,Yb,Zjp];rfl
    ·have hMz:M=false:=by
      cases M
      ·rfl
      ·rw[hMF rfl] at hF;simp at hF
     obtain⟨g1,g2⟩:=c2 hF;have hk:(bif s.1.2.1==0 then (1:Int) else bif s.1.2.1==5 then 2 else 3)=Zlp s.1.2.1:=ZRH hsrc;rw[hMz,g1,g2,hk];simp only[Ya,Yb,Zjp];rfl
 ·obtain⟨r1,r2,r3⟩:=ZO3 b s i hr;rw[hL] at r2;have hP1:(ZbM s.1 L 0).1=10:=by rw[ZS6,hLr,hr];rfl
  have hH:(ZbM s.1 L 0).2.2.2.2.2.2.2.2.2.2.2.2.2.2.2.1=false:=by
   cases e:(ZbM s.1 L 0).2.2.2.2.2.2.2.2.2.2.2.2.2.2.2.1
   ·rfl
   ·have:=(ZiW e).1;rw[hLr,hr] at this;simp at this
  have hR:Zcl b Zag (s,tr,it,ev,cp) i=((Zn s.1 L 0,s.2.1,ZUB Q 0,(s.2.2.2.1.1,s.2.2.2.1.2.1,0),ZcE s,s.2.2.2.2.2),tr++[ZbM s.1 L 0],Zf2 it 4 s.1 (4,(0,0,0,0),0,1,ZaD s.1,sodC s.1),evE ev s.1 L 0 (Zaj b s i).2.2.2.2.1 false,evC cp Zag s.1 (Zn s.1 L 0) L 0 false):=by
   have hnow:nowS s i=10:=by unfold nowS;rw[hr];rfl
   have hcc:(Zaj b s i).1.1=Zn s.1 L 0:=by rw[r2]
   have hp2:pinS b s i=ZbM s.1 L 0:=by unfold pinS;rw[(Zhr b (Zu b s i) i).1,hL,r1];rfl
   show ((Zaj b s i).1,tr++[pinS b s i],ZbR it s.1 (Zr s.1 (nowS s i) (busS b (Zu b s i) i).2) (nowS s i),evE ev s.1 (Zbs b (Zu b s i) i) (busS b (Zu b s i) i).2 (Zaj b s i).2.2.2.2.1 (ZcT b s i),evC cp Zag s.1 (Zaj b s i).1.1 (Zbs b (Zu b s i) i) (busS b (Zu b s i) i).2 (ZcT b s i))=_;rw[hnow,hcc,hp2,r3,hL,r1,r2,hQ];rfl
  rw[hr] at hL';rcases hit with rfl|⟨it',y,rfl⟩
  ·unfold tupB Zc1;simp only[RT.val,hi,hr,hp,d,hin,w,g,b4,b5,b7,b9,btr,bev,bev2,bcp,bcp2,bgt,bit,ZRA,Zlx,ZFl,Zme,Zmd,clkX,pstR,hQ',hL',h71,h72,ZrQ,ZlN,ZcQ,ZbO,Bool.and_assoc,Yax,Y6,Yj,Yv,Yf,Yl,Yi,Yw,YI,YR,YP,Bool.not_or_self,Bool.or_not_self,Ya,Yb,hP1,hH,l10,n1,n2];rw[hR];unfold evE evC Zf2;simp only[hLr,hr,Ya,Zjp,List.getLast?_nil];rfl
  ·obtain⟨w0,w1⟩:=hsn it' y rfl;have w2:=λz:ITMT=>ZDk it' z
   have w3:=λz:ITMT=>ZFu (r:=ZaB) it' z
   have w4:=λz:ITMT=>ZlE it' y z
   have w5:=λz z2:ITMT=>ZlE it' z z2
   unfold tupB Zc1;simp only[RT.val,hi,hr,hp,d,hin,w,g,b4,b5,b7,b9,btr,bev,bev2,bcp,bcp2,bgt,bit,ZRA,Zlx,ZFl,Zme,Zmd,clkX,pstR,hQ',hL',h71,h72,ZrQ,ZlN,ZcQ,ZbO,Bool.and_assoc,Yax,Y6,Yj,Yv,Yf,Yl,Yi,Yw,YI,YR,YP,Bool.not_or_self,Bool.or_not_self,Ya,Yb,hP1,hH,l10,w0,w1,w2,w3,w4,w5];rw[hR];unfold evE evC Zf2;simp only[hLr,hr,Ya,Zjp,List.getLast?_concat,Z4];rfl
theorem ZKa (b:BRDT) (s0:TC):∀(l:List INPT) (st:STT),RbOk st->RbOk (ZbN b s0 st l)
 |[],st,h=>h
 |i::l,st,h=>ZKa b s0 l (Zcl b s0 st i) (ZUN b s0 st i h)
theorem ZUM (b:BRDT) (l:List INPT) (s0:SYST) (Zag:TC) (st:STT) (h:RunOk b st 0) (q:RbOk st) (hpp:inR .u8 b.2.2.2.1) (hl:l.length<=70000):
  runF false Zc1 (λ_=>1000000000000) (tupB l 0 b s0 Zag st)=some (false,tupB l (l.length:Int) b s0 Zag (ZbN b Zag st l)):=by
 obtain⟨r,hr,h1⟩:=ZI (fl:=false) (t:=Zc1) (fuel:=λ_=>1000000000000)
  (λa=>∃i:Nat,i<=l.length/\a=tupB l (i:Int) b s0 Zag (ZbN b Zag st (l.take i)))
  (λa=>Int.toNat (a.2.1-a.2.2.1)) (λr=>r=(false,tupB l (l.length:Int) b s0 Zag (ZbN b Zag st l)))
  (by
   rintro a ⟨i,hi,rfl⟩;by_cases hlt:i<l.length
   ·left;have hk:=Zpr b Zag (l.take i) st 0 h;refine⟨_,ZQc l i b s0 Zag (ZbN b Zag st (l.take i)) _ hk (ZKa b Zag _ _ q) hlt (by omega) (by simp;omega) hpp _ rfl,⟨i+1,hlt,?_⟩,by show Int.toNat ((l.length:Int)-((i+1:Nat):Int))<Int.toNat ((l.length:Int)-(i:Int));omega⟩;have e:ZbN b Zag st (l.take (i+1))=Zcl b Zag (ZbN b Zag st (l.take i)) (R.get Zfw l (i:Int)):=by rw[ZJu l Zfw.Df i hlt];simp only[ZbN,List.foldl_append,List.foldl_cons,List.foldl_nil];rfl
    rw[e]
   ·right;left;have e:i=l.length:=by omega
    subst e;have d:decide ((l.length:Int)<(l.length:Int))=false:=YO (by omega);rw[YaD]
    exact⟨_,by unfold tupB Zc1;simp only[RT.val,d,Yb],rfl⟩)
  (tupB l 0 b s0 Zag st) ⟨0,Yq _,rfl⟩ (by show Int.toNat ((l.length:Int)-0)<_;omega)
 rw[h1] at hr;exact hr
theorem ZWs (b:BRDT) (hw:wNew b=(newS b,0)):RbOk (ZaS b):=by unfold ZaS;rw[hw];exact⟨⟨Int.le_refl 0,(by decide:(0:Int)<=5)⟩,Zjo _ (.inr (.inr rfl))⟩
theorem ZyE (b:BRDT) (l:List Int) (hg:smG b.2.1=true) (hm:b.2.2.2.2.2.2.length<=100000) (hl:l.length<=4000) (hpp:inR .u8 b.2.2.2.1):(Zrt b l).val=some (Zbo b (decX l)):=by
 have hms:=mst;obtain⟨e1,e2⟩:=ZIo b;have hc:=smCb (l:=b.2.2.2.2.2.2) (by omega);rw[Zmk b hg hc] at e2;have hn:=ZrA b hg hm;have hb:Nat.ble (List.length b.2.2.2.2.2.2) most=true:=ZaV (by omega);have hd:Zzn l=true:=by unfold Zzn;rw[YF];exact hl
 unfold Zbo;rw[hn.2.1];cases hx:Zck b !=0
 ·have h0:Zck b=0:=by simpa using hx
  have hnew:=ZE3 b hg hm (by rw[hn.2.1,hx]);have hi:=(hn.2.2 (by rw[hn.2.1,h0])).1;have hf:=Zpr b (ZM b) (decX l) (ZaS b) 0 hi;have hld:=dec_len l;have hr:=ZUM b (decX l) ZyO (ZM b) (ZaS b) hi (ZWs b hnew) hpp (by omega);have himg:=Zhc (Ziq.1 (ZIM b hg hc h0));have hs:tupB (decX l) 0 b ZyO (ZM b) (ZaS b)=(decX l,iN (decX l).length,0,newX b.1,b.2.2.2.2.2.2,ZU7,(0,0,0),0,b,ZyO,(newX b.1).1,[],[],[],[],[],()):=by unfold ZM ZaS;rw[hnew];unfold newS;rw[himg];rfl
  rw[hs] at hr;unfold ZyO Zmh at hr;simp only[Zrt,RT.val,e1,e2,hx,hb,hd,hr,okB,getO,Yf,Yi,Yj,Ya,Yb];obtain⟨st,hst⟩:∃st,ZbN b (ZM b) (ZaS b) (decX l)=st:=⟨_,rfl⟩;rw[hst] at hf|-;have hk:=hf.k;have he:=hf.ev;have hcp:=hf.cp;have b1:Nat.ble (List.length st.1.1.2.2.1) most=true:=ZaV (by omega);have b2:∀x:EVTT,Nat.ble (List.length (st.2.2.2.1++[x])) most=true:=λx=>ZaV (by simp;omega)
  have b3:∀x:TC,Nat.ble (List.length (st.2.2.2.2++[x])) most=true:=λx=>ZaV (by simp;omega)
  have hpb:∀c,Zug c=Zef c:=λ_=>rfl
  unfold tupB;simp only[b1,b2,b3,hpb,Yj,Yf,Yi,Ya];unfold endS;cases Zef st.1.1<;>rfl
 ·simp only[Zrt,RT.val,e1,e2,hx,Yf,Yv,Yj,Ya];rfl
def Zzm (b:BRDT) (l:List Int):Bool:=smG b.2.1&&(Nat.ble b.2.2.2.2.2.2.length 100000&&Nat.ble l.length 4000)
theorem ZDj {b:BRDT} {l:List Int} (h:Zzm b l=true):smG b.2.1=true/\b.2.2.2.2.2.2.length<=100000/\l.length<=4000:=by simpa only[Zzm,Yc,YF] using h
def ZpO:En:=Zh ZCA Zu3 (λa=>some (Zzm a.1 a.2)) (λa=>Zbo a.1 (decX a.2))
theorem ZjK:Zb Tryz.prog 23 ZpO:=ZSv.pure_congr
 (λa h hp=>by
  obtain⟨h1,h2,h3⟩:=ZDj (b:=a.1) (l:=a.2) (by simpa using hp);have hv:=ZyE a.1 a.2 h1 h2 h3 h.1.2.2.2.1
  simp[ZTV,hv,okB])
 (λa h hp=>by
  obtain⟨h1,h2,h3⟩:=ZDj (b:=a.1) (l:=a.2) (by simpa using hp);have hv:=ZyE a.1 a.2 h1 h2 h3 h.1.2.2.2.1
  simp only[ZYT,hv,getO])
