import Derived.Test.YtpnjbfjomebppaaGreatBndR
open Go.IntKind (u8 u16 i64)
open Go Go.S3 Go.Proofs Go.Proofs.Cells
set_option linter.unusedVariables false
set_option linter.unusedSimpArgs false
set_option maxRecDepth 100000
namespace Go.Proofs.YtpnjbfjomebppaaGreat
noncomputable section
def cyA:TC->List EVTT->List TY
 |_,[]=>[]
 |c,e::l=>Zga c e++cyA (Zdz c e) l
theorem Zg6 (c:TC) (l:List EVTT) (e:EVTT):Za0 c (l++[e])=Zdz (Za0 c l) e:=by unfold Za0;rw[YaL];rfl
theorem ZpR:∀(l:List EVTT) (c:TC) (e:EVTT),cyA c (l++[e])=cyA c l++Zga (Za0 c l) e
 |[],c,e=>by simp[cyA,Za0]
 |x::l,c,e=>by have:=ZpR l (Zdz c x) e;simp only[List.cons_append,cyA,this,Yl];rfl
theorem Zfj:∀(l:List EVTT) (c:TC) (e:EVTT),Zwt c (l++[e])=Zwt c l++[Zdz (Za0 c l) e]
 |[],c,e=>rfl
 |x::l,c,e=>by have:=Zfj l (Zdz c x) e;simp only[List.cons_append,Zwt,this];rfl
theorem Zrr (c:TC) (l:List EVTT):ZlE c (Zwt c l)=Za0 c l:=by
 rcases Y2 l with rfl|⟨l',e,rfl⟩
 ·rfl
 ·rw[Y0,Zfj,Zg6];simp[ZlE]
def cyI (l:List ITMT):List TY:=(l.filter λy=>y.1==1&&decide (y.2.2.2.1>=3)).map λy=>y.2.1
theorem Ze9 (l:List ITMT) (y:ITMT):cyI (l++[y])=cyI l++(bif y.1==1&&decide (y.2.2.2.1>=3) then [y.2.1] else []):=by unfold cyI;rw[YaH,Ya0];cases h:y.1==1&&decide (y.2.2.2.1>=3)<;>simp[List.filter,h]
def unl (c:TC):Int×(Int×Int×Int×Int×Int×Int×Int×(Bool×Bool×Bool×Bool×Bool×Bool×Bool)×Int×Int)×Bool×Bool×Bool×Int×Bool×Bool×Bool:=(c.1,c.2.1,c.2.2.1,c.2.2.2.1,c.2.2.2.2.1,c.2.2.2.2.2.1,c.2.2.2.2.2.2.2.2.2.2)
theorem ZvX (c:TC) (l:LINT):unl (Zf c l)=unl c:=by unfold Zf ZsO;simp only[RT.val];cases !rOn c.1<;>rfl
theorem ZSP (c:TC):Zy c 0=c:=rfl
variable {a b:TC}
theorem ZUr (h:unl a=unl b) (s:Int):unl (Zy a s)=unl (Zy b s):=by
 unfold Zy Zja;simp only[RT.val];cases decide (s<1)||decide (s>5)
 ·simp only[unl,pinj] at h|-;obtain⟨h1,h2,h3,h4,h5,h6,h7⟩:=h;simp only[h1,h2,h3,h4,h5,h6,h7,and_self];simp only[Yb,unl,h1,h2,h3,h4,h5,h6,h7,and_self]
 ·exact h
theorem ZKt (h1:a.1=b.1) (h2:a.2.1=b.2.1):Z1 a=Z1 b:=by unfold Z1 Znc;simp only[RT.val,h1,h2]
theorem Zvz (c:TC) (s:Int):(Zy c s).1=c.1/\(Zy c s).2.1=c.2.1:=by unfold Zy Zja;simp only[RT.val];cases decide (s<1)||decide (s>5)<;>exact⟨rfl,rfl⟩
theorem Zr0 (h:unl a=unl b):a.1=b.1/\a.2.1=b.2.1:=by simp only[unl,pinj] at h;exact⟨h.1,h.2.1⟩
theorem ZSJ (h1:a.1=b.1) (h2:a.2.1=b.2.1) (inj:Bool) (g:List Int) (i:InsT):Zgf a inj g i=Zgf b inj g i:=by unfold Zgf ZbT Zbu opC ZcJ popX ZZ ZdG Zgr ZfB pcOf spOf;simp only[h1,h2]
theorem ZFn (h:unl a=unl b) (s:Int) (g:List Int):Zj a s g=Zj b s g:=by
 obtain⟨h1,h2⟩:=Zr0 h;have hp:ZdB a s g=ZdB b s g:=by
  unfold ZdB pcOf ZcJ spOf;simp only[h1,h2];cases Zd s
  ·cases g with
   |nil=>rfl
   |cons o g=>simp only[Yb,ZSJ h1 h2]
  ·rfl
 unfold Zj;rw[hp]
theorem Zma (c:TC) (s:Int):(Zj c s []).2=true:=by unfold Zj ZdB pick;cases Zd s<;>rfl
variable {p q:TC}
theorem ZCt (h:unl p=unl q) (e:EVTT) (he:e.2.2.2.2.1=q.2.2.2.2.2.2.2.1/\e.2.2.2.2.2.1=q.2.2.2.2.2.2.1/\e.2.2.2.2.2.2.1=q.2.2.2.2.2.2.2.2.2.1/\e.2.2.2.2.2.2.2.1=q.2.2.2.2.2.2.2.2.1):ZEE p e=q:=by obtain⟨e1,e2,e3,e4⟩:=he;simp only[unl,pinj] at h;obtain⟨h1,h2,h3,h4,h5,h6,h7⟩:=h;unfold ZEE;rw[e1,e2,e3,e4,h1,h2,h3,h4,h5,h6,h7]
theorem ZPk (c:TC) (s:Int):∀(r g:List Int) (b:Int),(cyX c s g r).length=r.length->(Zj c s (g++r)).2=true->cyX c s g (r++[b])=cyX c s g r++[ZED c (Zj c s (g++r)).1 b]/\(cyX c s g (r++[b])).length=(r++[b]).length
 |[],g,b,_,h=>by rw[Yx] at h|-;simp only[List.nil_append,cyX,h,Ya,List.length_cons,List.length_nil,and_self]
 |x::r,g,b,hl,h=>by
  simp only[List.cons_append,cyX] at hl|-;cases hn:(Zj c s g).2
  ·rw[hn] at hl;simp at hl
  ·rw[hn] at hl;simp only[Ya,List.length_cons] at hl|-;have h':(Zj c s (g++[x]++r)).2=true:=by rw[Yl];exact h
   obtain⟨q1,q2⟩:=ZPk c s r (g++[x]) b (by omega) h';rw[q1] at q2|-;rw[Yl] at q2|-;exact⟨rfl,by simpa using q2⟩
structure Sem (s0:TC) (c:CORT) (ev:List EVTT) (cp:List TC) (it:List ITMT):Prop where
 hcp:cp=Zwt s0 ev
 un:unl c.1=unl (Zy (Za0 s0 ev) c.2.1)
 nx:1<=c.2.2.2.2.1/\c.2.2.2.2.1<=9
 rest:c.2.1=0->c.1.2.2.2.2.1=true->(c.2.2.2.2.1=8\/c.2.2.2.2.1=9)/\c.2.2.1=[]
 nine:c.2.2.2.2.1=9->c.2.1=0/\c.1.2.2.2.2.1=true
 cy:(c.2.2.2.2.1<4\/6<c.2.2.2.2.1)->c.2.2.2.1=(Zj c.1 c.2.1 c.2.2.1).1/\(Zj c.1 c.2.1 c.2.2.1).2=true
 hit:cyI it=cyA s0 ev++cyX (Zy (Za0 s0 ev) c.2.1) c.2.1 [] c.2.2.1
 ln:(cyX (Zy (Za0 s0 ev) c.2.1) c.2.1 [] c.2.2.1).length=c.2.2.1.length
 pt:(c.2.2.2.2.1=2\/c.2.2.2.2.1=3\/c.2.2.2.2.1=7)->∃(l:List ITMT) (y:ITMT),it=l++[y]/\y.1=1/\y.2.2.2.1=(bif c.2.2.2.2.1==2 then 1 else 2)
 ps:4<=c.2.2.2.2.1->c.2.2.2.2.1<=6->∃(l:List ITMT) (y:ITMT),it=l++[y]/\y.1=1/\y.2.2.2.1=c.2.2.2.2.1-1/\y.2.1=c.2.2.2.1
theorem ZUq (h:unl a=unl b):a.2.2.2.2.1=b.2.2.2.2.1:=by simp only[unl,pinj] at h;exact h.2.2.2.2.1
theorem ZeA (c:TC) (s:Int) (h:Bool):(idlX c s h=8\/idlX c s h=9\/idlX c s h=1)/\(idlX c s h=9->s=0/\c.2.2.2.2.1=true)/\(s=0->c.2.2.2.2.1=true->idlX c s h=8\/idlX c s h=9):=by
 unfold idlX;cases h
 ·cases hh:c.2.2.2.2.1&&s==0
  ·simp only[Yb];refine⟨.inr (.inr trivial),λe=>by omega,λe1 e2=> ?_⟩;rw[e1,e2] at hh;simp at hh
  ·simp only[Ya,Yb];simp at hh;exact⟨.inr (.inl trivial),λ_=>⟨hh.2,hh.1⟩,λ_ _=>.inr trivial⟩
 ·simp only[Ya];exact⟨.inl trivial,λe=>by omega,λ_ _=>.inl trivial⟩
variable {s0:TC} {c:CORT} {ev:List EVTT} {cp:List TC} {it:List ITMT}
theorem ZQd (h:Sem s0 c ev cp it) (e:EVTT) (h1:Zdz (Za0 s0 ev) e=Za0 s0 ev) (h2:Zga (Za0 s0 ev) e=[]):
  Sem s0 c (ev++[e]) (cp++[ZlE s0 cp]) it:=by
 have hl:Za0 s0 (ev++[e])=Za0 s0 ev:=by rw[Zg6,h1]
 refine⟨by rw[h.hcp,Zfj,Zrr,h1],by rw[hl];exact h.un,h.nx,h.rest,h.nine,h.cy,by rw[hl,ZpR,h2,Yx];exact h.hit,by rw[hl];exact h.ln,h.pt,h.ps⟩
theorem ZyD (s:Int):Zvj (ZhS s)=true:=by
 unfold ZhS ZDa Zvj;simp only[RT.val];cases Zd s
 ·cases s==5<;>rfl
 ·rfl
theorem ZKa (p:TC) (s:Int) (g:List Int) (h:Bool) (l:LINT) (hcp:cp=Zwt s0 ev) (un:unl p=unl (Zy (Za0 s0 ev) s)) (hh:s=0->p.2.2.2.2.1=true->False)
  (hit:cyI it=cyA s0 ev++cyX (Zy (Za0 s0 ev) s) s [] g) (ln:(cyX (Zy (Za0 s0 ev) s) s [] g).length=g.length):
  Sem s0 (endX p s g h l) (bif (Zj p s g).2 then ev else ev++[Zid (ZhS s,s,g,ZhR,false,false,false,false,0,0) p l]) (bif (Zj p s g).2 then cp else cp++[finX p s g l]) it:=by
 unfold endX;dsimp only;cases hn:(Zj p s g).2
 ·simp only[Yb];generalize hq:finX p s g l=q;generalize Zbr q l=k;generalize he:Zid (ZhS s,s,g,ZhR,false,false,false,false,0,0) p l=e;have hpat:ZEE (Zy (Za0 s0 ev) s) e=p:=ZCt un.symm e (by rw[<-he,ZcD];exact⟨rfl,rfl,rfl,rfl⟩);have ha:Zdz (Za0 s0 ev) e=q:=by
   have e1:e.1=ZhS s:=by rw[<-he,ZcD]
   have e2:e.2.1=s:=by rw[<-he,ZcD]
   have e3:e.2.2.1=g:=by rw[<-he,ZcD]
   have e4:e.2.2.2.1=l:=by rw[<-he,ZcD]
   unfold Zdz;rw[e1,ZyD,e2,hpat,e3,e4];exact hq
  have hc:Zga (Za0 s0 ev) e=cyX (Zy (Za0 s0 ev) s) s [] g:=by
   have e1:e.1=ZhS s:=by rw[<-he,ZcD]
   have e2:e.2.1=s:=by rw[<-he,ZcD]
   have e3:e.2.2.1=g:=by rw[<-he,ZcD]
   unfold Zga cycE;rw[e1,ZyD,e2,e3];rfl
  have hl:Za0 s0 (ev++[e])=q:=by rw[Zg6,ha]
  obtain⟨i1,i2,i3⟩:=ZeA (Zy q k) k h;refine⟨by rw[hcp,Zfj,ha],by rw[hl],?_,λa b=>⟨i3 a b,rfl⟩,i2,λ_=>⟨rfl,Zma _ _⟩,?_,by rw[hl];rfl,λe=> ?_,λe1 e2=> ?_⟩
  ·show 1<=idlX (Zy q k) k h/\idlX (Zy q k) k h<=9;omega
  ·rw[hl,ZpR,hc,hit];show _=_++[];rw[Yx]
  ·exfalso;replace e:idlX (Zy q k) k h=2\/idlX (Zy q k) k h=3\/idlX (Zy q k) k h=7:=e;omega
  ·exfalso;replace e1:4<=idlX (Zy q k) k h:=e1;replace e2:idlX (Zy q k) k h<=6:=e2;omega
 ·simp only[Ya];obtain⟨i1,i2,i3⟩:=ZeA p s h;refine⟨hcp,un,?_,λa b=>(hh a b).elim,λe=>((hh (i2 e).1 (i2 e).2)).elim,λ_=>⟨rfl,hn⟩,hit,ln,λe=> ?_,λe1 e2=> ?_⟩
  ·show 1<=idlX p s h/\idlX p s h<=9;omega
  ·exfalso;replace e:idlX p s h=2\/idlX p s h=3\/idlX p s h=7:=e;omega
  ·exfalso;replace e1:4<=idlX p s h:=e1;replace e2:idlX p s h<=6:=e2;omega
theorem ZpQ {l:List ITMT} {k:Int} {n:ITMT} (hk:k≠1) (hn:n.1=k):cyI (ZeN l k c n)=cyI l:=by
 have h1:∀y:ITMT,y.1=k->∀l,cyI (l++[y])=cyI l:=λy hy l=>by
  rw[Ze9];have:(y.1==1)=false:=by rw[hy];simpa using hk
  rw[this];simp
 unfold ZeN;cases hl:l.getLast? with
 |none=>exact h1 n hn l
 |some y=>
  simp only;obtain⟨l',rfl⟩:∃l',l=l'++[y]:=by
   rcases Y2 l with rfl|⟨l',z,rfl⟩
   ·simp at hl
   ·rw[Y0] at hl|-;simp at hl;subst hl;exact⟨l',rfl⟩
  cases hs:Zsp y k c
  ·exact h1 n hn _
  ·have hy:y.1=k:=by simp[Zsp] at hs;exact hs.1
   simp only[Ya,ZI];rw[h1 (ZuU y) hy,h1 y hy]
theorem Zgm (c:CORT) (t d:Int) (h:(t==3)=false):Zr c t d=c.2.2.2.1:=by unfold Zr ZiK;simp only[RT.val,h,Yb]
theorem ZW0 (c:CORT) (d:Int) (p:TC) (h:p.1=c.1.1):Zr c 3 d=Zax p c.2.2.2.1 d:=by unfold Zr ZiK Zax;rw[h];rfl
theorem Zm3 (h:p.1=q.1) (x:TY) (d:Int):Zax p x d=Zax q x d:=by unfold Zax;rw[h]
theorem ZGZ (p a:TC) (h:a.1=p.1) (x:TY) (d:Int):ZED a x (Zax p x d).2.2.1=Zax p x d:=by unfold ZED Zax;rw[h];cases Zaz x.1<;>rfl
theorem ZSo (ev:List EVTT) (c:CORT) (l:LINT) (d:Int) (cell:Cell) (hr:l.2.2.1=false):evE ev c l d cell false=bif (finS c l d).2 then ev++[Zid (ZhS c.2.1,c.2.1,ZeZ c (Zm c) d,ZhR,false,false,false,false,0,0) (Zf c.1 l) l] else ev:=by unfold evE;rw[hr];rfl
theorem ZSp (cp:List TC) (s0:TC) (c a:CORT) (l:LINT) (d:Int) (hr:l.2.2.1=false):evC cp s0 c a l d false=bif (finS c l d).2 then cp++[(finS c l d).1] else cp:=by unfold evC;rw[hr];rfl
theorem itN (y:ITMT) (n:Int) (h:y.2.2.2.1=n) (h1:0<=n) (h2:n<=100):IntKind.wrap .i64 (y.2.2.2.1+1)=n+1:=by rw[h,wrap_i64 _ (by omega) (by omega)]
theorem ZQe (h:Sem s0 c ev cp it) (l:LINT) (d:Int) (cell:Cell) (hr:l.2.2.1=false):
  Sem s0 (Zk c l d) (evE ev c l d cell false) (evC cp s0 c (Zk c l d) l d false) (Za1 it c (Zr c (Zm c) d) (Zm c)):=by
 rw[ZSo _ _ _ _ _ hr,ZSp _ _ _ _ _ _ hr];obtain⟨hcp,un,nx,rest,nine,cy,hit,ln,pt,ps⟩:=h;obtain⟨p0,s,g,x,n,hd⟩:=c;simp only at un nx rest nine cy hit ln pt ps;have hst:Zm (p0,s,g,x,n,hd)=n:=by
  have h1:(decide (n<1)||decide (n>9))=false:=by simp;omega
  simp only[Zm,ZsE,RT.val,h1,Yb]
 have hsx:ZX n=n:=by
  have h1:(decide (n<1)||decide (n>9))=false:=by simp;omega
  simp only[ZX,h1,Yb]
 have hup:=ZvX p0 l;have hchip:(Zf p0 l).1=p0.1:=(Zr0 hup).1;have hun:unl (Zf p0 l)=unl (Zy (Za0 s0 ev) s):=hup.trans un;have hhl:(Zf p0 l).2.2.2.2.1=p0.2.2.2.2.1:=ZUq hup;have hnxt:∀g,Zj (Zf p0 l) s g=Zj p0 s g:=λg=>ZFn hup s g
 rw[hst];have hcases:n=1\/n=2\/n=3\/n=4\/n=5\/n=6\/n=7\/n=8\/n=9:=by omega
 have hnf:∀k:Int,n=k->Zqb k x=false->(k==3)=false->(finS (p0,s,g,x,n,hd) l d).2=false:=λk hk he h3=>by
  unfold finS rdS;have:(n !=3)=true:=by rw[hk];simpa [bne] using h3
  simp only[hr,this,hk▸he,Ya,Yb,Ym]
 have sem456:∀k:Int,(k=4\/k=5\/k=6)->n=k->Sem s0 (Zk (p0,s,g,x,n,hd) l d) (bif (finS (p0,s,g,x,n,hd) l d).2 then ev++[Zid (ZhS s,s,ZeZ (p0,s,g,x,n,hd) n d,ZhR,false,false,false,false,0,0) (Zf p0 l) l] else ev)
   (bif (finS (p0,s,g,x,n,hd) l d).2 then cp++[(finS (p0,s,g,x,n,hd) l d).1] else cp) (Za1 it (p0,s,g,x,n,hd) (Zr (p0,s,g,x,n,hd) n d) n):=by
  intro k hk e;subst e;obtain⟨l',y,rfl,y1,yN,yc⟩:=ps (by rcases hk with rfl|rfl|rfl<;>decide) (by rcases hk with rfl|rfl|rfl<;>decide);clear pt ps;have b1:(n==1)=false:=by rcases hk with rfl|rfl|rfl<;>rfl
  have b2:(n==2)=false:=by rcases hk with rfl|rfl|rfl<;>rfl
  have b3:(n==3)=false:=by rcases hk with rfl|rfl|rfl<;>rfl
  have b7:(n==7)=false:=by rcases hk with rfl|rfl|rfl<;>rfl
  have b8:(n==8)=false:=by rcases hk with rfl|rfl|rfl<;>rfl
  have b9:(n==9)=false:=by rcases hk with rfl|rfl|rfl<;>rfl
  have b10:(n==10)=false:=by rcases hk with rfl|rfl|rfl<;>rfl
  have b3':(n !=3)=true:=by rcases hk with rfl|rfl|rfl<;>rfl
  have hi:Za1 (l'++[y]) (p0,s,g,x,n,hd) (Zr (p0,s,g,x,n,hd) n d) n=l'++[(y.1,x,y.2.2.1,n,y.2.2.2.2)]:=by
   rw[Zgm _ _ _ b3];have hkn:ZkO n=1:=by unfold ZkO;simp only[b8,b9,b10,Yb]
   have hcn:cycN (p0,s,g,x,n,hd) n x=x:=by unfold cycN;simp only[b8,b9,b10,Yb]
   unfold Za1;simp only[hkn,hcn,b1,b7];show ZaI (l'++[y]) _=_;rw[ZI,itN y (n-1) yN (by omega) (by omega)];simp
  rw[hi];have hit':cyI (l'++[(y.1,x,y.2.2.1,n,y.2.2.2.2)])=cyA s0 ev++cyX (Zy (Za0 s0 ev) s) s [] g:=by rw[<-hit,Ze9,Ze9];have q1:decide (n>=3)=true:=Yr (by omega);have q2:decide (y.2.2.2.1>=3)=true:=Yr (by omega);simp only[y1,q1,q2,yc]
  have hno:s=0->(Zf p0 l).2.2.2.2.1=true->False:=λa b=>by have:=rest a (by rw[<-hhl];exact b);omega
  have hby:ZeZ (p0,s,g,x,n,hd) n d=g:=by unfold ZeZ;simp only[b3,Yb]
  have hrd:rdS (p0,s,g,x,n,hd) n d=(x,g):=by unfold rdS;simp only[b3',Ya]
  have hen:Zqb n x= !(decide (n<x.2.2.2)&& !(n==6)):=by
   unfold Zqb ZS9;rcases hk with rfl|rfl|rfl
   ·by_cases q:(4:Int)<x.2.2.2
    ·have q1:decide (x.2.2.2<=4)=false:=YG (by omega);have q2:decide ((4:Int)<x.2.2.2)=true:=Yr q;simp only[RT.val,q2];exact q1
    ·have q1:decide (x.2.2.2<=4)=true:=Yr (by omega);have q2:decide ((4:Int)<x.2.2.2)=false:=YG q;simp only[RT.val,q2];exact q1
   ·by_cases q:(5:Int)<x.2.2.2
    ·have q1:decide (x.2.2.2<=5)=false:=YG (by omega);have q2:decide ((5:Int)<x.2.2.2)=true:=Yr q;simp only[RT.val,q2];exact q1
    ·have q1:decide (x.2.2.2<=5)=true:=Yr (by omega);have q2:decide ((5:Int)<x.2.2.2)=false:=YG q;simp only[RT.val,q2];exact q1
   ·cases decide ((6:Int)<x.2.2.2)<;>rfl
  have hclk:Zk (p0,s,g,x,n,hd) l d=bif decide (n<x.2.2.2)&& !(n==6) then (Zf p0 l,s,g,x,n+1,hd) else endX (Zf p0 l) s g hd l:=by unfold Zk;simp only[hr,hsx,b1,b2,b3,b7,b8,b9,Yae,Yb]
  cases hle:decide (n<x.2.2.2)&& !(n==6)
  ·have hck:Zk (p0,s,g,x,n,hd) l d=endX (Zf p0 l) s g hd l:=by rw[hclk,hle];rfl
   have hf:finS (p0,s,g,x,n,hd) l d=bif (Zj (Zf p0 l) s g).2 then (Zmq,false) else (finX (Zf p0 l) s g l,true):=by unfold finS;simp only[hr,hrd,hen,hle,Ya,Yb,Yf,Ym]
   have:=ZKa (Zf p0 l) s g hd l hcp hun hno hit' ln;rw[hck,hf,hby];cases hn:(Zj (Zf p0 l) s g).2
   ·rw[hn] at this;exact this
   ·rw[hn] at this;exact this
  ·have hf:(finS (p0,s,g,x,n,hd) l d).2=false:=by unfold finS;simp only[hr,hrd,hen,hle,Ya,Yb,Yf,Ym]
   have hck:Zk (p0,s,g,x,n,hd) l d=(Zf p0 l,s,g,x,n+1,hd):=by rw[hclk,hle];rfl
   have h6:n≠6:=by simp at hle;exact hle.2
   rw[hck,hf];refine⟨hcp,hun,by show 1<=n+1/\n+1<=9;omega,λa b=>(hno a b).elim,λe=>by replace e:n+1=9:=e;omega,λe=>by replace e:n+1<4\/6<n+1:=e;omega,hit',ln,λe=>by replace e:n+1=2\/n+1=3\/n+1=7:=e;omega,λ_ _=>⟨l',_,rfl,y1,?_,rfl⟩⟩;show n=n+1-1;omega
 rcases hcases with e|e|e|e|e|e|e|e|e
 ·--T1
  subst e;rw[hnf 1 rfl rfl rfl];have hck:Zk (p0,s,g,x,1,hd) l d=(Zf p0 l,s,g,x,2,hd):=by unfold Zk;simp only[hr,hsx];rfl
  rw[hck,Zgm _ _ _ rfl];refine⟨hcp,hun,⟨(by decide:(1:Int)<=2),(by decide:(2:Int)<=9)⟩,λa b=> ?_,λe=>by simp at e,λ_=>by rw[hnxt];exact cy (by omega),?_,ln,λ_=>⟨it,_,rfl,rfl,rfl⟩,λe=>by simp at e⟩
  ·have:=rest a (by rw[<-hhl];exact b);omega
  ·show cyI (it++[_])=_;rw[Ze9];show cyI it++[]=_;rw[Yx];exact hit
 ·--T2
  subst e;rw[hnf 2 rfl rfl rfl];obtain⟨l',y,rfl,y1,yN⟩:=pt (.inl rfl);have hi:Za1 (l'++[y]) (p0,s,g,x,2,hd) (Zr (p0,s,g,x,2,hd) 2 d) 2=l'++[(y.1,x,y.2.2.1,2,y.2.2.2.2)]:=by rw[Zgm _ _ _ rfl];show ZaI (l'++[y]) _=_;rw[ZI,itN y 1 yN (by decide) (by decide)];rfl
  have hcy:cyI (l'++[(y.1,x,y.2.2.1,2,y.2.2.2.2)])=cyI (l'++[y]):=by rw[Ze9,Ze9];have:y.2.2.2.1=1:=yN;rw[this,y1];rfl
  rw[hi];have hno:s=0->p0.2.2.2.2.1=true->False:=λa b=>by have:=rest a b;omega
  have hck:Zk (p0,s,g,x,2,hd) l d=(Zf p0 l,s,g,x,bif l.1|| !Zh x.1 then 3 else 7,bif l.1|| !Zh x.1 then l.2.1 else hd):=by unfold Zk;simp only[hr,hsx];show (bif l.1|| !Zh x.1 then _ else _)=_;cases l.1|| !Zh x.1<;>rfl
  rw[hck];have hk:(bif l.1|| !Zh x.1 then (3:Int) else 7)=3\/(bif l.1|| !Zh x.1 then (3:Int) else 7)=7:=by cases l.1|| !Zh x.1<;>simp
  generalize (bif l.1|| !Zh x.1 then (3:Int) else 7)=k at hk;refine⟨hcp,hun,by show 1<=k/\k<=9;omega,λa b=>(hno a (by rw[<-hhl];exact b)).elim,λe=>by replace e:k=9:=e;omega,λ_=>by rw[hnxt];exact cy (by omega),by rw[hcy];exact hit,ln,λ_=>⟨l',_,rfl,y1,?_⟩,λe1 e2=>by replace e1:4<=k:=e1;replace e2:k<=6:=e2;omega⟩;show (2:Int)=bif k==2 then 1 else 2
  rcases hk with rfl|rfl<;>rfl
 ·--T3
  subst e;obtain⟨l',y,rfl,y1,yN⟩:=pt (.inr (.inl rfl));obtain⟨cy1,cy2⟩:=cy (by omega);generalize hx3:Zax (Zf p0 l) x d=x3;have hx3':Zax p0 x d=x3:=by rw[<-Zm3 hchip];exact hx3
  have hcur:Zr (p0,s,g,x,3,hd) 3 d=x3:=by rw[ZW0 _ _ (Zf p0 l) hchip];exact hx3
  have hi:Za1 (l'++[y]) (p0,s,g,x,3,hd) (Zr (p0,s,g,x,3,hd) 3 d) 3=l'++[(y.1,x3,y.2.2.1,3,y.2.2.2.2)]:=by rw[hcur];show ZaI (l'++[y]) _=_;rw[ZI,itN y 2 yN (by decide) (by decide)];rfl
  rw[hi];have hac:=Zvz (Za0 s0 ev) s;have hna:∀g,Zj (Zy (Za0 s0 ev) s) s g=Zj p0 s g:=λg=>(ZFn un s g).symm
  obtain⟨k1,k2⟩:=ZPk (Zy (Za0 s0 ev) s) s g [] x3.2.2.1 ln (by rw[List.nil_append,hna];exact cy2);rw[List.nil_append,hna,<-cy1,<-hx3',ZGZ p0 (Zy (Za0 s0 ev) s) (Zr0 un).1.symm,hx3'] at k1;have hit':cyI (l'++[(y.1,x3,y.2.2.1,3,y.2.2.2.2)])=cyA s0 ev++cyX (Zy (Za0 s0 ev) s) s [] (g++[x3.2.2.1]):=by rw[k1,<-List.append_assoc,<-hit,Ze9,Ze9];have:y.2.2.2.1=2:=yN;rw[this,y1];show cyI l'++[x3]=cyI l'++[]++[x3];rw[Yx]
  have hno:s=0->(Zf p0 l).2.2.2.2.1=true->False:=λa b=>by have:=rest a (by rw[<-hhl];exact b);omega
  have hby:ZeZ (p0,s,g,x,3,hd) 3 d=g++[x3.2.2.1]:=by unfold ZeZ;rw[hcur];rfl
  have hrd:rdS (p0,s,g,x,3,hd) 3 d=(x3,g++[x3.2.2.1]):=by show (Zax p0 x d,g++[(Zax p0 x d).2.2.1])=_;rw[hx3']
  have hen:Zqb 3 x3=le3 x3.2.2.2:=rfl;cases hle:le3 x3.2.2.2
  ·have hf:(finS (p0,s,g,x,3,hd) l d).2=false:=by unfold finS;simp only[hr,hrd,hen,hle,Ya,Yb,Ym]
   have hck:Zk (p0,s,g,x,3,hd) l d=(Zf p0 l,s,g++[x3.2.2.1],x3,4,hd):=by unfold Zk;simp only[hr,hsx,hx3,hle];rfl
   rw[hck,hf];exact⟨hcp,hun,⟨(by decide:(1:Int)<=4),(by decide:(4:Int)<=9)⟩,λa b=>(hno a b).elim,λe=>by simp at e,λe=>by simp at e,hit',k2,λe=>by simp at e,λ_ _=>⟨l',_,rfl,y1,rfl,rfl⟩⟩
  ·have hck:Zk (p0,s,g,x,3,hd) l d=endX (Zf p0 l) s (g++[x3.2.2.1]) hd l:=by unfold Zk;simp only[hr,hsx,hx3,hle];rfl
   have hf:finS (p0,s,g,x,3,hd) l d=bif (Zj (Zf p0 l) s (g++[x3.2.2.1])).2 then (Zmq,false) else (finX (Zf p0 l) s (g++[x3.2.2.1]) l,true):=by unfold finS;simp only[hr,hrd,hen,hle,Ya,Yb,Yf]
   have:=ZKa (Zf p0 l) s (g++[x3.2.2.1]) hd l hcp hun hno hit' k2;rw[hck,hf,hby];cases hn:(Zj (Zf p0 l) s (g++[x3.2.2.1])).2
   ·rw[hn] at this;exact this
   ·rw[hn] at this;exact this
 ·exact sem456 4 (.inl rfl) e
 ·exact sem456 5 (.inr (.inl rfl)) e
 ·exact sem456 6 (.inr (.inr rfl)) e
 ·--TWait
  subst e;rw[hnf 7 rfl rfl rfl];obtain⟨l',y,rfl,y1,yN⟩:=pt (.inr (.inr rfl));have hi:Za1 (l'++[y]) (p0,s,g,x,7,hd) (Zr (p0,s,g,x,7,hd) 7 d) 7=l'++[(y.1,x,IntKind.wrap .i64 (y.2.2.1+1),y.2.2.2)]:=by rw[Zgm _ _ _ rfl];show ZaI (l'++[y]) _=_;rw[ZI];rfl
  have hcy:cyI (l'++[(y.1,x,IntKind.wrap .i64 (y.2.2.1+1),y.2.2.2)])=cyI (l'++[y]):=by rw[Ze9,Ze9];have:y.2.2.2.1=2:=yN;rw[this,y1];rfl
  rw[hi];have hno:s=0->p0.2.2.2.2.1=true->False:=λa b=>by have:=rest a b;omega
  have hck:Zk (p0,s,g,x,7,hd) l d=(Zf p0 l,s,g,x,bif l.1|| !Zh x.1 then 3 else 7,bif l.1|| !Zh x.1 then l.2.1 else hd):=by unfold Zk;simp only[hr,hsx];show (bif l.1|| !Zh x.1 then _ else _)=_;cases l.1|| !Zh x.1<;>rfl
  rw[hck];have hk:(bif l.1|| !Zh x.1 then (3:Int) else 7)=3\/(bif l.1|| !Zh x.1 then (3:Int) else 7)=7:=by cases l.1|| !Zh x.1<;>simp
  generalize (bif l.1|| !Zh x.1 then (3:Int) else 7)=k at hk;refine⟨hcp,hun,by show 1<=k/\k<=9;omega,λa b=>(hno a (by rw[<-hhl];exact b)).elim,λe=>by replace e:k=9:=e;omega,λ_=>by rw[hnxt];exact cy (by omega),by rw[hcy];exact hit,ln,λ_=>⟨l',_,rfl,y1,?_⟩,λe1 e2=>by replace e1:4<=k:=e1;replace e2:k<=6:=e2;omega⟩;show y.2.2.2.1=bif k==2 then 1 else 2
  rw[show y.2.2.2.1=2 from yN];rcases hk with rfl|rfl<;>rfl
 ·--THold
  subst e;rw[hnf 8 rfl rfl rfl];have hck:Zk (p0,s,g,x,8,hd) l d=(Zf p0 l,s,g,x,idlX (Zf p0 l) s l.2.1,hd):=by unfold Zk;simp only[hr,hsx];rfl
  have hcy:cyI (Za1 it (p0,s,g,x,8,hd) (Zr (p0,s,g,x,8,hd) 8 d) 8)=cyI it:=ZpQ (by decide) rfl;rw[hck];obtain⟨i1,i2,i3⟩:=ZeA (Zf p0 l) s l.2.1;generalize idlX (Zf p0 l) s l.2.1=k at i1 i2 i3;refine⟨hcp,hun,by show 1<=k/\k<=9;omega,λa b=>⟨i3 a b,(rest a (by rw[<-hhl];exact b)).2⟩,i2,λ_=>by rw[hnxt];exact cy (by omega),by rw[hcy];exact hit,ln,λe=>by replace e:k=2\/k=3\/k=7:=e;omega,λe1 e2=>by replace e1:4<=k:=e1;replace e2:k<=6:=e2;omega⟩
 ·--THalt
  subst e;rw[hnf 9 rfl rfl rfl];obtain⟨z1,z2⟩:=nine rfl;obtain⟨_,z3⟩:=rest z1 z2;subst z1;subst z3;have hcy:cyI (Za1 it (p0,0,[],x,9,hd) (Zr (p0,0,[],x,9,hd) 9 d) 9)=cyI it:=ZpQ (by decide) rfl;have hck:Zk (p0,0,[],x,9,hd) l d=bif Zbr (Zf p0 l) l==0 then (Zf p0 l,0,[],x,bif l.2.1 then 8 else 9,hd) else (Zy (Zf p0 l) (Zbr (Zf p0 l) l),Zbr (Zf p0 l) l,[],(Zj (Zy (Zf p0 l) (Zbr (Zf p0 l) l)) (Zbr (Zf p0 l) l) []).1,bif l.2.1 then 8 else 1,hd):=by unfold Zk;simp only[hr,hsx];rfl
  rw[hck];generalize Zbr (Zf p0 l) l=k;cases hk:k==0
  ·simp only[Yb];have hk0:k≠0:=by simpa using hk
   have hn:(bif l.2.1 then (8:Int) else 1)=8\/(bif l.2.1 then (8:Int) else 1)=1:=by cases l.2.1<;>simp
   generalize (bif l.2.1 then (8:Int) else 1)=n at hn;refine⟨hcp,ZUr (hun.trans (by rw[ZSP])) k,by show 1<=n/\n<=9;omega,λa _=>(hk0 a).elim,λe=>by replace e:n=9:=e;omega,λ_=>⟨rfl,Zma _ _⟩,by rw[hcy];exact hit,rfl,λe=>by replace e:n=2\/n=3\/n=7:=e;omega,λe1 e2=>by replace e1:4<=n:=e1;replace e2:n<=6:=e2;omega⟩
  ·simp only[Ya];have hn:(bif l.2.1 then (8:Int) else 9)=8\/(bif l.2.1 then (8:Int) else 9)=9:=by cases l.2.1<;>simp
   generalize (bif l.2.1 then (8:Int) else 9)=n at hn;refine⟨hcp,hun,by show 1<=n/\n<=9;omega,λa _=>⟨hn,rfl⟩,λ_=>⟨rfl,by rw[<-hhl] at z2;exact z2⟩,λ_=>by rw[hnxt];exact cy (by omega),by rw[hcy];exact hit,rfl,λe=>by replace e:n=2\/n=3\/n=7:=e;omega,λe1 e2=>by replace e1:4<=n:=e1;replace e2:n<=6:=e2;omega⟩
theorem ZTQ (k t:Int) (x:TY) (d:Int) (i o:Bool):ZcU (Zbd k t x d i o)=(t==8):=by
 unfold Zbd Zi7 ZcU;simp only[RT.val];cases h8:t==8
 ·cases t==9
  ·cases t==10
   ·cases rOn k<;>rfl
   ·rfl
  ·rfl
 ·rfl
theorem Zjm {l:LINT} {d:Int} (h:ZcU (ZbB c l d)=true):l.2.2.1=false/\ZX c.2.2.2.2.1=8:=by
 unfold ZbB at h;rw[ZTQ] at h;cases hl:l.2.2.1
 ·rw[hl] at h;simp at h;exact⟨rfl,h⟩
 ·rw[hl] at h;simp at h
theorem ZJ9 (h:Sem s0 c ev cp it) (l:LINT) (d:Int) (cell:Cell) (moved:Bool) (hr:l.2.2.1=true) (x:TY):
  Sem s0 (Zk c l d) (evE ev c l d cell moved) (evC cp s0 c (Zk c l d) l d moved) (Za1 it c x 10):=by
 have hck:Zk c l d=ZpW (Z1 c.1) 0:=by unfold Zk;rw[hr];rfl
 have he:evE ev c l d cell moved=(bif ZdU c then ev++[Zid (6,c.2.1,c.2.2.1,ZhR,false,false,false,false,0,0) c.1 l] else ev)++[Zid (4,0,[],ZhR,false,false,false,false,0,0) c.1 l]:=by unfold evE;rw[hr];rfl
 have hc:evC cp s0 c (Zk c l d) l d moved=(bif ZdU c then cp++[ZlE s0 cp] else cp)++[Z1 c.1]:=by unfold evC;rw[hr,hck];rfl
 rw[he,hc,hck];have hcyi:cyI (Za1 it c x 10)=cyI it:=ZpQ (by decide) rfl;obtain⟨ev',cp',hev,hcp',hl',hcy⟩:∃ev' cp',(bif ZdU c then ev++[Zid (6,c.2.1,c.2.2.1,ZhR,false,false,false,false,0,0) c.1 l] else ev)=ev'/\(bif ZdU c then cp++[ZlE s0 cp] else cp)=cp'/\(cp'=Zwt s0 ev'/\Za0 s0 ev'=Za0 s0 ev)/\cyA s0 ev'=cyI it:=by
  cases hb:ZdU c
  ·refine⟨ev,cp,rfl,rfl,⟨h.hcp,rfl⟩,?_⟩;have hg:c.2.2.1=[]:=by
    unfold ZdU ZTb at hb;simp only[RT.val] at hb;have hx:(decide (iN (List.length c.2.2.1)>0)||c.2.1 !=0)=false:=by
     cases hq:(decide (iN (List.length c.2.2.1)>0)||c.2.1 !=0)
     ·rfl
     ·rw[hq] at hb;cases h2:decide (c.2.2.2.2.1>=2)<;>rw[h2] at hb<;>simp at hb
    rw[Yp] at hx;have:=hx.1;simp only[iN,Le,Yah] at this;exact Y1.1 (by omega)
   have:=h.hit;rw[hg] at this;rw[this];show _=_++[];rw[Yx]
  ·generalize hcut:Zid (6,c.2.1,c.2.2.1,ZhR,false,false,false,false,0,0) c.1 l=e;have e1:e.1=6:=by rw[<-hcut,ZcD]
   have e2:e.2.1=c.2.1:=by rw[<-hcut,ZcD]
   have e3:e.2.2.1=c.2.2.1:=by rw[<-hcut,ZcD]
   have ha:Zdz (Za0 s0 ev) e=Za0 s0 ev:=by unfold Zdz Zvj;rw[e1];rfl
   refine⟨_,_,rfl,rfl,⟨?_,by simp only[Ya];rw[Zg6,ha]⟩,?_⟩
   ·simp only[Ya];rw[h.hcp,Zfj,Zrr,ha]
   ·simp only[Ya];rw[ZpR,h.hit];unfold Zga cycE Zvj;rw[e1,e2,e3];rfl
 rw[hev,hcp'];generalize hrs:Zid (4,0,[],ZhR,false,false,false,false,0,0) c.1 l=e;have e1:e.1=4:=by rw[<-hrs,ZcD]
 have hreg:=Zr0 h.un;have hac:=Zvz (Za0 s0 ev) c.2.1;have ha:Zdz (Za0 s0 ev') e=Z1 c.1:=by
  have:Zdz (Za0 s0 ev') e=Z1 (Za0 s0 ev'):=by unfold Zdz Zvj;rw[e1];rfl
  rw[this,hl'.2];exact ZKt (by rw[hreg.1,hac.1]) (by rw[hreg.2,hac.2])
 have hc0:Zga (Za0 s0 ev') e=[]:=by unfold Zga cycE Zvj;rw[e1];rfl
 have hl:Za0 s0 (ev'++[e])=Z1 c.1:=by rw[Zg6,ha]
 refine⟨by rw[hl'.1,Zfj,ha],by rw[hl];rfl,⟨(by decide:(1:Int)<=1),(by decide:(1:Int)<=9)⟩,λ_ b=> ?_,λe=> ?_,λ_=>⟨rfl,Zma _ _⟩,?_,rfl,λe=> ?_,λe _=> ?_⟩
 ·have:(Z1 c.1).2.2.2.2.1=false:=rfl;replace b:(Z1 c.1).2.2.2.2.1=true:=b;rw[this] at b;simp at b
 ·replace e:(1:Int)=9:=e;omega
 ·rw[hcyi,ZpR,hc0,hcy,hl];show _=_++[]++[];rw[Yx,Yx]
 ·replace e:(1:Int)=2\/(1:Int)=3\/(1:Int)=7:=e;omega
 ·replace e:(4:Int)<=1:=e;omega
theorem ZJ8 (b:BRDT) (s0:TC) (st:STT) (i:INPT) (h:Sem s0 st.1.1 st.2.2.2.1 st.2.2.2.2 st.2.2.1):Sem s0 (ZaN b s0 st i).1.1 (ZaN b s0 st i).2.2.2.1 (ZaN b s0 st i).2.2.2.2 (ZaN b s0 st i).2.2.1:=by
 have hcore:(ZL b st.1 i).1.1=Zk st.1.1 (Zag b (Zn b st.1 i) i) (busS b (Zn b st.1 i) i).2:=Zd9 b st.1 i;show Sem s0 (ZL b st.1 i).1.1 (evE st.2.2.2.1 st.1.1 (Zag b (Zn b st.1 i) i) (busS b (Zn b st.1 i) i).2 (ZL b st.1 i).2.2.2.2.1 (ZbY b st.1 i)) (evC st.2.2.2.2 s0 st.1.1 (ZL b st.1 i).1.1 (Zag b (Zn b st.1 i) i) (busS b (Zn b st.1 i) i).2 (ZbY b st.1 i))
  (Za1 st.2.2.1 st.1.1 (Zr st.1.1 (nowS st.1 i) (busS b (Zn b st.1 i) i).2) (nowS st.1 i))
 rw[hcore];have hl2:(Zag b (Zn b st.1 i) i).2.2.1=i.2.2.1:=rfl;generalize hL:Zag b (Zn b st.1 i) i=l at hl2|-;generalize hD:(busS b (Zn b st.1 i) i).2=d;cases hr:i.2.2.1
 ·have hnow:nowS st.1 i=Zm st.1.1:=by unfold nowS;rw[hr];rfl
  rw[hnow];rw[hr] at hl2;have hcalm:=ZQe h l d (ZL b st.1 i).2.2.2.2.1 hl2;cases hm:ZbY b st.1 i
  ·exact hcalm
  ·--a byte is moved:in a hold state
   have h8:ZX st.1.1.2.2.2.2.1=8:=by unfold ZbY at hm;rw[Yc] at hm;have hp:=hm.1;unfold pinS at hp;rw[hL,hD,(Ze0 b (Zn b st.1 i) i).1] at hp;exact (Zjm hp).2
   have hf:(finS st.1.1 l d).2=false:=by
    have h8':st.1.1.2.2.2.2.1=8:=by
     have:=h.nx;have h1:(decide (st.1.1.2.2.2.2.1<1)||decide (st.1.1.2.2.2.2.1>9))=false:=by simp;omega
     simp only[ZX,h1,Yb] at h8;exact h8
    unfold finS rdS;rw[hl2,h8'];rfl
   have e1:evE st.2.2.2.1 st.1.1 l d (ZL b st.1 i).2.2.2.2.1 true=st.2.2.2.1++[(5,0,[],ZhR,false,false,false,false,(ZL b st.1 i).2.2.2.2.1)]:=by unfold evE;rw[hl2,hf];rfl
   have e2:evE st.2.2.2.1 st.1.1 l d (ZL b st.1 i).2.2.2.2.1 false=st.2.2.2.1:=by unfold evE;rw[hl2,hf];rfl
   have e3:evC st.2.2.2.2 s0 st.1.1 (Zk st.1.1 l d) l d true=st.2.2.2.2++[ZlE s0 st.2.2.2.2]:=by unfold evC;rw[hl2,hf];rfl
   have e4:evC st.2.2.2.2 s0 st.1.1 (Zk st.1.1 l d) l d false=st.2.2.2.2:=by unfold evC;rw[hl2,hf];rfl
   rw[e1,e3];rw[e2,e4] at hcalm;exact ZQd hcalm _ rfl rfl
 ·have hnow:nowS st.1 i=10:=by unfold nowS;rw[hr];rfl
  rw[hnow];exact ZJ9 h l d _ _ (by rw[hl2,hr]) _
theorem ZND (b:BRDT) (hg:smG b.2.1=true) (hm:b.2.2.2.2.2.2.length<=100000) (hx:((wNew b).2 !=0)=false):wNew b=(newS b,0):=by
 have hv:(ZGp b).val=some (bif ZbZ b !=0 then (ZvB,ZbZ b) else ((newS b),0)):=by unfold ZGp;have hc:=smCb (l:=b.2.2.2.2.2.2) (by omega);simp only[RT.val,Zmt b hg hc,hc,Ya];cases ZbZ b !=0<;>rfl
 have hx':(ZbZ b !=0)=false:=by
  cases hq:ZbZ b !=0
  ·rfl
  ·exfalso;simp only[wNew,hv,getO,hq,Ya] at hx;simp at hx
 simp only[wNew,hv,getO,hx',Yb]
theorem ZR9 (b:BRDT) (hw:wNew b=(newS b,0)):Z2 b=ZOk b/\Sem (Z2 b) (Zbg b).1.1 (Zbg b).2.2.2.1 (Zbg b).2.2.2.2 (Zbg b).2.2.1:=by
 have hs:Z2 b=ZOk b:=by unfold Z2;rw[hw];rfl
 refine⟨hs,?_⟩;have e:(Zbg b).1.1=(Z2 b,0,[],(1,0,0,4),1,false):=by unfold Zbg Z2;rw[hw];rfl
 rw[e];refine⟨rfl,rfl,⟨(by decide:(1:Int)<=1),(by decide:(1:Int)<=9)⟩,λ_ q=> ?_,λe=> ?_,λ_=>⟨?_,Zma _ _⟩,rfl,rfl,λe=> ?_,λe _=> ?_⟩
 ·have:(Z2 b).2.2.2.2.1=false:=by rw[hs];rfl
  replace q:(Z2 b).2.2.2.2.1=true:=q;rw[this] at q;simp at q
 ·replace e:(1:Int)=9:=e;omega
 ·have:Z2 b=ZOk b:=hs;show ((1,0,0,4):TY)=(Zj (Z2 b) 0 []).1;rw[this];rfl
 ·replace e:(1:Int)=2\/(1:Int)=3\/(1:Int)=7:=e;omega
 ·replace e:(4:Int)<=1:=e;omega
end
end Go.Proofs.YtpnjbfjomebppaaGreat
open Go Go.S3 Go.Proofs
namespace Go.Proofs.YtpnjbfjomebppaaGreat
noncomputable section
abbrev Znb:List Sh:=[So (R.sl Zgo),So (R.sl Zgo)]
def Zwx:LS:={n:=26,Sl:=[(0,.code (So (R.sl Zgo))),(1,.code (So (R.sl Zgo))),(4,.code (So R.bool)),(12,.code (So Kc)),(13,.code (So Kc))],Bx:=[],Sg:=[]}
def Zds (a:List PINT×List PINT×Bool×Int×Int×PUnit):RT (Option (Go1 (List PINT×List PINT×Bool×Int×Int×PUnit))):=
 let x1:= !Zg a.2.2.2.2.1 (Le a.1)||Zg a.2.2.2.2.1 (Le a.2.1)
 let x2:PINT:=R.get Zgo a.1 a.2.2.2.2.1
 let x3:PINT:=R.get Zgo a.2.1 a.2.2.2.2.1
 let x34:Int×Int×PUnit:=(a.2.2.2.1,a.2.2.2.2.1,PUnit.unit)
 .br (decide (a.2.2.2.2.1<a.2.2.2.1)) (.br (!x1||Zg a.2.2.2.2.1 (Le a.1)) (.br (x1) (.br (!(R.eqf Zgo x2 x3 true)) (Ls (Go1.ret (a.1,a.2.1,false,x34))) (Ls (Go1.cont (a.1,a.2.1,a.2.2.1,a.2.2.2.1,i64.wrap (a.2.2.2.2.1+1),PUnit.unit)))) Ln) Ln) (Ls (Go1.brk (a.1,a.2.1,a.2.2.1,x34)))
def Zlh:Ora:=Zbi true Zwx Zds (λa=>1000000000000)
theorem Zqa:ZaM (envX Tryz.prog [] [] 63 8) (.block 0 (.loop (Z5 Tryz.f24.body 0))) Zlh:=
 loopP trivial
def Zfl (a:List PINT) (b:List PINT):RT (Option (Bool)):=
 let x1:=runF true Zds (λa_1=>1000000000000) (a,b,false,iN (Le a),0,())
 let x2:=getO (false,a,b,false,iN (Le a),0,()) x1
 .br (iN (Le a) !=iN (Le b)) (Ls (false)) (.br (okB x1) (.br x2.1 (Ls x2.2.2.2.1) (Ls (true))) Ln)
def Zi5 (a:List PINT) (b:List PINT):Bool:=getO ZnX.Df (Zfl a b).val
def Zhw (a:List PINT) (b:List PINT):Bool:=okB (Zfl a b).val
def ZqQ:En:=Zi Znb ZnX (λa=>some (Zhw a.1 a.2)) (λa=>Zi5 a.1 a.2)
theorem Zww:Zb Tryz.prog 24 ZqQ:=
 pureP 63 [] [(0,Zlh)] _ _ trivial Tryz.func24 Tryz.call24 ⟨Zqa,Tv⟩
theorem ZLE (c:TC) (l:LINT):0<=Zbr c l/\Zbr c l<=5:=by
 have hv:∃k,(ZDX c l).val=k/\(0:Int)<=k/\k<=5:=by
  simp only[ZDX,RT.val,Bool.cond_eq_ite];repeat' split
  all_goals exact⟨_,rfl,by omega,by omega⟩
 obtain⟨k,hk,h0,h1⟩:=hv;simp only[Zbr,hk];exact⟨h0,h1⟩
def ZIU (c:CORT):Prop:=0<=c.2.1/\c.2.1<=5
theorem ZJZ (p:TC) (s:Int) (g:List Int) (h:Bool) (l:LINT) (hs:0<=s/\s<=5):ZIU (endX p s g h l):=by
 unfold endX;cases (Zj p s g).2
 ·exact ZLE _ _
 ·exact hs
theorem ZJ0 (c:CORT) (l:LINT) (d:Int) (hs:ZIU c):ZIU (Zk c l d):=by
 unfold Zk;dsimp only;cases l.2.2.1
 ·cases ZX c.2.2.2.2.1==1
  ·cases ZX c.2.2.2.2.1==2||ZX c.2.2.2.2.1==7
   ·cases ZX c.2.2.2.2.1==8
    ·cases ZX c.2.2.2.2.1==9
     ·cases ZX c.2.2.2.2.1==3
      ·cases decide (ZX c.2.2.2.2.1<c.2.2.2.1.2.2.2)&& !(ZX c.2.2.2.2.1==6)
       ·exact ZJZ _ _ _ _ _ hs
       ·exact hs
      ·cases le3 (Zax (Zf c.1 l) c.2.2.2.1 d).2.2.2
       ·exact hs
       ·exact ZJZ _ _ _ _ _ hs
     ·cases Zbr (Zf c.1 l) l==0
      ·exact ZLE _ _
      ·exact hs
    ·exact hs
   ·cases l.1|| !Zh c.2.2.2.1.1<;>exact hs
  ·exact hs
 ·exact⟨Int.le_refl 0,(by decide:(0:Int)<=5)⟩
def kindP (s:Int):Int:=bif s==0 then 1 else bif s==5 then 2 else 3
variable {c:CORT}
theorem ZRY (h:ZIU c):kindP c.2.1=ZhS c.2.1:=by
 have h:=h;unfold ZIU at h;generalize c.2.1=s at h;have e:s=0\/s=1\/s=2\/s=3\/s=4\/s=5:=by omega
 rcases e with rfl|rfl|rfl|rfl|rfl|rfl<;>rfl
theorem ZKn (hn:1<=c.2.2.2.2.1/\c.2.2.2.2.1<=9):ZX c.2.2.2.2.1=c.2.2.2.2.1:=by
 have h1:(decide (c.2.2.2.2.1<1)||decide (c.2.2.2.2.1>9))=false:=by simp;omega
 simp only[ZX,h1,Yb]
theorem Zrq (p:TC) (l:LINT):(Zf p l).1=p.1:=by simp only[Zf,ZsO,RT.val];cases rOn p.1<;>rfl
theorem ZYL (c:CORT) (l:LINT) (d:Int) (hn:1<=c.2.2.2.2.1/\c.2.2.2.2.1<=9) (hr:l.2.2.1=false):
  (ZaD c l d).1=(finS c l d).2/\((finS c l d).2=true->(ZaD c l d).2.1=(finS c l d).1/\(ZaD c l d).2.2.1=ZeZ c (Zm c) d)/\(ZaD c l d).2.2.2.1=Zr c (Zm c) d/\(ZaD c l d).2.2.2.2=Zf c.1 l:=by
 have hsx:=ZKn hn;have hst:Zm c=c.2.2.2.2.1:=hsx;rw[hst];obtain⟨p0,s,g,x,n,hd⟩:=c;simp only at hn hsx;have hchip:=Zrq p0 l;have hne:∀k:Int,n=k->(k==3)=false->Zr (p0,s,g,x,n,hd) n d=x:=λk hk h3=>by simp only[Zr,ZiK,RT.val,hk,h3,Yb]
 have other:∀k:Int,n=k->(k==3)=false->(k==4||(k==5||k==6))=false->(∀y,Zqb k y=false)->
   (ZaD (p0,s,g,x,n,hd) l d).1=(finS (p0,s,g,x,n,hd) l d).2/\((finS (p0,s,g,x,n,hd) l d).2=true->(ZaD (p0,s,g,x,n,hd) l d).2.1=(finS (p0,s,g,x,n,hd) l d).1/\(ZaD (p0,s,g,x,n,hd) l d).2.2.1=ZeZ (p0,s,g,x,n,hd) n d)/\(ZaD (p0,s,g,x,n,hd) l d).2.2.2.1=Zr (p0,s,g,x,n,hd) n d/\(ZaD (p0,s,g,x,n,hd) l d).2.2.2.2=Zf p0 l:=by
  intro k hk h3 h4 he;subst hk;have hch:ZaD (p0,s,g,x,n,hd) l d=(false,cpu0,[],x,Zf p0 l):=by unfold ZaD;simp only[hsx,h3,h4,YX,Yb]
  have hf:(finS (p0,s,g,x,n,hd) l d).2=false:=by unfold finS;simp only[hr,he,Ym,Ya,Yb]
  rw[hch,hf,hne n rfl h3];exact⟨rfl,λe=>by simp at e,rfl,rfl⟩
 have last:∀k:Int,n=k->(k==3)=false->(k==4||(k==5||k==6))=true->(∀y:TY,Zqb k y= !(decide (k<y.2.2.2)&& !(k==6)))->
   (ZaD (p0,s,g,x,n,hd) l d).1=(finS (p0,s,g,x,n,hd) l d).2/\((finS (p0,s,g,x,n,hd) l d).2=true->(ZaD (p0,s,g,x,n,hd) l d).2.1=(finS (p0,s,g,x,n,hd) l d).1/\(ZaD (p0,s,g,x,n,hd) l d).2.2.1=ZeZ (p0,s,g,x,n,hd) n d)/\(ZaD (p0,s,g,x,n,hd) l d).2.2.2.1=Zr (p0,s,g,x,n,hd) n d/\(ZaD (p0,s,g,x,n,hd) l d).2.2.2.2=Zf p0 l:=by
  intro k hk h3 h4 he;subst hk;have hb3:(n !=3)=true:=by rw[bne,h3];rfl
  have hch:ZaD (p0,s,g,x,n,hd) l d=bif !(decide (n<x.2.2.2)&& !(n==6))&& !(Zj (Zf p0 l) s g).2 then (true,finX (Zf p0 l) s g l,g,x,Zf p0 l) else (false,cpu0,[],x,Zf p0 l):=by unfold ZaD;simp only[hsx,h3,h4,YN,Yb]
  have hf:finS (p0,s,g,x,n,hd) l d=bif decide (n<x.2.2.2)&& !(n==6) then (Zmq,false) else bif (Zj (Zf p0 l) s g).2 then (Zmq,false) else (finX (Zf p0 l) s g l,true):=by unfold finS rdS;simp only[hr,hb3,he,Bool.not_not,Ya,Yb]
  have hby:ZeZ (p0,s,g,x,n,hd) n d=g:=by unfold ZeZ;simp only[h3,Yb]
  rw[hch,hf,hne n rfl h3,hby];cases decide (n<x.2.2.2)&& !(n==6)
  ·cases (Zj (Zf p0 l) s g).2
   ·exact⟨rfl,λ_=>⟨rfl,rfl⟩,rfl,rfl⟩
   ·exact⟨rfl,λe=>by simp at e,rfl,rfl⟩
  ·exact⟨rfl,λe=>by simp at e,rfl,rfl⟩
 have hcases:n=1\/n=2\/n=3\/n=4\/n=5\/n=6\/n=7\/n=8\/n=9:=by omega
 have ends45:∀k:Int,k=4\/k=5->∀y:TY,Zqb k y= !(decide (k<y.2.2.2)&& !(k==6)):=λk hk y=>by
  have h6:(!(k==6))=true:=by rcases hk with rfl|rfl<;>rfl
  rw[h6,YV];have e:Zqb k y=decide (y.2.2.2<=k):=by rcases hk with rfl|rfl<;>rfl
  rw[e];by_cases q:k<y.2.2.2
  ·rw[Yr q,YG (by omega)];rfl
  ·rw[YG q,Yr (by omega)];rfl
 rcases hcases with e|e|e|e|e|e|e|e|e
 ·exact other 1 e rfl rfl λ_=>rfl
 ·exact other 2 e rfl rfl λ_=>rfl
 ·subst e;generalize hx3:Zax (Zf p0 l) x d=x3;have hx3':Zax p0 x d=x3:=by rw[<-hx3];unfold Zax;rw[hchip]
  have hcur:Zr (p0,s,g,x,3,hd) 3 d=x3:=by rw[<-hx3'];rfl
  have hrd:rdS (p0,s,g,x,3,hd) 3 d=(x3,g++[x3.2.2.1]):=by show (Zax p0 x d,g++[(Zax p0 x d).2.2.1])=_;rw[hx3']
  have hen:Zqb 3 x3=le3 x3.2.2.2:=rfl;have hby:ZeZ (p0,s,g,x,3,hd) 3 d=g++[x3.2.2.1]:=by unfold ZeZ;rw[hcur];rfl
  have hch:ZaD (p0,s,g,x,3,hd) l d=bif le3 x3.2.2.2&& !(Zj (Zf p0 l) s (g++[x3.2.2.1])).2 then (true,finX (Zf p0 l) s (g++[x3.2.2.1]) l,g++[x3.2.2.1],x3,Zf p0 l) else (false,cpu0,[],x3,Zf p0 l):=by unfold ZaD;simp only[hsx,hx3];rfl
  have hf:finS (p0,s,g,x,3,hd) l d=bif le3 x3.2.2.2 then (bif (Zj (Zf p0 l) s (g++[x3.2.2.1])).2 then (Zmq,false) else (finX (Zf p0 l) s (g++[x3.2.2.1]) l,true)) else (Zmq,false):=by unfold finS;simp only[hr,hrd,hen,Yb];cases le3 x3.2.2.2<;>rfl
  rw[hch,hf,hcur,hby];cases le3 x3.2.2.2
  ·exact⟨rfl,λe=>by simp at e,rfl,rfl⟩
  ·cases (Zj (Zf p0 l) s (g++[x3.2.2.1])).2
   ·exact⟨rfl,λ_=>⟨rfl,rfl⟩,rfl,rfl⟩
   ·exact⟨rfl,λe=>by simp at e,rfl,rfl⟩
 ·exact last 4 e rfl rfl (ends45 4 (.inl rfl))
 ·exact last 5 e rfl rfl (ends45 5 (.inr rfl))
 ·exact last 6 e rfl rfl λy=>by cases decide ((6:Int)<y.2.2.2)<;>rfl
 ·exact other 7 e rfl rfl λ_=>rfl
 ·exact other 8 e rfl rfl λ_=>rfl
 ·exact other 9 e rfl rfl λ_=>rfl
def Zyd (n:Int):Int:=bif n==2 then 1 else bif n==3||n==7 then 2 else n-1
def Zzj (c:CORT) (it:List ITMT):Prop:=
 (1<=c.2.2.2.2.1/\c.2.2.2.2.1<=9)/\((c.2.2.2.2.1=8\/c.2.2.2.2.1=9\/c.2.2.2.2.1=1)\/∃l y,it=l++[y]/\y.2.1=c.2.2.2.1/\y.2.2.2.1=Zyd c.2.2.2.2.1)
theorem ZOD (c:TC) (s:Int) (h:Bool):idlX c s h=8\/idlX c s h=9\/idlX c s h=1:=by
 unfold idlX;cases h
 ·cases c.2.2.2.2.1&&s==0
  ·exact .inr (.inr rfl)
  ·exact .inr (.inl rfl)
 ·exact .inl rfl
theorem ZjM (it:List ITMT) (h:c.2.2.2.2.1=8\/c.2.2.2.2.1=9\/c.2.2.2.2.1=1):Zzj c it:=⟨by omega,.inl h⟩
theorem ZyC (p:TC) (s:Int) (g:List Int) (h:Bool) (l:LINT) (it:List ITMT):Zzj (endX p s g h l) it:=by
 apply ZjM;unfold endX;cases (Zj p s g).2
 ·exact ZOD _ _ _
 ·exact ZOD _ _ _
theorem ZN9 {it:List ITMT} (h:Zzj c it) (l:LINT) (d:Int) (hr:l.2.2.1=false):Zzj (Zk c l d) (Za1 it c (Zr c (Zm c) d) (Zm c)):=by
 obtain⟨hn,h⟩:=h;have hsx:=ZKn hn;have hst:Zm c=c.2.2.2.2.1:=hsx;rw[hst];obtain⟨p0,s,g,x,n,hd⟩:=c;simp only at hn hsx h;have get:∀k:Int,n=k->(k==8)=false->(k==9)=false->(k==1)=false->∃l y,it=l++[y]/\y.2.1=x/\y.2.2.2.1=Zyd k:=λk hk h8 h9 h1=>by
  subst hk;rcases h with (h|h|h)|h
  ·rw[h] at h8;simp at h8
  ·rw[h] at h9;simp at h9
  ·rw[h] at h1;simp at h1
  ·exact h
 have more:∀k:Int,n=k->(k=4\/k=5\/k=6)->Zzj (Zk (p0,s,g,x,n,hd) l d) (Za1 it (p0,s,g,x,n,hd) (Zr (p0,s,g,x,n,hd) n d) n):=λk hk h4=>by
  subst hk;have b1:(n==1)=false:=by rcases h4 with rfl|rfl|rfl<;>rfl
  have b2:(n==2||n==7)=false:=by rcases h4 with rfl|rfl|rfl<;>rfl
  have b3:(n==3)=false:=by rcases h4 with rfl|rfl|rfl<;>rfl
  have b8:(n==8)=false:=by rcases h4 with rfl|rfl|rfl<;>rfl
  have b9:(n==9)=false:=by rcases h4 with rfl|rfl|rfl<;>rfl
  have hck:Zk (p0,s,g,x,n,hd) l d=bif decide (n<x.2.2.2)&& !(n==6) then (Zf p0 l,s,g,x,n+1,hd) else endX (Zf p0 l) s g hd l:=by unfold Zk;simp only[hr,hsx,b1,b2,b3,b8,b9,Yb]
  rw[hck];cases hb:decide (n<x.2.2.2)&& !(n==6)
  ·exact ZyC _ _ _ _ _ _
  ·obtain⟨l',y,rfl,y1,y2⟩:=get n rfl b8 b9 b1;have h6:n≠6:=by simp at hb;exact hb.2
   refine⟨⟨by show 1<=n+1;omega,by show n+1<=9;omega⟩,.inr ⟨l',(y.1,x,y.2.2.1,n,y.2.2.2.2),?_,rfl,?_⟩⟩
   ·have e:Zyd n=n-1:=by rcases h4 with rfl|rfl|rfl<;>rfl
    rw[e] at y2;have w:IntKind.wrap .i64 (y.2.2.2.1+1)=n:=by rw[y2,wrap_i64 _ (by omega) (by omega)];omega
    rcases h4 with rfl|rfl|rfl
    ·show ZaI (l'++[y]) _=_;rw[ZI,w];rfl
    ·show ZaI (l'++[y]) _=_;rw[ZI,w];rfl
    ·exact absurd rfl h6
   ·show n=Zyd (n+1);rcases h4 with rfl|rfl|rfl
    ·rfl
    ·rfl
    ·exact absurd rfl h6
 have hcases:n=1\/n=2\/n=3\/n=4\/n=5\/n=6\/n=7\/n=8\/n=9:=by omega
 have wait:∀k:Int,k=3\/k=7->1<=k/\k<=9:=λk hk=>by omega
 rcases hcases with e|e|e|e|e|e|e|e|e
 ·subst e;have hck:Zk (p0,s,g,x,1,hd) l d=(Zf p0 l,s,g,x,2,hd):=by unfold Zk;simp only[hr,hsx];rfl
  rw[hck];exact⟨by show (1:Int)<=2/\(2:Int)<=9;decide,.inr ⟨it,_,rfl,rfl,rfl⟩⟩
 ·subst e;obtain⟨l',y,rfl,y1,y2⟩:=get 2 rfl rfl rfl rfl;have hck:Zk (p0,s,g,x,2,hd) l d=(Zf p0 l,s,g,x,bif l.1|| !Zh x.1 then 3 else 7,bif l.1|| !Zh x.1 then l.2.1 else hd):=by unfold Zk;simp only[hr,hsx];show (bif l.1|| !Zh x.1 then _ else _)=_;cases l.1|| !Zh x.1<;>rfl
  have w:IntKind.wrap .i64 (y.2.2.2.1+1)=2:=by rw[y2];rfl
  rw[hck];refine⟨wait _ (by cases l.1|| !Zh x.1<;>simp),.inr ⟨l',(y.1,x,y.2.2.1,2,y.2.2.2.2),?_,rfl,?_⟩⟩
  ·show ZaI (l'++[y]) _=_;rw[ZI,w];rfl
  ·show (2:Int)=Zyd (bif l.1|| !Zh x.1 then 3 else 7);cases l.1|| !Zh x.1<;>rfl
 ·subst e;obtain⟨l',y,rfl,y1,y2⟩:=get 3 rfl rfl rfl rfl;have hck:Zk (p0,s,g,x,3,hd) l d=bif le3 (Zax (Zf p0 l) x d).2.2.2 then endX (Zf p0 l) s (g++[(Zax (Zf p0 l) x d).2.2.1]) hd l else (Zf p0 l,s,g++[(Zax (Zf p0 l) x d).2.2.1],Zax (Zf p0 l) x d,4,hd):=by unfold Zk;simp only[hr,hsx];rfl
  rw[hck];cases le3 (Zax (Zf p0 l) x d).2.2.2
  ·have w:IntKind.wrap .i64 (y.2.2.2.1+1)=3:=by rw[y2];rfl
   refine⟨by show (1:Int)<=4/\(4:Int)<=9;decide,.inr ⟨l',(y.1,Zax (Zf p0 l) x d,y.2.2.1,3,y.2.2.2.2),?_,rfl,rfl⟩⟩;have hcur:Zr (p0,s,g,x,3,hd) 3 d=Zax (Zf p0 l) x d:=by unfold Zax;rw[Zrq];rfl
   rw[hcur];show ZaI (l'++[y]) _=_;rw[ZI,w];rfl
  ·exact ZyC _ _ _ _ _ _
 ·exact more 4 e (.inl rfl)
 ·exact more 5 e (.inr (.inl rfl))
 ·exact more 6 e (.inr (.inr rfl))
 ·subst e;obtain⟨l',y,rfl,y1,y2⟩:=get 7 rfl rfl rfl rfl;have hck:Zk (p0,s,g,x,7,hd) l d=(Zf p0 l,s,g,x,bif l.1|| !Zh x.1 then 3 else 7,bif l.1|| !Zh x.1 then l.2.1 else hd):=by unfold Zk;simp only[hr,hsx];show (bif l.1|| !Zh x.1 then _ else _)=_;cases l.1|| !Zh x.1<;>rfl
  rw[hck];refine⟨wait _ (by cases l.1|| !Zh x.1<;>simp),.inr ⟨l',(y.1,x,IntKind.wrap .i64 (y.2.2.1+1),y.2.2.2),?_,rfl,?_⟩⟩
  ·show ZaI (l'++[y]) _=_;rw[ZI];rfl
  ·show y.2.2.2.1=Zyd (bif l.1|| !Zh x.1 then 3 else 7);rw[y2];cases l.1|| !Zh x.1<;>rfl
 ·subst e;have hck:Zk (p0,s,g,x,8,hd) l d=(Zf p0 l,s,g,x,idlX (Zf p0 l) s l.2.1,hd):=by unfold Zk;simp only[hr,hsx];rfl
  rw[hck];exact ZjM _ (ZOD _ _ _)
 ·subst e;have hck:(Zk (p0,s,g,x,9,hd) l d).2.2.2.2.1=bif Zbr (Zf p0 l) l==0 then (bif l.2.1 then 8 else 9) else (bif l.2.1 then 8 else 1):=by unfold Zk;simp only[hr,hsx];show (bif Zbr (Zf p0 l) l==0 then _ else _:CORT).2.2.2.2.1=_;cases Zbr (Zf p0 l) l==0<;>rfl
  refine ZjM _ ?_;rw[hck];cases Zbr (Zf p0 l) l==0<;>cases l.2.1<;>simp
def RbOk (st:STT):Prop:=ZIU st.1.1/\Zzj st.1.1 st.2.2.1
theorem ZUV (b:BRDT) (s0:TC) (st:STT) (i:INPT) (h:RbOk st):RbOk (ZaN b s0 st i):=by
 have hc:(ZaN b s0 st i).1.1=Zk st.1.1 (Zag b (Zn b st.1 i) i) (busS b (Zn b st.1 i) i).2:=Zd9 b st.1 i;refine⟨by rw[hc];exact ZJ0 _ _ _ h.1,?_⟩;rw[hc];show Zzj _ (Za1 st.2.2.1 st.1.1 (Zr st.1.1 (nowS st.1 i) (busS b (Zn b st.1 i) i).2) (nowS st.1 i));have hl2:(Zag b (Zn b st.1 i) i).2.2.1=i.2.2.1:=rfl;cases hr:i.2.2.1
 ·have hnow:nowS st.1 i=Zm st.1.1:=by unfold nowS;rw[hr];rfl
  rw[hnow];exact ZN9 h.2 _ _ (by rw[hl2,hr])
 ·refine ZjM _ (.inr (.inr ?_));unfold Zk;rw[hl2,hr];rfl
variable {α β:Type}
theorem Zmo (c:Bool) (x y:α×β):(bif c then x.1 else y.1)=(bif c then x else y).1:=by cases c<;>rfl
theorem Zmn (c:Bool) (x y:α×β):(bif c then x.2 else y.2)=(bif c then x else y).2:=by cases c<;>rfl
theorem ZlZ (p:α×β):(p.1,p.2)=p:=rfl
theorem ZUN (k t:Int) (x:TY) (d:Int) (i o:Bool):(Zbd k t x d i o).1=t:=by
 simp only[Zbd,Zi7,RT.val];cases t==8
 ·cases t==9
  ·cases t==10
   ·cases rOn k<;>rfl
   ·rfl
  ·rfl
 ·rfl
theorem ZTi (c:CORT) (l:LINT) (d:Int):(ZbB c l d).1=bif l.2.2.1 then 10 else Zm c:=ZUN _ _ _ _ _ _
theorem Zr7 (d:QT3):(ZbK d).2.2=Z3 d:=by rw[ZJQ];cases Z3 d<;>rfl
theorem ZPo (b:BRDT) (s:SYST) (i:INPT) (hr:i.2.2.1=true):
  (busS b (Zn b s i) i).2=0/\(ZL b s i).1=(Zk s.1 (Zag b (Zn b s i) i) 0,s.2.1,ZUJ (Zn b s i).2.2.1 0,(s.2.2.2.1.1,s.2.2.2.1.2.1,0),Za4 s,s.2.2.2.2.2)/\ZbY b s i=false:=by
 have hb:busS b (Zn b s i) i=(Zn b s i,0):=by unfold busS;dsimp only;rw[hr];rfl
 have hw:Zgx s i=false:=by unfold Zgx;rw[hr];rfl
 have hc:Zgw b s i=(Zk s.1 (Zag b (Zn b s i) i) 0,s.2.1,(Zn b s i).2.2.1,s.2.2.2.1,Za4 s,s.2.2.2.2.2):=by unfold Zgw;dsimp only;rw[hb];rfl
 have hwr:Za2 b s i=Zgw b s i:=by unfold Za2;rw[hw];rfl
 have hm:ZbY b s i=false:=by
  unfold ZbY;have:ZcU (pinS b s i)=false:=by
   cases h:ZcU (pinS b s i)
   ·rfl
   ·unfold pinS at h;have:=(Zjm h).1;rw[show (Zag b (Zn b s i) i).2.2.1=i.2.2.1 from rfl,hr] at this;simp at this
  rw[this];rfl
 refine⟨by rw[hb],?_,hm⟩;show Zlg (Zet b s i) i.2.2.1=_;have:Zet b s i=Zgw b s i:=by unfold Zet;dsimp only;rw[hm,hwr];rfl
 rw[this,hc,hr];rfl
theorem ZSF (b:BRDT) (s:SYST) (i:INPT) (hr:i.2.2.1=false) {L:LINT} {D:Int} {B:PICT} {w k7 x71 x72 d2:Bool} {d1 p:Int} {Wm:List Cell} {Wd:QT3}
  (hL:Zag b (Zn b s i) i=L) (hD:(busS b (Zn b s i) i).2=D) (hB:(busS b (Zn b s i) i).1.2.2.1=B) (hw:(Zm s.1==3&&Za5 s.1.2.2.2.1.1)=w) (h7:(s.1.2.2.2.1.1 !=7)=k7)
  (hp:IntKind.wrap .u8 s.1.2.2.2.1.2.1=p) (h71:(Zec b p).2=x71) (h72:x71=true->(Zec b p).1=x72) (hd:Zgz b p=(d1,d2))
  (hm:(bif w then bif k7 then Zbh b.2.1 s.2.1 s.1.2.2.2.1.2.1 s.1.2.2.2.1.2.2.1 else s.2.1 else s.2.1)=Wm)
  (hwd:(bif w then bif k7 then s.2.2.2.1 else bif x71 then s.2.2.2.1 else bif d2 then ZdA s.2.2.2.1 d1 s.1.2.2.2.1.2.2.1 else s.2.2.2.1 else s.2.2.2.1)=Wd):
  ZbY b s i=(ZcU (ZbB s.1 L D)&&Z3 Wd)/\pinS b s i=ZbB s.1 L D/\
  (ZL b s i).1=(Zk s.1 L D,(bif ZcU (ZbB s.1 L D)&&Z3 Wd then Zbh b.2.1 Wm (ZbK Wd).2.1.1 (ZbK Wd).2.1.2 else Wm),(bif w then bif k7 then B else bif x71 then ZmE B x72 s.1.2.2.2.1.2.2.1 else B else B),
   (bif ZcU (ZbB s.1 L D)&&Z3 Wd then (ZbK Wd).1 else Wd),Za4 s,(bif w then bif k7 then s.2.2.2.2.2 else s.2.2.2.2.2++[(p,s.1.2.2.2.1.2.2.1)] else s.2.2.2.2.2))/\
  (ZL b s i).2.2.2.2.1=(bif ZcU (ZbB s.1 L D)&&Z3 Wd then (ZbK Wd).2.1 else (0,0)):=by
 obtain⟨k1,k2,k3⟩:=Ze0 b (Zn b s i) i;have hc:Zgw b s i=(Zk s.1 L D,s.2.1,B,s.2.2.2.1,Za4 s,s.2.2.2.2.2):=by unfold Zgw;dsimp only;rw[k1,k2,k3,hB,hL,hD];rfl
 have hws:Zgx s i=w:=by unfold Zgx;rw[hr];exact hw
 have hW:Za2 b s i=(Zk s.1 L D,Wm,(bif w then bif k7 then B else bif x71 then ZmE B x72 s.1.2.2.2.1.2.2.1 else B else B),Wd,Za4 s,(bif w then bif k7 then s.2.2.2.2.2 else s.2.2.2.2.2++[(p,s.1.2.2.2.1.2.2.1)] else s.2.2.2.2.2)):=by
  unfold Za2 ZiU;dsimp only;rw[hws,hc,hp,h7,hd,h71,<-hm,<-hwd];cases w
  ·rfl
  ·cases k7
   ·cases hx:x71
    ·rfl
    ·rw[h72 hx];rfl
   ·rfl
 have hP:pinS b s i=ZbB s.1 L D:=by unfold pinS;rw[k1,hL,hD];rfl
 have hM:ZbY b s i=(ZcU (ZbB s.1 L D)&&Z3 Wd):=by unfold ZbY;rw[hP,hW]
 have hcell:(ZL b s i).2.2.2.2.1=(bif ZcU (ZbB s.1 L D)&&Z3 Wd then (ZbK Wd).2.1 else (0,0)):=by
  show (bif ZbY b s i then ((Za2 b s i).2.2.2.1.1,(Za2 b s i).2.2.2.1.2.1) else (0,0))=_;rw[hM,hW,ZJQ];cases ZcU (ZbB s.1 L D)
  ·rfl
  ·cases Z3 Wd<;>rfl
 refine⟨hM,hP,?_,hcell⟩;show Zlg (Zet b s i) i.2.2.1=_;rw[hr];show Zet b s i=_;unfold Zet;dsimp only;rw[hM,hW,ZJQ];cases ZcU (ZbB s.1 L D)
 ·rfl
 ·cases Z3 Wd<;>rfl
abbrev TupB:=List INPT×Int×Int×CORT×List Cell×PICT×(QT3)×Int×BRDT×SYST×TC×List (Int×Int)×List PINT×List ITMT×List EVTT×List TC×PUnit
def tupB (l:List INPT) (j:Int) (b:BRDT) (s0:SYST) (Zap:TC) (st:STT):TupB:=(l,(l.length:Int),j,st.1.1,st.1.2.1,st.1.2.2.1,st.1.2.2.2.1,st.1.2.2.2.2.1,b,s0,ZlE Zap st.2.2.2.2,st.1.2.2.2.2.2,st.2.1,st.2.2.1,st.2.2.2.1,st.2.2.2.2,())
theorem ZIx (c:CORT) (it':List ITMT) (y:ITMT) (d:Int) (h:Zzj c (it'++[y])):
  (bif Zm c==1 then it'++[y]++[(1,Zr c (Zm c) d,0,1,c.1.2.2.1,c.1.2.2.2.2.2.2.2.2.2.2.2.2)] else bif Zm c==7 then it'++[(y.1,y.2.1,IntKind.wrap .i64 (y.2.2.1+1),y.2.2.2)] else
   bif (bif Zm c==2 then Zm c==2 else bif Zm c==3 then Zm c==3 else bif Zm c==4 then Zm c==4 else bif Zm c==5 then Zm c==5 else Zm c==6) then it'++[(y.1,Zr c (Zm c) d,y.2.2.1,Zm c,y.2.2.2.2)] else
   bif Zm c==8 then (bif y.1==2&&(y.2.2.2.2.1==c.1.2.2.1&&y.2.2.2.2.2==c.1.2.2.2.2.2.2.2.2.2.2.2.2) then it'++[(y.1,y.2.1,y.2.2.1,IntKind.wrap .i64 (y.2.2.2.1+1),y.2.2.2.2)] else it'++[y]++[(2,(0,0,0,0),0,1,c.1.2.2.1,c.1.2.2.2.2.2.2.2.2.2.2.2.2)]) else
   bif Zm c==9 then (bif y.1==3&&(y.2.2.2.2.1==c.1.2.2.1&&y.2.2.2.2.2==c.1.2.2.2.2.2.2.2.2.2.2.2.2) then it'++[(y.1,y.2.1,y.2.2.1,IntKind.wrap .i64 (y.2.2.2.1+1),y.2.2.2.2)] else it'++[y]++[(3,(0,c.1.2.1.2.2.2.2.2.2.2.2.2,0,0),0,1,c.1.2.2.1,c.1.2.2.2.2.2.2.2.2.2.2.2.2)]) else it'++[y])=
  Za1 (it'++[y]) c (Zr c (Zm c) d) (Zm c):=by
 obtain⟨hn,h⟩:=h;have hT:Zm c=c.2.2.2.2.1:=ZKn hn;rw[<-hT] at hn h;have hy:¬(Zm c=8\/Zm c=9\/Zm c=1)->y.2.1=c.2.2.2.1/\y.2.2.2.1=Zyd (Zm c):=λhx=>by
  rcases h with h|⟨l,z,e,h1,h2⟩
  ·exact absurd h hx
  ·have:=Yak e rfl;obtain⟨_,e2⟩:=this;simp only[Yaz,and_true] at e2;rw[e2];exact⟨h1,h2⟩
 generalize Zm c=n at hn hy;have hj:∀f:ITMT->ITMT,ZaI (it'++[y]) f=it'++[f y]:=ZI it' y;have hg:∀k:Int,n=k->Zyd k+1=k->¬(k=8\/k=9\/k=1)->IntKind.wrap .i64 (y.2.2.2.1+1)=n:=λk hk h1 h2=>by subst hk;rw[(hy h2).2,h1,wrap_i64 _ (by omega) (by omega)]
 have e:n=1\/n=2\/n=3\/n=4\/n=5\/n=6\/n=7\/n=8\/n=9:=by omega
 rcases e with e|e|e|e|e|e|e|e|e
 ·subst e;rfl
 ·have w:=hg 2 e rfl (by decide);subst e;show _=ZaI _ _;rw[hj,w];rfl
 ·have w:=hg 3 e rfl (by decide);subst e;show _=ZaI _ _;rw[hj,w];rfl
 ·have w:=hg 4 e rfl (by decide);subst e;show _=ZaI _ _;rw[hj,w];rfl
 ·have w:=hg 5 e rfl (by decide);subst e;show _=ZaI _ _;rw[hj,w];rfl
 ·have w:=hg 6 e rfl (by decide);subst e;show _=ZaI _ _;rw[hj,w];rfl
 ·subst e;show _=ZaI _ _;rw[hj,(hy (by decide)).1];rfl
 ·subst e;show _=ZeN _ _ _ _;unfold ZeN;rw[List.getLast?_concat];dsimp only;rw[hj];rfl
 ·subst e;show _=ZeN _ _ _ _;unfold ZeN;rw[List.getLast?_concat];dsimp only;rw[hj];rfl
theorem ZjN (s:TC) (l:List TC) (x:TC):ZlE s (l++[x])=x:=by simp[ZlE]
theorem l1:((1:Int)==1)=true/\((1:Int)==10)=false/\((1:Int) !=10)=true:=by decide
theorem l10:((10:Int)==1)=false/\((10:Int)==2)=false/\((10:Int)==3)=false/\((10:Int)==4)=false/\((10:Int)==5)=false/\((10:Int)==6)=false/\((10:Int)==7)=false/\((10:Int)==8)=false/\((10:Int)==9)=false/\((10:Int)==10)=true/\((10:Int) !=10)=false:=by decide
theorem ZQp (l:List INPT) (j:Nat) (b:BRDT) (s0:SYST) (Zap:TC) (st:STT) (n:Nat) (h:RunOk b st n) (q:RbOk st) (hj:j<l.length) (hl:l.length<=100000) (hn:n<=200000) (hpp:inR .u8 b.2.2.2.1) (i:INPT) (hi:R.get ZeM l (j:Int)=i):
  (ZcY (tupB l (j:Int) b s0 Zap st)).val=some (Go1.cont (tupB l ((j+1:Nat):Int) b s0 Zap (ZaN b Zap st i))):=by
 have hms:=mst;obtain⟨s,tr,it,ev,cp⟩:=st;obtain⟨g,m,o,k,t,hitl,hev,hcp,ne⟩:=h;obtain⟨hsrc,hlast⟩:=q;simp only at g m o k t hitl hev hcp ne hsrc hlast;have d:decide ((j:Int)<(l.length:Int))=true:=Yr (by omega);have hin:Zg (j:Int) l.length=true:=ZS.2 ⟨by omega,by omega⟩;have w:IntKind.wrap .i64 ((j:Int)+1)=((j+1:Nat):Int):=by rw[wrap_i64 _ (by omega) (by omega)];omega
 obtain⟨p,hp⟩:∃p,IntKind.wrap .u8 s.1.2.2.2.1.2.1=p:=⟨_,rfl⟩;have hpr:inR .u8 p:=by rw[<-hp];exact Zar .u8 _
 obtain⟨p1,p2⟩:=ZQS hpr hpp;have b4:∀y:Int×Int,Nat.ble (List.length (s.2.2.2.2.2++[y])) most=true:=λy=>ZbQ (by simp;omega)
 have b5:smC s.2.1=true:=smCb (by omega);have b6:∀t v,smC (Zbh b.2.1 s.2.1 t v)=true:=λt v=>smCb (by have:=Zmr b.2.1 s.2.1 t v;omega)
 have b7:∀c1 c2:Bool,∀t v,smC (bif c1 then bif c2 then Zbh b.2.1 s.2.1 t v else s.2.1 else s.2.1)=true:=λc1 c2 t v=>by cases c1<;>cases c2<;>first|exact b6 t v|exact b5
 have b9:Zm2 s.1=true:=ZgM.2 (by omega);have btr:∀x:PINT,Nat.ble (tr++[x]).length most=true:=λx=>ZbQ (by simp;omega)
 have bev:∀x:EVTT,Nat.ble (ev++[x]).length most=true:=λx=>ZbQ (by simp;omega)
 have bev2:∀(c:Bool) (x y:EVTT),Nat.ble ((bif c then ev++[x] else ev)++[y]).length most=true:=λc x y=>ZbQ (by cases c<;>simp<;>omega)
 have bcp:∀x:TC,Nat.ble (cp++[x]).length most=true:=λx=>ZbQ (by simp;omega)
 have bcp2:∀(c:Bool) (x y:TC),Nat.ble ((bif c then cp++[x] else cp)++[y]).length most=true:=λc x y=>ZbQ (by cases c<;>simp<;>omega)
 have bgt:Nat.ble (List.length s.1.2.2.1) most=true:=ZbQ (by omega);have bit:∀x:ITMT,Nat.ble (it++[x]).length most=true:=λx=>ZbQ (by simp;omega)
 have n1:decide (iN ([]:List ITMT).length>0)=false:=rfl;have n2:Zg (IntKind.wrap .i64 (iN ([]:List ITMT).length-1)) ([]:List ITMT).length=false:=rfl;obtain⟨Q,hQ⟩:∃Q,(Zn b s i).2.2.1=Q:=⟨_,rfl⟩;have hQ':(bif b.2.2.2.2.2.1 then s.2.2.1 else Zfc s.2.2.1 i.2.2.2.2.2.2.2.2.1)=Q:=by rw[<-hQ];unfold Zn;cases b.2.2.2.2.2.1<;>rfl
 obtain⟨L,hL⟩:∃L,Zag b (Zn b s i) i=L:=⟨_,rfl⟩;have hL':=(ZWr b s i g).symm.trans hL;have hLr:L.2.2.1=i.2.2.1:=by rw[<-hL];rfl
 obtain⟨x71,h71⟩:∃x,(!b.2.2.2.2.2.1&&decide (IntKind.wrap .u8 (p-b.2.2.2.1)<2))=x:=⟨_,rfl⟩;obtain⟨x72,h72⟩:∃x,(IntKind.wrap .u8 (p-b.2.2.2.1)==1)=x:=⟨_,rfl⟩;have e71:(Zec b p).2=x71:=by rw[ZTN,<-h71,p1]
 have e72:x71=true->(Zec b p).1=x72:=λe=>by rw[<-h71,Yc] at e;rw[ZTN,<-h72,p2 e.2]
 have hnn:it=[]->Zm s.1=1:=ne;have hsn:∀it' y,it=it'++[y]->IntKind.wrap .i64 (iN (it'++[y]).length-1)=(it'.length:Int)/\decide (iN (it'++[y]).length>0)=true:=λit' y e=>by rw[e] at hitl;exact⟨ZvC it' y (by simp at hitl;omega),Yr (by simp only[iN,Le,Yd,List.length_singleton];omega)⟩
 have hit:it=[]\/∃it' y,it=it'++[y]:=by
  rcases Y2 it with e|⟨it',y,e⟩
  ·exact .inl e
  ·exact .inr ⟨it',y,by rw[e,Y0]⟩
 cases hr:i.2.2.1
 ·obtain⟨D,hD⟩:∃D,(busS b (Zn b s i) i).2=D:=⟨_,rfl⟩;have hb:=bus_p b (Zn b s i) i (!i.2.2.1&&(Zm s.1==3&&Zaz s.1.2.2.2.1.1)) (s.1.2.2.2.1.1==8||s.1.2.2.2.1.1==9) x71 x72 rfl rfl
   (by show _=(Zec b (IntKind.wrap .u8 s.1.2.2.2.1.2.1)).2;rw[hp,e71]) (λe=>by show _=(Zec b (IntKind.wrap .u8 s.1.2.2.2.1.2.1)).1;rw[hp,e72 e]) (λe=>by rw[<-h71,e];rfl)
  rw[hQ,hr] at hb;have hD2:(bif Zm s.1==3&&Zaz s.1.2.2.2.1.1 then bif decide (s.1.2.2.2.1.1>=1)&&decide (s.1.2.2.2.1.1<=5) then ZeS b.2.1 s.2.1 s.1.2.2.2.1.2.1 else bif s.1.2.2.2.1.1==8||s.1.2.2.2.1.1==9 then bif !b.2.2.2.2.2.1 then (vAck Q).2 else i.2.2.2.2.2.2.2.2.2 else bif x71 then (Zp7 Q x72).2 else bif decide (IntKind.wrap .u8 (p-b.2.2.2.2.1)<4) then ZmF s.2.2.2.1 (IntKind.wrap .i64 (IntKind.wrap .u8 (p-b.2.2.2.2.1))) else i.2.2.2.2.2.2.2.2.2 else 0)=D:=by rw[<-hD,hb,ZTO,<-hp];rfl
  obtain⟨B,hB⟩:∃B,(busS b (Zn b s i) i).1.2.2.1=B:=⟨_,rfl⟩;have hB2:(bif Zm s.1==3&&Zaz s.1.2.2.2.1.1 then bif decide (s.1.2.2.2.1.1>=1)&&decide (s.1.2.2.2.1.1<=5) then Q else bif s.1.2.2.2.1.1==8||s.1.2.2.2.1.1==9 then bif !b.2.2.2.2.2.1 then (vAck Q).1 else Q else bif x71 then (Zp7 Q x72).1 else Q else Q)=B:=by rw[<-hB,hb];rfl
  obtain⟨Wm,hm⟩:∃z,(bif Zm s.1==3&&Za5 s.1.2.2.2.1.1 then bif s.1.2.2.2.1.1 !=7 then Zbh b.2.1 s.2.1 s.1.2.2.2.1.2.1 s.1.2.2.2.1.2.2.1 else s.2.1 else s.2.1)=z:=⟨_,rfl⟩;have b10:smC Wm=true:=by rw[<-hm];exact b7 _ _ _ _
  obtain⟨Wd,hwd⟩:∃z,(bif Zm s.1==3&&Za5 s.1.2.2.2.1.1 then bif s.1.2.2.2.1.1 !=7 then s.2.2.2.1 else bif x71 then s.2.2.2.1 else bif decide (IntKind.wrap .u8 (p-b.2.2.2.2.1)<4) then ZdA s.2.2.2.1 (IntKind.wrap .i64 (IntKind.wrap .u8 (p-b.2.2.2.2.1))) s.1.2.2.2.1.2.2.1 else s.2.2.2.1 else s.2.2.2.1)=z:=⟨_,rfl⟩;obtain⟨kM,kP,kS,kC⟩:=ZSF b s i hr hL hD hB rfl rfl hp e71 e72 (ZTO b p) hm hwd;obtain⟨M,hM⟩:∃M,(ZcU (ZbB s.1 L D)&&Z3 Wd)=M:=⟨_,rfl⟩;rw[hM] at kM kS kC;have hM':((ZbB s.1 L D).2.2.2.2.2.2.2.2.2.2.2.2.2.2.2.1&&Z3 Wd)=M:=hM;rw[hr] at hLr;have hP1:(ZbB s.1 L D).1=Zm s.1:=by rw[ZTi,hLr];rfl
  have hn9:1<=s.1.2.2.2.2.1/\s.1.2.2.2.2.1<=9:=hlast.1;obtain⟨c1,c2,c3,c4⟩:=ZYL s.1 L D hn9 hLr;have hT10:(Zm s.1==10)=false:=by have:=ZKn hn9;show (ZX s.1.2.2.2.2.1==10)=false;rw[this];simp;omega
  have hT10':(Zm s.1 !=10)=true:=by rw[bne,hT10];rfl
  rw[hr] at hL';have hR:ZaN b Zap (s,tr,it,ev,cp) i=((ZL b s i).1,tr++[ZbB s.1 L D],Za1 (it) s.1 (Zr s.1 (Zm s.1) D) (Zm s.1),evE ev s.1 L D (ZL b s i).2.2.2.2.1 M,evC cp Zap s.1 (Zk s.1 L D) L D M):=by
   have hnow:nowS s i=Zm s.1:=by unfold nowS;rw[hr];rfl
   have hcc:(ZL b s i).1.1=Zk s.1 L D:=by rw[kS]
   show ((ZL b s i).1,tr++[pinS b s i],Za1 (it) s.1 (Zr s.1 (nowS s i) (busS b (Zn b s i) i).2) (nowS s i),evE ev s.1 (Zag b (Zn b s i) i) (busS b (Zn b s i) i).2 (ZL b s i).2.2.2.2.1 (ZbY b s i),evC cp Zap s.1 (ZL b s i).1.1 (Zag b (Zn b s i) i) (busS b (Zn b s i) i).2 (ZbY b s i))=_;rw[hnow,hcc,kP,kM,hL,hD]
  have hMv:(M&&Z3 Wd)=M:=by rw[<-hM];cases ZcU (ZbB s.1 L D)<;>cases Z3 Wd<;>rfl
  have hMF:M=true->(finS s.1 L D).2=false:=λe=>by rw[<-hM,Yc] at e;have h8:=(Zjm e.1).2;rw[ZKn hn9] at h8;unfold finS rdS;rw[hLr,h8];rfl
  rcases hit with rfl|⟨it',y,rfl⟩
  have hT1:=hnn rfl;have hP0:(ZbB s.1 L D).1=1:=by rw[hP1,hT1]
  have hI:Za1 [] s.1 (Zr s.1 (Zm s.1) D) (Zm s.1)=[]++[(1,Zr s.1 (Zm s.1) D,0,1,s.1.1.2.2.1,s.1.1.2.2.2.2.2.2.2.2.2.2.2.2)]:=by rw[hT1];rfl
  unfold tupB ZcY;simp only[RT.val,hi,hr,hp,d,hin,w,g,b4,b5,b7,b9,btr,bev,bev2,bcp,bcp2,bgt,bit,ZRO,ZlK,Zyz,Zmo,Zmn,clkX,pstR,hQ',hL',h71,h72,Zr7,ZlZ,Zb6,Zbe,Bool.and_assoc,Yaw,YZ,Yk,Yt,Yf,Ym,Yh,Yz,YN,YV,YX,Bool.not_or_self,Bool.or_not_self,Ya,Yb,hD2,hB2,hm,b10,hwd,hM',hP0,l1,n1,n2];rw[c3,hR,hI,hMv]
  rotate_left
  obtain⟨w0,w1⟩:=hsn it' y rfl;have w2:=λz:ITMT=>Zsu it' z
  have w3:=λz:ITMT=>Zu8 (r:=ZhT) it' z
  have w4:=λz:ITMT=>ZlR it' y z
  have w5:=λz z2:ITMT=>ZlR it' z z2
  unfold tupB ZcY;simp only[RT.val,hi,hr,hp,d,hin,w,g,b4,b5,b7,b9,btr,bev,bev2,bcp,bcp2,bgt,bit,ZRO,ZlK,Zyz,Zmo,Zmn,clkX,pstR,hQ',hL',h71,h72,Zr7,ZlZ,Zb6,Zbe,Bool.and_assoc,Yaw,YZ,Yk,Yt,Yf,Ym,Yh,Yz,YN,YV,YX,Bool.not_or_self,Bool.or_not_self,Ya,Yb,hD2,hB2,hm,b10,hwd,hM',hP1,hT10,hT10',w0,w1,w2,w3,w4,w5];rw[c3,ZIx s.1 it' y D hlast,hR,hMv];all_goals
    unfold evE evC;simp only[kS,kC,hLr,c1,c4,Yb];cases hF:(finS s.1 L D).2
    ·cases M
     ·rfl
     ·simp only[Ya,Yb,ZjN];rfl
    ·have hMz:M=false:=by
      cases M
      ·rfl
      ·rw[hMF rfl] at hF;simp at hF
     obtain⟨g1,g2⟩:=c2 hF;have hk:(bif s.1.2.1==0 then (1:Int) else bif s.1.2.1==5 then 2 else 3)=ZhS s.1.2.1:=ZRY hsrc;rw[hMz,g1,g2,hk];simp only[Ya,Yb,ZjN];rfl
 ·obtain⟨r1,r2,r3⟩:=ZPo b s i hr;rw[hL] at r2;have hP1:(ZbB s.1 L 0).1=10:=by rw[ZTi,hLr,hr];rfl
  have hH:(ZbB s.1 L 0).2.2.2.2.2.2.2.2.2.2.2.2.2.2.2.1=false:=by
   cases e:(ZbB s.1 L 0).2.2.2.2.2.2.2.2.2.2.2.2.2.2.2.1
   ·rfl
   ·have:=(Zjm e).1;rw[hLr,hr] at this;simp at this
  have hR:ZaN b Zap (s,tr,it,ev,cp) i=((Zk s.1 L 0,s.2.1,ZUJ Q 0,(s.2.2.2.1.1,s.2.2.2.1.2.1,0),Za4 s,s.2.2.2.2.2),tr++[ZbB s.1 L 0],ZeN it 4 s.1 (4,(0,0,0,0),0,1,Z9 s.1,sodC s.1),evE ev s.1 L 0 (ZL b s i).2.2.2.2.1 false,evC cp Zap s.1 (Zk s.1 L 0) L 0 false):=by
   have hnow:nowS s i=10:=by unfold nowS;rw[hr];rfl
   have hcc:(ZL b s i).1.1=Zk s.1 L 0:=by rw[r2]
   have hp2:pinS b s i=ZbB s.1 L 0:=by unfold pinS;rw[(Ze0 b (Zn b s i) i).1,hL,r1];rfl
   show ((ZL b s i).1,tr++[pinS b s i],Za1 it s.1 (Zr s.1 (nowS s i) (busS b (Zn b s i) i).2) (nowS s i),evE ev s.1 (Zag b (Zn b s i) i) (busS b (Zn b s i) i).2 (ZL b s i).2.2.2.2.1 (ZbY b s i),evC cp Zap s.1 (ZL b s i).1.1 (Zag b (Zn b s i) i) (busS b (Zn b s i) i).2 (ZbY b s i))=_;rw[hnow,hcc,hp2,r3,hL,r1,r2,hQ];rfl
  rw[hr] at hL';rcases hit with rfl|⟨it',y,rfl⟩
  ·unfold tupB ZcY;simp only[RT.val,hi,hr,hp,d,hin,w,g,b4,b5,b7,b9,btr,bev,bev2,bcp,bcp2,bgt,bit,ZRO,ZlK,Zyz,Zmo,Zmn,clkX,pstR,hQ',hL',h71,h72,Zr7,ZlZ,Zb6,Zbe,Bool.and_assoc,Yaw,YZ,Yk,Yt,Yf,Ym,Yh,Yz,YN,YV,YX,Bool.not_or_self,Bool.or_not_self,Ya,Yb,hP1,hH,l10,n1,n2];rw[hR];unfold evE evC ZeN;simp only[hLr,hr,Ya,ZjN,List.getLast?_nil];rfl
  ·obtain⟨w0,w1⟩:=hsn it' y rfl;have w2:=λz:ITMT=>Zsu it' z
   have w3:=λz:ITMT=>Zu8 (r:=ZhT) it' z
   have w4:=λz:ITMT=>ZlR it' y z
   have w5:=λz z2:ITMT=>ZlR it' z z2
   unfold tupB ZcY;simp only[RT.val,hi,hr,hp,d,hin,w,g,b4,b5,b7,b9,btr,bev,bev2,bcp,bcp2,bgt,bit,ZRO,ZlK,Zyz,Zmo,Zmn,clkX,pstR,hQ',hL',h71,h72,Zr7,ZlZ,Zb6,Zbe,Bool.and_assoc,Yaw,YZ,Yk,Yt,Yf,Ym,Yh,Yz,YN,YV,YX,Bool.not_or_self,Bool.or_not_self,Ya,Yb,hP1,hH,l10,w0,w1,w2,w3,w4,w5];rw[hR];unfold evE evC ZeN;simp only[hLr,hr,Ya,ZjN,List.getLast?_concat,ZI];rfl
theorem ZKy (b:BRDT) (s0:TC):∀(l:List INPT) (st:STT),RbOk st->RbOk (ZbO b s0 st l)
 |[],st,h=>h
 |i::l,st,h=>ZKy b s0 l (ZaN b s0 st i) (ZUV b s0 st i h)
theorem ZUU (b:BRDT) (l:List INPT) (s0:SYST) (Zap:TC) (st:STT) (h:RunOk b st 0) (q:RbOk st) (hpp:inR .u8 b.2.2.2.1) (hl:l.length<=70000):
  runF false ZcY (λ_=>1000000000000) (tupB l 0 b s0 Zap st)=some (false,tupB l (l.length:Int) b s0 Zap (ZbO b Zap st l)):=by
 obtain⟨r,hr,h1⟩:=ZN (fl:=false) (t:=ZcY) (fuel:=λ_=>1000000000000)
  (λa=>∃i:Nat,i<=l.length/\a=tupB l (i:Int) b s0 Zap (ZbO b Zap st (l.take i)))
  (λa=>Int.toNat (a.2.1-a.2.2.1)) (λr=>r=(false,tupB l (l.length:Int) b s0 Zap (ZbO b Zap st l)))
  (by
   rintro a ⟨i,hi,rfl⟩;by_cases hlt:i<l.length
   ·left;have hk:=ZpA b Zap (l.take i) st 0 h;refine⟨_,ZQp l i b s0 Zap (ZbO b Zap st (l.take i)) _ hk (ZKy b Zap _ _ q) hlt (by omega) (by simp;omega) hpp _ rfl,⟨i+1,hlt,?_⟩,by show Int.toNat ((l.length:Int)-((i+1:Nat):Int))<Int.toNat ((l.length:Int)-(i:Int));omega⟩;have e:ZbO b Zap st (l.take (i+1))=ZaN b Zap (ZbO b Zap st (l.take i)) (R.get ZeM l (i:Int)):=by rw[ZJS l ZeM.Df i hlt];simp only[ZbO,YaL,List.foldl_cons,List.foldl_nil];rfl
    rw[e]
   ·right;left;have e:i=l.length:=by omega
    subst e;have d:decide ((l.length:Int)<(l.length:Int))=false:=YG (by omega);rw[YaW]
    exact⟨_,by unfold tupB ZcY;simp only[RT.val,d,Yb],rfl⟩)
  (tupB l 0 b s0 Zap st) ⟨0,Yv _,rfl⟩ (by show Int.toNat ((l.length:Int)-0)<_;omega)
 rw[h1] at hr;exact hr
theorem ZWA (b:BRDT) (hw:wNew b=(newS b,0)):RbOk (Zbg b):=by unfold Zbg;rw[hw];exact⟨⟨Int.le_refl 0,(by decide:(0:Int)<=5)⟩,ZjM _ (.inr (.inr rfl))⟩
theorem Zza (b:BRDT) (l:List Int) (hg:smG b.2.1=true) (hm:b.2.2.2.2.2.2.length<=100000) (hl:l.length<=4000) (hpp:inR .u8 b.2.2.2.1):(ZrK b l).val=some (ZbL b (decX l)):=by
 have hms:=mst;obtain⟨e1,e2⟩:=ZIO b;have hc:=smCb (l:=b.2.2.2.2.2.2) (by omega);rw[Zmt b hg hc] at e2;have hn:=Zmx b hg hm;have hb:Nat.ble (List.length b.2.2.2.2.2.2) most=true:=ZbQ (by omega);have hd:ZzO l=true:=by unfold ZzO;rw[YD];exact hl
 unfold ZbL;rw[hn.2.1];cases hx:ZbZ b !=0
 ·have h0:ZbZ b=0:=by simpa using hx
  have hnew:=ZND b hg hm (by rw[hn.2.1,hx]);have hi:=(hn.2.2 (by rw[hn.2.1,h0])).1;have hf:=ZpA b (Z2 b) (decX l) (Zbg b) 0 hi;have hld:=dec_len l;have hr:=ZUU b (decX l) ZvB (Z2 b) (Zbg b) hi (ZWA b hnew) hpp (by omega);have himg:=ZhC (ZfF.1 (ZI9 b hg hc h0));have hs:tupB (decX l) 0 b ZvB (Z2 b) (Zbg b)=(decX l,iN (decX l).length,0,newX b.1,b.2.2.2.2.2.2,ZVg,(0,0,0),0,b,ZvB,(newX b.1).1,[],[],[],[],[],()):=by unfold Z2 Zbg;rw[hnew];unfold newS;rw[himg];rfl
  rw[hs] at hr;unfold ZvB Zmq at hr;simp only[ZrK,RT.val,e1,e2,hx,hb,hd,hr,okB,getO,Yf,Yh,Yk,Ya,Yb];obtain⟨st,hst⟩:∃st,ZbO b (Z2 b) (Zbg b) (decX l)=st:=⟨_,rfl⟩;rw[hst] at hf|-;have hk:=hf.k;have he:=hf.ev;have hcp:=hf.cp;have b1:Nat.ble (List.length st.1.1.2.2.1) most=true:=ZbQ (by omega);have b2:∀x:EVTT,Nat.ble (List.length (st.2.2.2.1++[x])) most=true:=λx=>ZbQ (by simp;omega)
  have b3:∀x:TC,Nat.ble (List.length (st.2.2.2.2++[x])) most=true:=λx=>ZbQ (by simp;omega)
  have hpb:∀c,ZuF c=ZdU c:=λ_=>rfl
  unfold tupB;simp only[b1,b2,b3,hpb,Yk,Yf,Yh,Ya];unfold endS;cases ZdU st.1.1<;>rfl
 ·simp only[ZrK,RT.val,e1,e2,hx,Yf,Yt,Yk,Ya];rfl
def Zik (b:BRDT) (l:List Int):Bool:=smG b.2.1&&(Nat.ble b.2.2.2.2.2.2.length 100000&&Nat.ble l.length 4000)
theorem ZDI {b:BRDT} {l:List Int} (h:Zik b l=true):smG b.2.1=true/\b.2.2.2.2.2.2.length<=100000/\l.length<=4000:=by simpa only[Zik,Yc,YD] using h
def ZpZ:En:=Zi Zvv ZpY (λa=>some (Zik a.1 a.2)) (λa=>ZbL a.1 (decX a.2))
theorem Zhk:Zb Tryz.prog 23 ZpZ:=ZGf.pure_congr
 (λa h hp=>by
  obtain⟨h1,h2,h3⟩:=ZDI (b:=a.1) (l:=a.2) (by simpa using hp);have hv:=Zza a.1 a.2 h1 h2 h3 h.1.2.2.2.1
  simp[ZGh,hv,okB])
 (λa h hp=>by
  obtain⟨h1,h2,h3⟩:=ZDI (b:=a.1) (l:=a.2) (by simpa using hp);have hv:=Zza a.1 a.2 h1 h2 h3 h.1.2.2.2.1
  simp only[ZSL,hv,getO])
end
end Go.Proofs.YtpnjbfjomebppaaGreat
open Go.Proofs.Tryz (prog)
namespace Go.Proofs.YtpnjbfjomebppaaGreat
noncomputable section
def Zby:En:=.tree (ZA (envX prog [] [] 31 8) Tryz.f115)
theorem Zcr:Zb prog 115 Zby:=Z6 trivial Tryz.func115 rfl (by kernel_rfl) Tryz.call115 trivial
abbrev ZvE:List Sh:=[So (R.sl Zei),So (R.sl Zei)]
def ZGm:LS:={n:=87,Sl:=[(1,.code (So (R.sl Zei))),(4,.code (So R.bool)),(13,.code (So (R.sl Zei))),(14,.code (So Kc)),(15,.code (So Kc))],Bx:=[],Sg:=[]}
def Zfa (a:List EVTT×Bool×List EVTT×Int×Int×PUnit):RT (Option (Go1 (List EVTT×Bool×List EVTT×Int×Int×PUnit))):=
 let x1:EVTT:=R.get Zei a.2.2.1 a.2.2.2.2.1
 let x2:EVTT:=R.get Zei a.1 a.2.2.2.2.1
 let x3:=x1.2
 let x4:=x2.2
 let x5:=x3.2
 let x6:=x4.2
 let x7:=x5.2
 let x8:=x7.1
 let x9:=x6.2
 let x10:=x9.1
 let x25:=x7.2
 let x26:=x9.2
 let x27:=x25.2
 let x28:=x26.2
 let x29:=x27.2
 let x30:=x28.2
 let x31:=x29.2
 let x32:=x30.2
 let p1:=(!x31.1==x32.1)::(!x29.1==x30.1)::(!x27.1==x28.1)::(!x25.1==x26.1)::(!(R.eqf ZQo x8 x10 true))::(!ByteArray.toList (ZGy x5.1)==ByteArray.toList (ZGy x6.1))::(x3.1 !=x4.1)::(x1.1 !=x2.1)::[]
 let x33:=x31.2
 let x34:=x32.2
 let x35:List EVTT×Int×Int×PUnit:=(a.2.2.1,a.2.2.2.1,a.2.2.2.2.1,PUnit.unit)
 .br (decide (a.2.2.2.2.1<a.2.2.2.1)) (.br (!Zg a.2.2.2.2.1 (Le a.2.2.1)||Zg a.2.2.2.2.1 (Le a.1)) (.br (Zg a.2.2.2.2.1 (Le a.2.2.1)) (.br (orR p1 (!(x33.1==x34.1&&(x33.2==x34.2&&true)))) (Ls (Go1.ret (a.1,false,x35))) (Ls (Go1.cont (a.1,a.2.1,a.2.2.1,a.2.2.2.1,i64.wrap (a.2.2.2.2.1+1),PUnit.unit)))) Ln) Ln) (Ls (Go1.brk (a.1,a.2.1,x35)))
def Zql:Ora:=Zbi true ZGm Zfa (λa=>1000000000000)
theorem ZvF:ZaM (envX prog [(115,Zby)] [] 255 8) (.block 0 (.loop (Z5 Tryz.f55.body 0))) Zql:=
 loopP ⟨Zcr,Tv⟩
def ZiH (a:List EVTT) (b:List EVTT):RT (Option (Bool)):=
 let x1:=runF true Zfa (λa_1=>1000000000000) (b,false,a,iN (Le a),0,())
 let x2:=getO (false,b,false,a,iN (Le a),0,()) x1
 .br (iN (Le a) !=iN (Le b)) (Ls (false)) (.br (okB x1) (.br x2.1 (Ls x2.2.2.1) (Ls (true))) Ln)
def ZrO (a:List EVTT) (b:List EVTT):Bool:=getO ZnX.Df (ZiH a b).val
def ZlM (a:List EVTT) (b:List EVTT):Bool:=okB (ZiH a b).val
def ZC9:En:=Zi ZvE ZnX (λa=>some (ZlM a.1 a.2)) (λa=>ZrO a.1 a.2)
theorem ZGl:Zb prog 55 ZC9:=
 pureP 255 [(115,Zby)] [(0,Zql)] _ _ ⟨Zcr,Tv⟩ Tryz.func55 Tryz.call55 ⟨ZvF,Tv⟩
def Zru (n:List Int) (cut:Int):RT (Option (Bool)):=
 let x1:=i64.wrap (i64.wrap (Int.tdiv (iN (Le (ZC n 80).2)) 4)+1)
 let x2:=i64.wrap (4*Zg5 cut x1)
 let x3:=decide (0<=0)&&decide (0<=x2)&&(decide (x2=0)||decide (x2<=iN (Le (ZC n 80).2)))
 let x4:=subL (ZC n 80).2 0 x2
 let x5:=ZbL (ZC n 80).1 (decX x4)
 let x6:=x5.1
 let x7:=x6.1
 let x8:=iN (Le x7)
 let x9:=x6.2.2
 let x10:=x9.1
 let x11:Nat:=Le x10
 let x12:=iN x11
 let x13:=decide (x12>0)
 let x14:=i64.wrap (x12-1)
 let x15:=decide (0<=0)&&decide (0<=x8)&&(decide (x8=0)||decide (x8<=iN (Le (ZbL (ZC n 80).1 (decX (ZC n 80).2)).1.1)))
 let x16:= !x15
 let x17:=subL (ZbL (ZC n 80).1 (decX (ZC n 80).2)).1.1 0 x8
 let x18:=Zhw x17 x7
 let x19:= !x18
 let x20:=Zi5 x17 x7
 let x21:= !x20
 let x22:List EVTT:=(ZbL (ZC n 80).1 (decX (ZC n 80).2)).1.2.2.1
 let x23:Int:=bif x13&&(R.get Zei x10 x14).1==7 then x14 else x12
 let x24:=decide (iN (Le x22)>=x23)
 let x25:= !x24
 let p1:=x25::x21::x19::x16::[]
 let x26:=decide (0<=0)&&decide (0<=x23)
 let x27:=decide (x23=0)
 let x28:=x26&&(x27||decide (x23<=iN (Le x22)))
 let x29:= !x28
 let p2:=x29::p1
 let x30:=x26&&(x27||decide (x23<=iN (Le x10)))
 let x31:= !x30
 let p3:=x31::p2
 let x32:=subL x22 0 x23
 let x33:=subL x10 0 x23
 let x34:=ZlM x32 x33
 let x35:= !x34
 let x36:=ZrO x32 x33
 let x37:= !x36
 let x38:List TC:=(ZbL (ZC n 80).1 (decX (ZC n 80).2)).1.2.2.2.1
 let x39:=decide (iN (Le x38)>=x23)
 let x40:= !x39
 let x41:=x9.2.1
 let x42:=decide (iN (Le x41)>=x23)
 let x43:= !x42
 let p4:=x43::x40::x37::x35::p3
 let x44:=x26&&(x27||decide (x23<=iN (Le x38)))
 let x45:= !x44
 let p5:=x45::p4
 let x46:=x26&&(x27||decide (x23<=iN (Le x41)))
 let x47:= !x46
 let p6:=x47::p5
 let x48:=subL x38 0 x23
 let x49:=ZGA x48
 let x50:=ZiY Z8 x48 (subL x41 0 x23)
 let p7:=(!x50)::(!x49)::p6
 .br (!decide (iN (Le n)>250)||ZyE) (.br (decide (iN (Le n)>250)) (Ls (true)) (.br (Ze6 n 80) (.br (ZkM cut x1) (.br (Zik (ZC n 80).1 (ZC n 80).2) (.br (!x3||Zik (ZC n 80).1 x4) (.br (x3) (.br ((ZbL (ZC n 80).1 (decX (ZC n 80).2)).2 !=0||(x5.2 !=0||(x8 !=i64.wrap (Int.tdiv x2 4)||decide (iN (Le (ZbL (ZC n 80).1 (decX (ZC n 80).2)).1.1)<x8)))) (Ls (false)) (.br (!x13||Zg x14 x11) (.br (orR p7 ZyE) (.br (orR p6 x49) (.br (orR p5 x46) (.br (orR p4 x44) (.br (orR p3 x34) (.br (orR p2 x30) (.br (orR p1 x28) (.br (x16||x18) (.br (x15) (Ls (x20&&(x24&&(x36&&(x39&&(x42&&(x50&&kKn5))))))) Ln) Ln) Ln) Ln) Ln) Ln) Ln) Ln) Ln) Ln)) Ln) Ln) Ln) Ln) Ln)) Ln
def ZRX (n:List Int) (cut:Int):Bool:=getO ZnX.Df (Zru n cut).val
def ZOg (n:List Int) (cut:Int):Bool:=okB (Zru n cut).val
def ZYw:En:=Zi ZFO ZnX (λa=>some (ZOg a.1 a.2)) (λa=>ZRX a.1 a.2)
theorem lBPre_ok:Zb prog 9 ZYw:=
 pureP 8191 [(23,ZpZ),(24,ZqQ),(39,ZvH),(45,ZCy),(46,Ziy),(47,Zpe),(55,ZC9)] [] _ _ ⟨Zhk,Zww,Zzl,ZkP,Zfv,ZjG,ZGl,Tv⟩ Tryz.func9 Tryz.call9 trivial
