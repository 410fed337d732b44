import Derived.Test.YtghoimllhpjkjaaGreatIsaF
open Go Go.S3 Go.Proofs Go.Proofs.Cells
set_option linter.unusedVariables false
set_option linter.unusedSimpArgs false
set_option maxRecDepth 100000
namespace Go.Proofs.YtghoimllhpjkjaaGreat
noncomputable section
def rdK (k:Int):Bool:=k==1||(k==2||k==4)
def inK (k:Int):Bool:=k==6||(k==8||k==9)
def Cons (g:List GT):List Cell->List TY->Prop
 |_,[]=>True
 |m,x::l=>(rdK x.1=true->x.2.2.1=ZeH g m x.2.1)/\Cons g (wrY g m x) l
theorem Zjr (g:List GT):∀(l r:List TY) (m:List Cell),Cons g m (l++r)↔Cons g m l/\Cons g (wrL g m l) r
 |[],r,m=>by simp[Cons,wrL]
 |x::l,r,m=>by have:=Zjr g l r (wrY g m x);simp only[List.cons_append,Cons,this,and_assoc];exact Iff.rfl
def datL (l:List TY):List Int:=l.map λx=>x.2.2.1
theorem ZWk (l r:List TY):datL (l++r)=datL l++datL r:=List.map_append
def DatC (s0:TC) (c:CORT) (ev:List EVTT):Prop:=c.2.2.1=datL (cyX (Zi (Zai s0 ev) c.2.1) c.2.1 [] c.2.2.1)
def ZzV (c:TC) (e:EVTT):Prop:=ZgS e.1=true->e.1=Zf6 e.2.1/\e.2.2.1=datL (Zp c e)/\(Zh (Zi c e.2.1) e.2.1 e.2.2.1).2=false
def EvOk (s0:TC) (ev:List EVTT):Prop:=∀l1 e l2,ev=l1++e::l2->ZzV (Zai s0 l1) e
variable {s0:TC} {ev:List EVTT} {e:EVTT}
theorem EvOk.snoc (h:EvOk s0 ev) (he:ZzV (Zai s0 ev) e):EvOk s0 (ev++[e]):=by
 intro l1 e' l2 hq;rcases Y7 l2 with rfl|⟨l3,y,rfl⟩
 ·obtain⟨q1,q2⟩:=List.append_inj' hq rfl;simp only[List.cons.injEq,and_true] at q2;subst q1;subst q2;exact he
 ·rw[Y8,<-List.cons_append,<-List.append_assoc] at hq;obtain⟨q1,_⟩:=List.append_inj' hq rfl;exact h l1 e' l3 q1
theorem EvOk.left {a t:List EVTT} (h:EvOk s0 (a++t)):EvOk s0 a:=λl1 e l2 hq=>h l1 e (l2++t) (by rw[hq];simp)
theorem ZvP {c:TC} (h:ZgS e.1=false):ZzV c e:=λe1=>by rw[h] at e1;simp at e1
theorem ZTc (p:TC) (s:Int) (g:List Int) (h:Bool) (l:LINT) (un:unl p=unl (Zi (Zai s0 ev) s)) (hd:g=datL (cyX (Zi (Zai s0 ev) s) s [] g)) (he:EvOk s0 ev):
  DatC s0 (endX p s g h l) (bif (Zh p s g).2 then ev else ev++[Zd6 (Zf6 s,s,g,Zd4,false,false,false,false,0,0) p l])/\EvOk s0 (bif (Zh p s g).2 then ev else ev++[Zd6 (Zf6 s,s,g,Zd4,false,false,false,false,0,0) p l]):=by
 unfold endX;dsimp only;cases hn:(Zh p s g).2
 ·simp only[Yb];refine⟨rfl,he.snoc λhk=>⟨rfl,?_,?_⟩⟩
  ·show g=datL (Zp _ _);unfold Zp cycE;rw[hk];exact hd
  ·show (Zh (Zi (Zai s0 ev) s) s g).2=false;rw[<-Zi2 un,hn]
 ·simp only[Ya];exact⟨hd,he⟩
variable {c:CORT}
theorem Zkw {l:LINT} {d:Int} {n:Int} (hn:c.2.2.2.2.1=n) (hr:l.2.2.1=false) (he:∀x,Zgu n x=false):(finS c l d).2=false:=by unfold finS;rw[hn,he,hr];rfl
theorem ZWj {cp:List TC} {it:List ITMT} (h:Sem s0 c ev cp it) (hd:DatC s0 c ev) (he:EvOk s0 ev) (l:LINT) (d:Int) (cell:Cell) (hr:l.2.2.1=false):
  DatC s0 (ZD c l d) (evE ev c l d cell false)/\EvOk s0 (evE ev c l d cell false):=by
 rw[ZIx _ _ _ _ _ hr];obtain⟨hcp,un,nx,rest,nine,cy,hit,ln,pt,ps⟩:=h;clear hit hcp pt ps;obtain⟨p0,s,g,x,n,hq⟩:=c;unfold DatC at hd;simp only at un nx rest nine cy ln hd;have hb0:(decide (n<1)||decide (n>9))=false:=by simp;omega
 have hst:ZS (p0,s,g,x,n,hq)=n:=by simp only[ZS,ZmT,RT.val,hb0,Yb]
 have hsx:Zao n=n:=by simp only[Zao,hb0,Yb]
 have hup:=Zxd p0 l;have hchip:(Zj p0 l).1=p0.1:=(ZjM hup).1;have hun:unl (Zj p0 l)=unl (Zi (Zai s0 ev) s):=hup.trans un;rw[hst];have hcases:n=1\/n=2\/n=3\/(n=4\/n=5\/n=6)\/n=7\/n=8\/n=9:=by omega
 rcases hcases with e|e|e|hk|e|e|e
 ·subst e;have hck:ZD (p0,s,g,x,1,hq) l d=(Zj p0 l,s,g,x,2,hq):=by unfold ZD;simp only[hr,hsx];rfl
  rw[hck,Zkw rfl hr (λx=>rfl)];exact⟨hd,he⟩
 ·subst e;have hck:ZD (p0,s,g,x,2,hq) l d=(Zj p0 l,s,g,x,bif l.1|| !Z1 x.1 then 3 else 7,bif l.1|| !Z1 x.1 then l.2.1 else hq):=by unfold ZD;simp only[hr,hsx];show (bif l.1|| !Z1 x.1 then _ else _)=_;cases l.1|| !Z1 x.1<;>rfl
  rw[hck,Zkw rfl hr (λx=>rfl)];exact⟨hd,he⟩
 ·subst e;obtain⟨cy1,cy2⟩:=cy (by omega);generalize hx3:Zbr (Zj p0 l) x d=x3;have hx3':Zbr p0 x d=x3:=by rw[<-ZxH hchip];exact hx3
  have hcur:Zab (p0,s,g,x,3,hq) 3 d=x3:=by rw[Z1j _ _ (Zj p0 l) hchip];exact hx3
  have hna:∀g,Zh (Zi (Zai s0 ev) s) s g=Zh p0 s g:=λg=>(Zi2 un s g).symm
  obtain⟨k1,k2⟩:=ZEH (Zi (Zai s0 ev) s) s g [] x3.2.2.1 ln (by rw[List.nil_append,hna];exact cy2);rw[List.nil_append,hna,<-cy1,<-hx3',Zry p0 (Zi (Zai s0 ev) s) (ZjM un).1.symm,hx3'] at k1;have hd':g++[x3.2.2.1]=datL (cyX (Zi (Zai s0 ev) s) s [] (g++[x3.2.2.1])):=by rw[k1,ZWk,<-hd];rfl
  have hby:ZcW (p0,s,g,x,3,hq) 3 d=g++[x3.2.2.1]:=by unfold ZcW;rw[hcur];rfl
  have hrd:rdS (p0,s,g,x,3,hq) 3 d=(x3,g++[x3.2.2.1]):=by show (Zbr p0 x d,g++[(Zbr p0 x d).2.2.1])=_;rw[hx3']
  have hen:Zgu 3 x3=le3 x3.2.2.2:=rfl;cases hle:le3 x3.2.2.2
  ·have hf:(finS (p0,s,g,x,3,hq) l d).2=false:=by unfold finS;simp only[hr,hrd,hen,hle,Ya,Yb,Yk]
   have hck:ZD (p0,s,g,x,3,hq) l d=(Zj p0 l,s,g++[x3.2.2.1],x3,4,hq):=by unfold ZD;simp only[hr,hsx,hx3,hle];rfl
   rw[hck,hf];exact⟨hd',he⟩
  ·have hck:ZD (p0,s,g,x,3,hq) l d=endX (Zj p0 l) s (g++[x3.2.2.1]) hq l:=by unfold ZD;simp only[hr,hsx,hx3,hle];rfl
   have hf:finS (p0,s,g,x,3,hq) l d=bif (Zh (Zj p0 l) s (g++[x3.2.2.1])).2 then (ZwJ,false) else (finX (Zj p0 l) s (g++[x3.2.2.1]) l,true):=by unfold finS;simp only[hr,hrd,hen,hle,Ya,Yb,Yf]
   have:=ZTc (Zj p0 l) s (g++[x3.2.2.1]) hq l hun hd' he;rw[hck,hf,hby];cases hn:(Zh (Zj p0 l) s (g++[x3.2.2.1])).2
   ·rw[hn] at this;exact this
   ·rw[hn] at this;exact this
 ·have b1:(n==1)=false:=by rcases hk with rfl|rfl|rfl<;>rfl
  have b2:(n==2)=false:=by rcases hk with rfl|rfl|rfl<;>rfl
  have b3:(n==3)=false:=by rcases hk with rfl|rfl|rfl<;>rfl
  have b7:(n==7)=false:=by rcases hk with rfl|rfl|rfl<;>rfl
  have b8:(n==8)=false:=by rcases hk with rfl|rfl|rfl<;>rfl
  have b9:(n==9)=false:=by rcases hk with rfl|rfl|rfl<;>rfl
  have b3':(n !=3)=true:=by rcases hk with rfl|rfl|rfl<;>rfl
  have hby:ZcW (p0,s,g,x,n,hq) n d=g:=by unfold ZcW;simp only[b3,Yb]
  have hrd:rdS (p0,s,g,x,n,hq) n d=(x,g):=by unfold rdS;simp only[b3',Ya]
  have hclk:ZD (p0,s,g,x,n,hq) l d=bif decide (n<x.2.2.2)&& !(n==6) then (Zj p0 l,s,g,x,n+1,hq) else endX (Zj p0 l) s g hq l:=by unfold ZD;simp only[hr,hsx,b1,b2,b3,b7,b8,b9,Yag,Yb]
  have hen:Zgu n x= !(decide (n<x.2.2.2)&& !(n==6)):=by
   unfold Zgu ZkP;rcases hk with rfl|rfl|rfl
   ·by_cases q:(4:Int)<x.2.2.2
    ·have q1:decide (x.2.2.2<=4)=false:=Yv (by omega);have q2:decide ((4:Int)<x.2.2.2)=true:=Yq q;simp only[RT.val,q2];exact q1
    ·have q1:decide (x.2.2.2<=4)=true:=Yq (by omega);have q2:decide ((4:Int)<x.2.2.2)=false:=Yv q;simp only[RT.val,q2];exact q1
   ·by_cases q:(5:Int)<x.2.2.2
    ·have q1:decide (x.2.2.2<=5)=false:=Yv (by omega);have q2:decide ((5:Int)<x.2.2.2)=true:=Yq q;simp only[RT.val,q2];exact q1
    ·have q1:decide (x.2.2.2<=5)=true:=Yq (by omega);have q2:decide ((5:Int)<x.2.2.2)=false:=Yv q;simp only[RT.val,q2];exact q1
   ·cases decide ((6:Int)<x.2.2.2)<;>rfl
  cases hle:decide (n<x.2.2.2)&& !(n==6)
  ·have hck:ZD (p0,s,g,x,n,hq) l d=endX (Zj p0 l) s g hq l:=by rw[hclk,hle];rfl
   have hf:finS (p0,s,g,x,n,hq) l d=bif (Zh (Zj p0 l) s g).2 then (ZwJ,false) else (finX (Zj p0 l) s g l,true):=by unfold finS;simp only[hr,hrd,hen,hle,Ya,Yb,Yf,Yk]
   have:=ZTc (Zj p0 l) s g hq l hun hd he;rw[hck,hf,hby];cases hn:(Zh (Zj p0 l) s g).2
   ·rw[hn] at this;exact this
   ·rw[hn] at this;exact this
  ·have hf:(finS (p0,s,g,x,n,hq) l d).2=false:=by unfold finS;simp only[hr,hrd,hen,hle,Ya,Yb,Yf,Yk]
   have hck:ZD (p0,s,g,x,n,hq) l d=(Zj p0 l,s,g,x,n+1,hq):=by rw[hclk,hle];rfl
   rw[hck,hf];exact⟨hd,he⟩
 ·subst e;have hck:ZD (p0,s,g,x,7,hq) l d=(Zj p0 l,s,g,x,bif l.1|| !Z1 x.1 then 3 else 7,bif l.1|| !Z1 x.1 then l.2.1 else hq):=by unfold ZD;simp only[hr,hsx];show (bif l.1|| !Z1 x.1 then _ else _)=_;cases l.1|| !Z1 x.1<;>rfl
  rw[hck,Zkw rfl hr (λx=>rfl)];exact⟨hd,he⟩
 ·subst e;have hck:ZD (p0,s,g,x,8,hq) l d=(Zj p0 l,s,g,x,idlX (Zj p0 l) s l.2.1,hq):=by unfold ZD;simp only[hr,hsx];rfl
  rw[hck,Zkw rfl hr (λx=>rfl)];exact⟨hd,he⟩
 ·subst e;have hck:ZD (p0,s,g,x,9,hq) l d=bif ZdN (Zj p0 l) l==0 then (Zj p0 l,s,g,x,bif l.2.1 then 8 else 9,hq) else (Zi (Zj p0 l) (ZdN (Zj p0 l) l),ZdN (Zj p0 l) l,[],(Zh (Zi (Zj p0 l) (ZdN (Zj p0 l) l)) (ZdN (Zj p0 l) l) []).1,bif l.2.1 then 8 else 1,hq):=by unfold ZD;simp only[hr,hsx];rfl
  rw[hck,Zkw rfl hr (λx=>rfl)];cases ZdN (Zj p0 l) l==0
  ·exact⟨rfl,he⟩
  ·exact⟨hd,he⟩
theorem ZTb (he:EvOk s0 ev) (l:LINT) (d:Int) (cell:Cell) (moved:Bool) (hr:l.2.2.1=true):
  DatC s0 (ZD c l d) (evE ev c l d cell moved)/\EvOk s0 (evE ev c l d cell moved):=by
 have hck:ZD c l d=Zr4 (ZN c.1) 0:=by unfold ZD;rw[hr];rfl
 have hev:evE ev c l d cell moved=(bif ZcG c then ev++[Zd6 (6,c.2.1,c.2.2.1,Zd4,false,false,false,false,0,0) c.1 l] else ev)++[Zd6 (4,0,[],Zd4,false,false,false,false,0,0) c.1 l]:=by unfold evE;rw[hr];rfl
 rw[hck,hev];refine⟨rfl,EvOk.snoc ?_ (ZvP rfl)⟩;cases ZcG c
 ·exact he
 ·exact he.snoc (ZvP rfl)
structure Good (g:List GT) (m0:List Cell) (s0:TC) (ev:List EVTT):Prop where
 ok:EvOk s0 ev
 co:Cons g m0 (cyA s0 ev)
theorem ZIF:∀(a t:List EVTT) (c:TC),cyA c (a++t)=cyA c a++cyA (Zai c a) t
 |[],t,c=>rfl
 |e::a,t,c=>by have:=ZIF a t (Zan c e);simp only[List.cons_append,cyA,this,Yn];rfl
theorem Good.left {g:List GT} {m0:List Cell} {s0:TC} {a t:List EVTT} (h:Good g m0 s0 (a++t)):Good g m0 s0 a:=
 ⟨h.ok.left,((Zjr g _ _ m0).1 (by rw[<-ZIF];exact h.co)).1⟩
structure Sq (b:BRDT) (m0:List Cell) (s0:TC) (st:STT):Prop where
 mem:st.1.2.1=wrL b.2.1 m0 (cyI st.2.2.1)
 co:Cons b.2.1 m0 (cyI st.2.2.1)
 dat:DatC s0 st.1.1 st.2.2.2.1
 ok:EvOk s0 st.2.2.2.1
theorem ZWm (b:BRDT) (s:SYST) (i:INPT) (hr:i.2.2.1=false) (h3:ZS s.1=3) (hk:rdK s.1.2.2.2.1.1=true):(busS b (ZE b s i) i).2=ZeH b.2.1 s.2.1 s.1.2.2.2.1.2.1:=by
 have e1:(ZE b s i).1=s.1:=rfl;have e2:(ZE b s i).2.1=s.2.1:=rfl;have hk':s.1.2.2.2.1.1=1\/s.1.2.2.2.1.1=2\/s.1.2.2.2.1.1=4:=by simpa [rdK] using hk
 have h1:ZbC s.1.2.2.2.1.1=true:=by rcases hk' with h|h|h<;>rw[h]<;>rfl
 have h2:(decide (s.1.2.2.2.1.1>=1)&&decide (s.1.2.2.2.1.1<=5))=true:=by rcases hk' with h|h|h<;>rw[h]<;>rfl
 unfold busS;simp only[e1,e2,hr,h3,h1,h2];rfl
theorem ZFV (b:BRDT) (m0:List Cell) (s0:TC) (st:STT) (i:INPT) (h:Sem s0 st.1.1 st.2.2.2.1 st.2.2.2.2 st.2.2.1) (q:Sq b m0 s0 st) (hmv:Zdn b st.1 i=false):Sq b m0 s0 (ZaC b s0 st i):=by
 have hcore:(Zaq b st.1 i).1.1=ZD st.1.1 (Zcm b (ZE b st.1 i) i) (busS b (ZE b st.1 i) i).2:=ZkC b st.1 i;have hevs:(ZaC b s0 st i).2.2.2.1=evE st.2.2.2.1 st.1.1 (Zcm b (ZE b st.1 i) i) (busS b (ZE b st.1 i) i).2 (Zaq b st.1 i).2.2.2.2.1 false:=by show evE st.2.2.2.1 st.1.1 (Zcm b (ZE b st.1 i) i) (busS b (ZE b st.1 i) i).2 (Zaq b st.1 i).2.2.2.2.1 (Zdn b st.1 i)=_;rw[hmv]
 have hits:(ZaC b s0 st i).2.2.1=Zdu st.2.2.1 st.1.1 (Zab st.1.1 (nowS st.1 i) (busS b (ZE b st.1 i) i).2) (nowS st.1 i):=rfl;have hl2:(Zcm b (ZE b st.1 i) i).2.2.1=i.2.2.1:=rfl;have hcons:Cons b.2.1 m0 (cyI (ZaC b s0 st i).2.2.1):=by
  rw[hits];cases hr:i.2.2.1
  ·have hnow:nowS st.1 i=ZS st.1.1:=by unfold nowS;rw[hr];rfl
   rw[hnow,ZIE h];cases h3:ZS st.1.1==3
   ·exact q.co
   ·simp only[Ya];have h3':ZS st.1.1=3:=by simpa using h3
    refine (Zjr _ _ _ _).2 ⟨q.co,λhk=> ?_,Tv⟩;rw[<-q.mem];have e1:(Zbr st.1.1.1 st.1.1.2.2.2.1 (busS b (ZE b st.1 i) i).2).1=st.1.1.2.2.2.1.1:=rfl;have e2:(Zbr st.1.1.1 st.1.1.2.2.2.1 (busS b (ZE b st.1 i) i).2).2.1=st.1.1.2.2.2.1.2.1:=rfl;have e3:(Zbr st.1.1.1 st.1.1.2.2.2.1 (busS b (ZE b st.1 i) i).2).2.2.1=bif ZbC st.1.1.2.2.2.1.1 then (busS b (ZE b st.1 i) i).2 else st.1.1.2.2.2.1.2.2.1:=rfl
    rw[e1] at hk;have hk':st.1.1.2.2.2.1.1=1\/st.1.1.2.2.2.1.1=2\/st.1.1.2.2.2.1.1=4:=by simpa [rdK] using hk
    have h1:ZbC st.1.1.2.2.2.1.1=true:=by rcases hk' with h|h|h<;>rw[h]<;>rfl
    rw[e2,e3,h1];exact ZWm b st.1 i hr h3' hk
  ·have hnow:nowS st.1 i=10:=by unfold nowS;rw[hr];rfl
   rw[hnow];have:cyI (Zdu st.2.2.1 st.1.1 (Zab st.1.1 10 (busS b (ZE b st.1 i) i).2) 10)=cyI st.2.2.1:=Zey (by decide) rfl;rw[this];exact q.co
 have hde:DatC s0 (ZaC b s0 st i).1.1 (ZaC b s0 st i).2.2.2.1/\EvOk s0 (ZaC b s0 st i).2.2.2.1:=by
  show DatC s0 (Zaq b st.1 i).1.1 _/\_;rw[hcore,hevs];cases hr:i.2.2.1
  ·exact ZWj h q.dat q.ok _ _ _ (by rw[hl2,hr])
  ·exact ZTb q.ok _ _ _ _ (by rw[hl2,hr])
 exact⟨ZR4 b s0 st i m0 h q.mem hmv,hcons,hde.1,hde.2⟩
def Pre (b:BRDT) (m0:List Cell) (s0:TC) (ev:List EVTT):Prop:=∀a t,ev=a++t->NoD a->Good b.2.1 m0 s0 a
variable {b:BRDT} {m0:List Cell}
theorem ZY7 {st:STT} (h:Sem s0 st.1.1 st.2.2.2.1 st.2.2.2.2 st.2.2.1) (q:Sq b m0 s0 st):Good b.2.1 m0 s0 st.2.2.2.1:=
 ⟨q.ok,((Zjr _ _ _ _).1 (by rw[<-h.hit];exact q.co)).1⟩
theorem ZHV (b:BRDT) (s0:TC) (st:STT) (i:INPT) (h:Sem s0 st.1.1 st.2.2.2.1 st.2.2.2.2 st.2.2.1) (hmv:Zdn b st.1 i=true):∃e,(ZaC b s0 st i).2.2.2.1=st.2.2.2.1++[e]/\e.1=5:=by
 have hp:=hmv;unfold Zdn at hp;rw[Yc] at hp;have hp:=hp.1;unfold pinS at hp;rw[(Zju b (ZE b st.1 i) i).1] at hp;obtain⟨hr,h8⟩:=Zyt hp;have h8':st.1.1.2.2.2.2.1=8:=by
  have:=h.nx;have h1:(decide (st.1.1.2.2.2.2.1<1)||decide (st.1.1.2.2.2.2.1>9))=false:=by simp;omega
  have h8:Zao st.1.1.2.2.2.2.1=8:=h8;simp only[Zao,h1,Yb] at h8;exact h8
 have he:(ZaC b s0 st i).2.2.2.1=evE st.2.2.2.1 st.1.1 (Zcm b (ZE b st.1 i) i) (busS b (ZE b st.1 i) i).2 (Zaq b st.1 i).2.2.2.2.1 (Zdn b st.1 i):=rfl;rw[he,hmv];have hf:=Zkw (c:=st.1.1) (d:=(busS b (ZE b st.1 i) i).2) h8' hr (λx=>rfl);refine⟨(5,0,[],Zd4,false,false,false,false,(Zaq b st.1 i).2.2.2.2.1),?_,rfl⟩;unfold evE;rw[hr,hf];rfl
theorem ZTr {α:Type} {a t l:List α} {e:α} (h:l++[e]=a++t):(∃t',l=a++t')\/a=l++[e]:=by
 rcases Y7 t with rfl|⟨t',y,rfl⟩
 ·right;simpa using h.symm
 ·left;rw[Y8,<-List.append_assoc] at h;exact⟨t',(List.append_inj' h rfl).1⟩
theorem ZU0 (h:Pre b m0 s0 ev) (h5:e.1=5):Pre b m0 s0 (ev++[e]):=λa t hq hn=>by
 rcases ZTr hq with ⟨t',q⟩|q
 ·exact h a t' q hn
 ·exact (hn e (by rw[q];simp) h5).elim
theorem Zut (h:Good b.2.1 m0 s0 ev):Pre b m0 s0 ev:=λa t hq _=>by rw[hq] at h;exact h.left
theorem ZHc (h:Pre b m0 s0 ev) (hd:¬NoD ev) (t:List EVTT):Pre b m0 s0 (ev++t):=λa t' hq hn=>by
 rcases List.append_eq_append_iff.1 hq with ⟨c,h1,_⟩|⟨c,h1,_⟩
 ·exact (hd (by rw[h1] at hn;exact hn.left)).elim
 ·exact h a c h1 hn
theorem ZHb (b:BRDT) (m0:List Cell) (s0:TC):∀(l:List INPT) (st:STT),Sem s0 st.1.1 st.2.2.2.1 st.2.2.2.2 st.2.2.1->(NoD st.2.2.2.1->Sq b m0 s0 st)->Pre b m0 s0 st.2.2.2.1->
  (NoD (Za0 b s0 st l).2.2.2.1->Sq b m0 s0 (Za0 b s0 st l))/\Pre b m0 s0 (Za0 b s0 st l).2.2.2.1
 |[],st,_,q,p=>⟨q,p⟩
 |i::l,st,h,q,p=>by
  have h':=Zxv b s0 st i h;refine ZHb b m0 s0 l (ZaC b s0 st i) h' ?_ ?_
  ·intro hn;cases hmv:Zdn b st.1 i
   ·obtain⟨t,ht⟩:=ZSV st.2.2.2.1 st.1.1 (Zaq b st.1 i).2.2.1 (Zaq b st.1 i).2.2.2.1 (Zaq b st.1 i).2.2.2.2.1 (Zaq b st.1 i).2.2.2.2.2;have ht:(ZaC b s0 st i).2.2.2.1=st.2.2.2.1++t:=ht;exact ZFV b m0 s0 st i h (q (by rw[ht] at hn;exact hn.left)) hmv
   ·obtain⟨e,he,h5⟩:=ZHV b s0 st i h hmv;exact (hn e (by rw[he];simp) h5).elim
  ·cases hmv:Zdn b st.1 i
   ·by_cases hd:NoD st.2.2.2.1
    ·exact Zut (ZY7 h' (ZFV b m0 s0 st i h (q hd) hmv))
    ·obtain⟨t,ht⟩:=ZSV st.2.2.2.1 st.1.1 (Zaq b st.1 i).2.2.1 (Zaq b st.1 i).2.2.2.1 (Zaq b st.1 i).2.2.2.2.1 (Zaq b st.1 i).2.2.2.2.2;have ht:(ZaC b s0 st i).2.2.2.1=st.2.2.2.1++t:=ht;rw[ht];exact ZHc p hd t
   ·obtain⟨e,he,h5⟩:=ZHV b s0 st i h hmv;rw[he];exact ZU0 p h5
theorem ZUi (b:BRDT) (l:List INPT) (hg:smG b.2.1=true) (hm:b.2.2.2.2.2.2.length<=100000) (hv:ZcQ b=0):Pre b (normX b.2.2.2.2.2.2) (Zdq b) (Zgh b l).1.2.2.1:=by
 have hx:((wNew b).2 !=0)=false:=by rw[(Zsh b hg hm).2.1,hv];rfl
 obtain⟨hs,hi⟩:=ZIn b (ZRM b hg hm hx);have h0:=((Zsh b hg hm).2.2 (by simpa using hx)).2;unfold Zgh;rw[hx,<-hs];simp only[Yb];have hsq:Sq b (normX b.2.2.2.2.2.2) (Z3 b) (ZbD b):=by refine⟨h0,trivial,?_,λl1 e l2 hq=>by simp[ZbD] at hq⟩;unfold ZbD;rw[ZRM b hg hm hx];rfl
 have hp0:Pre b (normX b.2.2.2.2.2.2) (Z3 b) (ZbD b).2.2.2.1:=Zut ⟨hsq.ok,Tv⟩;obtain⟨hq,hp⟩:=ZHb b (normX b.2.2.2.2.2.2) (Z3 b) l (ZbD b) hi (λ_=>hsq) hp0;have hse:=ZsQ b (Z3 b) l (ZbD b) hi;generalize Za0 b (Z3 b) (ZbD b) l=st at hq hp hse;unfold endS;cases hb:ZcG st.1.1
 ·exact hp
 ·simp only[Ya];by_cases hd:NoD st.2.2.2.1
  ·refine Zut ⟨(hq hd).ok.snoc (ZvP rfl),?_⟩;rw[ZgT];have:=(hq hd).co;rw[hse.hit] at this;exact this
  ·exact ZHc hp hd _
theorem ZZg (k:Int):ZbC k=(k==1||(k==2||(k==4||(k==6||(k==8||k==9))))):=rfl
def insL (l:List TY):List Int:=datL (l.filter λx=>inK x.1)
theorem ZSH (g:List GT) (a a':TC) (s:Int) (ha:∀g,Zh a' s g=Zh a s g):∀(r pre:List Int) (m:List Cell) (ins:List Int) (o:List (Int×Int)) (n:Nat),r.length<n->(cyX a s pre r).length=r.length->r=datL (cyX a s pre r)->Cons g m (cyX a s pre r)->(Zh a s (pre++r)).2=false->ins=insL (cyX a s pre r)->
  ∃o',goX a' s n pre (g,m,ins,o)=(pre++r,(g,wrL g m (cyX a s pre r),[],o'))
 |[],pre,m,ins,o,n+1,_,_,_,_,hn,hi=>by rw[Yw] at hn|-;rw[ZlT,ha,hn];subst hi;exact⟨o,rfl⟩
 |b::r,pre,m,ins,o,n+1,hlt,hl,hd,hc,hn,hi=>by
  cases hnx:(Zh a s pre).2
  ·rw[Zhr,hnx] at hl;simp at hl
  ·have hcy:cyX a s pre (b::r)=ZeJ a (Zh a s pre).1 b::cyX a s (pre++[b]) r:=by rw[Zhr,hnx];rfl
   rw[hcy] at hl hd hc hi|-;simp only[List.length_cons,Nat.add_right_cancel_iff] at hl hlt;have hd1:b=(ZeJ a (Zh a s pre).1 b).2.2.1:=(List.cons.inj hd).1;have hd2:r=datL (cyX a s (pre++[b]) r):=(List.cons.inj hd).2;obtain⟨hc1,hc2⟩:=hc;have hok:=Z0G a s pre hnx;rw[ZlT,ha,hnx];simp only[Ya];generalize hx:(Zh a s pre).1=x at hd1 hc1 hc2 hi hok|-;have p1:(ZeJ a x b).1=x.1:=rfl;have p2:(ZeJ a x b).2.1=x.2.1:=rfl;have p3:(ZeJ a x b).2.2.1=bif ZbC x.1 then b else x.2.2.1:=rfl
   have hstep:∃o2,doX x (g,m,ins,o)=(b,(g,wrY g m (ZeJ a x b),insL (cyX a s (pre++[b]) r),o2)):=by
    have hii:ins=bif inK x.1 then b::insL (cyX a s (pre++[b]) r) else insL (cyX a s (pre++[b]) r):=by
     rw[hi];unfold insL datL;rw[List.filter_cons,p1];cases inK x.1
     ·rfl
     ·simp only[Ya,if_true,YaQ];rw[<-hd1]
    unfold doX wrY;rw[p1,p2,<-hd1];rw[ZZg] at p3;by_cases k1:x.1=1
    ·have:=hc1 (by rw[p1,k1];rfl);rw[p2,<-hd1] at this;rw[k1] at hii|-;rw[hii,this];exact⟨o,rfl⟩
    by_cases k2:x.1=2
    ·have:=hc1 (by rw[p1,k2];rfl);rw[p2,<-hd1] at this;rw[k2] at hii|-;rw[hii,this];exact⟨o,rfl⟩
    by_cases k4:x.1=4
    ·have:=hc1 (by rw[p1,k4];rfl);rw[p2,<-hd1] at this;rw[k4] at hii|-;rw[hii,this];exact⟨o,rfl⟩
    by_cases k6:x.1=6
    ·rw[k6] at hii|-;rw[hii];exact⟨o,rfl⟩
    by_cases k8:x.1=8
    ·rw[k8] at hii|-;rw[hii];exact⟨o,rfl⟩
    by_cases k9:x.1=9
    ·rw[k9] at hii|-;rw[hii];exact⟨o,rfl⟩
    have b1:(x.1==1)=false:=by simpa using k1
    have b2:(x.1==2)=false:=by simpa using k2
    have b4:(x.1==4)=false:=by simpa using k4
    have b6:(x.1==6)=false:=by simpa using k6
    have b8:(x.1==8)=false:=by simpa using k8
    have b9:(x.1==9)=false:=by simpa using k9
    rw[b1,b2,b4,b6,b8,b9] at p3;have hbx:b=x.2.2.1:=by rw[p3] at hd1;exact hd1
    have hin:inK x.1=false:=by unfold inK;rw[b6,b8,b9];rfl
    rw[hin] at hii;rw[hii];by_cases k3:x.1=3
    ·rw[k3,hbx];exact⟨o,rfl⟩
    by_cases k5:x.1=5
    ·rw[k5,hbx];exact⟨o,rfl⟩
    by_cases k7:x.1=7
    ·rw[k7,hbx];exact⟨_,rfl⟩
    have b3:(x.1==3)=false:=by simpa using k3
    have b5:(x.1==5)=false:=by simpa using k5
    have b7:(x.1==7)=false:=by simpa using k7
    have hz:b=0:=by
     rw[hbx];unfold okK at hok;have:(decide (1<=x.1)&&decide (x.1<=9))=false:=by simp only[Yae,Y4];omega
     rw[this] at hok;simpa using hok
    rw[b1,b2,b4,b3,b5,b7,b6,b8,b9,hz];exact⟨o,rfl⟩
   obtain⟨o2,hs⟩:=hstep;rw[hs];have ih:=ZSH g a a' s ha r (pre++[b]) (wrY g m (ZeJ a x b)) _ o2 n (by omega) hl hd2 hc2 (by rw[Yn];exact hn) rfl;rw[Yn] at ih;exact ih
theorem ZSR (c:TC) (e:EVTT) (he:e.1=Zf6 e.2.1) (g:List Int) (l:LINT):
  (bif e.1==3 then (λq:TC=>(q.1,q.2.1,q.2.2.1,q.2.2.2.1,q.2.2.2.2.1,q.2.2.2.2.2.1,e.2.2.2.2.2.1,e.2.2.2.2.1,q.2.2.2.2.2.2.2.2)) (finX (Zi (ZeK c e) e.2.1) e.2.1 g l) else finX (Zi (ZeK c e) e.2.1) e.2.1 g l)=finX (ZeK (Zi c e.2.1) e) e.2.1 g l:=by
 obtain⟨k,s,r⟩:=e;simp only at he|-;have hw:Zf6 s=bif Zc s then 3 else bif s==5 then 2 else 1:=rfl
 have hin:Zc s=(decide (s>=1)&&decide (s<=4)):=rfl;rw[he,hw];cases hi:Zc s
 ·have h3:((bif false then (3:Int) else bif s==5 then 2 else 1)==3)=false:=by cases s==5<;>rfl
  rw[h3];simp only[Yb];have:∀k,Zi (ZeK c (k,s,r)) s=ZeK (Zi c s) (k,s,r):=λk=>by
   unfold Zi ZfB;simp only[RT.val];cases hs:decide (s<1)||decide (s>5)
   ·have h5:s=5:=by rw[hi] at hin;simp at hs hin;have:=hin hs.1;omega
    subst h5;rfl
   ·rfl
  rw[this]
 ·have h3:((bif true then (3:Int) else bif s==5 then 2 else 1)==3)=true:=rfl;rw[h3];simp only[Ya];rw[hi] at hin;have hs:s=1\/s=2\/s=3\/s=4:=by simp at hin;omega
  unfold finX;rw[hi];rcases hs with rfl|rfl|rfl|rfl<;>rfl
def ZOj (m:List (Int×Int)):Bool:=Nat.ble (m.length+100000) most
theorem Zxz {m:List (Int×Int)}:ZOj m=true↔m.length+100000<=most:=by simp[ZOj]
def ZEy:En:=Zg ZEx Zwf (λa=>some (smG a.2.1&&ZOj a.2.2.1)) (λa=>ZAJ a.1 a.2.1 a.2.2.1 a.2.2.2.1 a.2.2.2.2.1 a.2.2.2.2.2)
theorem ZzH:Za Tryz.prog 37 ZEy:=ZhQ ZV2 λa h=>by rw[Yc] at h;exact Z2N a.1 a.2.1 a.2.2.1 a.2.2.2.1 a.2.2.2.2.1 a.2.2.2.2.2 h.1 (by have:=Zxz.1 h.2;omega)
theorem ZEr (g:List Int):ZIl g g=true:=by simp[ZIl,ZEs,RT.val]
end
end Go.Proofs.YtghoimllhpjkjaaGreat
open Go.Proofs.Tryz (prog)
open Go.IntKind (u8 u16 i64)
open Go Go.S3 Go.Proofs
namespace Go.Proofs.YtghoimllhpjkjaaGreat
noncomputable section
abbrev Zzx:List Sh:=[Sh.agg Zt,Sh.agg Zbb]
abbrev ZpC:Rs:=Rs.one (Sh.one (R.sl (R.int u8)))
def ZLK:LS:={n:=36,Sl:=[(5,.tip 0),(10,.code (Sh.one (R.sl (RY)))),(11,.code (Sh.one (R.int i64))),(12,.code (Sh.one (R.int i64)))],Bx:=[[.many Zt],[.many Zbb]],Sg:=[⟨(R.int u8),5,true⟩]}
def Zfh (a:List TY×Int×Int×TC×EVTT×List Int×PUnit):RT (Option (Go1 (List TY×Int×Int×TC×EVTT×List Int×PUnit))):=
 let x1:QT12:=R.get (RY) a.1 a.2.2.1
 let x2:=x1.1
 let x3:=x2==6||(x2==8||x2==9)
 let x4:List Int:=a.2.2.2.2.2.1++[x1.2.2.1]
 .br (decide (a.2.2.1<a.2.1)) (.br (!Ze a.2.2.1 (List.length a.1)||(!x3||Nat.ble (List.length x4) most)) (.br (Ze a.2.2.1 (List.length a.1)) (.Lf (some (Go1.cont (a.1,a.2.1,i64.wrap (a.2.2.1+1),a.2.2.2.1,a.2.2.2.2.1,bif x3 then x4 else a.2.2.2.2.2.1,PUnit.unit)))) (.Lf none)) (.Lf none)) (.Lf (some (Go1.brk (a.1,a.2.1,a.2.2.1,a.2.2.2.1,a.2.2.2.2.1,a.2.2.2.2.2.1,PUnit.unit))))
def ZrS:Ora:=Za2 false ZLK Zfh (λa=>1000000000000)
theorem Zzy:ZaH (envX prog [(52,Zmc)] [] 255 8) (.block 0 (.loop (Z7 Tryz.f61.body 0))) ZrS:=
 loopP ⟨Zmb,Tv⟩
def Zjd (c:TC) (e:EVTT):RT (Option (List Int)):=
 let x1:List TY×Int×Int×TC×EVTT×List Int×PUnit:=(Zp c e,iN (List.length (Zp c e)),0,c,e,[],())
 let x2:=runF false Zfh (λa=>1000000000000) x1
 .br (Zqo e) (.br (okB x2) (.Lf (some (getO (false,x1) x2).2.2.2.2.2.2.1)) (.Lf none)) (.Lf none)
def ZpD (c:TC) (e:EVTT):List Int:=getO ZpC.Df (Zjd c e).val
def ZlS (c:TC) (e:EVTT):Bool:=okB (Zjd c e).val
def Zwc:En:=Zg Zzx ZpC (λa=>some (ZlS a.1 a.2)) (λa=>ZpD a.1 a.2)
theorem ZrR:Za prog 61 Zwc:=
 pureP 255 [(52,Zmc)] [(0,ZrS)] Zzx ZpC ⟨Zmb,Tv⟩ Tryz.func61 Tryz.call61 ⟨Zzy,Tv⟩ (t:=λa=>Zjd a.1 a.2)
abbrev Zzq:List Sh:=[Sh.one (R.sl (R.int i64))]
abbrev ZpB:Rs:=Rs.one (Sh.one R.bool)
def ZLJ:LS:={n:=132,Sl:=[(2,.code (Sh.one R.bool)),(3,.fix (A.loc 0 0)),(4,.fix (A.loc 1 0)),(5,.fix (A.loc 2 0)),(6,.code (Sh.one rcCE)),(28,.code (Sh.one (R.sl Zbb))),(29,.code (Sh.one (R.int i64))),(30,.code (Sh.one (R.int i64)))],Bx:=[[.many (R.Pq (R.int i64) (R.Pq rcRG (R.Pq (R.int i64) (R.Pq (R.int u8) (R.Pq (R.int u8) (R.Pq R.bool rcCE))))))],[.many (R.Pq (R.sl ZOp) (R.Pq (R.sl ZAY) (R.Pq (R.sl Zbb) (R.Pq (R.sl Zt) (R.Pq (R.Pq Zt (R.Pq (R.int i64) (R.Pq (R.sl (R.int u8)) (R.Pq (RY) (R.Pq (R.int i64) R.bool))))) (R.Pq rcCE (R.Pq Zba (R.Pq (R.Pq (R.int u16) (R.Pq (R.int u8) (R.int i64))) (R.Pq (R.int i64) (R.sl (R.Pq (R.int u8) (R.int u8))))))))))))],[.many Zt]],Sg:=[]}
def Zcd (a:QT17):RT (Option (Go1 (QT17))):=
 let x1:EVTT:=R.get Zbb a.2.2.1 a.2.2.2.2.1
 let x2:=x1.1
 let x3:=x2==5
 let x4:= !x3||kKbC
 let x5:= !x4
 let x6:=x2==3
 let x7:=x2==1||(x2==2||x6)
 let x8:= !x7
 let x9:=ZlS a.2.2.2.2.2.2.2.1 x1
 let x10:=x8||(!x9||smG a.2.2.2.2.2.1.2.1&&ZOj a.2.1)
 let x11:= !x10
 let p1:=x11::x3::x5::(!Ze a.2.2.2.2.1 (List.length a.2.2.1))::[]
 let x12:=x8||x9
 let x13:=a.2.2.2.2.2.2.2.1.2.2.2.2.2
 let x14:=x1.2
 let x15:=x14.2
 let x16:=x15.2
 let x17:=x16.2
 let x18:=x17.2
 let x19:=x18.1
 let x20:=x17.1
 let x21:=x18.2
 let x22:=ZAJ (a.2.2.2.2.2.2.2.1.1,a.2.2.2.2.2.2.2.1.2.1,a.2.2.2.2.2.2.2.1.2.2.1,a.2.2.2.2.2.2.2.1.2.2.2.1,a.2.2.2.2.2.2.2.1.2.2.2.2.1,x13.1,x19,x20,x21.2.1,x21.1,x13.2.2.2.2.2) a.2.2.2.2.2.1.2.1 a.2.1 x14.1 (ZpD a.2.2.2.2.2.2.2.1 x1) x16.1
 let x23:=x22.1
 let x24:=x23.1
 let x25:=Zan a.2.2.2.2.2.2.2.1 x1
 let x26:=x23.2
 let x27:=x26.1
 let x28:=x27.1
 let x29:=x25.2
 let x30:=x29.1
 let x31:=x27.2
 let x32:=x31.1
 let x33:=x30.2
 let x34:=x31.2
 let x35:=x34.1
 let x36:=x33.2
 let x37:=x34.2
 let x38:=x37.1
 let x39:=x36.2
 let x40:=x37.2
 let x41:=x40.1
 let x42:=x39.2
 let x43:=x40.2
 let x44:=x43.1
 let x45:=x42.2
 let x46:=x43.2
 let x47:=x46.1
 let x48:=x45.2
 let x49:=x46.2
 let x50:=x49.1
 let x51:=x50.1
 let x52:=x48.2
 let x53:=x52.1
 let x54:=x50.2
 let x55:=x54.1
 let x56:=x53.2
 let x57:=x54.2
 let x58:=x57.1
 let x59:=x56.2
 let x60:=x57.2
 let x61:=x60.1
 let x62:=x59.2
 let x63:=x60.2
 let x64:=x63.1
 let x65:=x62.2
 let x66:=x63.2
 let x67:=x66.1
 let x68:=x65.2
 let x69:=x66.2
 let x70:=x49.2
 let x71:=x70.1
 let x72:=x52.2
 let x73:=x70.2
 let x74:=x26.2
 let x75:=x74.1
 let x76:=x29.2
 let x77:=x74.2
 let x78:=x77.1
 let x79:=x76.2
 let x80:=x77.2
 let x81:=x80.1
 let x82:=x79.2
 let x83:=x80.2
 let x84:=x83.1
 let x85:=x82.2
 let x86:=x83.2
 let x87:=bif x6 then x19 else x86.1
 let x88:=x85.2
 let x89:=x86.2
 let x90:=bif x6 then x20 else x89.1
 let x91:=x88.2
 let x92:=x89.2
 let x94:=x91.2
 let x105:= !(x24==x25.1&&(x28==x30.1&&(x32==x33.1&&(x35==x36.1&&(x38==x39.1&&(x41==x42.1&&(x44==x45.1&&(x47==x48.1&&(x51==x53.1&&(x55==x56.1&&(x58==x59.1&&(x61==x62.1&&(x64==x65.1&&(x67==x68.1&&(x69==x68.2&&(x71==x72.1&&(x73==x72.2&&(x75==x76.1&&(x78==x79.1&&(x81==x82.1&&(x84==x85.1&&(x87==x88.1&&(x90==x91.1&&(R.eqf (R.Pq R.bool (R.Pq R.bool (R.Pq R.bool (R.Pq R.bool R.bool)))) x92 x94 true))))))))))))))))))))))))
 let x106:=x22.2
 let x107:= !ZIl x106.2.2 x15.1
 let x108:=decide (a.2.2.2.2.1>=iN (List.length a.2.2.2.2.2.2.1.2.2.2.1))
 let p2:=x108::x107::x105::x8::(!x12)::p1
 let x109:List (Int×Int)×List EVTT×Int×Int×BRDT×RUNT×TC×PUnit:=(a.2.1,a.2.2.1,a.2.2.2.1,a.2.2.2.2.1,a.2.2.2.2.2.1,a.2.2.2.2.2.2.1,a.2.2.2.2.2.2.2.1,PUnit.unit)
 let x110:TC:=R.get Zt a.2.2.2.2.2.2.1.2.2.2.1 a.2.2.2.2.1
 let x111:=x110.2
 let x112:=x111.1
 let x113:=x112.2
 let x114:=x113.2
 let x115:=x114.2
 let x116:=x115.2
 let x117:=x116.2
 let x118:=x117.2
 let x119:=x118.2
 let x120:=x119.1
 let x121:=x120.2
 let x122:=x121.2
 let x123:=x122.2
 let x124:=x123.2
 let x125:=x124.2
 let x126:=x119.2
 let x127:=x111.2
 let x128:=x127.2
 let x129:=x128.2
 let x130:=x129.2
 let x131:=x130.2
 let x132:=x131.2
 let x133:=x132.2
 let x137:List EVTT×Int×Int×BRDT×RUNT×TC×PUnit:=(a.2.2.1,a.2.2.2.1,i64.wrap (a.2.2.2.2.1+1),a.2.2.2.2.2.1,a.2.2.2.2.2.2.1,x25,PUnit.unit)
 let x138:List EVTT:=[x1]
 .br (decide (a.2.2.2.2.1<a.2.2.2.1)) (.br (orR p2 (Ze a.2.2.2.2.1 (List.length a.2.2.2.2.2.2.1.2.2.2.1))) (.br (orR p1 x12) (.br (!Ze a.2.2.2.2.1 (List.length a.2.2.1)||(x5||(x3||x10))) (.br (!Ze a.2.2.2.2.1 (List.length a.2.2.1)||x4) (.br (Ze a.2.2.2.2.1 (List.length a.2.2.1)) (.br (x3) (.Lf (some (Go1.ret (true,x109)))) (.br (x7) (.br (x105||(x107||(x108|| !(x24==x110.1&&(x28==x112.1&&(x32==x113.1&&(x35==x114.1&&(x38==x115.1&&(x41==x116.1&&(x44==x117.1&&(x47==x118.1&&(x51==x120.1&&(x55==x121.1&&(x58==x122.1&&(x61==x123.1&&(x64==x124.1&&(x67==x125.1&&(x69==x125.2&&(x71==x126.1&&(x73==x126.2&&(x75==x127.1&&(x78==x128.1&&(x81==x129.1&&(x84==x130.1&&(x87==x131.1&&(x90==x132.1&&(R.eqf (R.Pq R.bool (R.Pq R.bool (R.Pq R.bool (R.Pq R.bool R.bool)))) x92 x133 true))))))))))))))))))))))))))) (.Lf (some (Go1.ret (false,x109)))) (.Lf (some (Go1.cont (a.1,x106.1,x137))))) (.br (ZI4 a.2.2.2.2.2.1.2.1 a.2.1 x138) (.Lf (some (Go1.cont (a.1,memX a.2.2.2.2.2.2.2.1 a.2.2.2.2.2.1.2.1 a.2.1 x138,x137)))) (.Lf none)))) (.Lf none)) (.Lf none)) (.Lf none)) (.Lf none)) (.Lf none)) (.Lf (some (Go1.brk (a.1,x109))))
def ZrQ:Ora:=Za2 true ZLJ Zcd (λa=>1000000000000)
theorem Zzr:ZaH (envX prog [(37,ZEy),(41,ZEt),(45,kKbE),(48,ZjF),(54,ZSo),(58,ZjC),(60,ZEo),(61,Zwc)] [] 16383 8) (.block 0 (.loop (Z7 Tryz.f13.body 0))) ZrQ:=
 loopP ⟨ZzH,ZzB,ZYb,Zhu,ZIg,Zie,Zzt,ZrR,Tv⟩
def Zjc (n:List Int):RT (Option (Bool)):=
 let x1:QT17:=(false,(Zwb n false).1.2.2.2.2.2.2,(Zwb n false).2.2.2.1,iN (List.length (Zwb n false).2.2.2.1),0,(Zwb n false).1,(Zwb n false).2,Zdq (Zwb n false).1,())
 let x2:=runF true Zcd (λa=>1000000000000) x1
 let x3:=getO (false,x1) x2
 .br (!decide (iN (List.length n)>250)||kKbC) (.br (decide (iN (List.length n)>250)) (.Lf (some (true))) (.br (ZIh n false) (.br (okB x2) (.br x3.1 (.Lf (some x3.2.1)) (.br (kKbC) (.Lf (some (true))) (.Lf none))) (.Lf none)) (.Lf none))) (.Lf none)
def ZEm (n:List Int):Bool:=getO ZpB.Df (Zjc n).val
def Zv8 (n:List Int):Bool:=okB (Zjc n).val
def ZVP:En:=Zg Zzq ZpB (λa=>some (Zv8 a)) (λa=>ZEm a)
theorem lBSteps_ok:Za prog 13 ZVP:=
 pureP 16383 [(37,ZEy),(41,ZEt),(45,kKbE),(48,ZjF),(54,ZSo),(58,ZjC),(60,ZEo),(61,Zwc)] [(0,ZrQ)] Zzq ZpB ⟨ZzH,ZzB,ZYb,Zhu,ZIg,Zie,Zzt,ZrR,Tv⟩ Tryz.func13 Tryz.call13 ⟨Zzr,Tv⟩ (t:=λa=>Zjc a)
theorem ZYr (g:List GT) (m:List Cell) (x:TY) (h:Vld m):Vld (wrY g m x):=by
 unfold wrY;cases x.1==3||x.1==5
 ·exact h
 ·exact Zl2 _ _ _ _
theorem ZAc (g:List GT):∀(l:List TY) (m:List Cell),Vld m->Vld (wrL g m l)
 |[],m,h=>h
 |x::l,m,h=>ZAc g l (wrY g m x) (ZYr g m x h)
theorem ZYu (c:TC) (g:List GT) (m:List Cell) (e:EVTT) (h:Vld m):Vld (wrE c g m e):=by
 unfold wrE;cases e.1==5
 ·exact ZAc g _ m h
 ·exact Zl2 _ _ _ _
theorem ZVY (l:List TY):(insL l).length<=l.length:=by unfold insL datL;rw[List.length_map];exact List.length_filter_le _ _
theorem ZSx (l:List TY) (i:Nat) (h:i<l.length):insL (l.take (i+1))=insL (l.take i)++(bif inK (R.get RY l (i:Int)).1 then [(R.get RY l (i:Int)).2.2.1] else []):=by rw[ZAD (r:=RY) l i h];unfold insL datL;rw[List.filter_append,List.map_append];cases hk:inK (R.get RY l (i:Int)).1<;>simp[List.filter,hk]
theorem ZSy (c:TC) (e:EVTT) (h:e.2.2.1.length<=1000000):ZlS c e=true/\ZpD c e=insL (Zp c e):=by
 have hms:=mst;have hl:=Zwt c e;have hre:Zqo e=true:=Zau h;obtain⟨q,hq,h1⟩:=ZH (fl:=false) (t:=Zfh) (fuel:=λ_=>1000000000000)
  (λa=>∃i:Nat,i<=(Zp c e).length/\a=(Zp c e,((Zp c e).length:Int),(i:Int),c,e,insL ((Zp c e).take i),()))
  (λa=>Int.toNat (a.2.1-a.2.2.1)) (λq=>q=(false,(Zp c e,((Zp c e).length:Int),((Zp c e).length:Int),c,e,insL (Zp c e),())))
  (by
   rintro a ⟨i,hi,rfl⟩;by_cases hlt:i<(Zp c e).length
   ·left;have d:decide ((i:Int)<((Zp c e).length:Int))=true:=Yq (by omega);have hin:Ze (i:Int) (Zp c e).length=true:=ZC.2 ⟨by omega,by omega⟩;have w:IntKind.wrap .i64 ((i:Int)+1)=((i+1:Nat):Int):=by rw[wrap_i64 _ (by omega) (by omega)];omega
    have hc:=ZVY ((Zp c e).take i);have hb:∀x:Int,Nat.ble (insL ((Zp c e).take i)++[x]).length most=true:=λx=>Zau (by rw[YD] at hc;simp;omega)
    refine⟨(Zp c e,((Zp c e).length:Int),((i+1:Nat):Int),c,e,insL ((Zp c e).take (i+1)),()),?_,⟨i+1,by omega,rfl⟩,by simp only;omega⟩;rw[ZSx _ i hlt];simp only[Zfh,RT.val,d,hin,w,hb,Yh,Ya];unfold inK;cases hk:(R.get RY (Zp c e) (i:Int)).1==6||((R.get RY (Zp c e) (i:Int)).1==8||(R.get RY (Zp c e) (i:Int)).1==9)
    ·simp only[Yb,Yw]
    ·simp only[Ya]
   ·right;left;have e1:i=(Zp c e).length:=by omega
    subst e1;have d:decide (((Zp c e).length:Int)<((Zp c e).length:Int))=false:=Yv (by omega);refine⟨(Zp c e,((Zp c e).length:Int),((Zp c e).length:Int),c,e,insL (Zp c e),()),?_,rfl⟩;rw[YaR]
    simp only[Zfh,RT.val,d,Yb])
  (Zp c e,((Zp c e).length:Int),0,c,e,[],()) ⟨0,Yu _,rfl⟩ (by simp only;omega)
 subst h1;have hv:(Zjd c e).val=some (insL (Zp c e)):=by simp only[Zjd,RT.val,iN,hre,hq,okB,getO,Ya]
 exact⟨by simp only[ZlS,hv];rfl,by simp only[ZpD,hv,getO]⟩
theorem ZID (a:TC) (s:Int):∀(r pre:List Int),(cyX a s pre r).length=r.length->r=[]\/pre.length+r.length<=5
 |[],pre,_=>.inl rfl
 |b::r,pre,h=>by
  right;cases hnx:(Zh a s pre).2
  ·rw[Zhr,hnx] at h;simp at h
  ·rw[Zhr,hnx] at h;simp only[Ya,List.length_cons,Nat.add_right_cancel_iff] at h;have h5:pre.length<5:=by
    rcases Y9 pre.length 5 with h5|h5
    ·exact h5
    ·rw[ZHM a s pre h5] at hnx;simp at hnx
   rcases ZID a s r (pre++[b]) h with rfl|h2
   ·simp;omega
   ·simp only[Yd,List.length_singleton] at h2;simp only[List.length_cons];omega
theorem ZI0 (g:List GT) (c:TC) (e:EVTT) (M:List Cell) (hk:ZgS e.1=true) (ok:ZzV c e) (co:Cons g M (Zp c e)) (m:List Cell) (hm:normX m=M):
  ∃F o',ZAJ (ZeK c e) g m e.2.1 (insL (Zp c e)) e.2.2.2.1=(F,wrL g M (Zp c e),o',e.2.2.1)/\
   Zan c e=bif e.1==3 then (F.1,F.2.1,F.2.2.1,F.2.2.2.1,F.2.2.2.2.1,F.2.2.2.2.2.1,e.2.2.2.2.2.1,e.2.2.2.2.1,F.2.2.2.2.2.2.2.2) else F:=by
 obtain⟨h1,h2,h3⟩:=ok hk;have hcy:Zp c e=cyX (Zi c e.2.1) e.2.1 [] e.2.2.1:=by unfold Zp cycE;rw[hk];rfl
 rw[hcy] at co h2|-;have hln:(cyX (Zi c e.2.1) e.2.1 [] e.2.2.1).length=e.2.2.1.length:=by have:=congrArg List.length h2;unfold datL at this;rw[List.length_map] at this;exact this.symm
 have h5:e.2.2.1.length<6:=by
  rcases ZID _ _ _ _ hln with h|h
  ·rw[h];decide
  ·simp at h;omega
 have ha:∀q,Zh (Zi (ZeK c e) e.2.1) e.2.1 q=Zh (Zi c e.2.1) e.2.1 q:=λq=>Zi2 (ZNi (show unl (ZeK c e)=unl c from rfl) e.2.1) e.2.1 q
 obtain⟨o',ho⟩:=ZSH g (Zi c e.2.1) (Zi (ZeK c e) e.2.1) e.2.1 ha e.2.2.1 [] M _ [] 6 h5 hln h2 co h3 rfl;refine⟨finX (Zi (ZeK c e) e.2.1) e.2.1 e.2.2.1 e.2.2.2.1,o',?_,?_⟩
 ·unfold ZAJ Z1J ZFU;rw[hm,ho];rfl
 ·have:=ZSR c e h1 e.2.2.1 e.2.2.2.1;unfold Zan;rw[hk];exact this.symm
theorem Z2T {k:Int} (h:ZgS k=true):k=1\/k=2\/k=3:=by simpa [ZgS] using h
theorem ZWo (m:List Cell) (l:List EVTT) (i:Nat) (b:BRDT) (r:RUNT) (c:TC) (e:EVTT) (M:List Cell) (he:R.get Zbb l (i:Int)=e) (hlt:i<l.length) (hl:l.length<=1000000) (h5:e.1≠5) (hcp:R.get Zt r.2.2.2.1 (i:Int)=Zan c e) (hcl:r.2.2.2.1.length=l.length)
  (hg:smG b.2.1=true) (hm:normX m=M) (hml:m.length<=100000000) (hb:e.2.2.1.length<=1000000) (ok:ZzV c e) (co:Cons b.2.1 M (Zp c e)):
  ∃m',(Zcd (false,m,l,(l.length:Int),(i:Int),b,r,c,())).val=some (Go1.cont (false,m',l,(l.length:Int),((i+1:Nat):Int),b,r,Zan c e,()))/\normX m'=wrE c b.2.1 M e/\m'.length<=m.length+(e.2.2.1.length+1):=by
 have hms:=mst;have d:decide ((i:Int)<(l.length:Int))=true:=Yq (by omega);have hin:Ze (i:Int) l.length=true:=ZC.2 ⟨by omega,by omega⟩;have hin2:Ze (i:Int) r.2.2.2.1.length=true:=ZC.2 ⟨by omega,by omega⟩;have w:IntKind.wrap .i64 ((i:Int)+1)=((i+1:Nat):Int):=by rw[wrap_i64 _ (by omega) (by omega)];omega
 have d8:decide ((i:Int)>=iN r.2.2.2.1.length)=false:=Yv (by simp only[iN];omega);have b5:(e.1==5)=false:=by simpa using h5
 have hri:ZOj m=true:=Zxz.2 (by omega);obtain⟨k1,k2⟩:=ZSy c e hb;have hMv:Vld M:=hm▸Zdm m;have hML:M.length<=m.length:=hm▸ZbU m;have hE:wrE c b.2.1 M e=wrL b.2.1 M (Zp c e):=by unfold wrE;rw[b5];rfl
 have hElen:=ZMc c b.2.1 M e;cases hk:ZgS e.1
 ·--no instruction
  have hk':(e.1==1||(e.1==2||e.1==3))=false:=hk;rw[Yo,Yo] at hk';obtain⟨q1,q2,q3⟩:=hk';have hr:ZI4 b.2.1 m [e]=true:=Zxy.2 ⟨hg,by simp only[wgh];omega,by simp,λx hx=>by rw[YaO] at hx;subst hx;omega⟩;have hmx:memX c b.2.1 m [e]=wrE c b.2.1 M e:=by unfold memX;rw[hm];rfl
  refine⟨wrE c b.2.1 M e,?_,Zfb (ZYu c b.2.1 M e hMv),by omega⟩;unfold Zcd;simp only[RT.val,he,d,hin,w,b5,q1,q2,q3,hr,hmx,Zcg,Zbl,Yh,Ys,Yk,Yf,Yx,Yj,Ya,Yb]
 ·obtain⟨F,o',s1,s2⟩:=ZI0 b.2.1 c e M hk ok co m hm;refine⟨wrL b.2.1 M (Zp c e),?_,by rw[hE];exact Zfb (ZAc b.2.1 _ M hMv),by rw[<-hE];omega⟩;have s1':ZAJ (c.1,c.2.1,c.2.2.1,c.2.2.2.1,c.2.2.2.2.1,c.2.2.2.2.2.1,e.2.2.2.2.2.1,e.2.2.2.2.1,e.2.2.2.2.2.2.2.1,e.2.2.2.2.2.2.1,c.2.2.2.2.2.2.2.2.2.2) b.2.1 m e.2.1 (ZpD c e) e.2.2.2.1=(F,wrL b.2.1 M (Zp c e),o',e.2.2.1):=by rw[k2];exact s1
  have jb:=ZEr e.2.2.1;unfold Zcd;rcases Z2T hk with h|h|h
  ·have q1:(e.1==1)=true:=by rw[h];rfl
   have q2:(e.1==2)=false:=by rw[h];rfl
   have q3:(e.1==3)=false:=by rw[h];rfl
   rw[q3] at s2;simp only[Yb] at s2;simp only[RT.val,he,hcp,s2,s1',d,d8,hin,hin2,w,b5,q1,q2,q3,k1,hg,hri,jb,R.eqf_refl,YaH,Zcg,Zbl,Yh,Ys,Yk,Yf,Yx,Yj,YW,Ya,Yb]
  ·have q1:(e.1==1)=false:=by rw[h];rfl
   have q2:(e.1==2)=true:=by rw[h];rfl
   have q3:(e.1==3)=false:=by rw[h];rfl
   rw[q3] at s2;simp only[Yb] at s2;simp only[RT.val,he,hcp,s2,s1',d,d8,hin,hin2,w,b5,q1,q2,q3,k1,hg,hri,jb,R.eqf_refl,YaH,Zcg,Zbl,Yh,Ys,Yk,Yf,Yx,Yj,YW,Ya,Yb]
  ·have q1:(e.1==1)=false:=by rw[h];rfl
   have q2:(e.1==2)=false:=by rw[h];rfl
   have q3:(e.1==3)=true:=by rw[h];rfl
   rw[q3] at s2;simp only[Ya] at s2;simp only[RT.val,he,hcp,s2,s1',d,d8,hin,hin2,w,b5,q1,q2,q3,k1,hg,hri,jb,R.eqf_refl,YaH,Zcg,Zbl,Yh,Ys,Yk,Yf,Yx,Yj,YW,Ya,Yb]
theorem ZxG:∀(l:List EVTT) (c:TC) (i:Nat),i<l.length->R.get Zt (Zdk c l) (i:Int)=Zan (Zai c (l.take i)) (R.get Zbb l (i:Int))
 |[],c,i,h=>by simp at h
 |e::l,c,0,_=>rfl
 |e::l,c,i+1,h=>by
  have:=ZxG l (Zan c e) i (by simpa using h);have e1:R.get Zt (Zdk c (e::l)) ((i+1:Nat):Int)=R.get Zt (Zdk (Zan c e) l) (i:Int):=by simp[R.get,Zdk]
  have e2:R.get Zbb (e::l) ((i+1:Nat):Int)=R.get Zbb l (i:Int):=by simp[R.get]
  rw[e1,e2,this];rfl
theorem ZL0 (b:BRDT) (r:RUNT) (hg:smG b.2.1=true) (hm:b.2.2.2.2.2.2.length<=100000) (hcp:r.2.2.2.1=Zdk (Zdq b) r.2.2.1) (hp:Pre b (normX b.2.2.2.2.2.2) (Zdq b) r.2.2.1) (hl:r.2.2.1.length<=2001) (hb:EvB r.2.2.1 1000):
  ∃q,runF true Zcd (λ_=>1000000000000) (false,b.2.2.2.2.2.2,r.2.2.1,(r.2.2.1.length:Int),0,b,r,Zdq b,())=some q/\(q.1=true->q.2.1=true):=by
 have hms:=mst;refine ZH (fl:=true) (t:=Zcd) (fuel:=λ_=>1000000000000)
  (λa=>∃(i:Nat) (m:List Cell),i<=r.2.2.1.length/\NoD (r.2.2.1.take i)/\normX m=memF b.2.1 (Zdq b) (normX b.2.2.2.2.2.2) (r.2.2.1.take i)/\m.length<=100000+1001*i/\a=(false,m,r.2.2.1,(r.2.2.1.length:Int),(i:Int),b,r,Zai (Zdq b) (r.2.2.1.take i),()))
  (λa=>Int.toNat (a.2.2.2.1-a.2.2.2.2.1)) _ ?_ _ ⟨0,b.2.2.2.2.2.2,Yu _,λe he=>by simp at he,rfl,by omega,rfl⟩ (by simp only;omega)
 rintro a ⟨i,m,hi,hn,hmm,hml,rfl⟩;by_cases hlt:i<r.2.2.1.length
 ·have d:decide ((i:Int)<(r.2.2.1.length:Int))=true:=Yq (by omega);have hin:Ze (i:Int) r.2.2.1.length=true:=ZC.2 ⟨by omega,by omega⟩;obtain⟨e,he⟩:∃e,R.get Zbb r.2.2.1 (i:Int)=e:=⟨_,rfl⟩;have htk:r.2.2.1.take (i+1)=r.2.2.1.take i++[e]:=by rw[<-he];exact ZAD (r:=Zbb) r.2.2.1 i hlt
  have hmem:e∈r.2.2.1:=List.mem_of_mem_take (i:=i+1) (by rw[htk];simp);have hbe:=hb e hmem;by_cases h5:e.1=5
  ·right;right;have b5:(e.1==5)=true:=by rw[h5];rfl
   refine⟨(true,m,r.2.2.1,(r.2.2.1.length:Int),(i:Int),b,r,Zai (Zdq b) (r.2.2.1.take i),()),rfl,?_,λ_=>rfl⟩;unfold Zcd;simp only[RT.val,he,d,hin,b5,ZSk.1,Zcg,Zbl,Yh,Ys,Yf,Yk,Yx,Yj,Ya]
  ·left;have hn':NoD (r.2.2.1.take (i+1)):=by
    rw[htk];intro x hx;rcases Yaa.1 hx with hx|hx
    ·exact hn x hx
    ·rw[YaO] at hx;subst hx;exact h5
   have hgood:=hp (r.2.2.1.take (i+1)) (r.2.2.1.drop (i+1)) (Yad _ _).symm hn';rw[htk] at hgood;have hok:=hgood.ok (r.2.2.1.take i) e [] rfl;have hco:=hgood.co;rw[ZgT] at hco;have hco:=((Zjr _ _ _ _).1 hco).2;rw[<-ZHY _ _ _ _ hn] at hco;obtain⟨m',r1,r2,r3⟩:=ZWo m r.2.2.1 i b r (Zai (Zdq b) (r.2.2.1.take i)) e (memF b.2.1 (Zdq b) (normX b.2.2.2.2.2.2) (r.2.2.1.take i)) he hlt (by omega) h5 (by rw[hcp,ZxG _ _ i hlt,he]) (by rw[hcp,ZOm]) hg hmm (by omega) (by omega) hok hco;refine⟨_,r1,⟨i+1,m',by omega,hn',?_,by omega,?_⟩,by simp only;omega⟩
   ·rw[r2,htk,ZHZ]
   ·rw[htk,Zfg]
 ·right;left;have e1:i=r.2.2.1.length:=by omega
  have d:decide ((i:Int)<(r.2.2.1.length:Int))=false:=Yv (by omega);refine⟨(false,m,r.2.2.1,(r.2.2.1.length:Int),(i:Int),b,r,Zai (Zdq b) (r.2.2.1.take i),()),?_,λh=>by simp at h⟩;unfold Zcd;simp only[RT.val,d,Yb]
theorem bsteps_law (n:List Int):Zv8 n=true/\ZEm n=true:=by
 obtain⟨r1,r2,hg,hm,hs,_⟩:=ZN8 n false;obtain⟨e1,e2,e3⟩:=Z1O (brdK n false) (scrK n) hg (by omega) (by omega);obtain⟨t1,_⟩:=ZN9 (brdK n false) (scrK n) hg (by omega);have hp:=ZUi (brdK n false) (scrK n) hg (by omega) (Z1l n false);obtain⟨q,hq,hc⟩:=ZL0 (brdK n false) (Zgh (brdK n false) (scrK n)).1 hg (by omega) t1 hp (by omega) e2;have hv:(Zjc n).val=some true:=by
  unfold Zjc;cases hx:decide (iN (List.length n)>250)
  ·simp only[RT.val,r1,r2,iN] at hq|-;simp only[hq,okB,getO,ZSk.1,Yh,Yk,Ya,Yb];cases hq1:q.1
   ·rfl
   ·simp only[Ya,hc hq1]
  ·simp only[RT.val,ZSk.1,Yh,Ya]
 exact⟨by simp only[Zv8,hv];rfl,by simp only[ZEm,hv,getO]⟩
end
end Go.Proofs.YtghoimllhpjkjaaGreat
