import Derived.Test.YtpnjbfjomebppaaGreatExpI
import Derived.Test.YtpnjbfjomebppaaGreatS3Rng
set_option linter.unusedSimpArgs false
set_option linter.unusedVariables false
namespace Go.Proofs.YtpnjbfjomebppaaGreat
open Go Go.S3 Go.Proofs
noncomputable section
def stgP (L:List PINT) (v:Nat):Stg:={r:=ZVK,T:=119,l:=L,ver:=v,fzn:=false,ffz:=false,lit:=false,ub:=0}
def memB (chip:Int) (L:List PINT) (x:ITMT) (v:Nat):Mem:=⟨[[.int false .i64 chip],[.tip 0 v],ZlI.enc x],[stgP L v]⟩
end
open Go Go.S3 Go.Proofs Go.RowKit
noncomputable section
structure Xc (n₀:Nat) (ex:Nat->Prop) (fz:Nat->Nat->Option Value) (y:Ctx):Prop where
 own:y.own=λk=>n₀<=k/\¬ex k
 fzl:∀b o v,fz b o=some v->y.fz b o=some v
 fzn:∀b o v,y.fz b o=some v->fz b o=some v\/n₀<=b
def Xw (n₀:Nat) (ex:Nat->Prop) (fz:Nat->Nat->Option Value) (M:List Nat) (m:Mem) (W:World):Prop:=∃y:Ctx,Xc n₀ ex fz y/\y.M=M/\MK y m W
variable {n₀:Nat} {ex:Nat->Prop} {fz:Nat->Nat->Option Value} {M:List Nat} {m:Mem} {W W':World}
theorem ZUp {y:Ctx} (h:MK y m W) (P:Nat->Prop) (hf:∀k,W.heap.size<=k->P k) (hm:∀b p,nth y.M b=some p->P p) (hs:∀i s p cap,nth y.S i=some s->s.blk=some (p,cap)->P p):MK {y with own:=P} m W:=
 ⟨hf,h.fz,h.ml,λb l p h1 h2=>by
  obtain⟨C,T,e1,e2⟩:=h.box b l p h1 h2;exact⟨C,T,e1,RL.same (x:=y) (y:={y with own:=P}) rfl rfl rfl e2⟩,λb p hp=>⟨hm b p hp,(h.mown b p hp).2⟩,h.inj,h.sl,
  λi g s h1 h2=>(h.stg i g s h1 h2).ctx (λ_ _ _ h=>h) (λ_ _ _ _=>rfl),λi s p cap h1 h2=>⟨hs i s p cap h1 h2,(h.sown i s p cap h1 h2).2⟩,h.sinj⟩
theorem Xw.block (h:Xw n₀ (λ_=>False) fz M m W) (o:Obj):Xw n₀ (λk=>k=W.heap.size) fz M m (W.alloc o):=by
 obtain⟨y,h1,h2,h3⟩:=h;have h4:=h3.old (ZL.alloc W o);have ho:∀k,y.own k->n₀<=k:=λk hk=>by rw[h1.own] at hk;exact hk.1
 refine⟨{y with own:=λk=>n₀<=k/\¬k=W.heap.size},⟨rfl,h1.fzl,h1.fzn⟩,h2,ZUp h4 _ (λk hk=> ?_) (λb p hp=> ?_) (λi s p cap h5 h6=> ?_)⟩
 ·rw[World.size_alloc] at hk;exact⟨ho k (h3.fresh k (by omega)),by omega⟩
 ·exact⟨ho p (h3.mown b p hp).1,by have:=h3.M_lt hp;omega⟩
 ·exact⟨ho p (h3.sown i s p cap h5 h6).1,by have:=h3.S_lt h5 h6;omega⟩
theorem Xw.all (h:Xw n₀ ex fz M m W):Xw n₀ (λ_=>False) fz M m W:=by
 obtain⟨y,h1,h2,h3⟩:=h;have ho:∀k,y.own k->n₀<=k/\¬False:=λk hk=>by rw[h1.own] at hk;exact⟨hk.1,id⟩
 exact⟨{y with own:=λk=>n₀<=k/\¬False},⟨rfl,h1.fzl,h1.fzn⟩,h2,ZUp h3 _ (λk hk=>ho k (h3.fresh k hk)) (λb p hp=>ho p (h3.mown b p hp).1) (λi s p cap h5 h6=>ho p (h3.sown i s p cap h5 h6).1)⟩
theorem Xw.box (h:Xw n₀ ex fz M m W) {l:List A} {C:List Value} (T:TypeId) (hl:∀y:Ctx,RL y l C):Xw n₀ ex fz (M++[W.heap.size]) {m with Bx:=m.Bx++[l]} (W.alloc (.cells C.toArray T)):=by obtain⟨y,h1,h2,h3⟩:=h;exact⟨{y with M:=y.M++[W.heap.size]},⟨h1.own,h1.fzl,h1.fzn⟩,by show y.M++_=_;rw[h2],(Zym h3 T (hl y)).1⟩
end
open Go Go.S3 Go.Proofs Go.RowKit
noncomputable section
variable {n₀:Nat} {ex:Nat->Prop} {fz:Nat->Nat->Option Value} {M:List Nat} {m:Mem} {W W':World}
def memA (chip:Int) (L:List PINT):Mem:=⟨[[.int false .i64 chip],[.tip 0 0]],[stgP L 0]⟩
variable {chip:Int} {L:List PINT} {pc po:Nat}
theorem Xw.drop {x:ITMT} {px:Nat} (h:Xw n₀ ex fz [pc,po,px] (memB chip L x 0) W):Xw n₀ ex fz [pc,po] (memA chip L) W:=by
 obtain⟨y,h1,h2,h3⟩:=h;have hS:Z6 1 y.S=y.S:=by
  have:=h3.sl
  match hy:y.S,this with
  |[s],_=>rfl
  |[],e=>simp[memB] at e
  |_::_::_,e=>simp[memB] at e
 have hc:=h3.cut 2 1 (λb l hl a ha v hv=>by
  match b,hl with
  |0,hl=>
   simp only[memB,Z6,nth,oinj] at hl;subst hl;simp only[Yac] at ha;subst ha;cases hv;exact .int _ _ _ _ (by assumption)
  |1,hl=>
   simp only[memB,Z6,nth,oinj] at hl;subst hl;simp only[Yac] at ha;subst ha;cases hv with
   |tip _ _ _ s _ hs hv hval hat=>exact .tip _ _ _ s _ (by rw[hS];exact hs) hv hval hat
  |b+2,hl=>simp[memB,Z6,nth] at hl)
 exact⟨{y with M:=Z6 2 y.M,S:=Z6 1 y.S},⟨h1.own,h1.fzl,h1.fzn⟩,by show Z6 2 y.M=_;rw[h2];rfl,hc⟩
theorem Xw.out (h:Xw n₀ ex fz [pc,po] (memA chip L) W):∃y s,Xc n₀ ex fz y/\y.M=[pc,po]/\y.S=[s]/\MK y (memA chip L) W/\W.cell? ⟨po,0,none⟩=some (tipVal s)/\s.ver=0:=by
 obtain⟨y,h1,h2,h3⟩:=h;obtain⟨s,hs⟩:∃s,y.S=[s]:=by
  have:=h3.sl
  match hy:y.S,this with
  |[s],_=>exact⟨s,rfl⟩
  |[],e=>simp[memA] at e
  |_::_::_,e=>simp[memA] at e
 have hs0:nth y.S 0=some s:=by rw[hs];rfl
 have hst:=h3.stg 0 (stgP L 0) s rfl hs0;obtain⟨C,T,e1,e2⟩:=h3.box 1 [.tip 0 0] po rfl (by rw[h2];rfl);refine⟨y,s,h1,h2,hs,h3,?_,hst.ver⟩
 match C,e2 with
 |[v],e2=>
  have e3:RA y (.tip 0 0) v:=e2.1;cases e3 with
  |tip _ _ _ s' _ hs' hv hval hat=>
   rw[hs0] at hs';cases hs';have:=hval hst.ver;subst this;simp only[World.cell?,e1];rfl
 |[],e2=>exact e2.elim
 |_::_::_,e2=>exact e2.2.elim
end
open Go Go.S3 Go.Proofs Go.RowKit Go.Shelf
attribute [local go_sem] Oper.semAt_some
noncomputable section
structure Rd (w0:World) (fz:Nat->Nat->Option Value) (chip:Int) (ds:List Nat) (L:List PINT) (W:World):Prop where
 x:Xw w0.heap.size (λ_=>False) fz [w0.heap.size,w0.heap.size+1] (memA chip L) W
 nd:ds.Nodup
 mks:∀D∈ds,w0.heap.size<=D/\W.heap[D]? =some (.deferred (some []))
 s:ZdH w0 W
end
end Go.Proofs.YtpnjbfjomebppaaGreat
namespace Go.Proofs.YtpnjbfjomebppaaGreat
open Go Go.S3 Go.Proofs Go.RowKit
noncomputable section
end
open Go Go.S3 Go.Proofs Go.RowKit
noncomputable section
end
end Go.Proofs.YtpnjbfjomebppaaGreat
open Go.Proofs.Tryz (prog)
open Go.IntKind (u8 u16 i64)
open Go Go.S3 Go.Proofs
set_option maxRecDepth 100000
namespace Go.Proofs.YtpnjbfjomebppaaGreat
noncomputable section
def ZQM:RT (Option (Bool)):=
 let x1:List Int:=[62,5,198,7,50,16,0,118]
 let x2:BRDT:=(2,[(0,65535,true,0)],0,0,0,false,Stg.l (newG ZcR Zsc (Zps 0 x1)))
 let x3:=Zco x2 (decX (rep 0 (Int.toNat 160)))
 let x4:=x3.1
 let x5:=x4.2.2.2.2
 let x6:=x5.1.1.2
 let p1:=(!x6.1.1==12)::(!x6.2.2.2.1)::(!iN (Le x4.1)==40)::(!x3.2==0)::[]
 .br (smB x1) (.br (Zz5 x2 (rep 0 (Int.toNat 160))) (.br (orR p1 (smC x5.2.1)) (Ls (true)) Ln) Ln) Ln
def tpKn:Bool:=getO Zn6.Df (ZQM).val
def ZKj:Bool:=okB (ZQM).val
def ZVs:En:=Zi Zxw Zn6 (λa=>some (ZKj)) (λa=>tpKn)
theorem ZKh:Zb prog 21 ZVs:=
 pureP 15 [(23,ZvC),(59,Zl5),(60,ZLu)] [] _ _ ⟨Zp8,Zkt,ZLt,Tv⟩ Tryz.func21 Tryz.call21 trivial
def ZeZ:En:=.tree (Zx (envX prog [] [] 7 8) Tryz.f31)
theorem ZhR:Zb prog 31 ZeZ:=Z5 trivial Tryz.func31 rfl (by kernel_rfl) Tryz.call31 trivial
abbrev ZDL:List Sh:=[So (R.sl Kc),So Kc]
abbrev Zsk:Rs:=Rs.tup [Sh.agg (R.Pq Kc (R.Pq rcRG (R.Pq Kc (R.Pq Ka (R.Pq Ka (R.Pq R.bool rcCE)))))),So (R.sl Ka)]
def ZmW (n:List Int) (k:Int):RT (Option (BRDT×List Int)):=
 .br (Zpf (n,0)) (.br (Zmm (Zcz (n,0)).2 k) (Ls (((Zcz (n,0)).1,(ZgU (Zcz (n,0)).2 k).1))) Ln) Ln
def Zc7 (n:List Int) (k:Int):BRDT×List Int:=getO Zsk.Df (ZmW n k).val
def ZmX (n:List Int) (k:Int):Bool:=okB (ZmW n k).val
def ZzL:En:=Zi ZDL Zsk (λa=>some (ZmX a.1 a.2)) (λa=>Zc7 a.1 a.2)
theorem Zwe:Zb prog 22 ZzL:=
 pureP 255 [(31,ZeZ),(66,ZOy),(67,ZFR)] [] _ _ ⟨ZhR,ZOw,ZIy,Tv⟩ Tryz.func22 Tryz.call22 trivial
def ZDK (b:BRDT):RT TC:=
 let x1:TR:=(0,0,0,0,0,0,0,(false,false,false,false,false,false,false),0,0)
 let x2:=ZC (b.1,x1,false,false,false,0,false,false,false,false,false,false,false)
 .Lf ((x2.1,x1,false,false,false,x2.2.2.2.2.2.1,false,false,false,false,false,false,false))
def Zsi (b:BRDT):TC:=(ZDK b).val
def Zsh:En:=Zi Zzn ZMx (λ_=>none) (λa=>Zsi a)
theorem ZqF:Zb prog 26 Zsh:=
 pureQ 7 [(80,Zjo)] [] _ _ ⟨Zhw,Tv⟩ Tryz.func26 Tryz.call26 trivial
end
end Go.Proofs.YtpnjbfjomebppaaGreat
open Go Go.S3 Go.Proofs Go.Proofs.Cells
namespace Go.Proofs.YtpnjbfjomebppaaGreat
noncomputable section
theorem ZUX (g:List GT) (m:List Cell) (l:List TY) (x:TY):wrL g m (l++[x])=wrY g (wrL g m l) x:=by unfold wrL;rw[Yak];rfl
def NoD (ev:List EVTT):Prop:=∀e∈ev,e.1≠5
theorem ZQs (k:Int):ZbY k=(k==3||(k==5||k==7)):=rfl
theorem ZUV (g:List GT) (m:List Cell) (x:TY) (p:TC) (d:Int):wrY g m (ZaH p x d)=bif ZbY x.1 then (bif x.1 !=7 then ZaL g m x.2.1 x.2.2.1 else m) else m:=by
 have e1:(ZaH p x d).1=x.1:=rfl;have e2:(ZaH p x d).2.1=x.2.1:=rfl;have e3:(ZaH p x d).2.2.1=bif ZaS x.1 then d else x.2.2.1:=rfl
 unfold wrY;rw[e1,e2,e3,ZQs];by_cases h3:x.1=3
 ·rw[h3];rfl
 by_cases h5:x.1=5
 ·rw[h5];rfl
 by_cases h7:x.1=7
 ·rw[h7];rfl
 have b3:(x.1==3)=false:=by simpa using h3
 have b5:(x.1==5)=false:=by simpa using h5
 have b7:(x.1==7)=false:=by simpa using h7
 rw[b3,b5,b7];rfl
variable {s0:TC} {c:CORT} {ev:List EVTT} {cp:List TC} {it:List ITMT}
theorem ZGC (h:Sem s0 c ev cp it) (d:Int):
  cyI (ZcQ it c (Zv c (Zp c) d) (Zp c))=bif Zp c==3 then cyI it++[ZaH c.1 c.2.2.2.1 d] else cyI it:=by
 obtain⟨hcp,un,nx,rest,nine,cy,hit,ln,pt,ps⟩:=h;clear hit ln un hcp rest nine cy;obtain⟨p0,s,g,x,n,hd⟩:=c;simp only at nx pt ps;have hst:Zp (p0,s,g,x,n,hd)=n:=by
  have h1:(decide (n<1)||decide (n>9))=false:=by simp;omega
  simp only[Zp,ZsO,RT.val,h1,Yb]
 rw[hst];have hcases:n=1\/n=2\/n=3\/(n=4\/n=5\/n=6)\/n=7\/n=8\/n=9:=by omega
 rcases hcases with e|e|e|e|e|e|e
 ·subst e;rw[ZlB _ _ _ rfl];show cyI (it++[_])=_;rw[ZbG];show cyI it++[]=_;rw[Yt];rfl
 ·subst e;obtain⟨l',y,rfl,y1,yN⟩:=pt (.inl rfl);rw[ZlB _ _ _ rfl];show cyI (Zbt (l'++[y]) _)=cyI (l'++[y]);rw[Zac,itN y 1 yN (by decide) (by decide),ZbG,ZbG];have:y.2.2.2.1=1:=yN;rw[this,y1];rfl
 ·subst e;obtain⟨l',y,rfl,y1,yN⟩:=pt (.inr (.inl rfl));rw[ZXV _ _ p0 rfl];show cyI (Zbt (l'++[y]) _)=cyI (l'++[y])++[ZaH p0 x d];rw[Zac,itN y 2 yN (by decide) (by decide),ZbG,ZbG];have:y.2.2.2.1=2:=yN;rw[this,y1];show cyI l'++[ZaH p0 x d]=cyI l'++[]++[ZaH p0 x d];rw[Yt]
 ·obtain⟨l',y,rfl,y1,yN,yc⟩:=ps (by rcases e with rfl|rfl|rfl<;>decide) (by rcases e with rfl|rfl|rfl<;>decide);clear pt ps;have b3:(n==3)=false:=by rcases e with rfl|rfl|rfl<;>rfl
  rw[ZlB _ _ _ b3,b3];have hi:ZcQ (l'++[y]) (p0,s,g,x,n,hd) x n=l'++[(y.1,x,y.2.2.1,IntKind.wrap .i64 (y.2.2.2.1+1),y.2.2.2.2)]:=by rcases e with rfl|rfl|rfl<;>exact Zac _ _ _
  rw[hi,itN y (n-1) yN (by omega) (by omega),ZbG];show _=cyI (l'++[y]);rw[ZbG];have q1:decide (n-1+1>=3)=true:=Yq (by omega);have q2:decide (y.2.2.2.1>=3)=true:=Yq (by omega);simp only[y1,q1,q2,yc]
 ·subst e;obtain⟨l',y,rfl,y1,yN⟩:=pt (.inr (.inr rfl));rw[ZlB _ _ _ rfl];show cyI (Zbt (l'++[y]) _)=cyI (l'++[y]);rw[Zac,ZbG,ZbG];have:y.2.2.2.1=2:=yN;simp only[this,y1];rfl
 ·subst e;exact ZeE (by decide) rfl
 ·subst e;exact ZeE (by decide) rfl
theorem ZOA (b:BRDT) (s0:TC) (st:STT) (i:INPT) (m0:List Cell) (h:Sem s0 st.1.1 st.2.2.2.1 st.2.2.2.2 st.2.2.1) (hm:st.1.2.1=wrL b.2.1 m0 (cyI st.2.2.1)) (hmv:Zbf b st.1 i=false):
  (Zas b s0 st i).1.2.1=wrL b.2.1 m0 (cyI (Zas b s0 st i).2.2.1):=by
 have hmem:(Zas b s0 st i).1.2.1=(ZcM b st.1 i).2.1:=by show (ZqZ (Zh4 b st.1 i) i.2.2.1).2.1=_;unfold ZqZ Zh4;rw[hmv];cases i.2.2.1<;>rfl
 have hits:(Zas b s0 st i).2.2.1=ZcQ st.2.2.1 st.1.1 (Zv st.1.1 (nowS st.1 i) (busS b (Zn b st.1 i) i).2) (nowS st.1 i):=rfl;have hco:=(ZGE b st.1 i).1;rw[hmem,hits];cases hr:i.2.2.1
 ·have hnow:nowS st.1 i=Zp st.1.1:=by unfold nowS;rw[hr];rfl
  rw[hnow,ZGC h];unfold ZcM Zgp;rw[hr];cases h3:Zp st.1.1==3
  ·simp only[Yl,YT,YW,Yb];rw[hco];exact hm
  ·simp only[Yl,YT,Ya];rw[ZUX,ZUV,<-hm];cases ZbY st.1.1.2.2.2.1.1
   ·simp only[Yb];exact hco
   ·simp only[Ya];unfold Zm0;cases st.1.1.2.2.2.1.1 !=7
    ·simp only[Yb];exact hco
    ·simp only[Ya];rw[hco]
 ·have hnow:nowS st.1 i=10:=by unfold nowS;rw[hr];rfl
  rw[hnow];have:cyI (ZcQ st.2.2.1 st.1.1 (Zv st.1.1 10 (busS b (Zn b st.1 i) i).2) 10)=cyI st.2.2.1:=ZeE (by decide) rfl;rw[this];unfold ZcM Zgp;rw[hr];simp only[Yf,YW,Yb];rw[hco];exact hm
theorem ZPw (ev:List EVTT) (c:CORT) (l:LINT) (d:Int) (cell:Cell) (moved:Bool):∃t,evE ev c l d cell moved=ev++t:=by
 unfold evE;dsimp only;cases l.2.2.1
 ·cases (finS c l d).2<;>cases moved
  ·exact⟨[],by simp⟩
  ·exact⟨_,rfl⟩
  ·exact⟨_,rfl⟩
  ·exact⟨_,by simp only[Ya,Yb];rw[Yn]⟩
 ·cases Zdx c
  ·exact⟨_,rfl⟩
  ·exact⟨_,by simp only[Ya];rw[Yn]⟩
variable {a t:List EVTT}
theorem NoD.left (h:NoD (a++t)):NoD a:=λe he=>h e (List.mem_append_left _ he)
theorem ZF0 (g:List GT):∀(l:List EVTT) (c:TC) (m:List Cell),NoD l->memF g c m l=wrL g m (cyA c l)
 |[],c,m,_=>rfl
 |e::l,c,m,h=>by
  have h5:(e.1==5)=false:=by simpa using h e Yau
  have:=ZF0 g l (Z7 c e) (wrE c g m e) λx hx=>h x (YA _ hx)
  simp only[memF,cyA,this];unfold wrE wrL;rw[h5,Yak];rfl
def stC (w:Nat):Nat->List Int
 |0=>[]
 |1=>[1]
 |2=>[1,2]++List.replicate w 7
 |n+1=>stC w n++[((n+1:Nat):Int)]
def stI (y:ITMT):List Int:=
 bif y.1==1 then stC y.2.2.1.toNat y.2.2.2.1.toNat else List.replicate y.2.2.2.1.toNat (bif y.1==2 then 8 else bif y.1==3 then 9 else 10)
def pinI (k:Int) (y:ITMT) (t:Int):PINT:=Znp k t y.2.1 y.2.1.2.2.1 y.2.2.2.2.1 y.2.2.2.2.2
def expX (k:Int) (l:List ITMT):List PINT:=l.flatMap λy=>(stI y).map (pinI k y)
def okI (y:ITMT):Prop:=
 (y.1=1/\3<=y.2.1.2.2.2/\y.2.1.2.2.2<=6/\1<=y.2.2.2.1/\y.2.2.2.1<=y.2.1.2.2.2/\0<=y.2.2.1/\(0<y.2.2.1->2<=y.2.2.2.1/\Zq y.2.1.1=true))\/
 ((y.1=2\/y.1=3\/y.1=4)/\1<=y.2.2.2.1/\y.2.2.1=0)
def adjI (y z:ITMT):Prop:=(y.1=1->y.2.2.2.1<y.2.1.2.2.2->z.1=4)/\(z.1≠1->¬(y.1=z.1/\y.2.2.2.2.1=z.2.2.2.2.1/\y.2.2.2.2.2=z.2.2.2.2.2))
structure GV (m:Int) (l:List ITMT):Prop where
 ok:∀y∈l,okI y
 adj:∀i:Nat,i+1<l.length->adjI (R.get ZlI l (i:Int)) (R.get ZlI l ((i+1:Nat):Int))
 bd:∀y∈l,y.2.2.2.1<=m/\y.2.2.1<=m
theorem Zft (l:List ITMT) (z:ITMT) (i:Nat) (h:i<l.length):R.get ZlI (l++[z]) (i:Int)=R.get ZlI l (i:Int):=by simp[R.get,Yp h]
theorem ZjI (l:List ITMT) (z:ITMT):R.get ZlI (l++[z]) (l.length:Int)=z:=by simp[R.get]
variable {z:ITMT}
theorem GV.snoc {m m':Int} {l:List ITMT} (h:GV m l) (hm:m<=m') (hz:okI z) (hb:z.2.2.2.1<=m'/\z.2.2.1<=m') (ha:∀l' y,l=l'++[y]->adjI y z):GV m' (l++[z]):=by
 refine⟨λy hy=> ?_,λi hi=> ?_,λy hy=> ?_⟩
 ·rcases Y1.1 hy with hy|hy
  ·exact h.ok y hy
  ·rw[Yac] at hy;subst hy;exact hz
 ·simp only[Yd,List.length_singleton] at hi;by_cases h1:i+1<l.length
  ·rw[Zft l z i (by omega),Zft l z (i+1) h1];exact h.adj i h1
  ·have e:i+1=l.length:=by omega
   rw[e,ZjI,Zft l z i (by omega)];rcases Y8 l with rfl|⟨l',y,rfl⟩
   ·simp at e
   ·rw[Y4] at e|-;have:i=l'.length:=by simp at e;omega
    rw[this,ZjI];exact ha l' y (Y4 ..)
 ·rcases Y1.1 hy with hy|hy
  ·have:=h.bd y hy;omega
  ·rw[Yac] at hy;subst hy;exact hb
theorem GV.split {m:Int} {l:List ITMT} (h:GV m (l++[z])):GV m l/\okI z/\(∀l' y,l=l'++[y]->adjI y z):=by
 refine⟨⟨λy hy=>h.ok y (List.mem_append_left _ hy),λi hi=> ?_,λy hy=>h.bd y (List.mem_append_left _ hy)⟩,h.ok z (by simp),?_⟩
 ·have:=h.adj i (by simp;omega);rw[Zft l z i (by omega),Zft l z (i+1) hi] at this;exact this
 ·rintro l' y rfl;have:=h.adj l'.length (by simp);have e:((l'.length+1:Nat):Int)=((l'++[y]).length:Int):=by simp
  rw[e,ZjI,Zft _ z l'.length (by simp),ZjI] at this;exact this
def ZZl (c:CORT) (it:List ITMT):Prop:=
 ((c.2.2.2.2.1=2\/c.2.2.2.2.1=3\/c.2.2.2.2.1=7)->∃(l:List ITMT) (w:Int),it=l++[(1,c.2.2.2.1,w,(bif c.2.2.2.2.1==2 then 1 else 2),ZCS c,sodC c)]/\(c.2.2.2.2.1=2->w=0)/\(c.2.2.2.2.1=7->Zq c.2.2.2.1.1=true))/\
 (4<=c.2.2.2.2.1->c.2.2.2.2.1<=6->∃(l:List ITMT) (w:Int),it=l++[(1,c.2.2.2.1,w,c.2.2.2.2.1-1,ZCS c,sodC c)]/\c.2.2.2.2.1<=c.2.2.2.1.2.2.2)/\
 ((c.2.2.2.2.1=1\/c.2.2.2.2.1=8\/c.2.2.2.2.1=9)->∀(l:List ITMT) (y:ITMT),it=l++[y]->(y.1=1->y.2.2.2.1=y.2.1.2.2.2)/\(c.2.2.2.2.1=9->y.1=3->y.2.1.2.1=c.1.2.1.2.2.2.2.2.2.2.2.2))
structure Gr (k m:Int) (c:CORT) (it:List ITMT) (tr:List PINT):Prop where
 chip:c.1.1=k
 ex:expX k it=tr
 gv:GV m it
 la:ZZl c it
theorem ZPY:∀(l:List EVTT) (c:TC),(cyA c l).length<=wgh l
 |[],c=>Ye _
 |e::l,c=>by have h1:=ZjS c e;have h2:=ZPY l (Z7 c e);simp only[cyA,wgh,Yd];omega
theorem ZyT:ZKj=true/\tpKn=true:=lval9 (t:=ZQM) (by kernel_rfl)
theorem ZW9 (n:List Int) (k:Nat) (hk:k<=250):ZmX n (k:Int)=true/\smG (Zc7 n (k:Int)).1.2.1=true/\(Zc7 n (k:Int)).1.2.2.2.2.2.2.length<=200/\(Zc7 n (k:Int)).2.length<=4*k/\wNew (Zc7 n (k:Int)).1=(newS (Zc7 n (k:Int)).1,0):=by
 obtain⟨c1,b1,⟨s1,bs1,hr⟩,hch,_,l,hl,hi⟩:=Zyx (ZCZ n) (by omega);obtain⟨c2,_,l2⟩:=ZCC bs1 (by omega);obtain⟨c3,b3,l3,_⟩:=ZIz b1 (by omega) k hk;have hv:(ZmW n (k:Int)).val=some ((Zcz (n,0)).1,(ZgU (Zcz (n,0)).2 (k:Int)).1):=by simp only[ZmW,RT.val,c1,c3,Ya]
 have e:Zc7 n (k:Int)=((Zcz (n,0)).1,(ZgU (Zcz (n,0)).2 (k:Int)).1):=by simp only[Zc7,hv,getO]
 have hg:smG (Zcz (n,0)).1.2.1=true:=by rw[hr];exact smGb (by omega)
 have hil:(Zcz (n,0)).1.2.2.2.2.2.2.length<=200:=by rw[hi];exact Yz (Zcx l) hl
 rw[e];refine⟨by simp only[ZmX,hv,okB],hg,hil,l3,Zyl _ hg (Yz hil (by omega)) ?_⟩;rw[(Zgq _ hg (Yz hil (by omega))).2.1,ZVB];rfl
theorem Zr1:∀(k:Nat) (l:List EVTT),wgh (l.take k)<=wgh l
 |0,l=>by simp[wgh]
 |k+1,[]=>by simp[wgh]
 |k+1,e::l=>by have:=Zr1 k l;simp only[List.take_succ_cons,wgh];omega
def rdK (k:Int):Bool:=k==1||(k==2||k==4)
def inK (k:Int):Bool:=k==6||(k==8||k==9)
def Cons (g:List GT):List Cell->List TY->Prop
 |_,[]=>True
 |m,x::l=>(rdK x.1=true->x.2.2.1=Zge g m x.2.1)/\Cons g (wrY g m x) l
theorem ZjW (g:List GT):∀(l r:List TY) (m:List Cell),Cons g m (l++r)↔Cons g m l/\Cons g (wrL g m l) r
 |[],r,m=>by simp[Cons,wrL]
 |x::l,r,m=>by have:=ZjW g l r (wrY g m x);simp only[List.cons_append,Cons,this,and_assoc];exact Iff.rfl
def datL (l:List TY):List Int:=l.map λx=>x.2.2.1
theorem ZTj (l r:List TY):datL (l++r)=datL l++datL r:=List.map_append
def DatC (s0:TC) (c:CORT) (ev:List EVTT):Prop:=c.2.2.1=datL (cyX (Zj (ZH s0 ev) c.2.1) c.2.1 [] c.2.2.1)
def Zzg (c:TC) (e:EVTT):Prop:=ZjQ e.1=true->e.1=Zgh e.2.1/\e.2.2.1=datL (ZR c e)/\(Zh (Zj c e.2.1) e.2.1 e.2.2.1).2=false
def EvOk (s0:TC) (ev:List EVTT):Prop:=∀l1 e l2,ev=l1++e::l2->Zzg (ZH s0 l1) e
variable {e:EVTT}
theorem EvOk.snoc (h:EvOk s0 ev) (he:Zzg (ZH s0 ev) e):EvOk s0 (ev++[e]):=by
 intro l1 e' l2 hq;rcases Y8 l2 with rfl|⟨l3,y,rfl⟩
 ·obtain⟨q1,q2⟩:=YaE hq rfl;simp only[Ya0,and_true] at q2;subst q1;subst q2;exact he
 ·rw[Y4,<-List.cons_append,<-List.append_assoc] at hq;obtain⟨q1,_⟩:=YaE hq rfl;exact h l1 e' l3 q1
theorem EvOk.left (h:EvOk s0 (a++t)):EvOk s0 a:=λl1 e l2 hq=>h l1 e (l2++t) (by rw[hq];simp)
theorem ZuU {c:TC} (h:ZjQ e.1=false):Zzg c e:=λe1=>by rw[h] at e1;simp at e1
theorem ZPW (p:TC) (s:Int) (g:List Int) (h:Bool) (l:LINT) (un:unl p=unl (Zj (ZH s0 ev) s)) (hd:g=datL (cyX (Zj (ZH s0 ev) s) s [] g)) (he:EvOk s0 ev):
  DatC s0 (endX p s g h l) (bif (Zh p s g).2 then ev else ev++[Ze1 (Zgh s,s,g,ZdI,false,false,false,false,0,0) p l])/\EvOk s0 (bif (Zh p s g).2 then ev else ev++[Ze1 (Zgh s,s,g,ZdI,false,false,false,false,0,0) p l]):=by
 unfold endX;dsimp only;cases hn:(Zh p s g).2
 ·simp only[Yb];refine⟨rfl,he.snoc λhk=>⟨rfl,?_,?_⟩⟩
  ·show g=datL (ZR _ _);unfold ZR cycE;rw[hk];exact hd
  ·show (Zh (Zj (ZH s0 ev) s) s g).2=false;rw[<-Zmj un,hn]
 ·simp only[Ya];exact⟨hd,he⟩
variable {l:LINT}
theorem Zg9 {d:Int} {n:Int} (hn:c.2.2.2.2.1=n) (hr:l.2.2.1=false) (he:∀x,Zi5 n x=false):(finS c l d).2=false:=by unfold finS;rw[hn,he,hr];rfl
theorem ZTi (h:Sem s0 c ev cp it) (hd:DatC s0 c ev) (he:EvOk s0 ev) (l:LINT) (d:Int) (cell:Cell) (hr:l.2.2.1=false):
  DatC s0 (Zk c l d) (evE ev c l d cell false)/\EvOk s0 (evE ev c l d cell false):=by
 rw[ZGt _ _ _ _ _ hr];obtain⟨hcp,un,nx,rest,nine,cy,hit,ln,pt,ps⟩:=h;clear hit hcp pt ps;obtain⟨p0,s,g,x,n,hq⟩:=c;unfold DatC at hd;simp only at un nx rest nine cy ln hd;have hb0:(decide (n<1)||decide (n>9))=false:=by simp;omega
 have hst:Zp (p0,s,g,x,n,hq)=n:=by simp only[Zp,ZsO,RT.val,hb0,Yb]
 have hsx:ZM n=n:=by simp only[ZM,hb0,Yb]
 have hup:=Zv1 p0 l;have hchip:(Zg p0 l).1=p0.1:=(Zkc hup).1;have hun:unl (Zg p0 l)=unl (Zj (ZH s0 ev) s):=hup.trans un;rw[hst];have hcases:n=1\/n=2\/n=3\/(n=4\/n=5\/n=6)\/n=7\/n=8\/n=9:=by omega
 rcases hcases with e|e|e|hk|e|e|e
 ·subst e;have hck:Zk (p0,s,g,x,1,hq) l d=(Zg p0 l,s,g,x,2,hq):=by unfold Zk;simp only[hr,hsx];rfl
  rw[hck,Zg9 rfl hr (λx=>rfl)];exact⟨hd,he⟩
 ·subst e;have hck:Zk (p0,s,g,x,2,hq) l d=(Zg p0 l,s,g,x,bif l.1|| !Zq x.1 then 3 else 7,bif l.1|| !Zq x.1 then l.2.1 else hq):=by unfold Zk;simp only[hr,hsx];show (bif l.1|| !Zq x.1 then _ else _)=_;cases l.1|| !Zq x.1<;>rfl
  rw[hck,Zg9 rfl hr (λx=>rfl)];exact⟨hd,he⟩
 ·subst e;obtain⟨cy1,cy2⟩:=cy (by omega);generalize hx3:ZaH (Zg p0 l) x d=x3;have hx3':ZaH p0 x d=x3:=by rw[<-ZwD hchip];exact hx3
  have hcur:Zv (p0,s,g,x,3,hq) 3 d=x3:=by rw[ZXV _ _ (Zg p0 l) hchip];exact hx3
  have hna:∀g,Zh (Zj (ZH s0 ev) s) s g=Zh p0 s g:=λg=>(Zmj un s g).symm
  obtain⟨k1,k2⟩:=ZDd (Zj (ZH s0 ev) s) s g [] x3.2.2.1 ln (by rw[List.nil_append,hna];exact cy2);rw[List.nil_append,hna,<-cy1,<-hx3',Zri p0 (Zj (ZH s0 ev) s) (Zkc un).1.symm,hx3'] at k1;have hd':g++[x3.2.2.1]=datL (cyX (Zj (ZH s0 ev) s) s [] (g++[x3.2.2.1])):=by rw[k1,ZTj,<-hd];rfl
  have hby:Zb7 (p0,s,g,x,3,hq) 3 d=g++[x3.2.2.1]:=by unfold Zb7;rw[hcur];rfl
  have hrd:rdS (p0,s,g,x,3,hq) 3 d=(x3,g++[x3.2.2.1]):=by show (ZaH p0 x d,g++[(ZaH p0 x d).2.2.1])=_;rw[hx3']
  have hen:Zi5 3 x3=le3 x3.2.2.2:=rfl;cases hle:le3 x3.2.2.2
  ·have hf:(finS (p0,s,g,x,3,hq) l d).2=false:=by unfold finS;simp only[hr,hrd,hen,hle,Ya,Yb,Yl]
   have hck:Zk (p0,s,g,x,3,hq) l d=(Zg p0 l,s,g++[x3.2.2.1],x3,4,hq):=by unfold Zk;simp only[hr,hsx,hx3,hle];rfl
   rw[hck,hf];exact⟨hd',he⟩
  ·have hck:Zk (p0,s,g,x,3,hq) l d=endX (Zg p0 l) s (g++[x3.2.2.1]) hq l:=by unfold Zk;simp only[hr,hsx,hx3,hle];rfl
   have hf:finS (p0,s,g,x,3,hq) l d=bif (Zh (Zg p0 l) s (g++[x3.2.2.1])).2 then (Zj8,false) else (finX (Zg p0 l) s (g++[x3.2.2.1]) l,true):=by unfold finS;simp only[hr,hrd,hen,hle,Ya,Yb,Yf]
   have:=ZPW (Zg p0 l) s (g++[x3.2.2.1]) hq l hun hd' he;rw[hck,hf,hby];cases hn:(Zh (Zg p0 l) s (g++[x3.2.2.1])).2
   ·rw[hn] at this;exact this
   ·rw[hn] at this;exact this
 ·have b1:(n==1)=false:=by rcases hk with rfl|rfl|rfl<;>rfl
  have b2:(n==2)=false:=by rcases hk with rfl|rfl|rfl<;>rfl
  have b3:(n==3)=false:=by rcases hk with rfl|rfl|rfl<;>rfl
  have b7:(n==7)=false:=by rcases hk with rfl|rfl|rfl<;>rfl
  have b8:(n==8)=false:=by rcases hk with rfl|rfl|rfl<;>rfl
  have b9:(n==9)=false:=by rcases hk with rfl|rfl|rfl<;>rfl
  have b3':(n !=3)=true:=by rcases hk with rfl|rfl|rfl<;>rfl
  have hby:Zb7 (p0,s,g,x,n,hq) n d=g:=by unfold Zb7;simp only[b3,Yb]
  have hrd:rdS (p0,s,g,x,n,hq) n d=(x,g):=by unfold rdS;simp only[b3',Ya]
  have hclk:Zk (p0,s,g,x,n,hq) l d=bif decide (n<x.2.2.2)&& !(n==6) then (Zg p0 l,s,g,x,n+1,hq) else endX (Zg p0 l) s g hq l:=by unfold Zk;simp only[hr,hsx,b1,b2,b3,b7,b8,b9,YaB,Yb]
  have hen:Zi5 n x= !(decide (n<x.2.2.2)&& !(n==6)):=by
   unfold Zi5 ZLy;rcases hk with rfl|rfl|rfl
   ·by_cases q:(4:Int)<x.2.2.2
    ·have q1:decide (x.2.2.2<=4)=false:=Yx (by omega);have q2:decide ((4:Int)<x.2.2.2)=true:=Yq q;simp only[RT.val,q2];exact q1
    ·have q1:decide (x.2.2.2<=4)=true:=Yq (by omega);have q2:decide ((4:Int)<x.2.2.2)=false:=Yx q;simp only[RT.val,q2];exact q1
   ·by_cases q:(5:Int)<x.2.2.2
    ·have q1:decide (x.2.2.2<=5)=false:=Yx (by omega);have q2:decide ((5:Int)<x.2.2.2)=true:=Yq q;simp only[RT.val,q2];exact q1
    ·have q1:decide (x.2.2.2<=5)=true:=Yq (by omega);have q2:decide ((5:Int)<x.2.2.2)=false:=Yx q;simp only[RT.val,q2];exact q1
   ·cases decide ((6:Int)<x.2.2.2)<;>rfl
  cases hle:decide (n<x.2.2.2)&& !(n==6)
  ·have hck:Zk (p0,s,g,x,n,hq) l d=endX (Zg p0 l) s g hq l:=by rw[hclk,hle];rfl
   have hf:finS (p0,s,g,x,n,hq) l d=bif (Zh (Zg p0 l) s g).2 then (Zj8,false) else (finX (Zg p0 l) s g l,true):=by unfold finS;simp only[hr,hrd,hen,hle,Ya,Yb,Yf,Yl]
   have:=ZPW (Zg p0 l) s g hq l hun hd he;rw[hck,hf,hby];cases hn:(Zh (Zg p0 l) s g).2
   ·rw[hn] at this;exact this
   ·rw[hn] at this;exact this
  ·have hf:(finS (p0,s,g,x,n,hq) l d).2=false:=by unfold finS;simp only[hr,hrd,hen,hle,Ya,Yb,Yf,Yl]
   have hck:Zk (p0,s,g,x,n,hq) l d=(Zg p0 l,s,g,x,n+1,hq):=by rw[hclk,hle];rfl
   rw[hck,hf];exact⟨hd,he⟩
 ·subst e;have hck:Zk (p0,s,g,x,7,hq) l d=(Zg p0 l,s,g,x,bif l.1|| !Zq x.1 then 3 else 7,bif l.1|| !Zq x.1 then l.2.1 else hq):=by unfold Zk;simp only[hr,hsx];show (bif l.1|| !Zq x.1 then _ else _)=_;cases l.1|| !Zq x.1<;>rfl
  rw[hck,Zg9 rfl hr (λx=>rfl)];exact⟨hd,he⟩
 ·subst e;have hck:Zk (p0,s,g,x,8,hq) l d=(Zg p0 l,s,g,x,idlX (Zg p0 l) s l.2.1,hq):=by unfold Zk;simp only[hr,hsx];rfl
  rw[hck,Zg9 rfl hr (λx=>rfl)];exact⟨hd,he⟩
 ·subst e;have hck:Zk (p0,s,g,x,9,hq) l d=bif ZbI (Zg p0 l) l==0 then (Zg p0 l,s,g,x,bif l.2.1 then 8 else 9,hq) else (Zj (Zg p0 l) (ZbI (Zg p0 l) l),ZbI (Zg p0 l) l,[],(Zh (Zj (Zg p0 l) (ZbI (Zg p0 l) l)) (ZbI (Zg p0 l) l) []).1,bif l.2.1 then 8 else 1,hq):=by unfold Zk;simp only[hr,hsx];rfl
  rw[hck,Zg9 rfl hr (λx=>rfl)];cases ZbI (Zg p0 l) l==0
  ·exact⟨rfl,he⟩
  ·exact⟨hd,he⟩
theorem ZPV (he:EvOk s0 ev) (l:LINT) (d:Int) (cell:Cell) (moved:Bool) (hr:l.2.2.1=true):
  DatC s0 (Zk c l d) (evE ev c l d cell moved)/\EvOk s0 (evE ev c l d cell moved):=by
 have hck:Zk c l d=Zp6 (ZC c.1) 0:=by unfold Zk;rw[hr];rfl
 have hev:evE ev c l d cell moved=(bif Zdx c then ev++[Ze1 (6,c.2.1,c.2.2.1,ZdI,false,false,false,false,0,0) c.1 l] else ev)++[Ze1 (4,0,[],ZdI,false,false,false,false,0,0) c.1 l]:=by unfold evE;rw[hr];rfl
 rw[hck,hev];refine⟨rfl,EvOk.snoc ?_ (ZuU rfl)⟩;cases Zdx c
 ·exact he
 ·exact he.snoc (ZuU rfl)
structure Good (g:List GT) (m0:List Cell) (s0:TC) (ev:List EVTT):Prop where
 ok:EvOk s0 ev
 co:Cons g m0 (cyA s0 ev)
theorem ZGD:∀(a t:List EVTT) (c:TC),cyA c (a++t)=cyA c a++cyA (ZH c a) t
 |[],t,c=>rfl
 |e::a,t,c=>by have:=ZGD a t (Z7 c e);simp only[List.cons_append,cyA,this,Yn];rfl
theorem Good.left {g:List GT} {m0:List Cell} {s0:TC} {a t:List EVTT} (h:Good g m0 s0 (a++t)):Good g m0 s0 a:=
 ⟨h.ok.left,((ZjW g _ _ m0).1 (by rw[<-ZGD];exact h.co)).1⟩
structure Sq (b:BRDT) (m0:List Cell) (s0:TC) (st:STT):Prop where
 mem:st.1.2.1=wrL b.2.1 m0 (cyI st.2.2.1)
 co:Cons b.2.1 m0 (cyI st.2.2.1)
 dat:DatC s0 st.1.1 st.2.2.2.1
 ok:EvOk s0 st.2.2.2.1
theorem ZTo (b:BRDT) (s:SYST) (i:INPT) (hr:i.2.2.1=false) (h3:Zp s.1=3) (hk:rdK s.1.2.2.2.1.1=true):(busS b (Zn b s i) i).2=Zge b.2.1 s.2.1 s.1.2.2.2.1.2.1:=by
 have e1:(Zn b s i).1=s.1:=rfl;have e2:(Zn b s i).2.1=s.2.1:=rfl;have hk':s.1.2.2.2.1.1=1\/s.1.2.2.2.1.1=2\/s.1.2.2.2.1.1=4:=by simpa [rdK] using hk
 have h1:ZaS s.1.2.2.2.1.1=true:=by rcases hk' with h|h|h<;>rw[h]<;>rfl
 have h2:(decide (s.1.2.2.2.1.1>=1)&&decide (s.1.2.2.2.1.1<=5))=true:=by rcases hk' with h|h|h<;>rw[h]<;>rfl
 unfold busS;simp only[e1,e2,hr,h3,h1,h2];rfl
theorem ZDT (b:BRDT) (m0:List Cell) (s0:TC) (st:STT) (i:INPT) (h:Sem s0 st.1.1 st.2.2.2.1 st.2.2.2.2 st.2.2.1) (q:Sq b m0 s0 st) (hmv:Zbf b st.1 i=false):Sq b m0 s0 (Zas b s0 st i):=by
 have hcore:(ZW b st.1 i).1.1=Zk st.1.1 (ZaK b (Zn b st.1 i) i) (busS b (Zn b st.1 i) i).2:=Zfy b st.1 i;have hevs:(Zas b s0 st i).2.2.2.1=evE st.2.2.2.1 st.1.1 (ZaK b (Zn b st.1 i) i) (busS b (Zn b st.1 i) i).2 (ZW b st.1 i).2.2.2.2.1 false:=by show evE st.2.2.2.1 st.1.1 (ZaK b (Zn b st.1 i) i) (busS b (Zn b st.1 i) i).2 (ZW b st.1 i).2.2.2.2.1 (Zbf b st.1 i)=_;rw[hmv]
 have hits:(Zas b s0 st i).2.2.1=ZcQ st.2.2.1 st.1.1 (Zv st.1.1 (nowS st.1 i) (busS b (Zn b st.1 i) i).2) (nowS st.1 i):=rfl;have hl2:(ZaK b (Zn b st.1 i) i).2.2.1=i.2.2.1:=rfl;have hcons:Cons b.2.1 m0 (cyI (Zas b s0 st i).2.2.1):=by
  rw[hits];cases hr:i.2.2.1
  ·have hnow:nowS st.1 i=Zp st.1.1:=by unfold nowS;rw[hr];rfl
   rw[hnow,ZGC h];cases h3:Zp st.1.1==3
   ·exact q.co
   ·simp only[Ya];have h3':Zp st.1.1=3:=by simpa using h3
    refine (ZjW _ _ _ _).2 ⟨q.co,λhk=> ?_,Tv⟩;rw[<-q.mem];have e1:(ZaH st.1.1.1 st.1.1.2.2.2.1 (busS b (Zn b st.1 i) i).2).1=st.1.1.2.2.2.1.1:=rfl;have e2:(ZaH st.1.1.1 st.1.1.2.2.2.1 (busS b (Zn b st.1 i) i).2).2.1=st.1.1.2.2.2.1.2.1:=rfl;have e3:(ZaH st.1.1.1 st.1.1.2.2.2.1 (busS b (Zn b st.1 i) i).2).2.2.1=bif ZaS st.1.1.2.2.2.1.1 then (busS b (Zn b st.1 i) i).2 else st.1.1.2.2.2.1.2.2.1:=rfl
    rw[e1] at hk;have hk':st.1.1.2.2.2.1.1=1\/st.1.1.2.2.2.1.1=2\/st.1.1.2.2.2.1.1=4:=by simpa [rdK] using hk
    have h1:ZaS st.1.1.2.2.2.1.1=true:=by rcases hk' with h|h|h<;>rw[h]<;>rfl
    rw[e2,e3,h1];exact ZTo b st.1 i hr h3' hk
  ·have hnow:nowS st.1 i=10:=by unfold nowS;rw[hr];rfl
   rw[hnow];have:cyI (ZcQ st.2.2.1 st.1.1 (Zv st.1.1 10 (busS b (Zn b st.1 i) i).2) 10)=cyI st.2.2.1:=ZeE (by decide) rfl;rw[this];exact q.co
 have hde:DatC s0 (Zas b s0 st i).1.1 (Zas b s0 st i).2.2.2.1/\EvOk s0 (Zas b s0 st i).2.2.2.1:=by
  show DatC s0 (ZW b st.1 i).1.1 _/\_;rw[hcore,hevs];cases hr:i.2.2.1
  ·exact ZTi h q.dat q.ok _ _ _ (by rw[hl2,hr])
  ·exact ZPV q.ok _ _ _ _ (by rw[hl2,hr])
 exact⟨ZOA b s0 st i m0 h q.mem hmv,hcons,hde.1,hde.2⟩
def Pre (b:BRDT) (m0:List Cell) (s0:TC) (ev:List EVTT):Prop:=∀a t,ev=a++t->NoD a->Good b.2.1 m0 s0 a
variable {b:BRDT} {m0:List Cell}
theorem ZVz {st:STT} (h:Sem s0 st.1.1 st.2.2.2.1 st.2.2.2.2 st.2.2.1) (q:Sq b m0 s0 st):Good b.2.1 m0 s0 st.2.2.2.1:=
 ⟨q.ok,((ZjW _ _ _ _).1 (by rw[<-h.hit];exact q.co)).1⟩
theorem ZFX (b:BRDT) (s0:TC) (st:STT) (i:INPT) (h:Sem s0 st.1.1 st.2.2.2.1 st.2.2.2.2 st.2.2.1) (hmv:Zbf b st.1 i=true):∃e,(Zas b s0 st i).2.2.2.1=st.2.2.2.1++[e]/\e.1=5:=by
 have hp:=hmv;unfold Zbf at hp;rw[Yc] at hp;have hp:=hp.1;unfold pinS at hp;rw[(ZhM b (Zn b st.1 i) i).1] at hp;obtain⟨hr,h8⟩:=ZgQ hp;have h8':st.1.1.2.2.2.2.1=8:=by
  have:=h.nx;have h1:(decide (st.1.1.2.2.2.2.1<1)||decide (st.1.1.2.2.2.2.1>9))=false:=by simp;omega
  have h8:ZM st.1.1.2.2.2.2.1=8:=h8;simp only[ZM,h1,Yb] at h8;exact h8
 have he:(Zas b s0 st i).2.2.2.1=evE st.2.2.2.1 st.1.1 (ZaK b (Zn b st.1 i) i) (busS b (Zn b st.1 i) i).2 (ZW b st.1 i).2.2.2.2.1 (Zbf b st.1 i):=rfl;rw[he,hmv];have hf:=Zg9 (c:=st.1.1) (d:=(busS b (Zn b st.1 i) i).2) h8' hr (λx=>rfl);refine⟨(5,0,[],ZdI,false,false,false,false,(ZW b st.1 i).2.2.2.2.1),?_,rfl⟩;unfold evE;rw[hr,hf];rfl
theorem ZQj {α:Type} {a t l:List α} {e:α} (h:l++[e]=a++t):(∃t',l=a++t')\/a=l++[e]:=by
 rcases Y8 t with rfl|⟨t',y,rfl⟩
 ·right;simpa using h.symm
 ·left;rw[Y4,<-List.append_assoc] at h;exact⟨t',(YaE h rfl).1⟩
theorem ZRv (h:Pre b m0 s0 ev) (h5:e.1=5):Pre b m0 s0 (ev++[e]):=λa t hq hn=>by
 rcases ZQj hq with ⟨t',q⟩|q
 ·exact h a t' q hn
 ·exact (hn e (by rw[q];simp) h5).elim
theorem Zs9 (h:Good b.2.1 m0 s0 ev):Pre b m0 s0 ev:=λa t hq _=>by rw[hq] at h;exact h.left
theorem ZEM (h:Pre b m0 s0 ev) (hd:¬NoD ev) (t:List EVTT):Pre b m0 s0 (ev++t):=λa t' hq hn=>by
 rcases List.append_eq_append_iff.1 hq with ⟨c,h1,_⟩|⟨c,h1,_⟩
 ·exact (hd (by rw[h1] at hn;exact hn.left)).elim
 ·exact h a c h1 hn
theorem ZEL (b:BRDT) (m0:List Cell) (s0:TC):∀(l:List INPT) (st:STT),Sem s0 st.1.1 st.2.2.2.1 st.2.2.2.2 st.2.2.1->(NoD st.2.2.2.1->Sq b m0 s0 st)->Pre b m0 s0 st.2.2.2.1->
  (NoD (ZbU b s0 st l).2.2.2.1->Sq b m0 s0 (ZbU b s0 st l))/\Pre b m0 s0 (ZbU b s0 st l).2.2.2.1
 |[],st,_,q,p=>⟨q,p⟩
 |i::l,st,h,q,p=>by
  have h':=Znc b s0 st i h;refine ZEL b m0 s0 l (Zas b s0 st i) h' ?_ ?_
  ·intro hn;cases hmv:Zbf b st.1 i
   ·obtain⟨t,ht⟩:=ZPw st.2.2.2.1 st.1.1 (ZW b st.1 i).2.2.1 (ZW b st.1 i).2.2.2.1 (ZW b st.1 i).2.2.2.2.1 (ZW b st.1 i).2.2.2.2.2;have ht:(Zas b s0 st i).2.2.2.1=st.2.2.2.1++t:=ht;exact ZDT b m0 s0 st i h (q (by rw[ht] at hn;exact hn.left)) hmv
   ·obtain⟨e,he,h5⟩:=ZFX b s0 st i h hmv;exact (hn e (by rw[he];simp) h5).elim
  ·cases hmv:Zbf b st.1 i
   ·by_cases hd:NoD st.2.2.2.1
    ·exact Zs9 (ZVz h' (ZDT b m0 s0 st i h (q hd) hmv))
    ·obtain⟨t,ht⟩:=ZPw st.2.2.2.1 st.1.1 (ZW b st.1 i).2.2.1 (ZW b st.1 i).2.2.2.1 (ZW b st.1 i).2.2.2.2.1 (ZW b st.1 i).2.2.2.2.2;have ht:(Zas b s0 st i).2.2.2.1=st.2.2.2.1++t:=ht;rw[ht];exact ZEM p hd t
   ·obtain⟨e,he,h5⟩:=ZFX b s0 st i h hmv;rw[he];exact ZRv p h5
theorem ZQ7 (b:BRDT) (l:List INPT) (hg:smG b.2.1=true) (hm:b.2.2.2.2.2.2.length<=100000) (hv:ZbR b=0):Pre b (normX b.2.2.2.2.2.2) (Zbg b) (Zco b l).1.2.2.1:=by
 have hx:((wNew b).2 !=0)=false:=by rw[(Zgq b hg hm).2.1,hv];rfl
 obtain⟨hs,hi⟩:=Zvf b (Zyl b hg hm hx);have h0:=((Zgq b hg hm).2.2 (by simpa using hx)).2;unfold Zco;rw[hx,<-hs];simp only[Yb];have hsq:Sq b (normX b.2.2.2.2.2.2) (ZN b) (ZaN b):=by refine⟨h0,trivial,?_,λl1 e l2 hq=>by simp[ZaN] at hq⟩;unfold ZaN;rw[Zyl b hg hm hx];rfl
 have hp0:Pre b (normX b.2.2.2.2.2.2) (ZN b) (ZaN b).2.2.2.1:=Zs9 ⟨hsq.ok,Tv⟩;obtain⟨hq,hp⟩:=ZEL b (normX b.2.2.2.2.2.2) (ZN b) l (ZaN b) hi (λ_=>hsq) hp0;have hse:=Zsy b (ZN b) l (ZaN b) hi;generalize ZbU b (ZN b) (ZaN b) l=st at hq hp hse;unfold endS;cases hb:Zdx st.1.1
 ·exact hp
 ·simp only[Ya];by_cases hd:NoD st.2.2.2.1
  ·refine Zs9 ⟨(hq hd).ok.snoc (ZuU rfl),?_⟩;rw[Ziz];have:=(hq hd).co;rw[hse.hit] at this;exact this
  ·exact ZEM hp hd _
theorem ZVI (k:Int):ZaS k=(k==1||(k==2||(k==4||(k==6||(k==8||k==9))))):=rfl
def insL (l:List TY):List Int:=datL (l.filter λx=>inK x.1)
theorem ZGe (l:List TY):(insL l).length<=l.length:=by unfold insL datL;rw[List.length_map];exact List.length_filter_le _ _
theorem ZO3 (l:List TY) (i:Nat) (h:i<l.length):insL (l.take (i+1))=insL (l.take i)++(bif inK (R.get RY l (i:Int)).1 then [(R.get RY l (i:Int)).2.2.1] else []):=by rw[Zkj (r:=RY) l i h];unfold insL datL;rw[YaT,List.map_append];cases hk:inK (R.get RY l (i:Int)).1<;>simp[List.filter,hk]
theorem ZGB (a:TC) (s:Int):∀(r pre:List Int),(cyX a s pre r).length=r.length->r=[]\/pre.length+r.length<=5
 |[],pre,_=>.inl rfl
 |b::r,pre,h=>by
  right;cases hnx:(Zh a s pre).2
  ·rw[ZjT,hnx] at h;simp at h
  ·rw[ZjT,hnx] at h;simp only[Ya,List.length_cons,Nat.add_right_cancel_iff] at h;have h5:pre.length<5:=by
    rcases Yab pre.length 5 with h5|h5
    ·exact h5
    ·rw[ZFO a s pre h5] at hnx;simp at hnx
   rcases ZGB a s r (pre++[b]) h with rfl|h2
   ·simp;omega
   ·simp only[Yd,List.length_singleton] at h2;simp only[List.length_cons];omega
theorem ZwC:∀(l:List EVTT) (c:TC) (i:Nat),i<l.length->R.get Z8 (ZgF c l) (i:Int)=Z7 (ZH c (l.take i)) (R.get ZaA l (i:Int))
 |[],c,i,h=>by simp at h
 |e::l,c,0,_=>rfl
 |e::l,c,i+1,h=>by
  have:=ZwC l (Z7 c e) i (by simpa using h);have e1:R.get Z8 (ZgF c (e::l)) ((i+1:Nat):Int)=R.get Z8 (ZgF (Z7 c e) l) (i:Int):=by simp[R.get,ZgF]
  have e2:R.get ZaA (e::l) ((i+1:Nat):Int)=R.get ZaA l (i:Int):=by simp[R.get]
  rw[e1,e2,this];rfl
def ZGU:LS:={n:=32,Sl:=[(0,.fix (A.loc 0 0)),(1,.code (So Kc)),(2,.code (So R.bool)),(7,.tip 0),(8,.code (So Kc))],Bx:=[[.code (.sl Kc),.code (.int i64)]],Sg:=[⟨ZcP,122,true⟩]}
def Zde (a:QT28):RT (Option (Go1 (QT28))):=
 let x1:=Zl (a.2.2.2.1,a.2.2.2.2.1) 3
 let x2:=Za (a.2.2.2.1,a.2.2.2.2.1) 3
 let x3:=x2.2
 let x4:= !a.2.1||(!x1||Zl x3 4)
 let x5:= !x4
 let x6:= !a.2.1||x1
 let x7:=Za x3 4
 let x8:List INPT:=a.2.2.2.2.2.1++[(bif a.2.1 then decide (x2.1>0) else Zcv.1,bif a.2.1 then x7.1==1 else Zcv.2.1,Zcv.2.2.1,Zcv.2.2.2.1,Zcv.2.2.2.2.1,Zcv.2.2.2.2.2.1,Zcv.2.2.2.2.2.2.1,Zcv.2.2.2.2.2.2.2.1,Zcv.2.2.2.2.2.2.2.2.1,42)]
 let x9:=x7.2
 .br (decide (a.2.2.1<a.1)) (.br (x5||(!x6||Nat.ble (Le x8) most)) (.br (x5||x6) (.br (x4) (Ls (Go1.cont (a.1,a.2.1,i64.wrap (a.2.2.1+1),bif a.2.1 then x9.1 else a.2.2.2.1,bif a.2.1 then x9.2 else a.2.2.2.2.1,x8,PUnit.unit))) Ln) Ln) Ln) (Ls (Go1.brk (a.1,a.2.1,a.2.2.1,a.2.2.2.1,a.2.2.2.2.1,a.2.2.2.2.2.1,PUnit.unit)))
def ZqH:Ora:=ZaY false ZGU Zde (λa=>1000000000000)
theorem Zwd:ZaB (envX prog [(68,Zcy),(86,Zm6),(87,Zm9)] [] 1023 8) (.block 0 (.loop (ZX Tryz.f30.body 0))) ZqH:=
 loopP ⟨ZaM,ZiT,Zm7,Tv⟩
def ZiN (s:List Int×Int) (k:Int) (st:Bool):RT (Option (List Int×List Int×Int)):=
 let x1:QT28:=(k,st,0,s.1,s.2,[],())
 let x2:=runF false Zde (λa=>1000000000000) x1
 let x3:List Int×Int×List INPT×PUnit:=(getO (false,x1) x2).2.2.2.2
 let x4:=x3.2
 let x5:=x4.2.1
 .br (okB x2) (.br (ZiU x5) (Ls ((ZlW x5,x3.1,x4.1))) Ln) Ln
def Ze2 (s:List Int×Int) (k:Int) (st:Bool):List Int×List Int×Int:=getO (ZJu.Df,ZCB.Df) (ZiN s k st).val
def ZiO (s:List Int×Int) (k:Int) (st:Bool):Bool:=okB (ZiN s k st).val
def Zsj:En:=boxE ZCB Zrk ZJu (λa=>some (ZiO a.1 a.2.1 a.2.2)) (λa=>Ze2 a.1 a.2.1 a.2.2)
theorem ZqG:Zb prog 30 Zsj:=
 Zcm (P:=prog) (n:=1023) (k:=8) (l:=[(68,Zcy),(86,Zm6),(87,Zm9)]) (ol:=[(0,ZqH)]) ⟨ZaM,ZiT,Zm7,Tv⟩ Tryz.func30 rfl (by kernel_rfl) Tryz.call30 ⟨Zwd,Tv⟩ (rb:=ZCB) (ts:=Zrk) (rs:=ZJu) (t:=λa=>ZiN a.1 a.2.1 a.2.2) (λa=>by kernel_rfl)
abbrev ZKk:List Sh:=[Sh.agg Z8,So (R.sl ZaA)]
def ZQO:LS:={n:=48,Sl:=[(2,.fix (A.loc 0 0)),(5,.tip 0),(7,.fix (A.loc 1 0)),(10,.code (So (R.sl ZaA))),(11,.code (So Kc)),(12,.code (So Kc)),(18,.code (So (R.sl (RY)))),(19,.code (So Kc)),(20,.code (So Kc))],Bx:=[[.many Z8],[.many ZaA]],Sg:=[⟨Ka,5,true⟩]}
def Zhm (a:List EVTT×Int×Int×List TY×Int×Int×TC×EVTT×List Int×PUnit):RT (Option (Go1 (List EVTT×Int×Int×List TY×Int×Int×TC×EVTT×List Int×PUnit))):=
 let x1:=Zf a.2.2.2.2.2.1 (Le a.2.2.2.1)
 let x2:QT18:=R.get (RY) a.2.2.2.1 a.2.2.2.2.2.1
 let x3:=x2.1
 let x4:=x3==6||(x3==8||x3==9)
 let x5:List Int:=a.2.2.2.2.2.2.2.2.1++[x2.2.2.1]
 .br (decide (a.2.2.2.2.2.1<a.2.2.2.2.1)) (.br (!x1||(!x4||Nat.ble (Le x5) most)) (.br (x1) (Ls (Go1.cont (a.1,a.2.1,a.2.2.1,a.2.2.2.1,a.2.2.2.2.1,i64.wrap (a.2.2.2.2.2.1+1),a.2.2.2.2.2.2.1,a.2.2.2.2.2.2.2.1,bif x4 then x5 else a.2.2.2.2.2.2.2.2.1,PUnit.unit))) Ln) Ln) (Ls (Go1.brk (a.1,a.2.1,a.2.2.1,a.2.2.2.1,a.2.2.2.2.1,a.2.2.2.2.2.1,a.2.2.2.2.2.2.1,a.2.2.2.2.2.2.2.1,a.2.2.2.2.2.2.2.2.1,PUnit.unit)))
def ZlV:Ora:=ZaY false ZQO Zhm (λa=>1000000000000)
theorem ZqI:ZaB (envX prog [(27,ZeN),(28,Zgb)] [] 1023 8) (.block 2 (.loop (ZX Tryz.f33.body 2))) ZlV:=
 loopP ⟨ZeM,ZfB,Tv⟩
def ZQN:LS:={n:=48,Sl:=[(2,.fix (A.loc 0 0)),(5,.tip 0),(10,.code (So (R.sl ZaA))),(11,.code (So Kc)),(12,.code (So Kc))],Bx:=[[.many Z8]],Sg:=[⟨Ka,5,true⟩]}
def Zhl (a:List EVTT×Int×Int×TC×List Int×PUnit):RT (Option (Go1 (List EVTT×Int×Int×TC×List Int×PUnit))):=
 let x1:EVTT:=R.get ZaA a.1 a.2.2.1
 let x2:=Zz6 x1
 let x3:=ZR a.2.2.2.1 x1
 let x4:List EVTT×Int×Int×List TY×Int×Int×TC×EVTT×List Int×PUnit:=(a.1,a.2.1,a.2.2.1,x3,iN (Le x3),0,a.2.2.2.1,x1,a.2.2.2.2.1,())
 let x5:=runF false Zhm (λa_1=>1000000000000) x4
 let x6:List EVTT×Int×Int×List TY×Int×Int×TC×EVTT×List Int×PUnit:=(getO (false,x4) x5).2
 let x7:=x6.2
 let x8:=x7.2
 let x9:=x8.2.2.2.2
 let x10:=x9.2
 .br (decide (a.2.2.1<a.2.1)) (.br (!Zf a.2.2.1 (Le a.1)||(!x2||okB x5)) (.br (!Zf a.2.2.1 (Le a.1)||x2) (.br (Zf a.2.2.1 (Le a.1)) (Ls (Go1.cont (x6.1,x7.1,i64.wrap (x8.1+1),Z7 x9.1 x10.1,x10.2.1,PUnit.unit))) Ln) Ln) Ln) (Ls (Go1.brk (a.1,a.2.1,a.2.2.1,a.2.2.2.1,a.2.2.2.2.1,PUnit.unit)))
def ZDN:Ora:=ZaY false ZQN Zhl (λa=>1000000000000)
theorem ZGV:ZaB (envX prog [(27,ZeN),(28,Zgb)] [(2,ZlV)] 1023 8) (.block 0 (.loop (ZX Tryz.f33.body 0))) ZDN:=
 ZgY (ZbF (l:=[(27,ZeN),(28,Zgb)]) ⟨ZeM,ZfB,Tv⟩ [(2,ZlV)] 1023 8) (ZfV (by kernel_rfl) (by kernel_rfl) ⟨ZqI,Tv⟩) (λa=>by kernel_rfl)
def Zwf (c:TC) (l:List EVTT):RT (Option (List Int)):=
 let x1:=runF false Zhl (λa=>1000000000000) (l,iN (Le l),0,c,[],())
 .br (okB x1) (Ls (getO (false,l,iN (Le l),0,c,[],()) x1).2.2.2.2.2.1) Ln
def ZQP (c:TC) (l:List EVTT):List Int:=getO ZJu.Df (Zwf c l).val
def ZDO (c:TC) (l:List EVTT):Bool:=okB (Zwf c l).val
def ZKl:En:=Zi ZKk ZJu (λa=>some (ZDO a.1 a.2)) (λa=>ZQP a.1 a.2)
theorem ZDM:Zb prog 33 ZKl:=
 pureP 1023 [(27,ZeN),(28,Zgb)] [(2,ZlV),(0,ZDN)] _ _ ⟨ZeM,ZfB,Tv⟩ Tryz.func33 Tryz.call33 ⟨ZqI,ZGV,Tv⟩
def Zc0:En:=.tree (Zx (envX prog [] [] 7 8) Tryz.f31)
theorem ZdV:Zb prog 31 Zc0:=Z5 trivial Tryz.func31 rfl (by kernel_rfl) Tryz.call31 trivial
abbrev ZOQ:List Sh:=[So (R.sl Kc),So (R.sl Kc)]
def ZSJ:LS:={n:=123,Sl:=[(4,.code (So R.bool)),(5,.fix (A.loc 0 0)),(7,.fix (A.loc 2 0)),(9,.code (So Kc)),(10,.fix (A.loc 3 0)),(11,.tip 0),(45,.code (So (R.sl ZaA))),(46,.code (So Kc)),(47,.code (So Kc))],Bx:=[[.many (R.Pq Kc (R.Pq rcRG (R.Pq Kc (R.Pq Ka (R.Pq Ka (R.Pq R.bool rcCE))))))],[.code (.sl Kc),.code (.int i64)],[.many (R.Pq (R.sl ZVK) (R.Pq (R.sl ZlI) (R.Pq (R.sl ZaA) (R.Pq (R.sl Z8) (R.Pq (R.Pq Z8 (R.Pq Kc (R.Pq (R.sl Ka) (R.Pq (RY) (R.Pq Kc R.bool))))) (R.Pq rcCE (R.Pq Zcp (R.Pq (R.Pq Kb (R.Pq Ka Kc)) (R.Pq Kc (R.sl (R.Pq Ka Ka)))))))))))],[.many Z8]],Sg:=[⟨ZaA,77,true⟩]}
def ZeY (a:QT17):RT (Option (Go1 (QT17))):=
 let x1:EVTT:=R.get ZaA a.2.2.1 a.2.2.2.2.1
 let x2:=x1.1
 let x3:=x2==5
 let x4:=a.2.2.2.2.2.2.2.2.1.2.2.2.1
 let x5:Nat:=Le x4
 let x6:=x3||decide (a.2.2.2.2.1>=iN x5)
 let x7:= !x6||(!x3||ZKj)
 let x8:= !x7
 let x9:=x2==1
 let x10:= !x9
 let x11:=x10||Zf a.2.2.2.2.1 x5
 let p1:=x10::(!x11)::x6::x8::(!Zf a.2.2.2.2.1 (Le a.2.2.1))::[]
 let x12:List EVTT:=a.2.2.2.2.2.2.2.2.2.2.1++[x1]
 let x13:Int×List EVTT×Int×Int×BRDT×List Int×Int×RUNT×TC×List EVTT×PUnit:=(a.2.1,a.2.2.1,a.2.2.2.1,a.2.2.2.2.1,a.2.2.2.2.2.1,a.2.2.2.2.2.2.1,a.2.2.2.2.2.2.2.1,a.2.2.2.2.2.2.2.2.1,a.2.2.2.2.2.2.2.2.2.1,a.2.2.2.2.2.2.2.2.2.2.1,PUnit.unit)
 let x14:TC:=R.get Z8 x4 a.2.2.2.2.1
 .br (decide (a.2.2.2.2.1<a.2.2.2.1)) (.br (orR p1 (Nat.ble (Le x12) most)) (.br (!Zf a.2.2.2.2.1 (Le a.2.2.1)||(x8||(x6||x11))) (.br (!Zf a.2.2.2.2.1 (Le a.2.2.1)||x7) (.br (Zf a.2.2.2.2.1 (Le a.2.2.1)) (.br (x6) (Ls (Go1.ret (x3&&tpKn,x13))) (Ls (Go1.cont (a.1,bif x9 then i64.wrap (a.2.1+1) else a.2.1,a.2.2.1,a.2.2.2.1,i64.wrap (a.2.2.2.2.1+1),a.2.2.2.2.2.1,a.2.2.2.2.2.2.1,a.2.2.2.2.2.2.2.1,a.2.2.2.2.2.2.2.2.1,(R.sel Z8 x9 x14 a.2.2.2.2.2.2.2.2.2.1),bif x9 then x12 else a.2.2.2.2.2.2.2.2.2.2.1,PUnit.unit)))) Ln) Ln) Ln) Ln) (Ls (Go1.brk (a.1,x13)))
def ZF9:Ora:=ZaY true ZSJ ZeY (λa=>1000000000000)
theorem ZIN:ZaB (envX prog [(21,ZVs),(22,ZzL),(23,ZvC),(26,Zsh),(30,Zsj),(31,Zc0),(32,ZPe),(33,ZKl),(34,ZsR),(35,ZvF)] [] 262143 8) (.block 0 (.loop (ZX Tryz.f5.body 0))) ZF9:=
 loopP ⟨ZKh,Zwe,Zp8,ZqF,ZqG,ZdV,ZGj,ZDM,Zq3,ZrT,Tv⟩
def Zpz (n:List Int) (m:List Int):RT (Option (Bool)):=
 let x1:RUNT:=(Zco (Zc7 n 0).1 (decX (Ze2 (m,0) 120 true).1)).1
 let x2:=x1.2.2.1
 let x3:QT17:=(false,0,x2,iN (Le x2),0,(Zc7 n 0).1,(Ze2 (m,0) 120 true).2.1,(Ze2 (m,0) 120 true).2.2,x1,Zsi (Zc7 n 0).1,[],())
 let x4:=runF true ZeY (λa=>1000000000000) x3
 let x5:=getO (false,x3) x4
 let x6:=x5.2
 let x7:=x6.2
 let x8:=x7.2.2.2.2
 let x9:=x8.1
 let x10:=Zsi x9
 let x11:=x8.2.2.2.2
 let x12:=x11.2.1
 let x13:=ZDO x10 x12
 let x14:=x9.2
 let x15:=x14.1
 let x16:=x14.2.2.2.2.2
 let x17:=x7.1
 let x18:=runR x10 x15 x16 (ZQP x10 x12) x17
 let x19:=x18.1
 let x20:=x11.1
 let x73:=(R.eqf Z8 x19 x20 true)
 let x74:= !x73
 let x75:=x18.2
 let x76:=x75.2.2==x17
 let x77:= !x76
 let x78:=ZmB x10 x15 x16 x12
 let x79:= !x78
 let x80:=x75.1
 let x81:=smC x80
 let x82:=decide (x80=ZvG x10 x15 x16 x12)
 let p1:=(!x82)::(!x81)::x79::x77::x74::[]
 .br (!(decide (iN (Le n)>200)||decide (iN (Le m)>300))||ZKj) (.br (decide (iN (Le n)>200)||decide (iN (Le m)>300)) (Ls (true)) (.br (ZmX n 0) (.br (!ZiO (m,0) 120 true||Zz5 (Zc7 n 0).1 (Ze2 (m,0) 120 true).1) (.br (ZiO (m,0) 120 true) (.br ((Zco (Zc7 n 0).1 (decX (Ze2 (m,0) 120 true).1)).2 !=0) (Ls (false)) (.br (okB x4) (.br x5.1 (Ls x6.1) (.br (!x13||smG x15&&ZKW x16) (.br (x13) (.br (orR p1 ZKj) (.br (x74||(x77||(x79||x81))) (.br (x74||(x77||x78)) (Ls (x73&&(x76&&(x82&&tpKn)))) Ln) Ln) Ln) Ln) Ln)) Ln)) Ln) Ln) Ln)) Ln
def ZXj (n:List Int) (m:List Int):Bool:=getO Zn6.Df (Zpz n m).val
def ZOR (n:List Int) (m:List Int):Bool:=okB (Zpz n m).val
def ZZm:En:=Zi ZOQ Zn6 (λa=>some (ZOR a.1 a.2)) (λa=>ZXj a.1 a.2)
theorem lTIsa_ok:Zb prog 5 ZZm:=
 pureP 262143 [(21,ZVs),(22,ZzL),(23,ZvC),(26,Zsh),(30,Zsj),(31,Zc0),(32,ZPe),(33,ZKl),(34,ZsR),(35,ZvF)] [(0,ZF9)] _ _ ⟨ZKh,Zwe,Zp8,ZqF,ZqG,ZdV,ZGj,ZDM,Zq3,ZrT,Tv⟩ Tryz.func5 Tryz.call5 ⟨ZIN,Tv⟩
theorem ZPi (g:List GT) (a a':TC) (s:Int) (ha:∀g,Zh a' s g=Zh a s g):∀(r pre:List Int) (m:List Cell) (ins rest:List Int) (o:List (Int×Int)) (n:Nat),r.length<n->(cyX a s pre r).length=r.length->r=datL (cyX a s pre r)->Cons g m (cyX a s pre r)->(Zh a s (pre++r)).2=false->ins=insL (cyX a s pre r)++rest->
  ∃o',goX a' s n pre (g,m,ins,o)=(pre++r,(g,wrL g m (cyX a s pre r),rest,o'))
 |[],pre,m,ins,rest,o,n+1,_,_,_,_,hn,hi=>by rw[Yt] at hn|-;rw[Zmr,ha,hn];subst hi;exact⟨o,rfl⟩
 |b::r,pre,m,ins,rest,o,n+1,hlt,hl,hd,hc,hn,hi=>by
  cases hnx:(Zh a s pre).2
  ·rw[ZjT,hnx] at hl;simp at hl
  ·have hcy:cyX a s pre (b::r)=Zfk a (Zh a s pre).1 b::cyX a s (pre++[b]) r:=by rw[ZjT,hnx];rfl
   rw[hcy] at hl hd hc hi|-;simp only[List.length_cons,Nat.add_right_cancel_iff] at hl hlt;have hd1:b=(Zfk a (Zh a s pre).1 b).2.2.1:=(List.cons.inj hd).1;have hd2:r=datL (cyX a s (pre++[b]) r):=(List.cons.inj hd).2;obtain⟨hc1,hc2⟩:=hc;have hok:=ZW4 a s pre hnx;rw[Zmr,ha,hnx];simp only[Ya];generalize hx:(Zh a s pre).1=x at hd1 hc1 hc2 hi hok|-;have p1:(Zfk a x b).1=x.1:=rfl;have p2:(Zfk a x b).2.1=x.2.1:=rfl;have p3:(Zfk a x b).2.2.1=bif ZaS x.1 then b else x.2.2.1:=rfl
   have hstep:∃o2,doX x (g,m,ins,o)=(b,(g,wrY g m (Zfk a x b),insL (cyX a s (pre++[b]) r)++rest,o2)):=by
    have hii:ins=bif inK x.1 then b::(insL (cyX a s (pre++[b]) r)++rest) else insL (cyX a s (pre++[b]) r)++rest:=by
     rw[hi];unfold insL datL;rw[List.filter_cons,p1];cases inK x.1
     ·rfl
     ·simp only[Ya,if_true,YaW,List.cons_append];rw[<-hd1]
    unfold doX wrY;rw[p1,p2,<-hd1];rw[ZVI] at p3;by_cases k1:x.1=1
    ·have:=hc1 (by rw[p1,k1];rfl);rw[p2,<-hd1] at this;rw[k1] at hii|-;rw[hii,this];exact⟨o,rfl⟩
    by_cases k2:x.1=2
    ·have:=hc1 (by rw[p1,k2];rfl);rw[p2,<-hd1] at this;rw[k2] at hii|-;rw[hii,this];exact⟨o,rfl⟩
    by_cases k4:x.1=4
    ·have:=hc1 (by rw[p1,k4];rfl);rw[p2,<-hd1] at this;rw[k4] at hii|-;rw[hii,this];exact⟨o,rfl⟩
    by_cases k6:x.1=6
    ·rw[k6] at hii|-;rw[hii];exact⟨o,rfl⟩
    by_cases k8:x.1=8
    ·rw[k8] at hii|-;rw[hii];exact⟨o,rfl⟩
    by_cases k9:x.1=9
    ·rw[k9] at hii|-;rw[hii];exact⟨o,rfl⟩
    have b1:(x.1==1)=false:=by simpa using k1
    have b2:(x.1==2)=false:=by simpa using k2
    have b4:(x.1==4)=false:=by simpa using k4
    have b6:(x.1==6)=false:=by simpa using k6
    have b8:(x.1==8)=false:=by simpa using k8
    have b9:(x.1==9)=false:=by simpa using k9
    rw[b1,b2,b4,b6,b8,b9] at p3;have hbx:b=x.2.2.1:=by rw[p3] at hd1;exact hd1
    have hin:inK x.1=false:=by unfold inK;rw[b6,b8,b9];rfl
    rw[hin] at hii;rw[hii];by_cases k3:x.1=3
    ·rw[k3,hbx];exact⟨o,rfl⟩
    by_cases k5:x.1=5
    ·rw[k5,hbx];exact⟨o,rfl⟩
    by_cases k7:x.1=7
    ·rw[k7,hbx];exact⟨_,rfl⟩
    have b3:(x.1==3)=false:=by simpa using k3
    have b5:(x.1==5)=false:=by simpa using k5
    have b7:(x.1==7)=false:=by simpa using k7
    have hz:b=0:=by
     rw[hbx];unfold okK at hok;have:(decide (1<=x.1)&&decide (x.1<=9))=false:=by simp only[Yah,Y9];omega
     rw[this] at hok;simpa using hok
    rw[b1,b2,b4,b3,b5,b7,b6,b8,b9,hz];exact⟨o,rfl⟩
   obtain⟨o2,hs⟩:=hstep;rw[hs];have ih:=ZPi g a a' s ha r (pre++[b]) (wrY g m (Zfk a x b)) _ rest o2 n (by omega) hl hd2 hc2 (by rw[Yn];exact hn) rfl;rw[Yn] at ih;exact ih
def LatF (c:TC):Prop:=c.2.2.2.2.2.2.1=false/\c.2.2.2.2.2.2.2.1=false/\c.2.2.2.2.2.2.2.2.1=false/\c.2.2.2.2.2.2.2.2.2.1=false
def LowL (l:LINT):Prop:=l.2.2=(false,false,false,false,false,false,false)
def ZxD (i:INPT):Prop:=i.2.2.1=false/\i.2.2.2.1=false/\i.2.2.2.2.1=false/\i.2.2.2.2.2.1=false/\i.2.2.2.2.2.2.1=false/\i.2.2.2.2.2.2.2.1=false/\i.2.2.2.2.2.2.2.2.1=0
theorem ZyQ {c:TC} (hc:LatF c) (hl:LowL l):Zg c l=c:=by obtain⟨c1,c2,c3,c4,c5,c6,c7,c8,c9,c10,c11,c12,c13⟩:=c;obtain⟨l1,l2,l3⟩:=l;obtain⟨h1,h2,h3,h4⟩:=hc;simp only[LowL] at h1 h2 h3 h4 hl;subst h1;subst h2;subst h3;subst h4;subst hl;unfold Zg Zns;simp only[RT.val];cases !rOn c1<;>rfl
theorem ZE4 {c:TC} (hc:LatF c) (hl:LowL l):ZbI c l=0:=by obtain⟨c1,c2,c3,c4,c5,c6,c7,c8,c9,c10,c11,c12,c13⟩:=c;obtain⟨l1,l2,l3⟩:=l;obtain⟨h1,h2,h3,h4⟩:=hc;simp only[LowL] at h1 h2 h3 h4 hl;subst h1;subst h2;subst h3;subst h4;subst hl;unfold ZbI ZwJ;simp only[RT.val,Yag,YW,Yb];cases !c3||c4<;>rfl
theorem ZXG (hl:LowL l) (c:TC) (s:Int) (g:List Int):finX c s g l=finX c s g noL:=by
 obtain⟨l1,l2,l3⟩:=l;simp only[LowL] at hl;subst hl;unfold finX finI;dsimp only;have:∀d:TC,rRim d (l1,l2,false,false,false,false,false,false,false)=rRim d noL:=λd=>by unfold rRim ZLd;rfl
 simp only[this]
theorem ZVA (c:TC) (a:Int) (h:LatF c):LatF (rSim c a):=by obtain⟨h1,h2,h3,h4⟩:=h;unfold rSim ZRh;simp only[RT.val];refine⟨h1,?_,h3,h4⟩;show (!andI u8 a 16 !=0&&c.2.2.2.2.2.2.2.1)=false;rw[h2,Yag]
theorem ZPs {c:TC} (h:LatF c) (g:List Int) (l:LINT):LatF (finX c 0 g l):=by
 have e:finX c 0 g l=finI c (0==5) g l (Zc c.1 (g.getD 0 0)):=rfl;rw[e];unfold finI;dsimp only;cases (Zc c.1 (g.getD 0 0)).1==38
 ·simp only[Yb];cases (Zc c.1 (g.getD 0 0)).1==39
  ·exact h
  ·exact ZVA _ _ h
 ·simp only[Ya,ZTR];exact h
theorem andI0 (x:Int):andI .u8 x 0=0:=by unfold andI;simp;rfl
theorem ZZL (m:Int):ZY .u8 0 m=0:=by unfold ZY;simp;rfl
theorem ZZx (k:Int):Zc4 0 k= -1:=by
 have h:=ZJE 0 k;obtain⟨h0,h1⟩:=and7 k;have key:(List.range 8).all (λk=>(Zlj 0 (k:Int)).val==some (-1))=true:=by kernel_rfl
 obtain⟨b,hb⟩:∃b:Nat,andI .i64 k 7=(b:Int):=⟨(andI .i64 k 7).toNat,by omega⟩;have:=YV.1 key b (by simp;omega);simp only[Yav] at this;rw[hb,this] at h;simp only[Zc4,h,getO]
theorem ZXp (p:PICT):vInt (Zfa p 0)=false:=by
 have hr:∀q:PICT,q.2.2.2.2.2.2.2.2.2.2.2.2.1=0->q.2.2.2.2.2.2.2.2.2.2.2.2.2.1=0->vReq q=0:=λq h1 h2=>by unfold vReq ZU4;simp only[RT.val];show (bif q.2.1 then q.2.2.2.2.2.2.2.2.2.2.2.2.1 else q.2.2.2.2.2.2.2.2.2.2.2.2.2.1)=0;rw[h1,h2];cases q.2.1<;>rfl
 have hq:vReq (Zfa p 0)=0:=hr _ rfl (by
  show andI .u8 _ 0=0
  exact andI0 _)
 have hp:∀m s k q,ZvV 0 m s k q= -1:=λm s k q=>by
  have h1:(Zgt 0 m s k q).val=some (-1):=by simp only[Zgt,RT.val,ZZL,ZZx,(ZiH _ k).1,Ya];rfl
  simp only[ZvV,h1,getO]
 have hk:vPck (Zfa p 0)= -1:=by
  have h1:(ZvW (Zfa p 0)).val=some (-1):=by
   have hc:∀m s k q,ZmK 0 m s k q=true:=λm s k q=>by
    have h1:(Zgt 0 m s k q).val=some (-1):=by simp only[Zgt,RT.val,ZZL,ZZx,(ZiH _ k).1,Ya];rfl
    simp only[ZmK,h1,okB]
   simp only[ZvW,RT.val,hq,hp,hc,Ya]
  simp only[vPck,h1,getO]
 unfold vInt ZJD;simp only[RT.val,hk,(Zr6 _).1,Ya,getO];rfl
theorem ZOM (b:BRDT) (s:SYST) (i:INPT) (h:ZxD i):LowL (ZaK b (Zn b s i) i):=by
 obtain⟨h1,h2,h3,h4,h5,h6,h7⟩:=h;unfold LowL ZaK;simp only[h1,h2,h3,h4,h5,h6,h7,pinj,true_and];cases hj:b.2.2.2.2.2.1
 ·have e:(Zn b s i).2.2.1=Zfa s.2.2.1 0:=by unfold Zn;simp only[hj,h7];rfl
  rw[e];exact ZXp _
 ·rfl
def EvC (c:TC) (e:EVTT):Prop:=e.1≠5->e.1=1/\e.2.1=0/\LowL e.2.2.2.1/\(e.2.2.2.2.1=false/\e.2.2.2.2.2.1=false/\e.2.2.2.2.2.2.1=false/\e.2.2.2.2.2.2.2.1=false)/\c.2.2.2.2.1=false
def EvCs (s0:TC) (ev:List EVTT):Prop:=∀l1 e l2,ev=l1++e::l2->EvC (ZH s0 l1) e
theorem EvCs.snoc (h:EvCs s0 ev) (he:EvC (ZH s0 ev) e):EvCs s0 (ev++[e]):=by
 intro l1 x l2 hq;rcases Y8 l2 with rfl|⟨l2',y,rfl⟩
 ·have:=YaE hq rfl;obtain⟨rfl,h2⟩:=this;obtain rfl:e=x:=by simpa using h2
  exact he
 ·rw[Y4] at hq;have hq':ev++[e]=(l1++x::l2')++[y]:=by rw[hq];simp
  have:=YaE hq' rfl;exact h l1 x l2' this.1
structure Clm (s0:TC) (s:SYST) (ev:List EVTT):Prop where
 src:s.1.2.1=0
 lat:LatF s.1.1
 evs:EvCs s0 ev
theorem ZXN {p:TC} (hp:LatF p) (g:List Int) (h:Bool) (hl:LowL l):(endX p 0 g h l).2.1=0/\LatF (endX p 0 g h l).1:=by
 have hf:=ZPs hp g l;unfold endX;dsimp only;rw[ZE4 hf hl];cases (Zh p 0 g).2
 ·exact⟨rfl,hf⟩
 ·exact⟨rfl,hp⟩
theorem ZP0 (hs:c.2.1=0) (hc:LatF c.1) (hl:LowL l) (d:Int):(Zk c l d).2.1=0/\LatF (Zk c l d).1:=by
 have hr:l.2.2.1=false:=by rw[hl]
 obtain⟨p0,s,g,x,n,hd⟩:=c;simp only at hs hc;subst hs;have he:=λg h=>ZXN hc g h hl
 unfold Zk;dsimp only;rw[ZyQ hc hl,hr,ZE4 hc hl];cases ZM n==1
 ·cases ZM n==2||ZM n==7
  ·cases ZM n==8
   ·cases ZM n==9
    ·cases ZM n==3
     ·cases decide (ZM n<x.2.2.2)&& !(ZM n==6)
      ·exact he _ _
      ·exact⟨rfl,hc⟩
     ·cases le3 (ZaH p0 x d).2.2.2
      ·exact⟨rfl,hc⟩
      ·exact he _ _
    ·exact⟨rfl,hc⟩
   ·exact⟨rfl,hc⟩
  ·cases l.1|| !Zq x.1<;>exact⟨rfl,hc⟩
 ·exact⟨rfl,hc⟩
theorem ZP3 (b:BRDT) (s0:TC) (st:STT) (i:INPT) (h:Sem s0 st.1.1 st.2.2.2.1 st.2.2.2.2 st.2.2.1) (C:Clm s0 st.1 st.2.2.2.1) (hi:ZxD i):Clm s0 (Zas b s0 st i).1 (Zas b s0 st i).2.2.2.1:=by
 have hcore:(ZW b st.1 i).1.1=Zk st.1.1 (ZaK b (Zn b st.1 i) i) (busS b (Zn b st.1 i) i).2:=Zfy b st.1 i;have hl:=ZOM b st.1 i hi;obtain⟨k1,k2⟩:=ZP0 C.src C.lat hl (busS b (Zn b st.1 i) i).2;refine⟨by show (ZW b st.1 i).1.1.2.1=0;rw[hcore];exact k1,by show LatF (ZW b st.1 i).1.1.1;rw[hcore];exact k2,?_⟩;show EvCs s0 (evE st.2.2.2.1 st.1.1 (ZaK b (Zn b st.1 i) i) (busS b (Zn b st.1 i) i).2 (ZW b st.1 i).2.2.2.2.1 (Zbf b st.1 i));generalize ZaK b (Zn b st.1 i) i=l at hl;generalize (busS b (Zn b st.1 i) i).2=d;have hr:l.2.2.1=false:=by rw[hl]
 have h5:∀(c:TC) (cell:Cell),EvC c (5,0,[],ZdI,false,false,false,false,cell):=λc cell e=>absurd rfl e
 have h1:(finS st.1.1 l d).2=true->EvC (ZH s0 st.2.2.2.1) (Ze1 (Zgh st.1.1.2.1,st.1.1.2.1,Zb7 st.1.1 (Zp st.1.1) d,ZdI,false,false,false,false,0,0) (Zg st.1.1.1 l) l):=λhf _=>by
  rw[ZyQ C.lat hl,C.src,Zbq];obtain⟨q1,q2,q3,q4⟩:=C.lat;refine⟨rfl,rfl,hl,⟨q2,q1,q4,q3⟩,?_⟩;have hu:=ZJJ h.un;rw[C.src,Zj7] at hu;rw[<-hu];cases hh:st.1.1.1.2.2.2.2.1
  ·rfl
  ·obtain⟨r1,_⟩:=h.rest C.src hh;rcases r1 with r1|r1
   ·rw[Zg9 r1 hr (λ_=>rfl)] at hf;simp at hf
   ·rw[Zg9 r1 hr (λ_=>rfl)] at hf;simp at hf
 unfold evE;dsimp only;rw[hr];cases hf:(finS st.1.1 l d).2<;>cases Zbf b st.1 i<;>simp only[Ya,Yb]
 ·exact C.evs
 ·exact C.evs.snoc (h5 _ _)
 ·exact C.evs.snoc (h1 hf)
 ·exact (C.evs.snoc (h1 hf)).snoc (h5 _ _)
theorem ZGF (b:BRDT) (s0:TC):∀(l:List INPT) (st:STT),Sem s0 st.1.1 st.2.2.2.1 st.2.2.2.2 st.2.2.1->Clm s0 st.1 st.2.2.2.1->(∀i∈l,ZxD i)->Clm s0 (ZbU b s0 st l).1 (ZbU b s0 st l).2.2.2.1
 |[],st,h,C,_=>C
 |i::l,st,h,C,hi=>ZGF b s0 l (Zas b s0 st i) (Znc b s0 st i h) (ZP3 b s0 st i h C (hi i (by simp))) (λj hj=>hi j (YA _ hj))
def insA:TC->List EVTT->List Int
 |_,[]=>[]
 |c,e::l=>insL (ZR c e)++insA (Z7 c e) l
theorem ZMs {c:TC} (hc:LatF c) (h:e.2.2.2.2.1=false/\e.2.2.2.2.2.1=false/\e.2.2.2.2.2.2.1=false/\e.2.2.2.2.2.2.2.1=false):ZxK c e=c:=by obtain⟨q1,q2,q3,q4⟩:=hc;obtain⟨e1,e2,e3,e4⟩:=h;exact Zpy rfl e ⟨by rw[e1,q2],by rw[e2,q1],by rw[e3,q4],by rw[e4,q3]⟩
theorem ZQW (g:List GT) (c:TC) (e:EVTT) (M:List Cell) (hc:LatF c) (he:EvC c e) (h5:e.1≠5) (ok:Zzg c e) (co:Cons g M (ZR c e)) (rest:List Int) (o:List (Int×Int)):
  ∃o',ZiQ c 0 noL (g,M,insL (ZR c e)++rest,o)=(Z7 c e,(g,wrL g M (ZR c e),rest,o'),e.2.2.1)/\LatF (Z7 c e):=by
 obtain⟨k1,k2,k3,k4,k5⟩:=he h5;have hk:ZjQ e.1=true:=by rw[k1];rfl
 obtain⟨h1,h2,h3⟩:=ok hk;have hcy:ZR c e=cyX (Zj c e.2.1) e.2.1 [] e.2.2.1:=by unfold ZR cycE;rw[hk];rfl
 rw[hcy] at co h2|-;rw[k2,Zj7] at co h2 h3|-;have hln:(cyX c 0 [] e.2.2.1).length=e.2.2.1.length:=by have:=congrArg List.length h2;unfold datL at this;rw[List.length_map] at this;exact this.symm
 have h6:e.2.2.1.length<6:=by
  rcases ZGB _ _ _ _ hln with h|h
  ·rw[h];decide
  ·simp at h;omega
 obtain⟨o',ho⟩:=ZPi g c c 0 (λ_=>rfl) e.2.2.1 [] M _ rest o 6 h6 hln h2 co h3 rfl;have ha:Z7 c e=finX c 0 e.2.2.1 noL:=by unfold Z7;rw[hk,k2,Zj7,ZMs hc k4];exact ZXG k3 c 0 e.2.2.1
 refine⟨o',?_,by rw[ha];exact ZPs hc _ _⟩;unfold ZiQ;rw[Zj7,ho,ha];rfl
theorem ZTk (c:TC) (e:EVTT) (l:List EVTT):cyA c (e::l)=ZR c e++cyA (Z7 c e) l:=rfl
theorem ZKQ (g:List GT):∀(ev:List EVTT) (c:TC) (M:List Cell) (rest:List Int) (o:List (Int×Int)) (u:Int),LatF c->EvCs c ev->NoD ev->EvOk c ev->Cons g M (cyA c ev)->
  ∃o',runX ev.length c (g,M,insA c ev++rest,o) u=(ZH c ev,(g,wrL g M (cyA c ev),rest,o'),u+(ev.length:Int))
 |[],c,M,rest,o,u,_,_,_,_,_=>⟨o,by simp[runX,insA,ZH,cyA,wrL]⟩
 |e::ev,c,M,rest,o,u,hc,he,hn,hk,co=>by
  have he0:EvC c e:=he [] e ev rfl;have h5:e.1≠5:=hn e (by simp);have hd0:Zzg c e:=hk [] e ev rfl;rw[ZTk] at co;obtain⟨co1,co2⟩:=(ZjW _ _ _ _).1 co;obtain⟨o1,hs,hl⟩:=ZQW g c e M hc he0 h5 hd0 co1 (insA (Z7 c e) ev++rest) o;obtain⟨o2,ih⟩:=ZKQ g ev (Z7 c e) (wrL g M (ZR c e)) rest o1 (u+1) hl (λl1 x l2 hq=>he (e::l1) x l2 (by rw[hq];rfl)) (λx hx=>hn x (YA _ hx)) (λl1 x l2 hq=>hk (e::l1) x l2 (by rw[hq];rfl)) co2;refine⟨o2,?_⟩;have hh:c.2.2.2.2.1=false:=(he0 h5).2.2.2.2;have hi:insA c (e::ev)++rest=insL (ZR c e)++(insA (Z7 c e) ev++rest):=by show (insL _++insA _ _)++rest=_;rw[Yn]
  rw[List.length_cons,hi];show (bif c.2.2.2.2.1 then _ else _)=_;rw[hh];simp only[Yb,hs];rw[ih];have e1:u+1+(ev.length:Int)=u+((ev.length+1:Nat):Int):=by omega
  have e2:wrL g (wrL g M (ZR c e)) (cyA (Z7 c e) ev)=wrL g M (ZR c e++cyA (Z7 c e) ev):=by unfold wrL;rw[Yak]
  rw[e1,e2];rfl
def shX (r h:Bool):INPT:=(r,h,false,false,false,false,false,false,0,42)
def isSh (i:INPT):Prop:=∃r h,i=shX r h
def encB (i:INPT):List Int:=[Zwq i,i.2.2.2.2.2.2.2.2.1,i.2.2.2.2.2.2.2.2.2,Zif (Zwq i) i.2.2.2.2.2.2.2.2.1 i.2.2.2.2.2.2.2.2.2]
theorem ZZG (r h:Bool):ZD0 (shX r h)=true:=by cases r<;>cases h<;>(show _=_;kernel_rfl)
theorem ZZu (r h:Bool):inpX (Zwq (shX r h)) 0 42 (Zif (Zwq (shX r h)) 0 42)=shX r h:=by cases r<;>cases h<;>(show _=_;kernel_rfl)
theorem dec_enc:∀L:List INPT,(∀i∈L,isSh i)->decX (L.flatMap encB)=L
 |[],_=>rfl
 |i::L,h=>by obtain⟨r,k,rfl⟩:=h i (by simp);show inpX (Zwq (shX r k)) 0 42 (Zif (Zwq (shX r k)) 0 42)::decX (L.flatMap encB)=_;rw[ZZu,dec_enc L λj hj=>h j (YA _ hj)]
theorem ZhI (L:List INPT):(L.flatMap encB).length=4*L.length:=by
 induction L with
 |nil=>rfl
 |cons i L ih=>rw[List.flatMap_cons,Yd,ih,List.length_cons];show 4+_=_;omega
theorem ZZC (L:List INPT) (h:∀i∈L,isSh i) (hl:L.length<=1000):ZiU L=true/\ZlW L=L.flatMap encB:=by
 have hms:=mst;have hr:=Zsz (fl:=false) Zdf (λi=>(L,iN L.length,i,(L.take i.toNat).flatMap encB,())) (λa=>a.2.2.1) L.length (λ_=>rfl)
  (λi hi=>by
   obtain⟨k1,k2,k3⟩:=ZGh hi (by omega);have hm:R.get ZcP L (i:Int)∈L:=by
    have:R.get ZcP L (i:Int)=L[i]:=by simp[R.get,Yh hi]
    rw[this];exact YaM _
   obtain⟨r,k,he⟩:=h _ hm;have hc:ZD0 (R.get ZcP L (i:Int))=true:=by rw[he];exact ZZG r k
   have hf:(L.take (i+1)).flatMap encB=(L.take i).flatMap encB++encB (R.get ZcP L (i:Int)):=by rw[Zkj (r:=ZcP) L i hi,List.flatMap_append];simp
   have hb:∀a b c d:Int,Nat.ble ((L.take i).flatMap encB++[a,b,c,d]).length most=true:=λa b c d=>ZaE (by rw[Yd,ZhI,YF];simp;omega)
   simp only[Int.toNat_natCast];rw[hf];simp only[Zdf,RT.val,k1,k2,k3,hc,hb,Yf,Yj,Yi,Ya]
   rfl)
  (by simp only[Zdf,RT.val,ZGu,Yb]) (by omega)
 rw[Int.toNat_natCast,YaC] at hr;have hr:runF false Zdf (λ_=>1000000000000) (L,iN L.length,0,[],())=_:=hr;have e1:(if 65536<iN L.length then (65536:Int) else iN L.length)=iN L.length:=Y3 (by simp only[iN,Le];omega);have e2:subL L 0 (iN L.length)=L:=by simp[subL,iN,Le]
 have e3:decide ((0:Int)<=iN L.length)=true:=Yq (by simp only[iN,Le];omega);have e4:decide (iN L.length<=iN L.length)=true:=Yq (Int.le_refl _);have hv:(ZgB L).val=some (L.flatMap encB):=by simp only[ZgB,RT.val,e1,e2,e3,e4,hr,okB,getO,Yi,YY,Ya];rfl
 exact⟨by simp only[ZiU,hv,okB],by simp only[ZlW,hv,getO]⟩
theorem ZRB (m:List Int):∃L:List INPT,L.length=120/\(∀i∈L,isSh i)/\ZiO (m,0) 120 true=true/\(Ze2 (m,0) 120 true).1=L.flatMap encB:=by
 have hms:=mst;obtain⟨q,hq,h1,L,s,hL,hS,h2⟩:=ZA (fl:=false) (t:=Zde) (fuel:=λ_=>1000000000000)
  (λa=>∃(i:Nat) (s:List Int×Int) (L:List INPT),i<=120/\NB s (2*i)/\L.length=i/\(∀x∈L,isSh x)/\a=(120,true,(i:Int),s.1,s.2,L,()))
  (λa=>Int.toNat (120-a.2.2.1)) (λq=>q.1=false/\∃(L:List INPT) (s:List Int×Int),L.length=120/\(∀x∈L,isSh x)/\q.2=(120,true,120,s.1,s.2,L,()))
  (by
   rintro a ⟨i,s,L,hi,hs,hl,hL,rfl⟩;by_cases hlt:i<120
   ·left;have d:decide ((i:Int)<120)=true:=Yq (by omega);have w:IntKind.wrap .i64 ((i:Int)+1)=((i+1:Nat):Int):=by rw[wrap_i64 _ (by omega) (by omega)];omega
    obtain⟨a1,b1,_,_⟩:=Zs hs (by omega) 3 (by decide) (by decide);obtain⟨a2,b2,_,_⟩:=Zs b1 (by omega) 4 (by decide) (by decide);have hb:∀x:INPT,Nat.ble (L++[x]).length most=true:=λx=>ZaE (by simp;omega)
    have hv:∃r h,(Zde (120,true,(i:Int),s.1,s.2,L,())).val=some (Go1.cont (120,true,((i+1:Nat):Int),(Za (Za s 3).2 4).2.1,(Za (Za s 3).2 4).2.2,L++[shX r h],())):=by simp only[Zde,RT.val,d,w,a1,a2,hb,Yf,Yj,Yi,Ya];exact⟨_,_,rfl⟩
    obtain⟨r,h,hv⟩:=hv;refine⟨_,hv,⟨i+1,(Za (Za s 3).2 4).2,L++[shX r h],by omega,⟨b2.1,by have:=b2.2;omega⟩,by simp;omega,λx hx=> ?_,rfl⟩,by simp only;omega⟩;rcases Y1.1 hx with hx|hx
    ·exact hL x hx
    ·rw[Yac] at hx;exact⟨r,h,hx⟩
   ·right;left;have e:i=120:=by omega
    have d:decide ((120:Int)<120)=false:=rfl;rw[e]
    exact⟨(120,true,120,s.1,s.2,L,()),by show (Zde (120,true,120,s.1,s.2,L,())).val=_;simp only[Zde,RT.val,d,Yb],rfl,L,s,by omega,hL,rfl⟩)
  (120,true,0,(m,(0:Int)).1,(m,(0:Int)).2,[],()) ⟨0,(m,0),[],by omega,ZCZ m,rfl,λx hx=>(by cases hx),rfl⟩ (by simp only;omega)
 obtain⟨q1,q2⟩:=q;simp only at h1 h2;subst h1;subst h2;obtain⟨e1,e2⟩:=ZZC L hS (by omega);have hv:(ZiN (m,0) 120 true).val=some (L.flatMap encB,s.1,s.2):=by simp only[ZiN,RT.val,hq,okB,getO,e1,e2,Ya]
 exact⟨L,hL,hS,by simp only[ZiO,hv,okB],by simp only[Ze2,hv,getO]⟩
