import Derived.Test.YtpnjbfjomebppaaGreatLaw10
open Go.IntKind (u8 u16 i64)
open Go Go.S3 Go.Proofs Go.Proofs.Cells
set_option linter.unusedVariables false
set_option linter.unusedSimpArgs false
set_option maxRecDepth 100000
namespace Go.Proofs.YtpnjbfjomebppaaGreat
noncomputable section
theorem ZiW {τ:Type} {fl:Bool} (T:τ->RT (Option (Go1 τ))) (mk:Int->τ) (idx:τ->Int) (n:Nat) (hi:∀i,idx (mk i)=i) (hT:∀i:Nat,i<n->(T (mk i)).val=some (.cont (mk ((i+1:Nat):Int)))) (hE:(T (mk n)).val=some (.brk (mk n))) (hn:n<=1000000000):
  runF fl T (λ_=>1000000000000) (mk 0)=some (false,mk n):=by
 obtain⟨r,hr,h1⟩:=ZN (fl:=fl) (t:=T) (fuel:=λ_=>1000000000000)
  (λa=>∃i:Nat,i<=n/\a=mk i) (λa=>n-(idx a).toNat) (λr=>r=(false,mk n))
  (by
   rintro a ⟨i,h,rfl⟩;by_cases hlt:i<n
   ·exact .inl ⟨_,hT i hlt,⟨i+1,hlt,rfl⟩,by simp only[hi];omega⟩
   ·have e:i=n:=by omega
    subst e
    exact .inr (.inl ⟨_,hE,rfl⟩))
  (mk 0) ⟨0,Yv _,rfl⟩ (by simp only[hi];omega)
 rw[h1] at hr;exact hr
variable {α:Type}
theorem ZyM {l:List α} {i:Nat} (h:i<l.length) (hl:l.length<=1000000000):decide ((i:Int)<iN l.length)=true/\Zg (i:Int) l.length=true/\IntKind.wrap .i64 ((i:Int)+1)=((i+1:Nat):Int):=by refine⟨by simp only[iN,Le,Yi];omega,ZS.2 ⟨by omega,by omega⟩,?_⟩;rw[wrap_i64 _ (by omega) (by omega)];omega
theorem ZyZ (n:Nat):decide ((n:Int)<iN n)=false:=by simp[iN,Le]
theorem ZUK (l:List PINT) (h:l.length<=1000000000):Zhw l l=true/\Zi5 l l=true:=by
 have hr:=ZiW (fl:=true) Zds (λi=>(l,l,false,iN l.length,i,())) (λa=>a.2.2.2.2.1) l.length (λ_=>rfl)
  (λi hi=>by
   obtain⟨k1,k2,k3⟩:=ZyM hi h
   simp only[Zds,RT.val,k1,k2,k3,R.eqf_refl,Ya,Yb,Yf,Yh,Yk])
  (by simp only[Zds,RT.val,ZyZ,Yb]) h
 have hv:(Zfl l l).val=some true:=by simp only[Zfl,RT.val,hr,Yai,okB,getO,Yb,Ya]
 exact⟨by simp only[Zhw,hv,okB],by simp only[Zi5,hv,getO]⟩
theorem ZUL (l:List EVTT) (h:l.length<=1000000000):ZlM l l=true/\ZrO l l=true:=by
 have hr:=ZiW (fl:=true) Zfa (λi=>(l,false,l,iN l.length,i,())) (λa=>a.2.2.2.2.1) l.length (λ_=>rfl)
  (λi hi=>by
   obtain⟨k1,k2,k3⟩:=ZyM hi h
   simp only[Zfa,RT.val,k1,k2,k3,R.eqf_refl,ZCB,YaN,Yai,Zb6,Zbe,Ya,Yb,Yf,Yh,Yk,Yae,YZ])
  (by simp only[Zfa,RT.val,ZyZ,Yb]) h
 have hv:(ZiH l l).val=some true:=by simp only[ZiH,RT.val,hr,Yai,okB,getO,Yb,Ya]
 exact⟨by simp only[ZlM,hv,okB],by simp only[ZrO,hv,getO]⟩
theorem ZfM (b:BRDT) (l:List INPT) (hg:smG b.2.1=true) (hm:b.2.2.2.2.2.2.length<=100000) (hl:l.length<=1000):
  (ZbL b l).1.1.length<=1000/\(ZbL b l).1.2.1.length<=1000/\(ZbL b l).1.2.2.1.length<=2001/\(ZbL b l).1.2.2.2.1.length<=2001/\(ZbL b l).1.2.2.2.2.2.1.length<=102000/\(ZbL b l).1.2.2.2.2.2.2.2.2.2.length<=1000:=by
 obtain⟨_,_,h0⟩:=Zmx b hg hm;unfold ZbL;cases hx:(wNew b).2 !=0
 ·have h0:=(h0 (by simpa using hx)).1;have hf:=ZpA b (Z2 b) l (Zbg b) 0 h0;rw[Yu] at hf;simp only[Yb];generalize ZbO b (Z2 b) (Zbg b) l=st at hf;have ht:=hf.t;have hi:=hf.it;have he:=hf.ev;have hc:=hf.cp;have hmm:=hf.m;have ho:=hf.o;unfold endS;cases ZdU st.1.1
  ·exact⟨by show st.2.1.length<=_;omega,by show st.2.2.1.length<=_;omega,by show st.2.2.2.1.length<=_;omega,by show st.2.2.2.2.length<=_;omega,by show st.1.2.1.length<=_;omega,by show st.1.2.2.2.2.2.length<=_;omega⟩
  ·exact⟨by show st.2.1.length<=_;omega,by show st.2.2.1.length<=_;omega,by show (st.2.2.2.1++[_]).length<=_;simp;omega,by show (st.2.2.2.2++[_]).length<=_;simp;omega,by show st.1.2.1.length<=_;omega,by show st.1.2.2.2.2.2.length<=_;omega⟩
 ·exact⟨Yv _,Yv _,Yv _,Yv _,Yv _,Yv _⟩
theorem ZXy {w a b:Int} {m:Bool} (hw:inR .u16 w) (a0:0<=a) (a1:a<6) (b0:0<=b) (b1:b<5):
  badR (w,u16.wrap (if 65535<i64.wrap (i64.wrap w+R.get (R.int i64) [0,3,15,255,4095,65535] a) then 65535 else i64.wrap (i64.wrap w+R.get (R.int i64) [0,3,15,255,4095,65535] a)),m,R.get (R.int i64) [0,0,1,2,5] b)=false:=by
 rw[Zf0] at hw;obtain⟨x,ex,hx⟩:∃x:Int,R.get (R.int i64) [0,3,15,255,4095,65535] a=x/\0<=x/\x<=65535:=by
  have:a=0\/a=1\/a=2\/a=3\/a=4\/a=5:=by omega
  rcases this with rfl|rfl|rfl|rfl|rfl|rfl<;>exact⟨_,rfl,by decide,by decide⟩
 obtain⟨y,ey,hy⟩:∃y:Int,R.get (R.int i64) [0,0,1,2,5] b=y/\0<=y/\y<=100:=by
  have:b=0\/b=1\/b=2\/b=3\/b=4:=by omega
  rcases this with rfl|rfl|rfl|rfl|rfl<;>exact⟨_,rfl,by decide,by decide⟩
 rw[ex,ey];have w1:IntKind.wrap .i64 w=w:=wrap_i64 _ (by omega) (by omega);have w2:IntKind.wrap .i64 (w+x)=w+x:=wrap_i64 _ (by omega) (by omega);rw[w1,w2];have hu:∀z:Int,0<=z->z<=65535->IntKind.wrap .u16 z=z:=λz h1 h2=>by rw[ZaW];omega
 unfold badR;simp only;rw[Yp,Yp];refine⟨?_,YG (by omega),YG (by omega)⟩;by_cases h:65535<w+x
 ·rw[YY h,hu _ (by omega) (by omega)];exact YG (by omega)
 ·rw[Y3 h,hu _ (by omega) (by omega)];exact YG (by omega)
variable {s:List Int×Int} {k:Int}
theorem Zx9 (h:NB s k) (hk:k<=500000) (n:Nat) (hn:n<=100):
  Zb9 s (n:Int)=true/\NB (ZU s (n:Int)).2 (k+1+5*n)/\(ZU s (n:Int)).1.length<=n/\∀r∈(ZU s (n:Int)).1,badR r=false:=by
 have hms:=mst;have w0:IntKind.wrap .i64 ((n:Int)+1)=(n:Int)+1:=wrap_i64 _ (by omega) (by omega);obtain⟨c1,b1,d0,d1⟩:=Zt h (by omega) ((n:Int)+1) (by omega) (by omega);obtain⟨L,N,hs1⟩:∃L N,(L,N)=(Za s ((n:Int)+1)).2:=⟨_,_,rfl⟩;obtain⟨q,hq⟩:∃q:Nat,(Za s ((n:Int)+1)).1=(q:Int):=⟨_,(Yaq d0).symm⟩;rw[<-hs1] at b1;obtain⟨r,hr,h1,L',N',o,hs',⟨ho,hvv⟩,hR⟩:=ZN (fl:=false) (t:=Zb8) (fuel:=λa=>400)
  (λa=>∃(i:Nat) (L:List Int) (N:Int) (o:List ZO),i<=q/\NB (L,N) (k+1+5*((q-i:Nat):Int))/\(o.length<=q-i/\∀r∈o,badR r=false)/\a=((i:Int),(L,N),o,()))
  (λa=>Int.toNat a.1) (λr=>r.1=false/\∃(L:List Int) (N:Int) (o:List ZO),NB (L,N) (k+1+5*(q:Int))/\(o.length<=q/\∀r∈o,badR r=false)/\r.2=((0:Int),(L,N),o,()))
  (by
   rintro a ⟨i,L,N,o,hi,hs',⟨ho,hv⟩,rfl⟩;cases i with
   |zero=>
    right;left;exact⟨_,by simp only[Zb8,RT.val];rfl,rfl,L,N,o,by simpa using hs',⟨by omega,hv⟩,rfl⟩
   |succ i=>
    left;have d:decide (((i+1:Nat):Int)>0)=true:=Yr (by omega);obtain⟨kw,bw,hwr⟩:=ZFp hs' (by omega);obtain⟨k1,b1,e0,e1⟩:=Zt bw (by omega) 6 (by decide) (by decide);obtain⟨k2,b2,_⟩:=Zt b1 (by omega) 3 (by decide) (by decide);obtain⟨k3,b3,f0,f1⟩:=Zt b2 (by omega) 5 (by decide) (by decide);have r1:Zg (Za (ZaQ (L,N)).2 6).1 6=true:=ZS.2 ⟨e0,e1⟩;have r2:Zg (Za (Za (Za (ZaQ (L,N)).2 6).2 3).2 5).1 5=true:=ZS.2 ⟨f0,f1⟩;have hb:∀x:ZO,Nat.ble (o++[x]).length most=true:=λx=>ZbQ (by simp;omega)
    have w:IntKind.wrap .i64 (((i+1:Nat):Int)-1)=(i:Int):=by rw[wrap_i64 _ (by omega) (by omega)];omega
    obtain⟨o',ho'⟩:∃o':List ZO,o'=o++[((ZaQ (L,N)).1,u16.wrap (if 65535<i64.wrap (i64.wrap (ZaQ (L,N)).1+R.get (R.int i64) [0,3,15,255,4095,65535] (Za (ZaQ (L,N)).2 6).1) then 65535 else i64.wrap (i64.wrap (ZaQ (L,N)).1+R.get (R.int i64) [0,3,15,255,4095,65535] (Za (ZaQ (L,N)).2 6).1)),decide ((Za (Za (ZaQ (L,N)).2 6).2 3).1>0),R.get (R.int i64) [0,0,1,2,5] (Za (Za (Za (ZaQ (L,N)).2 6).2 3).2 5).1)]:=⟨_,rfl⟩;refine⟨((i:Int),((Za (Za (Za (ZaQ (L,N)).2 6).2 3).2 5).2.1,(Za (Za (Za (ZaQ (L,N)).2 6).2 3).2 5).2.2),o',()),?_,⟨i,_,_,o',by omega,b3.up (by omega),⟨by rw[ho'];simp;omega,λr hr=>by rw[ho'] at hr;rcases Y5.1 hr with hr|hr;exact hv r hr;rw[Y9] at hr;rw[hr];exact ZXy hwr e0 e1 f0 f1⟩,rfl⟩,by simp only;omega⟩
    simp only[Zb8,RT.val,List.length_cons,List.length_nil,Nat.reduceAdd,d,kw,k1,k2,k3,r1,r2,hb,w,ho',Ya,Yf,Yh,Yk,Yz])
  ((q:Int),(L,N),[],()) ⟨q,L,N,[],Ye _,by simpa using b1,⟨by simp,λr hr=>by simp at hr⟩,rfl⟩ (by simp only;omega)
 obtain⟨r1,r2⟩:=r;simp only at h1 hR;subst h1 hR;have hv:(Zes s (n:Int)).val=some (o,L',N'):=by simp only[Zes,RT.val,w0,c1,hq,<-hs1,hr,okB,getO,Ya]
 simp only[Zb9,ZU,hv,okB,getO];exact⟨trivial,hs'.up (by omega),by omega,hvv⟩
theorem ZRJ (h:NB s k) (hk:k<=400000):∀r∈(nMap s).1,badR r=false:=by
 obtain⟨c1,b1,l1,hv1⟩:=Zx9 h (by omega) 2 (by omega);have c1:Zb9 s 2=true:=c1;have b1:NB (ZU s 2).2 (k+1+5*((2:Nat):Int)):=b1;have l1:(ZU s 2).1.length<=2:=l1;have hv1:∀r∈(ZU s 2).1,badR r=false:=hv1;obtain⟨c2,b2,d0,d1⟩:=Zt b1 (by omega) 3 (by decide) (by decide);have hs:∀x:ZO,Nat.ble ((ZU s 2).1++[x]).length most=true:=λx=>ZbQ (by have:=mst;simp;omega)
 have hg:∀l:List ZO,Stg.l (newG Zd3 Zd4 l)=l:=λ_=>rfl
 have hv:(ZCh s).val=some ((ZU s 2).1++[(0,65535,true,IntKind.wrap .i64 (Int.tdiv (Za (ZU s 2).2 3).1 2))],(Za (ZU s 2).2 3).2):=by simp only[ZCh,RT.val,hg,c1,c2,hs,Yf,Yh,Yk,Ya]
 simp only[nMap,hv,getO];intro r hr;rcases Y5.1 hr with hr|hr
 ·exact hv1 r hr
 ·rw[Y9] at hr;subst hr;have:(Za (ZU s 2).2 3).1=0\/(Za (ZU s 2).2 3).1=1\/(Za (ZU s 2).2 3).1=2:=by omega
  rcases this with e|e|e<;>rw[e]<;>rfl
theorem ZUM (n:List Int):ZbZ (ZbX (n,0)).1=0:=by
 obtain⟨c1,b1,⟨s1,bs1,hr⟩,hch,hio,l,hl,hi⟩:=Zg4 (Zpy n) (by omega);obtain⟨c2,_,l2⟩:=ZCg bs1 (by omega);have hbad:=ZRJ bs1 (by omega);generalize (ZbX (n,0)).1=b at hr hch hio hi;have hg:smG b.2.1=true:=by rw[hr];exact smGb (by omega)
 have hx:Zbt b.2.1=0:=by
  rw[hr];unfold Zbt;have q1:decide (iN (nMap s1).1.length>16)=false:=YG (by simp only[iN,Le];omega);have q2:(nMap s1).1.any badR=false:=by rw[List.any_eq_false];intro r hr;rw[hbad r hr];simp
  rw[q1,q2];rfl
 have hc:smC (normX l)=true:=smCb (by have:=Zeq l;omega);have hvl:vldB (normX l)=true:=ZfF.2 (Zep l);have q3:(b.1 !=1&&b.1 !=2)=false:=by rcases hch with e|e<;>rw[e]<;>rfl
 have q4:decide (b.2.2.1<0)=false:=YG (by omega);have q5:decide (b.2.2.1>100)=false:=YG (by omega);have hv:(Zeb b).val=some 0:=by unfold Zeb;simp only[RT.val,q3,hg,hx,q4,q5,hi,hc,hvl,Yk,Yf,Yae,Ya,Yb];rfl
 simp only[ZbZ,hv,getO]
theorem ZKb (n:List Int) (k:Nat) (hk:k<=250):Ze6 n (k:Int)=true/\smG (ZC n (k:Int)).1.2.1=true/\(ZC n (k:Int)).1.2.2.2.2.2.2.length<=200/\(ZC n (k:Int)).2.length<=4*k/\wNew (ZC n (k:Int)).1=(newS (ZC n (k:Int)).1,0):=by obtain⟨s1,s2,s3,s4,s5⟩:=Zsn n k hk;refine⟨s1,s2,s3,s4,ZND _ s2 (by omega) ?_⟩;rw[(Zmx _ s2 (by omega)).2.1,s5,ZUM];rfl
theorem ZiZ (b:BRDT) (l:List INPT) (h:wNew b=(newS b,0)):ZbL b l=(endS (Z2 b) (ZbO b (Z2 b) (Zbg b) l),0):=by unfold ZbL;rw[h];rfl
theorem ZTU (s:TC) (st:STT):(endS s st).1=st.2.1/\(endS s st).2.2.2.2=st.1:=by unfold endS;cases ZdU st.1.1<;>exact⟨rfl,rfl⟩
def NoD (ev:List EVTT):Prop:=∀e∈ev,e.1≠5
theorem ZPJ (k:Int):Za5 k=(k==3||(k==5||k==7)):=rfl
theorem ZWP (ev:List EVTT) (c:CORT) (l:LINT) (d:Int) (cell:Cell) (moved:Bool):∃t,evE ev c l d cell moved=ev++t:=by
 unfold evE;dsimp only;cases l.2.2.1
 ·cases (finS c l d).2<;>cases moved
  ·exact⟨[],by simp⟩
  ·exact⟨_,rfl⟩
  ·exact⟨_,rfl⟩
  ·exact⟨_,by simp only[Ya,Yb];rw[Yl]⟩
 ·cases ZdU c
  ·exact⟨_,rfl⟩
  ·exact⟨_,by simp only[Ya];rw[Yl]⟩
theorem ZFU (b:BRDT) (s0:TC):∀(l:List INPT) (st:STT),∃t,(ZbO b s0 st l).2.2.2.1=st.2.2.2.1++t
 |[],st=>⟨[],by rw[Yx];rfl⟩
 |i::l,st=>by obtain⟨t1,h1⟩:=ZFU b s0 l (ZaN b s0 st i);obtain⟨t2,h2⟩:=ZWP st.2.2.2.1 st.1.1 (ZL b st.1 i).2.2.1 (ZL b st.1 i).2.2.2.1 (ZL b st.1 i).2.2.2.2.1 (ZL b st.1 i).2.2.2.2.2;refine⟨t2++t1,?_⟩;have h3:(ZaN b s0 st i).2.2.2.1=st.2.2.2.1++t2:=h2;show (ZbO b s0 (ZaN b s0 st i) l).2.2.2.1=_;rw[h1,h3,Yl]
theorem NoD.left {a t:List EVTT} (h:NoD (a++t)):NoD a:=λe he=>h e (List.mem_append_left _ he)
theorem ev_cp (ev:List EVTT) (cp:List TC) (s0:TC) (c a:CORT) (l:LINT) (d:Int) (cell:Cell) (moved:Bool) (h:ev.length=cp.length):(evE ev c l d cell moved).length=(evC cp s0 c a l d moved).length:=by
 unfold evE evC;dsimp only;cases l.2.2.1
 ·cases (finS c l d).2<;>cases moved<;>simp[h]
 ·cases ZdU c<;>simp[h]
theorem ZON (b:BRDT) (s0:TC):∀(l:List INPT) (st:STT),st.2.2.2.1.length=st.2.2.2.2.length->(ZbO b s0 st l).2.2.2.1.length=(ZbO b s0 st l).2.2.2.2.length
 |[],st,h=>h
 |i::l,st,h=>ZON b s0 l (ZaN b s0 st i) (ev_cp _ _ _ _ _ _ _ _ _ h)
theorem ZiT (a c:List α):subL (a++c) 0 (a.length:Int)=a:=by simp[subL]
theorem ZTV (s:TC) (st:STT):∃u v,(endS s st).2.2.1=st.2.2.2.1++u/\(endS s st).2.2.2.1=st.2.2.2.2++v:=by
 unfold endS;cases ZdU st.1.1
 ·exact⟨[],[],(Yx _).symm,(Yx _).symm⟩
 ·exact⟨_,_,rfl,rfl⟩
theorem ZYF (s:TC) (st:STT) (h:NoO st.2.2.2.1) (hl:st.2.2.2.1.length<=1000000) (E:List EVTT) (hE:(endS s st).2.2.1=E):
  (!decide (iN E.length>0)||Zg (IntKind.wrap .i64 (iN E.length-1)) E.length)=true/\(bif decide (iN E.length>0)&&(R.get Zei E (IntKind.wrap .i64 (iN E.length-1))).1==7 then IntKind.wrap .i64 (iN E.length-1) else iN E.length)=(st.2.2.2.1.length:Int):=by
 have snoc:∀(l:List EVTT) (y:EVTT),l.length<=1000000->IntKind.wrap .i64 (iN (l++[y]).length-1)=(l.length:Int)/\decide (iN (l++[y]).length>0)=true/\Zg (l.length:Int) (l++[y]).length=true/\R.get Zei (l++[y]) (l.length:Int)=y:=λl y h=>⟨ZvC l y h,Yr (by simp only[iN,Le,Yd,List.length_singleton];omega),Zsu l y,Zu8 (r:=Zei) l y⟩
 subst hE;unfold endS;cases ZdU st.1.1
 ·show (!decide (iN st.2.2.2.1.length>0)||_)=true/\(bif decide (iN st.2.2.2.1.length>0)&&(R.get Zei st.2.2.2.1 _).1==7 then _ else iN st.2.2.2.1.length)=_;generalize st.2.2.2.1=ev at h hl;rcases Y2 ev with rfl|⟨l,y,rfl⟩
  ·exact⟨rfl,rfl⟩
  ·rw[Y0] at h hl|-;obtain⟨e1,e2,e3,e4⟩:=snoc l y (by simp at hl;omega);have e5:(y.1==7)=false:=by simpa using h y (by simp)
   simp only[Yb];rw[e1,e2,e3,e4,e5];exact⟨rfl,rfl⟩
 ·simp only[Ya];obtain⟨e1,e2,e3,e4⟩:=snoc st.2.2.2.1 (7,st.1.1.2.1,st.1.1.2.2.1,ZhR,false,false,false,false,0,0) hl;rw[e1,e2,e3,e4];exact⟨rfl,rfl⟩
theorem bpre_law (n:List Int) (cut:Int):ZOg n cut=true/\ZRX n cut=true:=by
 have hms:=mst;have hv:(Zru n cut).val=some true:=by
  cases hx:decide (iN (List.length n)>250)
  ·obtain⟨s1,s2,s3,s4,s5⟩:=ZKb n 80 (by omega);have s1:Ze6 n 80=true:=s1;have s2:smG (ZC n 80).1.2.1=true:=s2;have s3:(ZC n 80).1.2.2.2.2.2.2.length<=200:=s3;have s4:(ZC n 80).2.length<=4*80:=s4;have s5:wNew (ZC n 80).1=(newS (ZC n 80).1,0):=s5;obtain⟨b,hb⟩:∃b,(ZC n 80).1=b:=⟨_,rfl⟩;obtain⟨x,hx2⟩:∃x,(ZC n 80).2=x:=⟨_,rfl⟩;rw[hb] at s2 s3 s5;rw[hx2] at s4;have hroom:∀y:List Int,y.length<=4000->Zik b y=true:=λy hy=>by simp only[Zik,Yc,YD];exact⟨s2,by omega,hy⟩
   have e1:IntKind.wrap .i64 (IntKind.wrap .i64 (Int.tdiv (iN x.length) 4)+1)=((x.length/4+1:Nat):Int):=by have:Int.tdiv (iN x.length) 4=((x.length/4:Nat):Int):=rfl;rw[this,wrap_i64 ((x.length/4:Nat):Int) (by omega) (by omega),wrap_i64 _ (by omega) (by omega)];omega
   obtain⟨p1,p2⟩:=Zpc cut ((x.length/4+1:Nat):Int) (by omega) (by omega);have b1:=Ya1 (cut%18446744073709551616) (b:=((x.length/4+1:Nat):Int)) (by omega);have b2:=Int.emod_lt_of_pos (cut%18446744073709551616) (b:=((x.length/4+1:Nat):Int)) (by omega);obtain⟨m,hm⟩:∃m:Nat,Zg5 cut ((x.length/4+1:Nat):Int)=(m:Int):=⟨(Zg5 cut ((x.length/4+1:Nat):Int)).toNat,by rw[p2];omega⟩;have hm4:m<=x.length/4:=by rw[hm] at p2;omega
   have e2:IntKind.wrap .i64 (4*(m:Int))=((4*m:Nat):Int):=by rw[wrap_i64 _ (by omega) (by omega)];omega
   have e3:decide (((4*m:Nat):Int)<=iN x.length)=true:=Yr (by simp only[iN,Le];omega);have e4:decX (subL x 0 ((4*m:Nat):Int))=(decX x).take m:=by rw[<-ZF7];unfold subL;rw[Int.toNat_natCast];simp
   have e5:Zik b (subL x 0 ((4*m:Nat):Int))=true:=hroom _ (by rw[ZDx (by omega)];omega);have e6:IntKind.wrap .i64 (Int.tdiv ((4*m:Nat):Int) 4)=(m:Int):=by have:Int.tdiv ((4*m:Nat):Int) 4=((4*m/4:Nat):Int):=rfl;rw[this,wrap_i64 _ (by omega) (by omega)];omega
   have hld:=dec_len x;have r1:=ZiZ b (decX x) s5;have r2:=ZiZ b ((decX x).take m) s5;have hok:=((Zmx b s2 (by omega)).2.2 (by rw[s5])).1;have hfo:=ZpA b (Z2 b) ((decX x).take m) (Zbg b) 0 hok;have hno:=ZOM b (Z2 b) ((decX x).take m) (Zbg b) (λe he=>by cases he);have hec:=ZON b (Z2 b) ((decX x).take m) (Zbg b) rfl;have happ:=ZSh b (Z2 b) (Zbg b) ((decX x).take m) ((decX x).drop m);rw[Yad] at happ;obtain⟨t0,ht0,hl0⟩:=ZCK b (Z2 b) ((decX x).take m) (Zbg b);obtain⟨st,hst⟩:∃st,ZbO b (Z2 b) (Zbg b) ((decX x).take m)=st:=⟨_,rfl⟩;rw[hst] at r2 hfo hno hec happ ht0;obtain⟨t,ht,_⟩:=ZCK b (Z2 b) ((decX x).drop m) st;obtain⟨u,hu⟩:=ZFU b (Z2 b) ((decX x).drop m) st;obtain⟨v,hvv⟩:=ZOO b (Z2 b) ((decX x).drop m) st;rw[happ] at r1;obtain⟨u1,v1,g1,g2⟩:=ZTV (Z2 b) (ZbO b (Z2 b) st ((decX x).drop m));obtain⟨u2,v2,g3,g4⟩:=ZTV (Z2 b) st;rw[hu,Yl] at g1;rw[hvv,Yl] at g2;have htl:st.2.1.length=m:=by rw[ht0];show ([]++t0).length=m;rw[List.nil_append,hl0];simp;omega
   obtain⟨f1,_,f3,f4,_,_⟩:=ZfM b (decX x) s2 (by omega) (by omega);have k1:(ZbL b (decX x)).1.1=st.2.1++t:=by rw[r1];show (endS _ _).1=_;rw[(ZTU _ _).1,ht]
   have k2:(ZbL b ((decX x).take m)).1.1=st.2.1:=by rw[r2];exact (ZTU _ _).1
   have k3:(ZbL b (decX x)).1.2.2.1=st.2.2.2.1++(u++u1):=by rw[r1];exact g1
   have k4:(ZbL b (decX x)).1.2.2.2.1=st.2.2.2.2++(v++v1):=by rw[r1];exact g2
   have k5:(ZbL b ((decX x).take m)).1.2.2.2.1=st.2.2.2.2++v2:=by rw[r2];exact g4
   have k6:(ZbL b (decX x)).2=0:=by rw[r1]
   have k7:(ZbL b ((decX x).take m)).2=0:=by rw[r2]
   obtain⟨E,hE⟩:∃E,(ZbL b ((decX x).take m)).1.2.2.1=E:=⟨_,rfl⟩;have hE2:(endS (Z2 b) st).2.2.1=E:=by rw[<-hE,r2]
   have hev:=hfo.ev;have hml:((decX x).take m).length=m:=by simp;omega
   rw[hml] at hev;obtain⟨c1,c2⟩:=ZYF (Z2 b) st hno (by omega) E hE2;rw[g3] at hE2;rw[k1] at f1;rw[k3] at f3;rw[k4] at f4;simp only[Yd] at f1 f3 f4;have hEl:st.2.2.2.1.length<=E.length/\E.length<=1000000:=by rw[<-hE2];have:=(ZfM b ((decX x).take m) s2 (by omega) (by omega)).2.2.1;rw[hE,<-hE2] at this;simp only[Yd] at this|-;omega
   have hcv:(st.2.2.2.2++v2).length<=1000000:=by have:=(ZfM b ((decX x).take m) s2 (by omega) (by omega)).2.2.2.1;rw[k5] at this;omega
   simp only[Yd] at hcv;have q1:subL (st.2.1++t) 0 (iN m)=st.2.1:=by rw[<-htl];exact ZiT _ _
   have q7:subL (st.2.2.2.1++(u++u1)) 0 (st.2.2.2.1.length:Int)=st.2.2.2.1:=ZiT _ _;have q8:subL E 0 (st.2.2.2.1.length:Int)=st.2.2.2.1:=by rw[<-hE2];exact ZiT _ _
   have q9:subL (st.2.2.2.2++(v++v1)) 0 (st.2.2.2.1.length:Int)=st.2.2.2.2:=by rw[hec];exact ZiT _ _
   have q10:subL (st.2.2.2.2++v2) 0 (st.2.2.2.1.length:Int)=st.2.2.2.2:=by rw[hec];exact ZiT _ _
   obtain⟨y1,y2⟩:=ZUK st.2.1 (by omega);obtain⟨y3,y4⟩:=ZUL st.2.2.2.1 (by omega);have y5:ZGA st.2.2.2.2=true:=by simp[ZGA];omega
   have y6:=ZqI Z8 st.2.2.2.2;have z1:decide (iN (st.2.1++t).length<iN m)=false:=YG (by simp only[iN,Le,Yd];omega);have z2:decide (iN (st.2.2.2.1++(u++u1)).length>=(st.2.2.2.1.length:Int))=true:=Yr (by simp only[iN,Le,Yd];omega);have z3:decide (iN (st.2.2.2.2++(v++v1)).length>=(st.2.2.2.1.length:Int))=true:=Yr (by simp only[iN,Le,Yd];omega);have z4:decide (iN (st.2.2.2.2++v2).length>=(st.2.2.2.1.length:Int))=true:=Yr (by simp only[iN,Le,Yd];omega);have z5:(iN m !=(m:Int))=false:=by simp[iN,Le]
   have d0:decide ((0:Int)<=0)=true:=rfl;have dn:∀k:Nat,decide ((0:Int)<=(k:Int))=true:=λk=>Yr (by omega)
   have dm:decide ((0:Int)<=iN m)=true:=dn m;have q2:decide (iN m<=iN (st.2.1++t).length)=true:=Yr (by simp only[iN,Le,Yd];omega);have q4:decide ((st.2.2.2.1.length:Int)<=iN E.length)=true:=Yr (by simp only[iN,Le];omega);simp only[Zru,RT.val,hx,hb,hx2,e1,p1,hm,e2,e3,e4,e5,e6,hroom x (by omega),k1,k2,k3,k4,k5,k6,k7,hE,c1,c2,htl,q1,q2,q4,q7,d0,dn,dm,q8,q9,q10,y1,y2,y3,y4,y5,y6,z1,z2,z3,z4,z5,ZjO.1,ZjO.2,s1,Zb6,Zbe,Yai,Yk,Yt,Yf,Ym,Yae,Yz,Yh,YZ,Ya,Yb];rfl
  ·simp only[Zru,RT.val,hx,ZjO.1,Yf,Yh,Ya]
 exact⟨by simp only[ZOg,hv];rfl,by simp only[ZRX,hv,getO]⟩
