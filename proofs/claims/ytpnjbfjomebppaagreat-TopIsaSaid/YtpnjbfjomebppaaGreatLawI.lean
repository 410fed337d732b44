import Derived.Test.YtpnjbfjomebppaaGreatLawH
open Go.IntKind (u8 u16 i64)
open Go Go.S3 Go.Proofs Go.Proofs.Cells
set_option linter.unusedVariables false
set_option linter.unusedSimpArgs false
set_option maxRecDepth 100000
namespace Go.Proofs.YtpnjbfjomebppaaGreat
noncomputable section
theorem ZGg:∀(l:List EVTT) (c:TC) (e:EVTT),insA c (l++[e])=insA c l++insL (ZR (ZH c l) e)
 |[],c,e=>by show insL _++[]=[]++insL _;rw[Yt,List.nil_append];rfl
 |x::l,c,e=>by show insL (ZR c x)++insA (Z7 c x) (l++[e])=(insL (ZR c x)++insA (Z7 c x) l)++_;rw[ZGg l,Yn];rfl
theorem ZGf:∀(l:List EVTT) (c:TC),(insA c l).length<=wgh l
 |[],c=>Yr _
 |e::l,c=>by have h1:=ZjS c e;have h2:=ZGe (ZR c e);have h3:=ZGf l (Z7 c e);show (insL _++insA _ l).length<=_;simp only[wgh,Yd];omega
theorem inp_T (c0:TC) (l:List EVTT) (hl:l.length<=1000000) (hw:wgh l<=100000000) (he:∀e∈l,e.2.2.1.length<=1000000):ZDO c0 l=true/\ZQP c0 l=insA c0 l:=by
 have hms:=mst;have inner:∀(n i:Int) (y:List TY) (c:TC) (e:EVTT) (o:List Int),y.length<=100000000->o.length<=100000000->runF false Zhm (λ_=>1000000000000) (l,n,i,y,iN y.length,0,c,e,o,())=some (false,(l,n,i,y,iN y.length,(y.length:Int),c,e,o++insL y,())):=λn i y c e o hy ho=>by
  have h:=Zsz (fl:=false) Zhm (λj=>(l,n,i,y,iN y.length,j,c,e,o++insL (y.take j.toNat),())) (λa=>a.2.2.2.2.2.1) y.length (λ_=>rfl)
   (λj hj=>by
    obtain⟨k1,k2,k3⟩:=ZGh hj (by omega);have hc:=ZGe (y.take j);have hb:∀x:Int,Nat.ble (o++insL (y.take j)++[x]).length most=true:=λx=>ZaE (by rw[YF] at hc;simp;omega)
    simp only[Int.toNat_natCast];rw[ZO3 y j hj];simp only[Zhm,RT.val,k1,k2,k3,hb,Yi,Ya];unfold inK;cases hk:(R.get RY y (j:Int)).1==6||((R.get RY y (j:Int)).1==8||(R.get RY y (j:Int)).1==9)
    ·simp only[Yb,Yt]
    ·simp only[Ya,Yn])
   (by simp only[Zhm,RT.val,ZGu,Yb]) (by omega)
  rw[Int.toNat_natCast,YaC] at h;have h0:o++insL (y.take (0:Int).toNat)=o:=by show o++insL []=o;exact Yt o
  rw[h0] at h;exact h
 have hr:=Zsz (fl:=false) Zhl (λi=>(l,iN l.length,i,ZH c0 (l.take i.toNat),insA c0 (l.take i.toNat),())) (λa=>a.2.2.1) l.length (λ_=>rfl)
  (λi hi=>by
   obtain⟨k1,k2,k3⟩:=ZGh hi (by omega);have hmem:R.get ZaA l (i:Int)∈l:=by
    have:R.get ZaA l (i:Int)=l[i]:=by simp[R.get,Yh hi]
    rw[this];exact YaM _
   have hre:Zz6 (R.get ZaA l (i:Int))=true:=ZaE (he _ hmem);have ht:insA c0 (l.take (i+1))=insA c0 (l.take i)++insL (ZR (ZH c0 (l.take i)) (R.get ZaA l (i:Int))):=by rw[Zkj (r:=ZaA) l i hi,ZGg]
   have ht2:ZH c0 (l.take (i+1))=Z7 (ZH c0 (l.take i)) (R.get ZaA l (i:Int)):=by rw[Zkj (r:=ZaA) l i hi,ZdE]
   have hin:=inner (iN l.length) (i:Int) (ZR (ZH c0 (l.take i)) (R.get ZaA l (i:Int))) (ZH c0 (l.take i)) (R.get ZaA l (i:Int)) (insA c0 (l.take i))
    (by have:=ZjS (ZH c0 (l.take i)) (R.get ZaA l (i:Int));have:=he _ hmem;omega) (by have:=ZGf (l.take i) c0;have:=Zr1 i l;omega)
   simp only[Int.toNat_natCast];rw[ht,ht2]
   simp only[Zhl,RT.val,k1,k2,k3,hre,hin,okB,getO,Yf,Yi,Ya])
  (by simp only[Zhl,RT.val,ZGu,Yb]) (by omega)
 rw[Int.toNat_natCast,YaC] at hr;have hr:runF false Zhl (λ_=>1000000000000) (l,iN l.length,0,c0,[],())=_:=hr;have hv:(Zwf c0 l).val=some (insA c0 l):=by simp only[Zwf,RT.val,hr,okB,getO,Ya]
 exact⟨by simp only[ZDO,hv,okB],by simp only[ZQP,hv,getO]⟩
structure Own (s0:TC) (E ev:List EVTT):Prop where
 kinds:∀i:Nat,i<E.length->(R.get ZaA E (i:Int)).1≠5->(R.get ZaA E (i:Int)).1=1\/Z7 (ZH s0 (E.take i)) (R.get ZaA E (i:Int))=ZH s0 (E.take i)
 own:NoD E->E.filter (λe=>e.1==1)=ev
 last:NoD E->ZH s0 E=ZH s0 ev
theorem ZSL (b:BRDT) (N1:List Int) (N2:Int) (r:RUNT) (s0:TC) (E ev:List EVTT) (hr:r.2.2.2.1=ZgF s0 E) (O:Own s0 E ev) (hl:E.length<=1000000):
  ∃q,runF true ZeY (λ_=>1000000000000) (false,0,E,iN E.length,0,b,N1,N2,r,s0,[],())=some q/\((q.1=true/\q.2.1=true)\/(q=(false,(false,(ev.length:Int),E,iN E.length,(E.length:Int),b,N1,N2,r,ZH s0 ev,ev,()))/\NoD E)):=by
 have hms:=mst;refine ZA (fl:=true) (t:=ZeY) (fuel:=λ_=>1000000000000)
  (λa=>∃i:Nat,i<=E.length/\NoD (E.take i)/\a=(false,(((E.take i).filter (λe=>e.1==1)).length:Int),E,iN E.length,(i:Int),b,N1,N2,r,ZH s0 (E.take i),(E.take i).filter (λe=>e.1==1),()))
  (λa=>Int.toNat (E.length-a.2.2.2.2.1)) (λq=>(q.1=true/\q.2.1=true)\/(q=(false,(false,(ev.length:Int),E,iN E.length,(E.length:Int),b,N1,N2,r,ZH s0 ev,ev,()))/\NoD E)) ?_ _ ⟨0,Yr _,λe he=>(by cases he),rfl⟩ (by simp only;omega)
 rintro a ⟨i,hi,hn,rfl⟩;by_cases hlt:i<E.length
 ·obtain⟨k1,k2,k3⟩:=ZGh hlt (by omega);have hcl:r.2.2.2.1.length=E.length:=by rw[hr,ZK1]
  have k4:Zf (i:Int) r.2.2.2.1.length=true:=by rw[hcl];exact k2
  have k5:decide ((i:Int)>=iN r.2.2.2.1.length)=false:=Yx (by rw[hcl];simp only[iN,Le];omega);have htk:=Zkj (r:=ZaA) E i hlt;have hc:R.get Z8 r.2.2.2.1 (i:Int)=ZH s0 (E.take (i+1)):=by rw[hr,ZwC E s0 i hlt,htk,ZdE]
  have hfl:((E.take i).filter (λe=>e.1==1)).length<=1000000:=Yz (List.length_filter_le _ _) (by simp;omega);cases h5:(R.get ZaA E (i:Int)).1==5
  ·left;have h5':(R.get ZaA E (i:Int)).1≠5:=by simpa using h5
   have hn':NoD (E.take (i+1)):=λe he=>by
    rw[htk] at he;rcases Y1.1 he with he|he
    ·exact hn e he
    ·rw[Yac] at he;rw[he];exact h5'
   have hb:∀x:EVTT,Nat.ble ((E.take i).filter (λe=>e.1==1)++[x]).length most=true:=λx=>ZaE (by simp only[Yd,List.length_singleton];omega)
   refine⟨_,?_,⟨i+1,hlt,hn',rfl⟩,by simp only;omega⟩;have hf:(E.take (i+1)).filter (λe=>e.1==1)=(E.take i).filter (λe=>e.1==1)++(bif (R.get ZaA E (i:Int)).1==1 then [R.get ZaA E (i:Int)] else []):=by rw[htk,YaT];cases hq:(R.get ZaA E (i:Int)).1==1<;>simp[List.filter,hq]
   rw[hf];cases h1:(R.get ZaA E (i:Int)).1==1
   ·have hk:ZH s0 (E.take (i+1))=ZH s0 (E.take i):=by
     rw[htk,ZdE];rcases O.kinds i hlt h5' with e|e
     ·rw[e] at h1;simp at h1
     ·exact e
    rw[hk];simp only[ZeY,RT.val,k1,k2,k3,k5,h5,h1,R.sel_eq,ZbP,Za3,Yj,Yy,Yf,Yl,Yv,Yi,YaB,Ya,Yb,Yt]
   ·have hw:IntKind.wrap .i64 ((((E.take i).filter (λe=>e.1==1)).length:Int)+1)=((((E.take i).filter (λe=>e.1==1))++[R.get ZaA E (i:Int)]).length:Int):=by rw[wrap_i64 _ (by omega) (by omega)];simp
    simp only[ZeY,RT.val,k1,k2,k3,k4,k5,h5,h1,hc,hb,hw,R.sel_eq,ZbP,Za3,Yj,Yy,Yf,Yl,Yv,Yi,YaB,Ya,Yb]
  ·right;right;refine⟨(true,(((E.take i).filter (λe=>e.1==1)).length:Int),E,iN E.length,(i:Int),b,N1,N2,r,ZH s0 (E.take i),(E.take i).filter (λe=>e.1==1),()),rfl,by simp only[ZeY,RT.val,k1,k2,h5,ZyT.1,ZyT.2,ZbP,Za3,Yj,Yf,Yl,Yv,Yi,Yy,Y0,Ya,Yb],.inl ⟨rfl,rfl⟩⟩
 ·right;left;have e:i=E.length:=by omega
  subst e;rw[YaC] at hn|-;refine⟨(false,((E.filter (λe=>e.1==1)).length:Int),E,iN E.length,(E.length:Int),b,N1,N2,r,ZH s0 E,E.filter (λe=>e.1==1),()),by simp only[ZeY,RT.val,ZGu,Yb],.inr ⟨?_,hn⟩⟩;rw[O.own hn,O.last hn]
theorem ZyR (b:BRDT):LatF (Zbg b):=⟨rfl,rfl,rfl,rfl⟩
theorem ZVC (b:BRDT) (L:List INPT) (hL:∀i∈L,ZxD i) (hn:wNew b=(newS b,0)) (hg:smG b.2.1=true) (hm:b.2.2.2.2.2.2.length<=1000) (hl:L.length<=1000):
  ∃ev:List EVTT,Own (Zbg b) (Zco b L).1.2.2.1 ev/\ev.length<=2000/\(∀e∈ev,e∈(Zco b L).1.2.2.1)/\wgh ev<=2001*1001/\(NoD (Zco b L).1.2.2.1->∃o,runX ev.length (Zbg b) (b.2.1,normX b.2.2.2.2.2.2,insA (Zbg b) ev,[]) 0=(ZH (Zbg b) ev,(b.2.1,wrL b.2.1 (normX b.2.2.2.2.2.2) (cyA (Zbg b) ev),[],o),(ev.length:Int))):=by
 obtain⟨hs,hsem⟩:=Zvf b hn;have hv:ZbR b=0:=by rw[<-(Zgq b hg (by omega)).2.1,hn]
 have hpre:=ZQ7 b L hg (by omega) hv;have hC0:Clm (ZN b) (ZaN b).1 (ZaN b).2.2.2.1:=by refine⟨by unfold ZaN;rw[hn];rfl,by unfold ZaN;rw[hn];exact ZyR b,λl1 e l2 hq=>by simp[ZaN] at hq⟩
 have hC:=ZGF b (ZN b) L (ZaN b) hsem hC0 hL;obtain⟨e1,e2,_⟩:=ZTQ b L hg (by omega) hl;have hno:=ZPp b (ZN b) L (ZaN b) (λe he=>by cases he);have hrun:=ZD2 b L hn;obtain⟨st,hst⟩:∃st,ZbU b (ZN b) (ZaN b) L=st:=⟨_,rfl⟩;rw[hst] at hC hno hrun;have hEu:∃u,(Zco b L).1.2.2.1=st.2.2.2.1++u/\(∀e∈u,e.1=7):=by
  rw[hrun];show ∃u,(endS (ZN b) st).2.2.1=_/\_;unfold endS;cases Zdx st.1.1
  ·exact⟨[],(Yt _).symm,λe he=>by cases he⟩
  ·exact⟨_,rfl,λe he=>by rw[Yac] at he;rw[he]⟩
 have hok:=((Zgq b hg (by omega)).2.2 (by rw[hn])).1;have hfo:=(Zk5 b (ZN b) L (ZaN b) 0 hok).ev;rw[hst,Yw] at hfo;obtain⟨u,hu,hu7⟩:=hEu;rw[hs] at hC;generalize (Zco b L).1.2.2.1=E at hu hpre e1 e2;have h7:∀(c:TC) (e:EVTT),e.1=7->Z7 c e=c:=λc e h=>by unfold Z7 ZjQ;rw[h];rfl
 have hone:∀e∈st.2.2.2.1,e.1≠5->e.1=1:=λe he h5=>by obtain⟨l1,l2,hq⟩:=List.append_of_mem he;exact (hC.evs l1 e l2 hq h5).1
 have hwg:=wgh_b E 1000 e2;have hwe:wgh st.2.2.2.1<=wgh E:=by
  rw[hu];have:∀a c:List EVTT,wgh a<=wgh (a++c):=λa c=>by have:=Zr1 a.length (a++c);rwa [Yao] at this;rfl
  exact this _ _
 refine⟨st.2.2.2.1,⟨λi hi h5=> ?_,λhd=> ?_,λhd=> ?_⟩,by omega,λe he=>by rw[hu];exact List.mem_append_left _ he,?_,λhd=> ?_⟩
 ·have hg2:R.get ZaA E (i:Int)=E[i]:=by simp[R.get,Yh hi]
  rw[hg2] at h5|-;have hmem:E[i]∈st.2.2.2.1++u:=by rw[<-hu];exact YaM _
  rcases Y1.1 hmem with h|h
  ·exact .inl (hone _ h h5)
  ·exact .inr (h7 _ _ (hu7 _ h))
 ·rw[hu,YaT];have f1:st.2.2.2.1.filter (λe=>e.1==1)=st.2.2.2.1:=List.filter_eq_self.2 λe he=>by rw[hone e he (hd e (by rw[hu];exact List.mem_append_left _ he))];rfl
  have f2:u.filter (λe=>e.1==1)=[]:=List.filter_eq_nil_iff.2 λe he=>by rw[hu7 e he];simp
  rw[f1,f2,Yt]
 ·rw[hu];have:∀(l:List EVTT) (c:TC),(∀e∈l,e.1=7)->ZH c l=c:=by
   intro l
   induction l with
   |nil=>intro c _;rfl
   |cons e l ih=>
    intro c h;show ZH (Z7 c e) l=c;rw[h7 c e (h e (by simp)),ih c λx hx=>h x (YA _ hx)]
  have happ:ZH (Zbg b) (st.2.2.2.1++u)=ZH (ZH (Zbg b) st.2.2.2.1) u:=by unfold ZH;rw[Yak]
  rw[happ,this u _ hu7]
 ·exact Yz hwe (Yz hwg (Nat.mul_le_mul e1 (Ye _)))
 ·have hdv:NoD st.2.2.2.1:=λe he=>hd e (by rw[hu];exact List.mem_append_left _ he)
  have hgood:=hpre st.2.2.2.1 u hu hdv;obtain⟨o,ho⟩:=ZKQ b.2.1 st.2.2.2.1 (Zbg b) (normX b.2.2.2.2.2.2) [] [] 0 (ZyR b) hC.evs hdv hgood.ok hgood.co;rw[Yt,Int.zero_add] at ho;exact⟨o,ho⟩
theorem tisa_law (n m:List Int):ZOR n m=true/\ZXj n m=true:=by
 have hms:=mst;have hv:(Zpz n m).val=some true:=by
  cases hx:decide (iN (List.length n)>200)||decide (iN (List.length m)>300)
  ·obtain⟨s1,s2,s3,s4,s5⟩:=ZW9 n 0 (by omega);have s1:ZmX n 0=true:=s1;have s2:smG (Zc7 n 0).1.2.1=true:=s2;have s3:(Zc7 n 0).1.2.2.2.2.2.2.length<=200:=s3;have s5:wNew (Zc7 n 0).1=(newS (Zc7 n 0).1,0):=s5;obtain⟨b,hb⟩:∃b,(Zc7 n 0).1=b:=⟨_,rfl⟩;rw[hb] at s2 s3 s5;obtain⟨L,l1,l2,l3,l4⟩:=ZRB m;have hd:=dec_enc L l2;have hel:=ZhI L;have hroom:Zz5 b (L.flatMap encB)=true:=by simp only[Zz5,Yc,YG];exact⟨s2,by omega,by omega⟩
   have hpl:∀i∈L,ZxD i:=λi hi=>by obtain⟨r,h,e⟩:=l2 i hi;rw[e];exact⟨rfl,rfl,rfl,rfl,rfl,rfl,rfl⟩
   obtain⟨ev,O,h1,h2,h3,h4⟩:=ZVC b L hpl s5 s2 (by omega) (by omega);obtain⟨t1,_⟩:=ZKN b L s2 (by omega);obtain⟨e1,e2,_⟩:=ZTQ b L s2 (by omega) (by omega);have e0:(Zco b L).2=0:=by rw[ZD2 b L s5]
   have hst:Zsi b=Zbg b:=rfl;obtain⟨q,hq,hq2⟩:=ZSL b (Ze2 (m,0) 120 true).2.1 (Ze2 (m,0) 120 true).2.2 (Zco b L).1 (Zbg b) _ ev t1 O (by omega);rcases hq2 with ⟨q1,q2⟩|⟨rfl,hno⟩
   ·simp only[Zpz,RT.val,hx,s1,hb,l3,l4,hd,hroom,e0,hst,hq,q1,q2,okB,getO,ZbP,Za3,YaU,Yi,Yf,Yl,Yj,Yv,Ya,Yb]
   ·obtain⟨o,ho⟩:=h4 hno;obtain⟨i1,i2⟩:=inp_T (Zbg b) ev (by omega) (by omega) (λe he=>Yz (e2 e (h2 e he)) (by omega));have hlim:(limK (ev.length:Int)).toNat=ev.length:=by unfold limK;rw[Y3 (by omega)];omega
    have hrun:runR (Zbg b) b.2.1 b.2.2.2.2.2.2 (insA (Zbg b) ev) (ev.length:Int)=(ZH (Zbg b) ev,wrL b.2.1 (normX b.2.2.2.2.2.2) (cyA (Zbg b) ev),o,(ev.length:Int)):=by unfold runR ZiR;rw[hlim,ho]
    have hri:ZKW b.2.2.2.2.2.2=true:=by rw[Zww];omega
    have hndv:NoD ev:=λe he=>hno e (h2 e he)
    obtain⟨m1,m2⟩:=mem_b (Zbg b) b.2.1 b.2.2.2.2.2.2 ev s2 (by omega) (λe he=>Yz (e2 e (h2 e he)) (by omega)) (by omega);have m3:memX (Zbg b) b.2.1 b.2.2.2.2.2.2 ev=wrL b.2.1 (normX b.2.2.2.2.2.2) (cyA (Zbg b) ev):=ZF0 b.2.1 ev (Zbg b) _ hndv;rw[m3] at m2;have hsc:smC (wrL b.2.1 (normX b.2.2.2.2.2.2) (cyA (Zbg b) ev))=true:=by refine ZaE ?_;have w1:=Zr0 b.2.1 (cyA (Zbg b) ev) (normX b.2.2.2.2.2.2);have w2:=ZPY ev (Zbg b);have w3:=Zcx b.2.2.2.2.2.2;omega
    simp only[Zpz,RT.val,hx,s1,hb,l3,l4,hd,hroom,e0,hst,hq,i1,i2,hrun,hri,s2,m1,m2,hsc,R.eqf_refl,ZyT.1,ZyT.2,okB,getO,ZbP,Za3,YaU,YaN,decide_true,Yi,Yf,Yl,Yj,Yy,YaB,Y0,Yv,Ya,Yb]
  ·simp only[Zpz,RT.val,hx,ZyT.1,Yf,Yj,Ya]
 exact⟨by simp only[ZOR,hv];rfl,by simp only[ZXj,hv,getO]⟩
