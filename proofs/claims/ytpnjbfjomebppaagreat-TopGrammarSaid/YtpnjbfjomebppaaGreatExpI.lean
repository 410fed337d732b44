import Derived.Test.YtpnjbfjomebppaaGreatLaw10
import Derived.Stop.RegionWithIn
open Go.IntKind (u8 u16 i64)
open Go Go.S3 Go.Proofs Go.Proofs.Cells
set_option linter.unusedVariables false
set_option linter.unusedSimpArgs false
set_option maxRecDepth 100000
namespace Go.Proofs.YtpnjbfjomebppaaGreat
noncomputable section
theorem Zr5 {τ:Type} {fl:Bool} (T:τ->RT (Option (Go1 τ))) (mk:Int->τ) (idx:τ->Int) (n:Nat) (hi:∀i,idx (mk i)=i) (hT:∀i:Nat,i<n->(T (mk i)).val=some (.cont (mk ((i+1:Nat):Int)))) (hE:(T (mk n)).val=some (.brk (mk n))) (hn:n<=1000000000):
  runF fl T (λ_=>1000000000000) (mk 0)=some (false,mk n):=by
 obtain⟨r,hr,h1⟩:=ZI (fl:=fl) (t:=T) (fuel:=λ_=>1000000000000)
  (λa=>∃i:Nat,i<=n/\a=mk i) (λa=>n-(idx a).toNat) (λr=>r=(false,mk n))
  (by
   rintro a ⟨i,h,rfl⟩;by_cases hlt:i<n
   ·exact .inl ⟨_,hT i hlt,⟨i+1,hlt,rfl⟩,by simp only[hi];omega⟩
   ·have e:i=n:=by omega
    subst e
    exact .inr (.inl ⟨_,hE,rfl⟩))
  (mk 0) ⟨0,Yq _,rfl⟩ (by simp only[hi];omega)
 rw[h1] at hr;exact hr
theorem ZN7 {α:Type} {l:List α} {i:Nat} (h:i<l.length) (hl:l.length<=1000000000):decide ((i:Int)<iN l.length)=true/\Zf (i:Int) l.length=true/\IntKind.wrap .i64 ((i:Int)+1)=((i+1:Nat):Int):=by refine⟨by simp only[iN,Le,Yk];omega,ZF.2 ⟨by omega,by omega⟩,?_⟩;rw[wrap_i64 _ (by omega) (by omega)];omega
theorem ZOA (n:Nat):decide ((n:Int)<iN n)=false:=by simp[iN,Le]
theorem ZUC (l:List PINT) (h:l.length<=1000000000):Zg6 l l=true/\ZiF l l=true:=by
 have hr:=Zr5 (fl:=true) Zdu (λi=>(l,l,false,iN l.length,i,())) (λa=>a.2.2.2.2.1) l.length (λ_=>rfl)
  (λi hi=>by
   obtain⟨k1,k2,k3⟩:=ZN7 hi h
   simp only[Zdu,RT.val,k1,k2,k3,R.eqf_refl,Ya,Yb,Yf,Yi,Yj])
  (by simp only[Zdu,RT.val,ZOA,Yb]) h
 have hv:(Ze7 l l).val=some true:=by simp only[Ze7,RT.val,hr,YaU,okB,getO,Yb,Ya]
 exact⟨by simp only[Zg6,hv,okB],by simp only[ZiF,hv,getO]⟩
theorem Zr9 (b:BRDT) (l:List INPT) (hg:smG b.2.1=true) (hm:b.2.2.2.2.2.2.length<=100000) (hl:l.length<=1000):
  (Zbo b l).1.1.length<=1000/\(Zbo b l).1.2.1.length<=1000/\(Zbo b l).1.2.2.1.length<=2001/\(Zbo b l).1.2.2.2.1.length<=2001/\(Zbo b l).1.2.2.2.2.2.1.length<=102000/\(Zbo b l).1.2.2.2.2.2.2.2.2.2.length<=1000:=by
 obtain⟨_,_,h0⟩:=ZrA b hg hm;unfold Zbo;cases hx:(wNew b).2 !=0
 ·have h0:=(h0 (by simpa using hx)).1;have hf:=Zpr b (ZM b) l (ZaS b) 0 h0;rw[Ys] at hf;simp only[Yb];generalize ZbN b (ZM b) (ZaS b) l=st at hf;have ht:=hf.t;have hi:=hf.it;have he:=hf.ev;have hc:=hf.cp;have hmm:=hf.m;have ho:=hf.o;unfold endS;cases Zef st.1.1
  ·exact⟨by show st.2.1.length<=_;omega,by show st.2.2.1.length<=_;omega,by show st.2.2.2.1.length<=_;omega,by show st.2.2.2.2.length<=_;omega,by show st.1.2.1.length<=_;omega,by show st.1.2.2.2.2.2.length<=_;omega⟩
  ·exact⟨by show st.2.1.length<=_;omega,by show st.2.2.1.length<=_;omega,by show (st.2.2.2.1++[_]).length<=_;simp;omega,by show (st.2.2.2.2++[_]).length<=_;simp;omega,by show st.1.2.1.length<=_;omega,by show st.1.2.2.2.2.2.length<=_;omega⟩
 ·exact⟨Yq _,Yq _,Yq _,Yq _,Yq _,Yq _⟩
theorem ZXw {w a b:Int} {m:Bool} (hw:inR .u16 w) (a0:0<=a) (a1:a<6) (b0:0<=b) (b1:b<5):
  badR (w,u16.wrap (if 65535<i64.wrap (i64.wrap w+R.get (R.int i64) [0,3,15,255,4095,65535] a) then 65535 else i64.wrap (i64.wrap w+R.get (R.int i64) [0,3,15,255,4095,65535] a)),m,R.get (R.int i64) [0,0,1,2,5] b)=false:=by
 rw[Zh9] at hw;obtain⟨x,ex,hx⟩:∃x:Int,R.get (R.int i64) [0,3,15,255,4095,65535] a=x/\0<=x/\x<=65535:=by
  have:a=0\/a=1\/a=2\/a=3\/a=4\/a=5:=by omega
  rcases this with rfl|rfl|rfl|rfl|rfl|rfl<;>exact⟨_,rfl,by decide,by decide⟩
 obtain⟨y,ey,hy⟩:∃y:Int,R.get (R.int i64) [0,0,1,2,5] b=y/\0<=y/\y<=100:=by
  have:b=0\/b=1\/b=2\/b=3\/b=4:=by omega
  rcases this with rfl|rfl|rfl|rfl|rfl<;>exact⟨_,rfl,by decide,by decide⟩
 rw[ex,ey];have w1:IntKind.wrap .i64 w=w:=wrap_i64 _ (by omega) (by omega);have w2:IntKind.wrap .i64 (w+x)=w+x:=wrap_i64 _ (by omega) (by omega);rw[w1,w2];have hu:∀z:Int,0<=z->z<=65535->IntKind.wrap .u16 z=z:=λz h1 h2=>by rw[Zrx];omega
 unfold badR;simp only;rw[Yn,Yn];refine⟨?_,YO (by omega),YO (by omega)⟩;by_cases h:65535<w+x
 ·rw[YZ h,hu _ (by omega) (by omega)];exact YO (by omega)
 ·rw[Y1 h,hu _ (by omega) (by omega)];exact YO (by omega)
variable {s:List Int×Int} {k:Int}
theorem ZxA (h:NB s k) (hk:k<=500000) (n:Nat) (hn:n<=100):
  Zb0 s (n:Int)=true/\NB (ZU s (n:Int)).2 (k+1+5*n)/\(ZU s (n:Int)).1.length<=n/\∀r∈(ZU s (n:Int)).1,badR r=false:=by
 have hms:=mst;have w0:IntKind.wrap .i64 ((n:Int)+1)=(n:Int)+1:=wrap_i64 _ (by omega) (by omega);obtain⟨c1,b1,d0,d1⟩:=Zs h (by omega) ((n:Int)+1) (by omega) (by omega);obtain⟨L,N,hs1⟩:∃L N,(L,N)=(Za s ((n:Int)+1)).2:=⟨_,_,rfl⟩;obtain⟨q,hq⟩:∃q:Nat,(Za s ((n:Int)+1)).1=(q:Int):=⟨_,(Yaq d0).symm⟩;rw[<-hs1] at b1;obtain⟨r,hr,h1,L',N',o,hs',⟨ho,hvv⟩,hR⟩:=ZI (fl:=false) (t:=ZbZ) (fuel:=λa=>400)
  (λa=>∃(i:Nat) (L:List Int) (N:Int) (o:List ZT),i<=q/\NB (L,N) (k+1+5*((q-i:Nat):Int))/\(o.length<=q-i/\∀r∈o,badR r=false)/\a=((i:Int),(L,N),o,()))
  (λa=>Int.toNat a.1) (λr=>r.1=false/\∃(L:List Int) (N:Int) (o:List ZT),NB (L,N) (k+1+5*(q:Int))/\(o.length<=q/\∀r∈o,badR r=false)/\r.2=((0:Int),(L,N),o,()))
  (by
   rintro a ⟨i,L,N,o,hi,hs',⟨ho,hv⟩,rfl⟩;cases i with
   |zero=>
    right;left;exact⟨_,by simp only[ZbZ,RT.val];rfl,rfl,L,N,o,by simpa using hs',⟨by omega,hv⟩,rfl⟩
   |succ i=>
    left;have d:decide (((i+1:Nat):Int)>0)=true:=Yz (by omega);obtain⟨kw,bw,hwr⟩:=ZE5 hs' (by omega);obtain⟨k1,b1,e0,e1⟩:=Zs bw (by omega) 6 (by decide) (by decide);obtain⟨k2,b2,_⟩:=Zs b1 (by omega) 3 (by decide) (by decide);obtain⟨k3,b3,f0,f1⟩:=Zs b2 (by omega) 5 (by decide) (by decide);have r1:Zf (Za (ZaR (L,N)).2 6).1 6=true:=ZF.2 ⟨e0,e1⟩;have r2:Zf (Za (Za (Za (ZaR (L,N)).2 6).2 3).2 5).1 5=true:=ZF.2 ⟨f0,f1⟩;have hb:∀x:ZT,Nat.ble (o++[x]).length most=true:=λx=>ZaV (by simp;omega)
    have w:IntKind.wrap .i64 (((i+1:Nat):Int)-1)=(i:Int):=by rw[wrap_i64 _ (by omega) (by omega)];omega
    obtain⟨o',ho'⟩:∃o':List ZT,o'=o++[((ZaR (L,N)).1,u16.wrap (if 65535<i64.wrap (i64.wrap (ZaR (L,N)).1+R.get (R.int i64) [0,3,15,255,4095,65535] (Za (ZaR (L,N)).2 6).1) then 65535 else i64.wrap (i64.wrap (ZaR (L,N)).1+R.get (R.int i64) [0,3,15,255,4095,65535] (Za (ZaR (L,N)).2 6).1)),decide ((Za (Za (ZaR (L,N)).2 6).2 3).1>0),R.get (R.int i64) [0,0,1,2,5] (Za (Za (Za (ZaR (L,N)).2 6).2 3).2 5).1)]:=⟨_,rfl⟩;refine⟨((i:Int),((Za (Za (Za (ZaR (L,N)).2 6).2 3).2 5).2.1,(Za (Za (Za (ZaR (L,N)).2 6).2 3).2 5).2.2),o',()),?_,⟨i,_,_,o',by omega,b3.up (by omega),⟨by rw[ho'];simp;omega,λr hr=>by rw[ho'] at hr;rcases Y3.1 hr with hr|hr;exact hv r hr;rw[Yac] at hr;rw[hr];exact ZXw hwr e0 e1 f0 f1⟩,rfl⟩,by simp only;omega⟩
    simp only[ZbZ,RT.val,List.length_cons,List.length_nil,Nat.reduceAdd,d,kw,k1,k2,k3,r1,r2,hb,w,ho',Ya,Yf,Yi,Yj,Yw])
  ((q:Int),(L,N),[],()) ⟨q,L,N,[],Ye _,by simpa using b1,⟨by simp,λr hr=>by simp at hr⟩,rfl⟩ (by simp only;omega)
 obtain⟨r1,r2⟩:=r;simp only at h1 hR;subst h1 hR;have hv:(Zen s (n:Int)).val=some (o,L',N'):=by simp only[Zen,RT.val,w0,c1,hq,<-hs1,hr,okB,getO,Ya]
 simp only[Zb0,ZU,hv,okB,getO];exact⟨trivial,hs'.up (by omega),by omega,hvv⟩
theorem ZRv (h:NB s k) (hk:k<=400000):∀r∈(nMap s).1,badR r=false:=by
 obtain⟨c1,b1,l1,hv1⟩:=ZxA h (by omega) 2 (by omega);have c1:Zb0 s 2=true:=c1;have b1:NB (ZU s 2).2 (k+1+5*((2:Nat):Int)):=b1;have l1:(ZU s 2).1.length<=2:=l1;have hv1:∀r∈(ZU s 2).1,badR r=false:=hv1;obtain⟨c2,b2,d0,d1⟩:=Zs b1 (by omega) 3 (by decide) (by decide);have hs:∀x:ZT,Nat.ble ((ZU s 2).1++[x]).length most=true:=λx=>ZaV (by have:=mst;simp;omega)
 have hg:∀l:List ZT,Stg.l (newG ZdY ZdZ l)=l:=λ_=>rfl
 have hv:(ZBT s).val=some ((ZU s 2).1++[(0,65535,true,IntKind.wrap .i64 (Int.tdiv (Za (ZU s 2).2 3).1 2))],(Za (ZU s 2).2 3).2):=by simp only[ZBT,RT.val,hg,c1,c2,hs,Yf,Yi,Yj,Ya]
 simp only[nMap,hv,getO];intro r hr;rcases Y3.1 hr with hr|hr
 ·exact hv1 r hr
 ·rw[Yac] at hr;subst hr;have:(Za (ZU s 2).2 3).1=0\/(Za (ZU s 2).2 3).1=1\/(Za (ZU s 2).2 3).1=2:=by omega
  rcases this with e|e|e<;>rw[e]<;>rfl
theorem ZUD (n:List Int):Zck (Zcu (n,0)).1=0:=by
 obtain⟨c1,b1,⟨s1,bs1,hr⟩,hch,hio,l,hl,hi⟩:=ZxJ (ZOo n) (by omega);obtain⟨c2,_,l2⟩:=ZBS bs1 (by omega);have hbad:=ZRv bs1 (by omega);generalize (Zcu (n,0)).1=b at hr hch hio hi;have hg:smG b.2.1=true:=by rw[hr];exact smGb (by omega)
 have hx:ZbL b.2.1=0:=by
  rw[hr];unfold ZbL;have q1:decide (iN (nMap s1).1.length>16)=false:=YO (by simp only[iN,Le];omega);have q2:(nMap s1).1.any badR=false:=by rw[List.any_eq_false];intro r hr;rw[hbad r hr];simp
  rw[q1,q2];rfl
 have hc:smC (normX l)=true:=smCb (by have:=Zel l;omega);have hvl:vldB (normX l)=true:=Ziq.2 (Zi9 l);have q3:(b.1 !=1&&b.1 !=2)=false:=by rcases hch with e|e<;>rw[e]<;>rfl
 have q4:decide (b.2.2.1<0)=false:=YO (by omega);have q5:decide (b.2.2.1>100)=false:=YO (by omega);have hv:(Zfn b).val=some 0:=by unfold Zfn;simp only[RT.val,q3,hg,hx,q4,q5,hi,hc,hvl,Yj,Yf,YaM,Ya,Yb];rfl
 simp only[Zck,hv,getO]
theorem ZP3 (b:BRDT) (l:List INPT) (h:wNew b=(newS b,0)):Zbo b l=(endS (ZM b) (ZbN b (ZM b) (ZaS b) l),0):=by unfold Zbo;rw[h];rfl
theorem ZYK (s:TC) (st:STT):(endS s st).1=st.2.1/\(endS s st).2.2.2.2=st.1:=by unfold endS;cases Zef st.1.1<;>exact⟨rfl,rfl⟩
end
end Go.Proofs.YtpnjbfjomebppaaGreat
open Go.Proofs.Tryz (prog)
namespace Go.Proofs.YtpnjbfjomebppaaGreat
open Go Go.S3 Go.Proofs Go.RowKit Go.Shelf
attribute [local go_sem] Oper.semAt_some
noncomputable section
set_option maxRecDepth 100000 in
set_option maxHeartbeats 2000000 in
theorem ZTA (F:Fence) (n:Nat) (h:F.fn 127) (hro:F.round=none) (a lo hi:Int) (w:World):
  CallsIn F n prog 127 #[.int .i64 a,.int .i64 lo,.int .i64 hi] w λe w'=>e=.returned (.int .i64 (gLim a lo hi))/\w'=w:=by
 refine callsIn_of_wp Tryz.func127 rfl h ?_ hro;simp only[Tryz.ntmps127,Y5,List.length_cons,List.length_nil,Nat.reduceAdd,Nat.reduceSub,Yai,Array.replicate_zero,Yao,Yaj,List.nil_append,List.cons_append];gi_wp2
 all_goals go_ret
 all_goals refine⟨?_,rfl⟩
 all_goals simp[*,gLim,Zyh,RT.val]
 all_goals omega
abbrev ZcH (x:ITMT):Array Value:= #[.int .i64 x.1,.int .i64 x.2.1.1,.int .u16 x.2.1.2.1,.int .u8 x.2.1.2.2.1,.int .i64 x.2.1.2.2.2,.int .i64 x.2.2.1,.int .i64 x.2.2.2.1,.bool x.2.2.2.2.1,.bool x.2.2.2.2.2]
set_option maxRecDepth 100000 in
set_option maxHeartbeats 4000000 in
theorem ZXu (F:Fence) (n:Nat) (h:F.fn 73) (hl:F.fn 127) (hro:F.round=none) (hn:1<=n) (x:ITMT) (w:World):
  CallsIn F n prog 73 #[.agg (ZcH x)] w λe w'=>e=.returned (.tuple #[.int .i64 (gRep x).1,.int .i64 (gRep x).2])/\w'=w.alloc (.cells (ZcH x) 70):=by
 refine callsIn_of_wp Tryz.func73 rfl h ?_ hro;simp only[Tryz.ntmps73,Y5,List.length_cons,List.length_nil,Nat.reduceAdd,Nat.reduceSub,Yai,Array.replicate_zero,Yao,Yaj,List.nil_append,List.cons_append]
 gi_wp2_with (gi_at_call 127;refine (ZTA F (n-1) hl hro _ _ _ _).mono ?_;rintro e w' ⟨rfl,rfl⟩)
 all_goals go_ret2
 all_goals refine⟨?_,rfl⟩
 all_goals simp[*,gRep,Zyg,RT.val]
def stsC (w m:Nat):List Int:=(List.range m).flatMap λk=>((k+1:Nat):Int)::bif k==1 then List.replicate w 7 else []
theorem ZeZ (w m:Nat):stsC w (m+1)=stsC w m++((m+1:Nat):Int)::bif m==1 then List.replicate w 7 else []:=by simp[stsC,List.range_succ]
def stsL (x:ITMT):List Int:=bif x.1 !=1 then List.replicate (gRep x).2.toNat (gRep x).1 else stsC (min x.2.2.1 65536).toNat (gLim x.2.2.2.1 1 (gLim x.2.1.2.2.2 3 6)).toNat
theorem ZJB (w:Nat):∀(m k:Nat),k<=m->(stsC w k).length<=(stsC w m).length
 |0,k,h=>by rw[show k=0 by omega];exact Ye _
 |m+1,k,h=>by
  by_cases e:k=m+1
  ·rw[e];exact Ye _
  ·have:=ZJB w m k (by omega);rw[ZeZ,Yd];omega
def ZjO (W:World) (B:Nat) (x:ITMT):Prop:=W.heap[B]? =some (.cells (ZcH x) 70)
theorem ZjO.cell {W:World} {B:Nat} {x:ITMT} (h:ZjO W B x) (i:Nat) (hi:i<9):W.cell? ⟨B,i,none⟩=some ((ZcH x).getD i undef):=by
 unfold ZjO at h;simp only[World.cell?,h]
 match i,hi with
 |0,_=>rfl
 |1,_=>rfl
 |2,_=>rfl
 |3,_=>rfl
 |4,_=>rfl
 |5,_=>rfl
 |6,_=>rfl
 |7,_=>rfl
 |8,_=>rfl
 |i+9,hi=>omega
def KpB (B:Nat) (W W':World):Prop:=W'.heap[B]? =W.heap[B]?
set_option maxRecDepth 100000 in
set_option maxHeartbeats 8000000 in
theorem ZUA (F:Fence) (n:Nat) (h:F.fn 145) (hr:F.fn 73) (hl:F.fn 127) (hro:F.round=none) (hn:2<=n) (y B N:Nat) (x:ITMT) (J Jx:List Int->World->Prop) (W:World) (hJo:AbidesFrom W.heap.size J)
  (hN:(stsL x).length<=N)
  (hY:∀pre t W1,0<=t->t<=10->J pre W1->pre.length<N->YieldAt F (n-1) prog y #[.int .i64 t] W1 λe W'=>
   (e=.returned (.bool true)/\J (pre++[t]) W'/\KpB B W1 W')\/(e=.returned (.bool false)/\Jx (pre++[t]) W'))
  (hB:ZjO W B x) (h0:J [] W):
  CallsIn F n prog 145 #[.func (.yield y) #[] #[],.pointer (some ⟨B,0,none⟩)] W λe W'=>(∃v,e=.returned v)/\
   ((∃ys,ys=stsL x/\J ys W')\/(∃pre,True/\Jx pre W')):=by
 refine callsIn_of_wp Tryz.func145 rfl h ?_ hro;simp only[Tryz.ntmps145,Y5,List.length_cons,List.length_nil,Nat.reduceAdd,Nat.reduceSub,Yai,Array.replicate_zero,Yao,Yaj,List.nil_append,List.cons_append];obtain⟨L,hL⟩:∃L,L=stsL x:=⟨_,rfl⟩;rw[<-hL] at hN|-;have c0:=hB.cell 0 (by omega);have c1:=hB.cell 1 (by omega);have c2:=hB.cell 2 (by omega);have c3:=hB.cell 3 (by omega);have c4:=hB.cell 4 (by omega);have c5:=hB.cell 5 (by omega);have c6:=hB.cell 6 (by omega);have c7:=hB.cell 7 (by omega);have c8:=hB.cell 8 (by omega);simp[ZcH,Array.getD] at c0 c1 c2 c3 c4 c5 c6 c7 c8;have hn1:1<=n:=by omega
 gi_wp2_with (gi_at_call 73;refine (ZXu F (n-1) hr hl hro (by omega) x _).mono ?_;rintro e w' ⟨rfl,rfl⟩)
 ·have hx:(x.1 !=1)=true:=by assumption
  have eL:stsL x=List.replicate (gRep x).2.toNat (gRep x).1:=by unfold stsL;rw[hx];rfl
  rw[eL] at hL;rw[hL,List.length_replicate] at hN;have hJ1:J [] (W.alloc (.cells (ZcH x) 70)):=hJo _ _ _ none h0 (World.grownBy_alloc W _ none) (λr e=>by cases e);clear hJo h0 hB c0 c1 c2 c3 c4 c5 c6 c7 c8 eL;have htm:0<=(gRep x).2/\(gRep x).2<=65536:=by unfold gRep Zyg;simp only[gLim,Zyh,RT.val];cases x.1==2<;>cases x.1==3<;>cases x.1==4<;>simp[RT.val]<;>omega
  obtain⟨ht0,ht1⟩:=htm;have hst:0<=(gRep x).1/\(gRep x).1<=10:=by unfold gRep Zyg;cases x.1==2<;>cases x.1==3<;>cases x.1==4<;>simp[RT.val]
  generalize (gRep x).1=st at*;generalize (gRep x).2=tm at*;subst hL;gi_wp2
  gi_loopw [17] (λi wr=>∃k:Nat,k<=tm.toNat/\i=.int .i64 (k:Int)/\J (List.replicate k st) wr) (λi _=>tm.toNat-(intOf i).toNat)
  case atStart=>exact⟨0,Yq _,rfl,hJ1⟩
  case round=>
   obtain⟨k,hk,rfl,hJs⟩:=hrel;by_cases hlt:(k:Int)<tm
   ·obtain⟨fn,tmps,assign,body,hy,hR⟩:=hY _ st wr hst.1 hst.2 hJs (by rw[List.length_replicate];omega);have hb:(k:Int)+1<=65536:=by omega
    have hb0:(0:Int)<=k:=by omega
    gi_wp2
    ·refine hR.mono ?_;rintro e W3 (⟨rfl,hJ3,hk3⟩|⟨rfl,hJx3⟩)
     ·gi_wp2
      go_roundw
      case rel=>exact⟨k+1,by omega,rfl,by rw[List.replicate_succ'];exact hJ3⟩
      case measure=>simp[intOf];omega
     ·gi_wp2
      refine bodyPost_ret (results_none rfl _ _ _) rfl ?_;exact⟨⟨_,rfl⟩,.inr ⟨_,trivial,hJx3⟩⟩
   ·gi_wp2
    refine bodyPost_ret (results_none rfl _ _ _) rfl ?_;have e5:tm.toNat=k:=by omega
    rw[<-e5] at hJs;exact⟨⟨_,rfl⟩,.inl hJs⟩
 ·refine wpIn_mono (Q:=λe a' w'=>e=.normal/\a'={tmps:= #[.func (.yield y) #[] #[],.pointer (some ⟨B,0,none⟩),undef,undef,undef,.int .i64 (gLim x.2.2.2.1 1 (gLim x.2.1.2.2.2 3 6)),undef,undef,.pointer (some ⟨B,0,none⟩),.int .i64 x.1,.bool false,undef,undef,undef,undef,undef,undef,undef,undef,undef,undef,undef,undef,undef,.pointer (some ⟨B,6,none⟩),.int .i64 x.2.2.2.1,.pointer (some ⟨B,1,none⟩),.pointer (some ⟨B,4,none⟩),.int .i64 x.2.1.2.2.2,.int .i64 (gLim x.2.1.2.2.2 3 6),.int .i64 (gLim x.2.2.2.1 1 (gLim x.2.1.2.2.2 3 6)),undef,undef,undef,undef,undef,undef,undef,undef,undef,undef,undef,undef,undef,undef,undef,undef,undef,undef,undef,undef,undef,undef,undef],defers:=[]}/\w'=W.drew) ?reg ?_
  case reg=>
   gi_region_with (gi_at_call 127;refine (ZTA F (n-1) hl hro _ _ _ _).mono ?_;rintro e w' ⟨rfl,rfl⟩)
   all_goals exact⟨rfl,rfl,rfl⟩
  rintro e a' w' ⟨rfl,rfl,rfl⟩;have hx:(x.1 !=1)=false:=by assumption
  have eL:stsL x=stsC (min x.2.2.1 65536).toNat (gLim x.2.2.2.1 1 (gLim x.2.1.2.2.2 3 6)).toNat:=by unfold stsL;rw[hx];rfl
  have hm1:1<=gLim x.2.2.2.1 1 (gLim x.2.1.2.2.2 3 6)/\gLim x.2.2.2.1 1 (gLim x.2.1.2.2.2 3 6)<=6:=by simp only[gLim,Zyh,RT.val];omega
  dsimp only;rw[eL] at hL;have hJ1:J [] W.drew:=hJo _ _ _ none h0 ⟨rfl,rfl,rfl,Ye _,λ_ _ _=>rfl⟩ (λr e=>by cases e);have hB1:ZjO W.drew B x:=hB;clear hJo h0 hB c0 c1 c2 c3 c4 c5 c6 c7 c8 eL;generalize gLim x.2.2.2.1 1 (gLim x.2.1.2.2.2 3 6)=g at*;obtain⟨m,rfl⟩:∃m:Nat,g=(m:Int):=⟨g.toNat,by omega⟩;generalize W.drew=W0 at*;rw[Int.toNat_natCast] at hL;generalize hwn:(min x.2.2.1 65536).toNat=wn at*;subst hL;gi_wp2
  gi_loopw [6] (λi wr=>∃k:Nat,k<=m/\i=.int .i64 ((k:Int)+1)/\J (stsC wn k) wr/\ZjO wr B x) (λi _=>m+1-(intOf i).toNat)
  case atStart=>exact⟨0,Yq _,rfl,by simpa [stsC] using hJ1,hB1⟩
  case round=>
   obtain⟨k,hk,rfl,hJs,hBr⟩:=hrel;by_cases hlt:k<m
   ·have c5:=hBr.cell 5 (by omega);simp[ZcH,Array.getD] at c5;have hlen:∀j:Nat,j<=(bif k==1 then wn else 0)->(stsC wn k++((k+1:Nat):Int)::List.replicate j 7).length<=(stsC wn m).length:=by intro j hj;refine Yy ?_ (ZJB wn m (k+1) hlt);rw[ZeZ];simp only[Yd,List.length_cons,List.length_replicate];cases hk1:k==1<;>rw[hk1] at hj<;>simp at hj|- <;>omega
    obtain⟨fn,tmps,assign,body,hy,hR⟩:=hY _ ((k:Int)+1) wr (by omega) (by omega) hJs (by have:=hlen 0 (Yq _);simp at this;omega);have hb:(k:Int)+1<=6:=by omega
    have hb0:(0:Int)<=k:=by omega
    gi_wp2
    refine hR.mono ?_;rintro e W3 (⟨rfl,hJ3,hk3⟩|⟨rfl,hJx3⟩)
    ·gi_wp2
     gi_loopw [7] (λi wr=>∃j:Nat,j<=(bif k==1 then wn else 0)/\i=.int .i64 (j:Int)/\J (stsC wn k++((k+1:Nat):Int)::List.replicate j 7) wr/\ZjO wr B x) (λi _=>wn+1-(intOf i).toNat)
     case atStart=>exact⟨0,Yq _,rfl,by simpa using hJ3,hk3.trans hBr⟩
     case round=>
      obtain⟨j,hj,rfl,hJs,hBr⟩:=hrel;have c5:=hBr.cell 5 (by omega);simp[ZcH,Array.getD] at c5;have hwn0:wn<=65536:=by omega
      have hj65:(j:Int)<=65536:=by cases hq:k==1<;>rw[hq] at hj<;>simp at hj<;>omega
      have hj0:(0:Int)<=j:=by omega
      by_cases hc:k=1/\j<wn
      ·obtain⟨fn,tmps,assign,body,hy,hR⟩:=hY _ 7 wr (by omega) (by omega) hJs (by have:=hlen (j+1) (by simp[hc.1];omega);simp at this|-;omega);have hnext:∀W,J ((stsC wn k++((k+1:Nat):Int)::List.replicate j 7)++[7]) W->J (stsC wn k++((k+1:Nat):Int)::List.replicate (j+1) 7) W:=by intro W h;rw[List.replicate_succ'];simpa using h
       have hj1:j+1<=(bif k==1 then wn else 0):=by simp[hc.1];omega
       gi_wp2
       all_goals first
        |(exfalso;omega)
        |skip
       all_goals
        refine hR.mono ?_;rintro e W5 (⟨rfl,hJ5,hk5⟩|⟨rfl,hJx5⟩)
       all_goals gi_wp2
       all_goals first
        |(refine bodyPost_ret (results_none rfl _ _ _) rfl ?_
          exact⟨⟨_,rfl⟩,.inr ⟨_,trivial,hJx5⟩⟩)
        |(go_roundw
          case rel=>
           simp only[show (k:Int)+1=2 by omega];exact⟨_,_,_,_,_,_,_,_,_,_,_,_,_,_,_,⟨j+1,hj1,rfl,hnext _ hJ5,hk5.trans hBr⟩,rfl⟩
          case measure=>simp[intOf];omega)
      ·gi_wp2
       all_goals first
        |(exfalso;omega)
        |skip
       all_goals
        have hjj:j=bif k==1 then wn else 0:=by
         by_cases hk1:k=1
         ·have:¬j<wn:=λh=>hc ⟨hk1,h⟩
          subst hk1;simp at hj|-;omega
         ·have:(k==1)=false:=by simpa using hk1
          rw[this] at hj|-;exact Nat.le_zero.1 hj
        have hfin:J (stsC wn (k+1)) wr:=by rw[ZeZ];rw[hjj] at hJs;cases hk1:k==1<;>rw[hk1] at hJs<;>simpa using hJs
        refine⟨⟨k+1,by omega,by first|rfl|(congr 1;omega),hfin,hBr⟩,?_⟩;simp[intOf];omega
    ·gi_wp2
     refine bodyPost_ret (results_none rfl _ _ _) rfl ?_;exact⟨⟨_,rfl⟩,.inr ⟨_,trivial,hJx3⟩⟩
   ·have hb:(k:Int)<=6:=by omega
    have hb0:(0:Int)<=k:=by omega
    gi_wp2
    refine bodyPost_end (results_none rfl _ _ _) rfl ?_;exact⟨⟨_,rfl⟩,.inl ⟨_,rfl,by rw[show m=k by omega];exact hJs⟩⟩
set_option maxRecDepth 100000 in
set_option maxHeartbeats 2000000 in
theorem ZXl (F:Fence) (n:Nat) (h:F.fn 78) (hro:F.round=none) (x:ITMT) (w:World):
  CallsIn F n prog 78 #[.agg (ZcH x)] w λe w'=>e=.returned (.func (.func 145) #[] #[.pointer (some ⟨w.heap.size,0,none⟩)])/\w'=w.alloc (.cells (ZcH x) 70):=by
 refine callsIn_of_wp Tryz.func78 rfl h ?_ hro;simp only[Tryz.ntmps78,Y5,List.length_cons,List.length_nil,Nat.reduceAdd,Nat.reduceSub,Yai,Array.replicate_zero,Yao,Yaj,List.nil_append,List.cons_append];gi_wp2
 go_ret
 exact⟨rfl,rfl⟩
abbrev StT:={t:Int//0<=t/\t<=10}
abbrev stEnc (t:StT):Array Value:= #[.int .i64 t.1]
theorem ZJz (F:Fence) (n:Nat) (h:F.fn 145) (hr:F.fn 73) (hl:F.fn 127) (hro:F.round=none) (hn:2<=n) (B:Nat) (x:ITMT) (w:World) (hBs:B<w.heap.size) (hB:ZjO w B x):
  SeqStopsK F n prog 145 #[.pointer (some ⟨B,0,none⟩)] stEnc (KpB B) (λys=>ys.map (·.1)=stsL x) (λ_=>True) (stsL x).length w:=λy J Jx W hW hJ _ hY h0=>by
 refine (ZUA F n h hr hl hro hn y B (stsL x).length x (λl W=>∃l':List StT,l'.map (·.1)=l/\J l' W) (λl W=>∃l':List StT,Jx l' W) W ?_ (Ye _) ?_ ?_ ⟨[],rfl,h0⟩).mono ?_
 ·rintro l A C row ⟨l',e,hl'⟩ hg hr';exact⟨l',e,hJ l' A C row hl' hg hr'⟩
 ·rintro pre t W1 t0 t1 ⟨l',e,hl'⟩ hlen;have hlen':l'.length<(stsL x).length:=by rw[<-e,List.length_map] at hlen;exact hlen
  obtain⟨fn,tmps,assign,body,hy,hR⟩:=hY l' ⟨t,t0,t1⟩ W1 hl' hlen';refine⟨fn,tmps,assign,body,hy,hR.mono ?_⟩;rintro e' W' (⟨e1,e2,e3⟩|⟨e1,e2⟩)
  ·exact .inl ⟨e1,⟨l'++[⟨t,t0,t1⟩],by simp[e],e2⟩,e3⟩
  ·exact .inr ⟨e1,_,e2⟩
 ·exact (hW.block B hBs).trans hB
 ·rintro e W' ⟨hv,(⟨ys,e1,l',e2,e3⟩|⟨pre,_,l',e3⟩)⟩
  ·exact⟨hv,.inl ⟨l',e2.trans e1,e3⟩⟩
  ·exact⟨hv,.inr ⟨l',trivial,e3⟩⟩
