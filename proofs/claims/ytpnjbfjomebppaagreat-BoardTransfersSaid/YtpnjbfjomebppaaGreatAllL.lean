import Derived.Test.YtpnjbfjomebppaaGreatStepL
open Go Go.S3 Go.Proofs Go.Proofs.Cells
set_option linter.unusedVariables false
set_option linter.unusedSimpArgs false
set_option maxRecDepth 100000
namespace Go.Proofs.YtpnjbfjomebppaaGreat
noncomputable section
def LatF (c:TC):Prop:=c.2.2.2.2.2.2.1=false/\c.2.2.2.2.2.2.2.1=false/\c.2.2.2.2.2.2.2.2.1=false/\c.2.2.2.2.2.2.2.2.2.1=false
def LowL (l:LINT):Prop:=l.2.2=(false,false,false,false,false,false,false)
def ZXX (i:INPT):Prop:=i.2.2.1=false/\i.2.2.2.1=false/\i.2.2.2.2.1=false/\i.2.2.2.2.2.1=false/\i.2.2.2.2.2.2.1=false/\i.2.2.2.2.2.2.2.1=false/\i.2.2.2.2.2.2.2.2.1=0
theorem andI0 (x:Int):andI .u8 x 0=0:=by unfold andI;simp;rfl
theorem ZYN (m:Int):ZT .u8 0 m=0:=by unfold ZT;simp;rfl
theorem ZYB (k:Int):Zc0 0 k= -1:=by
 have h:=ZJf 0 k;obtain⟨h0,h1⟩:=and7 k;have key:(List.range 8).all (λk=>(Zld 0 (k:Int)).val==some (-1))=true:=by kernel_rfl
 obtain⟨b,hb⟩:∃b:Nat,andI .i64 k 7=(b:Int):=⟨(andI .i64 k 7).toNat,by omega⟩;have:=YT.1 key b (by simp;omega);simp only[Yaj] at this;rw[hb,this] at h;simp only[Zc0,h,getO]
theorem ZWx (p:PICT):vInt (Zfc p 0)=false:=by
 have hr:∀q:PICT,q.2.2.2.2.2.2.2.2.2.2.2.2.1=0->q.2.2.2.2.2.2.2.2.2.2.2.2.2.1=0->vReq q=0:=λq h1 h2=>by unfold vReq ZUf;simp only[RT.val];show (bif q.2.1 then q.2.2.2.2.2.2.2.2.2.2.2.2.1 else q.2.2.2.2.2.2.2.2.2.2.2.2.2.1)=0;rw[h1,h2];cases q.2.1<;>rfl
 have hq:vReq (Zfc p 0)=0:=hr _ rfl (by
  show andI .u8 _ 0=0
  exact andI0 _)
 have hp:∀m s k q,ZvR 0 m s k q= -1:=λm s k q=>by
  have h1:(ZgC 0 m s k q).val=some (-1):=by simp only[ZgC,RT.val,ZYN,ZYB,(ZiM _ k).1,Ya];rfl
  simp only[ZvR,h1,getO]
 have hk:vPck (Zfc p 0)= -1:=by
  have h1:(ZvS (Zfc p 0)).val=some (-1):=by
   have hc:∀m s k q,ZmG 0 m s k q=true:=λm s k q=>by
    have h1:(ZgC 0 m s k q).val=some (-1):=by simp only[ZgC,RT.val,ZYN,ZYB,(ZiM _ k).1,Ya];rfl
    simp only[ZmG,h1,okB]
   simp only[ZvS,RT.val,hq,hp,hc,Ya]
  simp only[vPck,h1,getO]
 unfold vInt ZJe;simp only[RT.val,hk,(ZrW _).1,Ya,getO];rfl
theorem ZN5 (b:BRDT) (s:SYST) (i:INPT) (h:ZXX i):LowL (Zag b (Zn b s i) i):=by
 obtain⟨h1,h2,h3,h4,h5,h6,h7⟩:=h;unfold LowL Zag;simp only[h1,h2,h3,h4,h5,h6,h7,pinj,true_and];cases hj:b.2.2.2.2.2.1
 ·have e:(Zn b s i).2.2.1=Zfc s.2.2.1 0:=by unfold Zn;simp only[hj,h7];rfl
  rw[e];exact ZWx _
 ·rfl
def EvC (c:TC) (e:EVTT):Prop:=e.1≠5->e.1=1/\e.2.1=0/\LowL e.2.2.2.1/\(e.2.2.2.2.1=false/\e.2.2.2.2.2.1=false/\e.2.2.2.2.2.2.1=false/\e.2.2.2.2.2.2.2.1=false)/\c.2.2.2.2.1=false
def EvCs (s0:TC) (ev:List EVTT):Prop:=∀l1 e l2,ev=l1++e::l2->EvC (Za0 s0 l1) e
theorem EvCs.snoc {s0:TC} {ev:List EVTT} (h:EvCs s0 ev) {e:EVTT} (he:EvC (Za0 s0 ev) e):EvCs s0 (ev++[e]):=by
 intro l1 x l2 hq;rcases Y2 l2 with rfl|⟨l2',y,rfl⟩
 ·have:=Yak hq rfl;obtain⟨rfl,h2⟩:=this;obtain rfl:e=x:=by simpa using h2
  exact he
 ·rw[Y0] at hq;have hq':ev++[e]=(l1++x::l2')++[y]:=by rw[hq];simp
  have:=Yak hq' rfl;exact h l1 x l2' this.1
structure Clm (s0:TC) (s:SYST) (ev:List EVTT):Prop where
 src:s.1.2.1=0
 lat:LatF s.1.1
 evs:EvCs s0 ev
end
end Go.Proofs.YtpnjbfjomebppaaGreat
open Go.IntKind (u8 u16 i64)
namespace Go.Proofs.YtpnjbfjomebppaaGreat
noncomputable section
abbrev DMAT:=QT3
abbrev SimT:=CORT×DMAT×Int×List Cell×Nat
def ndT (w k:Int):Int:=bif decide (k>=1)&&decide (k<=5) then 0 else bif k==6||k==7 then w else 0
def ZGk (c:CORT) (wt:Int):Int:=bif Zm c !=7 then 0 else IntKind.wrap .i64 (wt+1)
def linT (w:Int) (s:SimT):LINT:=(decide (ZGk s.1 s.2.2.1>=ndT w s.1.2.2.2.1.1),Z3 s.2.1,false,false,false,false,false,false,false)
def ZJ4 (s:SimT):Bool:=
 let x:=s.1.2.2.2.1
 let n:=Zm s.1
 bif n==3 then
  (bif Zaz x.1 then (x.1==1||(x.1==2||x.1==4))&&(decide (0<=x.2.1)&&(decide (x.2.1<=65535)&&s.2.2.2.1.isEmpty)) else
   bif Za5 x.1 then x.1==7&&(!(IntKind.wrap .u8 x.2.1==0||IntKind.wrap .u8 x.2.1==IntKind.wrap .u8 (0+1))&&decide (IntKind.wrap .u8 (IntKind.wrap .u8 x.2.1-4)<4)) else true)
 else true
def simD (L:List Int) (s:SimT):Int:=bif Zm s.1==3&&Zaz s.1.2.2.2.1.1 then L.getD s.1.2.2.2.1.2.1.toNat 0 else 0
def simW (s:SimT):DMAT:=bif Zm s.1==3&&Za5 s.1.2.2.2.1.1 then ZdA s.2.1 (IntKind.wrap .i64 (IntKind.wrap .u8 (IntKind.wrap .u8 s.1.2.2.2.1.2.1-4))) s.1.2.2.2.1.2.2.1 else s.2.1
def simM (s:SimT):Bool:=Zm s.1==8&&Z3 (simW s)
def simS (w:Int) (L:List Int) (s:SimT):SimT:=
 (Zk s.1 (linT w s) (simD L s),
  bif simM s then (IntKind.wrap .u16 ((simW s).1+1),(simW s).2.1,IntKind.wrap .i64 ((simW s).2.2-1)) else simW s,
  ZGk s.1 s.2.2.1,
  bif simM s then s.2.2.2.1++[((simW s).1,(simW s).2.1)] else s.2.2.2.1,
  bif Zm s.1==8 then s.2.2.2.2+1 else s.2.2.2.2)
def simN (w:Int) (L:List Int):Nat->SimT->Option SimT
 |0,s=>some s
 |n+1,s=>bif ZJ4 s then simN w L n (simS w L s) else none
structure BrdT (b:BRDT) (w:Int):Prop where
 jam:b.2.2.2.2.2.1=false
 pic:b.2.2.2.1=0
 dma:b.2.2.2.2.1=4
 need:∀x:TY,Zmy b x=ndT w x.1
def movT (ev:List EVTT):List Cell:=(ev.filter λe=>e.1==5).map λe=>e.2.2.2.2.2.2.2.2
def ZOP (g:List GT) (M0:List Cell) (l:List Cell):List Cell:=l.foldl (λm c=>Zbh g m c.1 c.2) M0
structure SimR (b:BRDT) (M0:List Cell) (s:SimT) (st:STT):Prop where
 core:st.1.1=s.1
 dma:st.1.2.2.2.1=s.2.1
 wt:st.1.2.2.2.2.1=s.2.2.1
 mem:st.1.2.1=ZOP b.2.1 M0 s.2.2.2.1
 mov:movT st.2.2.2.1=s.2.2.2.1
 hol:(st.2.1.filter ZcU).length=s.2.2.2.2
theorem ZFx (ev:List EVTT) (e:EVTT):movT (ev++[e])=movT ev++(bif e.1==5 then [e.2.2.2.2.2.2.2.2] else []):=by unfold movT;rw[YaH,Ya0];cases h:e.1==5<;>simp[List.filter,h]
theorem ZWi (ev:List EVTT) (c:CORT) (l:LINT) (d:Int) (cell:Cell) (moved:Bool) (hr:l.2.2.1=false):movT (evE ev c l d cell moved)=movT ev++(bif moved then [cell] else []):=by
 have hk:∀s:Int,(ZhS s==5)=false:=λs=>by
  unfold ZhS ZDa;simp only[RT.val];cases Zd s
  ·cases s==5<;>rfl
  ·rfl
 have hw:∀(e:EVTT) (p:TC),(Zid e p l).1=e.1:=λe p=>rfl
 unfold evE;dsimp only;rw[hr];cases (finS c l d).2<;>cases moved<;>simp only[Ya,Yb,ZFx,hw,hk,Yx];all_goals (first|rfl|(rw[Yx])|skip)
variable {w:Int}
theorem isDma (b:BRDT) (B:BrdT b w) (p:Int):Zgz b p=(IntKind.wrap .i64 (IntKind.wrap .u8 (p-4)),decide (IntKind.wrap .u8 (p-4)<4)):=by unfold Zgz Zzo;simp only[RT.val,B.dma]
theorem isPic (b:BRDT) (B:BrdT b w) (p:Int):(Zec b p).2=(p==0||p==IntKind.wrap .u8 (0+1)):=by unfold Zec Zzn;simp only[RT.val,B.pic,B.jam,Ym,YN]
theorem pin_h (c:CORT) (l:LINT) (d:Int) (hr:l.2.2.1=false):ZcU (ZbB c l d)=(Zm c==8):=by unfold ZbB;rw[ZTQ,hr];rfl
theorem ZJ3 {b:BRDT} (B:BrdT b w) (L:List Int) (M0:List Cell) (hM:∀a:Int,0<=a->a<=65535->ZeS b.2.1 M0 a=L.getD a.toNat 0) (s:SimT) (st:STT) (s0:TC) (R:SimR b M0 s st) (ok:ZJ4 s=true):
  SimR b M0 (simS w L s) (ZaN b s0 st Zl):=by
 have hcore:(ZL b st.1 Zl).1.1=Zk st.1.1 (Zag b (Zn b st.1 Zl) Zl) (busS b (Zn b st.1 Zl) Zl).2:=Zd9 b st.1 Zl;obtain⟨⟨c,m,pic,d,wt,outs⟩,tr,it,ev,cp⟩:=st;obtain⟨c',d',wt',mv,ho⟩:=s;obtain⟨r1,r2,r3,r4,r5,r6⟩:=R;simp only at r1 r2 r3 r4 r5 r6;subst r1;subst r2;subst r3;obtain⟨ww,hww⟩:∃ww,ZGk c wt=ww:=⟨_,rfl⟩;have hwt:∀p,Za4 (c,m,p,d,wt,outs)=ZGk c wt:=λp=>by unfold Za4 ZlL ZGk;simp only[RT.val]
 have hlin:Zag b (Zn b (c,m,pic,d,wt,outs) Zl) Zl=linT w (c,d,wt,mv,ho):=by
  have h:=ZN5 b (c,m,pic,d,wt,outs) Zl ⟨rfl,rfl,rfl,rfl,rfl,rfl,rfl⟩;have e:Zag b (Zn b (c,m,pic,d,wt,outs) Zl) Zl=((Zag b (Zn b (c,m,pic,d,wt,outs) Zl) Zl).1,(Zag b (Zn b (c,m,pic,d,wt,outs) Zl) Zl).2.1,(Zag b (Zn b (c,m,pic,d,wt,outs) Zl) Zl).2.2):=rfl;rw[e,h];have e1:(Zag b (Zn b (c,m,pic,d,wt,outs) Zl) Zl).1=decide (ZGk c wt>=ndT w c.2.2.2.1.1):=by show (true&&decide (Za4 (c,m,_,d,wt,outs)>=Zmy b c.2.2.2.1))=_;rw[hwt,B.need,YN]
  have e2:(Zag b (Zn b (c,m,pic,d,wt,outs) Zl) Zl).2.1=Z3 d:=rfl;rw[e1,e2];rfl
 have hbus:(busS b (Zn b (c,m,pic,d,wt,outs) Zl) Zl).2=simD L (c,d,wt,mv,ho):=by
  unfold busS simD;have e1:(Zn b (c,m,pic,d,wt,outs) Zl).1=c:=rfl;have e2:(Zn b (c,m,pic,d,wt,outs) Zl).2.1=m:=rfl;have e3:(Zl).2.2.1=false:=rfl;simp only[e1,e2,e3,Yh];unfold ZJ4 at ok;simp only at ok;cases h3:Zm c==3
  ·have:(Zm c !=3)=true:=by rw[bne,h3];rfl
   rw[this];rfl
  ·have:(Zm c !=3)=false:=by rw[bne,h3];rfl
   rw[this];cases hrd:Zaz c.2.2.2.1.1
   ·rfl
   ·rw[h3,hrd] at ok;simp only[Ya,Yc,Yi] at ok;obtain⟨k1,k2,k3,k4⟩:=ok;have hk:(decide (c.2.2.2.1.1>=1)&&decide (c.2.2.2.1.1<=5))=true:=by simp at k1;simp;omega
    have hmv:mv=[]:=List.isEmpty_iff.1 k4;subst hmv;rw[hk];simp only[Yf,Yae,YZ,Ya,Yb];rw[r4];exact hM _ k2 k3
 have hpin:pinS b (c,m,pic,d,wt,outs) Zl=ZbB c (linT w (c,d,wt,mv,ho)) (simD L (c,d,wt,mv,ho)):=by unfold pinS;rw[(Ze0 b _ _).1,hlin,hbus];rfl
 have hph:ZcU (pinS b (c,m,pic,d,wt,outs) Zl)=(Zm c==8):=by rw[hpin];exact pin_h _ _ _ rfl
 have hcs:(Zgw b (c,m,pic,d,wt,outs) Zl).2.1=m/\(Zgw b (c,m,pic,d,wt,outs) Zl).2.2.2.1=d:=by have hk:=Ze0 b (Zn b (c,m,pic,d,wt,outs) Zl) Zl;unfold Zgw;dsimp only;rw[hk.2.1,hk.2.2];exact⟨rfl,rfl⟩
 have hws:Zgx (c,m,pic,d,wt,outs) Zl=(Zm c==3&&Za5 c.2.2.2.1.1):=rfl;have hwr:(Za2 b (c,m,pic,d,wt,outs) Zl).2.1=m/\(Za2 b (c,m,pic,d,wt,outs) Zl).2.2.2.1=simW (c,d,wt,mv,ho):=by
  unfold Za2 simW;rw[hws];cases hq:Zm c==3&&Za5 c.2.2.2.1.1
  ·exact hcs
  ·simp only[Yc] at hq;unfold ZJ4 at ok;simp only[hq.1,hq.2,Ya] at ok;have hnr:Zaz c.2.2.2.1.1=false:=by have:=hq.2;unfold Za5 Zsz at this;unfold Zaz ZsG;simp only[RT.val] at this|-;simp at this;rcases this with h|h|h<;>rw[h]<;>rfl
   rw[hnr] at ok;simp only[Yb,Yc,YC] at ok;obtain⟨o1,o2,o3⟩:=ok;have o1':(c.2.2.2.1.1 !=7)=false:=by rw[bne,o1];rfl
   simp only[Ya];unfold ZiU;simp only[o1',isDma b B,isPic b B,o2,o3,Ya,Yb];rw[hcs.1,hcs.2];exact⟨rfl,rfl⟩
 have hmv:ZbY b (c,m,pic,d,wt,outs) Zl=simM (c,d,wt,mv,ho):=by unfold ZbY simM;rw[hph,hwr.2]
 have hkeep:=Zms b (c,m,pic,d,wt,outs) Zl;refine⟨?_,?_,?_,?_,?_,?_⟩
 ·show (ZL b (c,m,pic,d,wt,outs) Zl).1.1=_;rw[hcore,hlin,hbus];rfl
 ·show (Zlg (Zet b (c,m,pic,d,wt,outs) Zl) false).2.2.2.1=_;unfold Zet simS;dsimp only;rw[hmv];cases simM (c,d,wt,mv,ho)
  ·exact hwr.2
  ·simp only[Ya];show ((IntKind.wrap .u16 ((Za2 b (c,m,pic,d,wt,outs) Zl).2.2.2.1.1+1),_,_):QT3)=_;rw[hwr.2]
 ·show (ZL b (c,m,pic,d,wt,outs) Zl).1.2.2.2.2.1=_;rw[hkeep,hwt];rfl
 ·show (Zlg (Zet b (c,m,pic,d,wt,outs) Zl) false).2.1=_;unfold Zet simS;dsimp only;rw[hmv];cases simM (c,d,wt,mv,ho)
  ·show (Za2 b (c,m,pic,d,wt,outs) Zl).2.1=_;rw[hwr.1];exact r4
  ·simp only[Ya];show Zbh b.2.1 (Za2 b (c,m,pic,d,wt,outs) Zl).2.1 (Za2 b (c,m,pic,d,wt,outs) Zl).2.2.2.1.1 (Za2 b (c,m,pic,d,wt,outs) Zl).2.2.2.1.2.1=_;rw[hwr.1,hwr.2,r4];unfold ZOP;rw[YaL];rfl
 ·show movT (evE ev c (Zag b (Zn b (c,m,pic,d,wt,outs) Zl) Zl) (busS b (Zn b (c,m,pic,d,wt,outs) Zl) Zl).2 (ZL b (c,m,pic,d,wt,outs) Zl).2.2.2.2.1 (ZbY b (c,m,pic,d,wt,outs) Zl))=_;rw[hlin,ZWi _ _ _ _ _ _ rfl,hmv,r5];unfold simS;dsimp only;cases hq:simM (c,d,wt,mv,ho)
  ·simp
  ·simp only[Ya];show mv++[(bif ZbY b (c,m,pic,d,wt,outs) Zl then ((Za2 b (c,m,pic,d,wt,outs) Zl).2.2.2.1.1,(Za2 b (c,m,pic,d,wt,outs) Zl).2.2.2.1.2.1) else (0,0))]=_;rw[hmv,hq,hwr.2];rfl
 ·show ((tr++[pinS b (c,m,pic,d,wt,outs) Zl]).filter ZcU).length=_;rw[YaH,Yd,r6];unfold simS;dsimp only;cases hq:Zm c==8
  ·rw[hq] at hph;simp[List.filter,hph]
  ·rw[hq] at hph;simp[List.filter,hph]
theorem ZDC {b:BRDT} {w:Int} (B:BrdT b w) (L:List Int) (M0:List Cell) (hM:∀a:Int,0<=a->a<=65535->ZeS b.2.1 M0 a=L.getD a.toNat 0) (s0:TC):∀(n:Nat) (s s':SimT) (st:STT),SimR b M0 s st->simN w L n s=some s'->
  SimR b M0 s' (ZbO b s0 st (List.replicate n Zl))
 |0,s,s',st,R,h=>by simp only[simN,oinj] at h;subst h;exact R
 |n+1,s,s',st,R,h=>by
  unfold simN at h;cases ho:ZJ4 s
  ·rw[ho] at h;simp at h
  ·rw[ho] at h;exact ZDC B L M0 hM s0 n _ s' _ (ZJ3 B L M0 hM s st s0 R ho) h
def bytK (lo hi v k:Int):List Int:=[62,lo,211,4,62,hi,211,5,62,v,211,6,62,k,211,7,118]
def st0K (chip:Int):SimT:=((newS (chip,[],0,0,4,false,[])).1,(0,0,0),0,[],0)
def aT (lo hi:Int):Int:=(ZdA (ZdA (0,0,0) 0 lo) 1 hi).1
def movL (v:Int):Nat->Int->List Cell
 |0,_=>[]
 |n+1,a=>(a,v)::movL v n (IntKind.wrap .u16 (a+1))
def outK (s:SimT):List Cell×Int×Nat×Bool:=(s.2.2.2.1,s.2.1.2.2,s.2.2.2.2,s.1.1.2.2.2.2.1)
theorem runK (lo hi v chip io k:Int) (hc:chip=1\/chip=2) (hi2:io=0\/io=1\/io=2) (h1:1<=k) (h2:k<=20):(simN io (bytK lo hi v k) 160 (st0K chip)).map outK=some (movL v k.toNat (aT lo hi),0,k.toNat+1,true):=by
 have e:k=1\/k=2\/k=3\/k=4\/k=5\/k=6\/k=7\/k=8\/k=9\/k=10\/k=11\/k=12\/k=13\/k=14\/k=15\/k=16\/k=17\/k=18\/k=19\/k=20:=by omega
 rcases hc with rfl|rfl<;>rcases hi2 with rfl|rfl|rfl<;>rcases e with rfl|rfl|rfl|rfl|rfl|rfl|rfl|rfl|rfl|rfl|rfl|rfl|rfl|rfl|rfl|rfl|rfl|rfl|rfl|rfl<;>(show _=_;kernel_rfl)
theorem bvN (a:Nat) (h:a<65536):(BitVec.ofInt 16 (a:Int)).toNat=a:=by rw[BitVec.toNat_ofInt];omega
theorem orN (a b:Nat) (ha:a<65536) (hb:b<65536):orI .u16 (a:Int) (b:Int)=((a|||b:Nat):Int):=by have h:a|||b<2^16:=Nat.or_lt_two_pow ha hb;show IntKind.wrap .u16 (((BitVec.ofInt 16 (a:Int))|||(BitVec.ofInt 16 (b:Int))).toNat:Int)=_;rw[BitVec.toNat_or,bvN a ha,bvN b hb,ZaW];omega
theorem andN (a b:Nat) (ha:a<65536) (hb:b<65536):andI .u16 (a:Int) (b:Int)=((a&&&b:Nat):Int):=by have h:a&&&b<2^16:=Nat.and_lt_two_pow a hb;show IntKind.wrap .u16 (((BitVec.ofInt 16 (a:Int))&&&(BitVec.ofInt 16 (b:Int))).toNat:Int)=_;rw[BitVec.toNat_and,bvN a ha,bvN b hb,ZaW];omega
theorem aT_eq (lo hi:Nat) (hl:lo<256) (hh:hi<256):aT (lo:Int) (hi:Int)=((hi*256+lo:Nat):Int):=by
 have e0:(ZdA (0,0,0) 0 (lo:Int)).1=orI .u16 (andI .u16 ((0:Nat):Int) ((65280:Nat):Int)) (IntKind.wrap .u16 (lo:Int)):=rfl;have e1:∀d:QT3,(ZdA d 1 (hi:Int)).1=orI .u16 (andI .u16 d.1 ((255:Nat):Int)) (shlI .u16 (IntKind.wrap .u16 (hi:Int)) 8):=λd=>rfl
 have w1:IntKind.wrap .u16 (lo:Int)=(lo:Int):=by rw[ZaW];omega
 have w2:shlI .u16 (IntKind.wrap .u16 (hi:Int)) 8=((hi*256:Nat):Int):=by show IntKind.wrap .u16 (IntKind.wrap .u16 (hi:Int)*256)=_;rw[ZaW,ZaW];omega
 unfold aT;rw[e1,e0,w1,w2,andN 0 65280 (by omega) (by omega),orN _ lo (by simp) (by omega),andN _ 255 (by simp;omega) (by omega),orN _ _ _ (by omega)]
 ·have a1:((0&&&65280|||lo)&&&255:Nat)=lo:=by rw[Nat.zero_and,Nat.zero_or,show (255:Nat)=2^8-1 from rfl,Nat.and_two_pow_sub_one_eq_mod];omega
  have a2:(lo|||hi*256:Nat)=hi*256+lo:=by rw[Nat.or_comm,show hi*256=hi<<<8 by rw[Nat.shiftLeft_eq],Nat.shiftLeft_add_eq_or_of_lt (by omega:lo<2^8)]
  rw[a1,a2]
 ·exact Nat.lt_of_le_of_lt Nat.and_le_right (by omega)
theorem ZXs (t:Int) (b:List Int) (n i:Nat) (h:i<n):el (Zix t b n) i=(IntKind.wrap .u16 (t+IntKind.wrap .u16 (i:Int)),b.getD i 0):=by simp[el,Zix,h]
theorem ZXr (b:List Int) (hb:b.length<=300) (a:Int) (h0:0<=a) (h1:a<=65535):getX (Zfu 0 b) a=b.getD a.toNat 0:=by
 unfold Zfu;rw[Zjw];have hl:=ZjK 0 b b.length;by_cases hi:a.toNat<b.length
 ·have e:=ZXs 0 b b.length a.toNat hi;have ea:IntKind.wrap .u16 (0+IntKind.wrap .u16 ((a.toNat:Nat):Int))=a:=by rw[ZaW,ZaW];omega
  rw[ea] at e
  have h0:=ZCJ (m:=Zix 0 b b.length) (t:=a) (i:=a.toNat) (by rw[hl];exact hi) (congrArg Prod.fst e) (λk h1 h2=>by
   rw[hl] at h2;rw[ZXs 0 b b.length k h2];simp only[ZaW]
   omega)
  rw[h0,e]
 ·rw[show b.getD a.toNat 0=0 by rw[Yq,YW (by omega)];rfl];refine ZhJ λc hc=> ?_
  unfold Zix at hc;simp only[List.mem_map,YaA] at hc;obtain⟨i,hi2,rfl⟩:=hc;simp only[ZaW];omega
theorem ZQn (m:List Cell) (a:Int) (h0:0<=a) (h1:a<=65535):ZeS (allR 0) m a=getX m a:=by unfold ZeS;rw[Zvd,YY ⟨h0,h1⟩];rfl
theorem ZI1 (m:List Cell) (a v q:Int) (h0:0<=a) (h1:a<=65535):getX (Zbh (allR 0) m a v) q=if a=q then v else getX m q:=by unfold Zbh;rw[Zvd,YY ⟨h0,h1⟩];show getX (putX (normX m) (a,v)) q=_;rw[ZsX (Zep m),Zjw]
theorem ZNT (v q:Int):∀(n:Nat) (a:Int) (m:List Cell),0<=a->a<=65535->(getX m q=v\/∃i:Nat,i<n/\q=(a+i)%65536)->getX (ZOP (allR 0) m (movL v n a)) q=v
 |0,a,m,_,_,h=>by
  rcases h with h|⟨i,hi,_⟩
  ·exact h
  ·omega
 |n+1,a,m,h0,h1,h=>by
  have hw:IntKind.wrap .u16 (a+1)=(a+1)%65536:=ZaW _;show getX (ZOP (allR 0) (Zbh (allR 0) m a v) (movL v n (IntKind.wrap .u16 (a+1)))) q=v;refine ZNT v q n _ _ (by rw[hw];omega) (by rw[hw];omega) ?_;rw[ZI1 _ _ _ _ h0 h1];by_cases e:a=q
  ·exact .inl (by rw[YY e])
  ·rw[Y3 e];rcases h with h|⟨i,hi,hq⟩
   ·exact .inl h
   ·have hi0:i≠0:=λe0=>by rw[e0] at hq;omega
    exact .inr ⟨i-1,by omega,by rw[hw];omega⟩
theorem ZuT (v:Int):∀(n:Nat) (a:Int),(movL v n a).length=n
 |0,_=>rfl
 |n+1,a=>by show (movL v n _).length+1=n+1;rw[ZuT v n]
theorem ZNU (v:Int):∀(n:Nat) (a:Int) (i:Nat),0<=a->a<=65535->i<n->(movL v n a)[i]? =some ((a+i)%65536,v)
 |n+1,a,0,h0,h1,_=>by show some (a,v)=_;rw[show (a+((0:Nat):Int))%65536=a by omega]
 |n+1,a,i+1,h0,h1,h=>by show (movL v n (IntKind.wrap .u16 (a+1)))[i]? =_;rw[ZNU v n _ i (by rw[ZaW];omega) (by rw[ZaW];omega) (by omega),ZaW];congr 2;omega
theorem ZKk (b:BRDT) (lo hi v k io:Int) (hn:wNew b=(newS b,0)) (hch:b.1=1\/b.1=2) (hio:io=0\/io=1\/io=2) (hk:1<=k/\k<=20) (hb:b=(b.1,allR 0,io,0,4,false,Zfu 0 (bytK lo hi v k))):
  ∃st:STT,ZbL b (List.replicate 160 Zl)=(endS (Z2 b) st,0)/\movT st.2.2.2.1=movL v k.toNat (aT lo hi)/\(st.2.1.filter ZcU).length=k.toNat+1/\st.1.2.2.2.1.2.2=0/\st.1.1.1.2.2.2.2.1=true/\st.1.2.1=ZOP (allR 0) (normX (Zfu 0 (bytK lo hi v k))) (movL v k.toNat (aT lo hi)):=by
 have hr:=runK lo hi v b.1 io k hch hio hk.1 hk.2;obtain⟨s',hs',ho⟩:=Yw.1 hr;have e1:b.2.1=allR 0:=by rw[hb]
 have e2:b.2.2.1=io:=by rw[hb]
 have e3:b.2.2.2.2.2.2=Zfu 0 (bytK lo hi v k):=by rw[hb]
 have B:BrdT b io:=⟨by rw[hb],by rw[hb],by rw[hb],λx=>by
  rw[ZB6 b x (by rw[e1];exact smGb (by simp[allR])),e1,e2,ZvD 0 _ ⟨by omega,by omega⟩,ZN6 io (by omega)];unfold ndT
  split<;>rfl⟩
 have hM:∀a:Int,0<=a->a<=65535->ZeS b.2.1 (normX (Zfu 0 (bytK lo hi v k))) a=(bytK lo hi v k).getD a.toNat 0:=λa h0 h1=>by rw[e1,ZQn _ _ h0 h1,Zjw,ZXr _ (by simp[bytK]) a h0 h1]
 have hi0:(Zbg b).1=newS b:=by unfold Zbg;rw[hn]
 obtain⟨M0,hM1⟩:∃M,normX (Zfu 0 (bytK lo hi v k))=M:=⟨_,rfl⟩;have hM0:normX b.2.2.2.2.2.2=M0:=by rw[e3,hM1]
 rw[hM1] at hM|-;have R:SimR b M0 (st0K b.1) (Zbg b):=
  ⟨by rw[hi0];unfold st0K newS;rfl,by rw[hi0];rfl,by rw[hi0];rfl,by rw[hi0];exact hM0,rfl,rfl⟩
 have F:=ZDC B (bytK lo hi v k) _ hM (Z2 b) 160 (st0K b.1) s' (Zbg b) R hs';simp only[outK,pinj] at ho;obtain⟨o1,o2,o3,o4⟩:=ho;refine⟨_,ZiZ b _ hn,by rw[F.mov,o1],by rw[F.hol,o3],by rw[F.dma,o2],by rw[F.core,o4],by rw[F.mem,o1,e1]⟩
theorem ZFw (a b:List EVTT):movT (a++b)=movT a++movT b:=by unfold movT;rw[YaH,Ya0]
theorem ZXq (s:TC) (st:STT):movT (endS s st).2.2.1=movT st.2.2.2.1/\(endS s st).1=st.2.1/\(endS s st).2.2.2.2=st.1:=by
 unfold endS;cases ZdU st.1.1
 ·exact⟨rfl,rfl,rfl⟩
 ·refine⟨?_,rfl,rfl⟩;show movT (st.2.2.2.1++[_])=_;rw[ZFw];exact Yx _
theorem btra_law (n:List Int) (t v k:Int) (ht:inR .u16 t) (hv:inR .u8 v) (hk:inR .u8 k):ZOe n t v k=true/\ZWt n t v k=true:=by
 have hms:=mst;have hval:(Zrt n t v k).val=some true:=by
  cases hx:decide (iN (List.length n)>120)
  ·obtain⟨s1,s2,s3,s4,s5⟩:=Zsn n 0 (by omega);have s1:Ze6 n 0=true:=s1;have s5:(ZC n 0).1=(ZbX (n,0)).1:=s5;obtain⟨_,_,_,hch,hio,_,_,_⟩:=Zg4 (Zpy n) (by omega);rw[<-s5] at hch hio;obtain⟨A,hA⟩:∃A,orI .u16 t 16384=A:=⟨_,rfl⟩;have hAr:inR .u16 A:=by rw[<-hA];exact (Zf1 .u16 t 16384).2.1
   rw[Zf0] at hAr;rw[Zhb] at hv hk;obtain⟨lo,hlo⟩:∃x,IntKind.wrap .u8 A=x:=⟨_,rfl⟩;obtain⟨hi,hhi⟩:∃x,IntKind.wrap .u8 (shrI .u16 A 8)=x:=⟨_,rfl⟩;obtain⟨K,hK⟩:∃x,IntKind.wrap .u8 (Int.tmod k 20+1)=x:=⟨_,rfl⟩;have hlo2:lo=((A.toNat%256:Nat):Int):=by rw[<-hlo,Zj9];omega
   have hhi2:hi=((A.toNat/256:Nat):Int):=by
    have:shrI .u16 A 8=A/256:=by show A.fdiv (2^8)=_;rw[Int.fdiv_eq_ediv_of_nonneg _ (by decide)];rfl
    rw[<-hhi,this,Zj9];omega
   have hK2:1<=K/\K<=20:=by rw[<-hK,Zj9,Int.tmod_eq_emod_of_nonneg hk.1];omega
   have hAT:aT lo hi=A:=by rw[hlo2,hhi2,aT_eq _ _ (by omega) (by omega)];omega
   obtain⟨io,hio2⟩:∃x,(ZC n 0).1.2.2.1=x:=⟨_,rfl⟩;rw[hio2] at hio;obtain⟨img,himg⟩:∃z,Zfu 0 (bytK lo hi v K)=z:=⟨_,rfl⟩;have himl:img.length<=17:=by rw[<-himg];exact Zpi 0 (bytK lo hi v K)
   have himv:Vld img:=by rw[<-himg];exact Zep _
   have himx:Zfu 0 [62,lo,211,4,62,hi,211,5,62,v,211,6,62,K,211,7,118]=img:=himg;obtain⟨c,hc⟩:∃c:BRDT,((ZC n 0).1.1,[(0,65535,true,0)],io,0,4,false,img)=c:=⟨_,rfl⟩;have hc1:c.1=(ZC n 0).1.1:=by rw[<-hc]
   have hc2:c=(c.1,allR 0,io,0,4,false,img):=by rw[hc1,<-hc];rfl
   have hc3:c.2.1=allR 0:=by rw[<-hc];rfl
   have hc4:c.2.2.2.2.2.2=img:=by rw[<-hc]
   have hn:=ZPE n (ZC n 0).1 s5 0 io ⟨by omega,by omega⟩ ⟨by omega,by omega⟩ c ⟨hc1,hc3,by rw[<-hc],by rw[hc4];exact ZfF.2 himv,by rw[hc4];omega⟩;have hcl:c.2.2.2.2.2.2.length<=17:=by rw[hc4];exact himl
   have hsm:smG c.2.1=true:=by rw[hc3];exact smGb (by simp[allR])
   rw[<-himg] at hc2;obtain⟨st,hr,hmv,hho,hdl,hha,hmm⟩:=ZKk c lo hi v K io hn (by rw[hc1];exact hch) (by omega) hK2 hc2;rw[hAT] at hmv hmm;rw[himg] at hmm;have hroom:Zik c Zy1=true:=by simp only[Zik,Yc,YD];exact⟨hsm,by omega,by show Zy1.length<=4000;decide⟩
   obtain⟨l1,l2,l3,l4,l5,l6⟩:=ZfM c (List.replicate 160 Zl) hsm (by omega) (by simp);obtain⟨q1,q2,q3⟩:=ZXq (Z2 c) st;obtain⟨r,hrr⟩:∃r,endS (Z2 c) st=r:=⟨_,rfl⟩;rw[hrr] at hr q1 q2 q3;rw[hr] at l1 l3 l5;simp only at l1 l3 l5;rw[hmv] at q1;rw[<-q2] at hho;rw[<-q3] at hdl hha hmm;have hget:∀j:Nat,j<K.toNat->getX r.2.2.2.2.2.1 ((A+j)%65536)=v:=λj hj=>by rw[hmm];exact ZNT v _ _ _ _ hAr.1 hAr.2 (.inr ⟨j,hj,rfl⟩)
   have hsc:smC r.2.2.2.2.2.1=true:=smCb (by omega);have hidx:∀i:Nat,i<r.2.2.1.length->movT (r.2.2.1.take (i+1))=movT (r.2.2.1.take i)++(bif (R.get Zei r.2.2.1 (i:Int)).1==5 then [(R.get Zei r.2.2.1 (i:Int)).2.2.2.2.2.2.2.2] else []):=λi h=>by rw[Zr9 (r:=Zei) r.2.2.1 i h,ZFx]
   have hloop:=ZiW (fl:=true) ZfY (λi=>(A,v,false,K,((movT (r.2.2.1.take i.toNat)).length:Int),r.2.2.1,iN r.2.2.1.length,i,(ZC n 0).1.1,[(0,65535,true,0)],io,0,4,false,r,img,List.replicate 160 Zl,())) (λa=>a.2.2.2.2.2.2.2.1) r.2.2.1.length (λ_=>rfl)
    (λi hi=>by
     obtain⟨k1,k2,k3⟩:=ZyM hi (by omega);have hm:=hidx i hi;simp only[Int.toNat_natCast];cases h5:(R.get Zei r.2.2.1 (i:Int)).1==5
     ·rw[h5] at hm;simp only[Yb,Yx] at hm;simp only[ZfY,RT.val,k1,k2,k3,h5,hm,Yf,Ym,Yt,Yk,Ya,Yb]
     ·rw[h5] at hm;simp only[Ya] at hm;have hfull:movT r.2.2.1=movT (r.2.2.1.take i)++([(R.get Zei r.2.2.1 (i:Int)).2.2.2.2.2.2.2.2]++movT (r.2.2.1.drop (i+1))):=by rw[<-List.append_assoc,<-hm,<-ZFw,Yad]
      obtain⟨j,hj⟩:∃j,(movT (r.2.2.1.take i)).length=j:=⟨_,rfl⟩;have hjl:j<K.toNat:=by have:=congrArg List.length hfull;rw[q1,ZuT] at this;simp only[Yd,List.length_singleton,hj] at this;omega
      have hat:=ZNU v K.toNat A j hAr.1 hAr.2 hjl;rw[<-q1,hfull,YL (by omega),hj,Nat.sub_self] at hat;have hcell:(R.get Zei r.2.2.1 (i:Int)).2.2.2.2.2.2.2.2=((A+j)%65536,v):=by simpa using hat
      have e1:IntKind.wrap .u16 (A+IntKind.wrap .u16 (j:Int))=(A+j)%65536:=by rw[ZaW,ZaW];omega
      have e2:IntKind.wrap .i64 ((j:Int)+1)=((j+1:Nat):Int):=by rw[wrap_i64 _ (by omega) (by omega)];omega
      have e3:(movT (r.2.2.1.take (i+1))).length=j+1:=by rw[hm];simp[hj]
      simp only[ZfY,RT.val,k1,k2,k3,h5,hj,hcell,e1,e2,e3,hsc,hget j hjl,YaN,Yai,YX,YZ,Yae,Yf,Ym,Yt,Yk,Ya,Yb])
    (by simp only[ZfY,RT.val,ZyZ,Yb]) (by omega)
   have hL0:runF true ZfY (λ_=>1000000000000) (A,v,false,K,0,r.2.2.1,iN r.2.2.1.length,0,(ZC n 0).1.1,[(0,65535,true,0)],io,0,4,false,r,img,List.replicate 160 Zl,())=_:=hloop;rw[Int.toNat_natCast,YaW,q1,ZuT] at hL0;have hidy:∀i:Nat,i<r.1.length->((r.1.take (i+1)).filter ZcU).length=((r.1.take i).filter ZcU).length+(bif ZcU (R.get Zgo r.1 (i:Int)) then 1 else 0):=λi h=>by rw[Zr9 (r:=Zgo) r.1 i h,YaH,Yd];cases hq:ZcU (R.get Zgo r.1 (i:Int))<;>simp[List.filter,hq]
   have hloop1:=ZiW (fl:=false) ZhH (λi=>(K,((K.toNat:Nat):Int),(((r.1.take i.toNat).filter ZcU).length:Int),r.1,iN r.1.length,i,(ZC n 0).1.1,[(0,65535,true,0)],io,0,4,false,r,img,List.replicate 160 Zl,())) (λa=>a.2.2.2.2.2.1) r.1.length (λ_=>rfl)
    (λi hi=>by
     obtain⟨k1,k2,k3⟩:=ZyM hi (by omega);have hm:=hidy i hi;have hle:((r.1.take i).filter ZcU).length<=1000:=YO (List.length_filter_le _ _) (by simp;omega);unfold ZcU at hm hle;unfold ZcU;simp only[Int.toNat_natCast,ZhH,RT.val,k1,k2,k3,Ya];cases hq:(R.get Zgo r.1 (i:Int)).2.2.2.2.2.2.2.2.2.2.2.2.2.2.2.1
     ·rw[hq] at hm;rw[hm];rfl
     ·rw[hq] at hm;rw[hm];simp only[Ya]
      rw[wrap_i64 _ (by omega) (by omega)];rfl)
    (by simp only[ZhH,RT.val,ZyZ,Yb]) (by omega)
   have hL1:runF false ZhH (λ_=>1000000000000) (K,((K.toNat:Nat):Int),0,r.1,iN r.1.length,0,(ZC n 0).1.1,[(0,65535,true,0)],io,0,4,false,r,img,List.replicate 160 Zl,())=_:=hloop1;rw[Int.toNat_natCast,YaW,hho] at hL1;have z1:(((K.toNat:Nat):Int)==IntKind.wrap .i64 K)=true:=by rw[wrap_i64 _ (by omega) (by omega)];simp;omega
   have z2:(((K.toNat+1:Nat):Int)==IntKind.wrap .i64 (((K.toNat:Nat):Int)+1))=true:=by rw[wrap_i64 _ (by omega) (by omega)];simp
   have z3:(r.2.2.2.2.2.2.2.1.2.2==0)=true:=by rw[hdl];rfl
   have i1:Zgl 160=true:=by simp only[Zgl,ZOC,okB]
   have i2:ZhU 160=List.replicate 160 Zl:=by simp only[ZhU,ZOC,getO]
   have i3:ZcE (List.replicate 160 Zl)=true:=by simp only[ZcE,ZF1,okB]
   have i4:ZcH (List.replicate 160 Zl)=Zy1:=by simp only[ZcH,ZF1,getO]
   have i5:smB [62,lo,211,4,62,hi,211,5,62,v,211,6,62,K,211,7,118]=true:=by rfl
   simp only[Zrt,RT.val,hx,s1,hA,hlo,hhi,hK,hio2,himx,hc,i1,i2,i3,i4,i5,hroom,ZYK,hr,hL0,hL1,hha,z1,z2,z3,ZjO.1,ZjO.2,okB,getO,Zb6,Zbe,Yai,Yk,Yt,Yf,Ym,Yae,Yz,Yh,YZ,Ya,Yb]
  ·simp only[Zrt,RT.val,hx,ZjO.1,Yf,Yh,Ya]
 exact⟨by simp only[ZOe,hval];rfl,by simp only[ZWt,hval,getO]⟩
end
end Go.Proofs.YtpnjbfjomebppaaGreat
open Go Go.S3 Go.Proofs
namespace Go.Proofs.YtpnjbfjomebppaaGreat
theorem all_laws (n:List Int) (cut w:Int):ZRX n cut=true/\ZRU n w=true:=⟨(bpre_law n cut).2,(bwai_law n w).2⟩
