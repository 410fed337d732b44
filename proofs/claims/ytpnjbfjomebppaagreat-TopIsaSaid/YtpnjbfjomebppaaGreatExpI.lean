import Derived.Test.YtpnjbfjomebppaaGreatRunC
import Derived.Stop.RegionWithIn
open Go.IntKind (u8 u16 i64)
open Go Go.S3 Go.Proofs Go.Proofs.Cells
set_option linter.unusedVariables false
set_option linter.unusedSimpArgs false
set_option maxRecDepth 100000
namespace Go.Proofs.YtpnjbfjomebppaaGreat
noncomputable section
abbrev TupB:=List INPT×Int×Int×CORT×List Cell×PICT×(QT3)×Int×BRDT×SYST×TC×List (Int×Int)×List PINT×List ITMT×List EVTT×List TC×PUnit
def tupB (l:List INPT) (j:Int) (b:BRDT) (s0:SYST) (Zal:TC) (st:STT):TupB:=(l,(l.length:Int),j,st.1.1,st.1.2.1,st.1.2.2.1,st.1.2.2.2.1,st.1.2.2.2.2.1,b,s0,ZlK Zal st.2.2.2.2,st.1.2.2.2.2.2,st.2.1,st.2.2.1,st.2.2.2.1,st.2.2.2.2,())
theorem ZIP (c:CORT) (it':List ITMT) (y:ITMT) (d:Int) (h:Zzz c (it'++[y])):
  (bif Zp c==1 then it'++[y]++[(1,Zv c (Zp c) d,0,1,c.1.2.2.1,c.1.2.2.2.2.2.2.2.2.2.2.2.2)] else bif Zp c==7 then it'++[(y.1,y.2.1,IntKind.wrap .i64 (y.2.2.1+1),y.2.2.2)] else
   bif (bif Zp c==2 then Zp c==2 else bif Zp c==3 then Zp c==3 else bif Zp c==4 then Zp c==4 else bif Zp c==5 then Zp c==5 else Zp c==6) then it'++[(y.1,Zv c (Zp c) d,y.2.2.1,Zp c,y.2.2.2.2)] else
   bif Zp c==8 then (bif y.1==2&&(y.2.2.2.2.1==c.1.2.2.1&&y.2.2.2.2.2==c.1.2.2.2.2.2.2.2.2.2.2.2.2) then it'++[(y.1,y.2.1,y.2.2.1,IntKind.wrap .i64 (y.2.2.2.1+1),y.2.2.2.2)] else it'++[y]++[(2,(0,0,0,0),0,1,c.1.2.2.1,c.1.2.2.2.2.2.2.2.2.2.2.2.2)]) else
   bif Zp c==9 then (bif y.1==3&&(y.2.2.2.2.1==c.1.2.2.1&&y.2.2.2.2.2==c.1.2.2.2.2.2.2.2.2.2.2.2.2) then it'++[(y.1,y.2.1,y.2.2.1,IntKind.wrap .i64 (y.2.2.2.1+1),y.2.2.2.2)] else it'++[y]++[(3,(0,c.1.2.1.2.2.2.2.2.2.2.2.2,0,0),0,1,c.1.2.2.1,c.1.2.2.2.2.2.2.2.2.2.2.2.2)]) else it'++[y])=
  ZcQ (it'++[y]) c (Zv c (Zp c) d) (Zp c):=by
 obtain⟨hn,h⟩:=h;have hT:Zp c=c.2.2.2.2.1:=ZKR hn;rw[<-hT] at hn h;have hy:¬(Zp c=8\/Zp c=9\/Zp c=1)->y.2.1=c.2.2.2.1/\y.2.2.2.1=Zys (Zp c):=λhx=>by
  rcases h with h|⟨l,z,e,h1,h2⟩
  ·exact absurd h hx
  ·have:=YaE e rfl;obtain⟨_,e2⟩:=this;simp only[Ya0,and_true] at e2;rw[e2];exact⟨h1,h2⟩
 generalize Zp c=n at hn hy;have hj:∀f:ITMT->ITMT,Zbt (it'++[y]) f=it'++[f y]:=Zac it' y;have hg:∀k:Int,n=k->Zys k+1=k->¬(k=8\/k=9\/k=1)->IntKind.wrap .i64 (y.2.2.2.1+1)=n:=λk hk h1 h2=>by subst hk;rw[(hy h2).2,h1,wrap_i64 _ (by omega) (by omega)]
 have e:n=1\/n=2\/n=3\/n=4\/n=5\/n=6\/n=7\/n=8\/n=9:=by omega
 rcases e with e|e|e|e|e|e|e|e|e
 ·subst e;rfl
 ·have w:=hg 2 e rfl (by decide);subst e;show _=Zbt _ _;rw[hj,w];rfl
 ·have w:=hg 3 e rfl (by decide);subst e;show _=Zbt _ _;rw[hj,w];rfl
 ·have w:=hg 4 e rfl (by decide);subst e;show _=Zbt _ _;rw[hj,w];rfl
 ·have w:=hg 5 e rfl (by decide);subst e;show _=Zbt _ _;rw[hj,w];rfl
 ·have w:=hg 6 e rfl (by decide);subst e;show _=Zbt _ _;rw[hj,w];rfl
 ·subst e;show _=Zbt _ _;rw[hj,(hy (by decide)).1];rfl
 ·subst e;show _=ZkT _ _ _ _;unfold ZkT;rw[List.getLast?_concat];dsimp only;rw[hj];rfl
 ·subst e;show _=ZkT _ _ _ _;unfold ZkT;rw[List.getLast?_concat];dsimp only;rw[hj];rfl
theorem ZjE (s:TC) (l:List TC) (x:TC):ZlK s (l++[x])=x:=by simp[ZlK]
theorem l1:((1:Int)==1)=true/\((1:Int)==10)=false/\((1:Int) !=10)=true:=by decide
theorem l10:((10:Int)==1)=false/\((10:Int)==2)=false/\((10:Int)==3)=false/\((10:Int)==4)=false/\((10:Int)==5)=false/\((10:Int)==6)=false/\((10:Int)==7)=false/\((10:Int)==8)=false/\((10:Int)==9)=false/\((10:Int)==10)=true/\((10:Int) !=10)=false:=by decide
theorem ZRf (l:List INPT) (j:Nat) (b:BRDT) (s0:SYST) (Zal:TC) (st:STT) (n:Nat) (h:RunOk b st n) (q:RbOk st) (hj:j<l.length) (hl:l.length<=100000) (hn:n<=200000) (hpp:inR .u8 b.2.2.2.1) (i:INPT) (hi:R.get ZcP l (j:Int)=i):
  (Zc2 (tupB l (j:Int) b s0 Zal st)).val=some (Go1.cont (tupB l ((j+1:Nat):Int) b s0 Zal (Zas b Zal st i))):=by
 have hms:=mst;obtain⟨s,tr,it,ev,cp⟩:=st;obtain⟨g,m,o,k,t,hitl,hev,hcp,ne⟩:=h;obtain⟨hsrc,hlast⟩:=q;simp only at g m o k t hitl hev hcp ne hsrc hlast;have d:decide ((j:Int)<(l.length:Int))=true:=Yq (by omega);have hin:Zf (j:Int) l.length=true:=ZT.2 ⟨by omega,by omega⟩;have w:IntKind.wrap .i64 ((j:Int)+1)=((j+1:Nat):Int):=by rw[wrap_i64 _ (by omega) (by omega)];omega
 obtain⟨p,hp⟩:∃p,IntKind.wrap .u8 s.1.2.2.2.1.2.1=p:=⟨_,rfl⟩;have hpr:inR .u8 p:=by rw[<-hp];exact Zau .u8 _
 obtain⟨p1,p2⟩:=ZRJ hpr hpp;have b4:∀y:Int×Int,Nat.ble (List.length (s.2.2.2.2.2++[y])) most=true:=λy=>ZaE (by simp;omega)
 have b5:smC s.2.1=true:=smCb (by omega);have b6:∀t v,smC (ZaL b.2.1 s.2.1 t v)=true:=λt v=>smCb (by have:=Ze8 b.2.1 s.2.1 t v;omega)
 have b7:∀c1 c2:Bool,∀t v,smC (bif c1 then bif c2 then ZaL b.2.1 s.2.1 t v else s.2.1 else s.2.1)=true:=λc1 c2 t v=>by cases c1<;>cases c2<;>first|exact b6 t v|exact b5
 have b9:Zng s.1=true:=ZgE.2 (by omega);have btr:∀x:PINT,Nat.ble (tr++[x]).length most=true:=λx=>ZaE (by simp;omega)
 have bev:∀x:EVTT,Nat.ble (ev++[x]).length most=true:=λx=>ZaE (by simp;omega)
 have bev2:∀(c:Bool) (x y:EVTT),Nat.ble ((bif c then ev++[x] else ev)++[y]).length most=true:=λc x y=>ZaE (by cases c<;>simp<;>omega)
 have bcp:∀x:TC,Nat.ble (cp++[x]).length most=true:=λx=>ZaE (by simp;omega)
 have bcp2:∀(c:Bool) (x y:TC),Nat.ble ((bif c then cp++[x] else cp)++[y]).length most=true:=λc x y=>ZaE (by cases c<;>simp<;>omega)
 have bgt:Nat.ble (List.length s.1.2.2.1) most=true:=ZaE (by omega);have bit:∀x:ITMT,Nat.ble (it++[x]).length most=true:=λx=>ZaE (by simp;omega)
 have n1:decide (iN ([]:List ITMT).length>0)=false:=rfl;have n2:Zf (IntKind.wrap .i64 (iN ([]:List ITMT).length-1)) ([]:List ITMT).length=false:=rfl;obtain⟨Q,hQ⟩:∃Q,(Zn b s i).2.2.1=Q:=⟨_,rfl⟩;have hQ':(bif b.2.2.2.2.2.1 then s.2.2.1 else Zfa s.2.2.1 i.2.2.2.2.2.2.2.2.1)=Q:=by rw[<-hQ];unfold Zn;cases b.2.2.2.2.2.1<;>rfl
 obtain⟨L,hL⟩:∃L,ZaK b (Zn b s i) i=L:=⟨_,rfl⟩;have hL':=(ZXh b s i g).symm.trans hL;have hLr:L.2.2.1=i.2.2.1:=by rw[<-hL];rfl
 obtain⟨x71,h71⟩:∃x,(!b.2.2.2.2.2.1&&decide (IntKind.wrap .u8 (p-b.2.2.2.1)<2))=x:=⟨_,rfl⟩;obtain⟨x72,h72⟩:∃x,(IntKind.wrap .u8 (p-b.2.2.2.1)==1)=x:=⟨_,rfl⟩;have e71:(Ze9 b p).2=x71:=by rw[ZUx,<-h71,p1]
 have e72:x71=true->(Ze9 b p).1=x72:=λe=>by rw[<-h71,Yc] at e;rw[ZUx,<-h72,p2 e.2]
 have hnn:it=[]->Zp s.1=1:=ne;have hsn:∀it' y,it=it'++[y]->IntKind.wrap .i64 (iN (it'++[y]).length-1)=(it'.length:Int)/\decide (iN (it'++[y]).length>0)=true:=λit' y e=>by rw[e] at hitl;exact⟨ZJn it' y (by simp at hitl;omega),Yq (by simp only[iN,Le,Yd,List.length_singleton];omega)⟩
 have hit:it=[]\/∃it' y,it=it'++[y]:=by
  rcases Y8 it with e|⟨it',y,e⟩
  ·exact .inl e
  ·exact .inr ⟨it',y,by rw[e,Y4]⟩
 cases hr:i.2.2.1
 ·obtain⟨D,hD⟩:∃D,(busS b (Zn b s i) i).2=D:=⟨_,rfl⟩;have hb:=bus_p b (Zn b s i) i (!i.2.2.1&&(Zp s.1==3&&ZaS s.1.2.2.2.1.1)) (s.1.2.2.2.1.1==8||s.1.2.2.2.1.1==9) x71 x72 rfl rfl
   (by show _=(Ze9 b (IntKind.wrap .u8 s.1.2.2.2.1.2.1)).2;rw[hp,e71]) (λe=>by show _=(Ze9 b (IntKind.wrap .u8 s.1.2.2.2.1.2.1)).1;rw[hp,e72 e]) (λe=>by rw[<-h71,e];rfl)
  rw[hQ,hr] at hb;have hD2:(bif Zp s.1==3&&ZaS s.1.2.2.2.1.1 then bif decide (s.1.2.2.2.1.1>=1)&&decide (s.1.2.2.2.1.1<=5) then Zge b.2.1 s.2.1 s.1.2.2.2.1.2.1 else bif s.1.2.2.2.1.1==8||s.1.2.2.2.1.1==9 then bif !b.2.2.2.2.2.1 then (vAck Q).2 else i.2.2.2.2.2.2.2.2.2 else bif x71 then (Zql Q x72).2 else bif decide (IntKind.wrap .u8 (p-b.2.2.2.2.1)<4) then ZmJ s.2.2.2.1 (IntKind.wrap .i64 (IntKind.wrap .u8 (p-b.2.2.2.2.1))) else i.2.2.2.2.2.2.2.2.2 else 0)=D:=by rw[<-hD,hb,ZUy,<-hp];rfl
  obtain⟨B,hB⟩:∃B,(busS b (Zn b s i) i).1.2.2.1=B:=⟨_,rfl⟩;have hB2:(bif Zp s.1==3&&ZaS s.1.2.2.2.1.1 then bif decide (s.1.2.2.2.1.1>=1)&&decide (s.1.2.2.2.1.1<=5) then Q else bif s.1.2.2.2.1.1==8||s.1.2.2.2.1.1==9 then bif !b.2.2.2.2.2.1 then (vAck Q).1 else Q else bif x71 then (Zql Q x72).1 else Q else Q)=B:=by rw[<-hB,hb];rfl
  obtain⟨Wm,hm⟩:∃z,(bif Zp s.1==3&&ZbY s.1.2.2.2.1.1 then bif s.1.2.2.2.1.1 !=7 then ZaL b.2.1 s.2.1 s.1.2.2.2.1.2.1 s.1.2.2.2.1.2.2.1 else s.2.1 else s.2.1)=z:=⟨_,rfl⟩;have b10:smC Wm=true:=by rw[<-hm];exact b7 _ _ _ _
  obtain⟨Wd,hwd⟩:∃z,(bif Zp s.1==3&&ZbY s.1.2.2.2.1.1 then bif s.1.2.2.2.1.1 !=7 then s.2.2.2.1 else bif x71 then s.2.2.2.1 else bif decide (IntKind.wrap .u8 (p-b.2.2.2.2.1)<4) then Zic s.2.2.2.1 (IntKind.wrap .i64 (IntKind.wrap .u8 (p-b.2.2.2.2.1))) s.1.2.2.2.1.2.2.1 else s.2.2.2.1 else s.2.2.2.1)=z:=⟨_,rfl⟩;obtain⟨kM,kP,kS,kC⟩:=ZTm b s i hr hL hD hB rfl rfl hp e71 e72 (ZUy b p) hm hwd;obtain⟨M,hM⟩:∃M,(ZhQ (ZcT s.1 L D)&&Zag Wd)=M:=⟨_,rfl⟩;rw[hM] at kM kS kC;have hM':((ZcT s.1 L D).2.2.2.2.2.2.2.2.2.2.2.2.2.2.2.1&&Zag Wd)=M:=hM;rw[hr] at hLr;have hP1:(ZcT s.1 L D).1=Zp s.1:=by rw[ZT3,hLr];rfl
  have hn9:1<=s.1.2.2.2.2.1/\s.1.2.2.2.2.1<=9:=hlast.1;obtain⟨c1,c2,c3,c4⟩:=ZZH s.1 L D hn9 hLr;have hT10:(Zp s.1==10)=false:=by have:=ZKR hn9;show (ZM s.1.2.2.2.2.1==10)=false;rw[this];simp;omega
  have hT10':(Zp s.1 !=10)=true:=by rw[bne,hT10];rfl
  rw[hr] at hL';have hR:Zas b Zal (s,tr,it,ev,cp) i=((ZW b s i).1,tr++[ZcT s.1 L D],ZcQ (it) s.1 (Zv s.1 (Zp s.1) D) (Zp s.1),evE ev s.1 L D (ZW b s i).2.2.2.2.1 M,evC cp Zal s.1 (Zk s.1 L D) L D M):=by
   have hnow:nowS s i=Zp s.1:=by unfold nowS;rw[hr];rfl
   have hcc:(ZW b s i).1.1=Zk s.1 L D:=by rw[kS]
   show ((ZW b s i).1,tr++[pinS b s i],ZcQ (it) s.1 (Zv s.1 (nowS s i) (busS b (Zn b s i) i).2) (nowS s i),evE ev s.1 (ZaK b (Zn b s i) i) (busS b (Zn b s i) i).2 (ZW b s i).2.2.2.2.1 (Zbf b s i),evC cp Zal s.1 (ZW b s i).1.1 (ZaK b (Zn b s i) i) (busS b (Zn b s i) i).2 (Zbf b s i))=_;rw[hnow,hcc,kP,kM,hL,hD]
  have hMv:(M&&Zag Wd)=M:=by rw[<-hM];cases ZhQ (ZcT s.1 L D)<;>cases Zag Wd<;>rfl
  have hMF:M=true->(finS s.1 L D).2=false:=λe=>by rw[<-hM,Yc] at e;have h8:=(ZgQ e.1).2;rw[ZKR hn9] at h8;unfold finS rdS;rw[hLr,h8];rfl
  rcases hit with rfl|⟨it',y,rfl⟩
  have hT1:=hnn rfl;have hP0:(ZcT s.1 L D).1=1:=by rw[hP1,hT1]
  have hI:ZcQ [] s.1 (Zv s.1 (Zp s.1) D) (Zp s.1)=[]++[(1,Zv s.1 (Zp s.1) D,0,1,s.1.1.2.2.1,s.1.1.2.2.2.2.2.2.2.2.2.2.2.2)]:=by rw[hT1];rfl
  unfold tupB Zc2;simp only[RT.val,hi,hr,hp,d,hin,w,g,b4,b5,b7,b9,btr,bev,bev2,bcp,bcp2,bgt,bit,ZSE,ZlQ,ZF7,Zmy,Zmx,clkX,pstR,hQ',hL',h71,h72,Zsg,Zl7,ZbP,Za3,Bool.and_assoc,Yat,Y0,Yi,Yv,Yf,Yl,Yj,Yy,YT,YY,YW,Bool.not_or_self,Bool.or_not_self,Ya,Yb,hD2,hB2,hm,b10,hwd,hM',hP0,l1,n1,n2];rw[c3,hR,hI,hMv]
  rotate_left
  obtain⟨w0,w1⟩:=hsn it' y rfl;have w2:=λz:ITMT=>ZD9 it' z
  have w3:=λz:ITMT=>ZGk (r:=ZlI) it' z
  have w4:=λz:ITMT=>ZlX it' y z
  have w5:=λz z2:ITMT=>ZlX it' z z2
  unfold tupB Zc2;simp only[RT.val,hi,hr,hp,d,hin,w,g,b4,b5,b7,b9,btr,bev,bev2,bcp,bcp2,bgt,bit,ZSE,ZlQ,ZF7,Zmy,Zmx,clkX,pstR,hQ',hL',h71,h72,Zsg,Zl7,ZbP,Za3,Bool.and_assoc,Yat,Y0,Yi,Yv,Yf,Yl,Yj,Yy,YT,YY,YW,Bool.not_or_self,Bool.or_not_self,Ya,Yb,hD2,hB2,hm,b10,hwd,hM',hP1,hT10,hT10',w0,w1,w2,w3,w4,w5];rw[c3,ZIP s.1 it' y D hlast,hR,hMv];all_goals
    unfold evE evC;simp only[kS,kC,hLr,c1,c4,Yb];cases hF:(finS s.1 L D).2
    ·cases M
     ·rfl
     ·simp only[Ya,Yb,ZjE];rfl
    ·have hMz:M=false:=by
      cases M
      ·rfl
      ·rw[hMF rfl] at hF;simp at hF
     obtain⟨g1,g2⟩:=c2 hF;have hk:(bif s.1.2.1==0 then (1:Int) else bif s.1.2.1==5 then 2 else 3)=Zgh s.1.2.1:=ZSK hsrc;rw[hMz,g1,g2,hk];simp only[Ya,Yb,ZjE];rfl
 ·obtain⟨r1,r2,r3⟩:=ZP4 b s i hr;rw[hL] at r2;have hP1:(ZcT s.1 L 0).1=10:=by rw[ZT3,hLr,hr];rfl
  have hH:(ZcT s.1 L 0).2.2.2.2.2.2.2.2.2.2.2.2.2.2.2.1=false:=by
   cases e:(ZcT s.1 L 0).2.2.2.2.2.2.2.2.2.2.2.2.2.2.2.1
   ·rfl
   ·have:=(ZgQ e).1;rw[hLr,hr] at this;simp at this
  have hR:Zas b Zal (s,tr,it,ev,cp) i=((Zk s.1 L 0,s.2.1,ZVy Q 0,(s.2.2.2.1.1,s.2.2.2.1.2.1,0),ZcH s,s.2.2.2.2.2),tr++[ZcT s.1 L 0],ZkT it 4 s.1 (4,(0,0,0,0),0,1,ZCS s.1,sodC s.1),evE ev s.1 L 0 (ZW b s i).2.2.2.2.1 false,evC cp Zal s.1 (Zk s.1 L 0) L 0 false):=by
   have hnow:nowS s i=10:=by unfold nowS;rw[hr];rfl
   have hcc:(ZW b s i).1.1=Zk s.1 L 0:=by rw[r2]
   have hp2:pinS b s i=ZcT s.1 L 0:=by unfold pinS;rw[(ZhM b (Zn b s i) i).1,hL,r1];rfl
   show ((ZW b s i).1,tr++[pinS b s i],ZcQ it s.1 (Zv s.1 (nowS s i) (busS b (Zn b s i) i).2) (nowS s i),evE ev s.1 (ZaK b (Zn b s i) i) (busS b (Zn b s i) i).2 (ZW b s i).2.2.2.2.1 (Zbf b s i),evC cp Zal s.1 (ZW b s i).1.1 (ZaK b (Zn b s i) i) (busS b (Zn b s i) i).2 (Zbf b s i))=_;rw[hnow,hcc,hp2,r3,hL,r1,r2,hQ];rfl
  rw[hr] at hL';rcases hit with rfl|⟨it',y,rfl⟩
  ·unfold tupB Zc2;simp only[RT.val,hi,hr,hp,d,hin,w,g,b4,b5,b7,b9,btr,bev,bev2,bcp,bcp2,bgt,bit,ZSE,ZlQ,ZF7,Zmy,Zmx,clkX,pstR,hQ',hL',h71,h72,Zsg,Zl7,ZbP,Za3,Bool.and_assoc,Yat,Y0,Yi,Yv,Yf,Yl,Yj,Yy,YT,YY,YW,Bool.not_or_self,Bool.or_not_self,Ya,Yb,hP1,hH,l10,n1,n2];rw[hR];unfold evE evC ZkT;simp only[hLr,hr,Ya,ZjE,List.getLast?_nil];rfl
  ·obtain⟨w0,w1⟩:=hsn it' y rfl;have w2:=λz:ITMT=>ZD9 it' z
   have w3:=λz:ITMT=>ZGk (r:=ZlI) it' z
   have w4:=λz:ITMT=>ZlX it' y z
   have w5:=λz z2:ITMT=>ZlX it' z z2
   unfold tupB Zc2;simp only[RT.val,hi,hr,hp,d,hin,w,g,b4,b5,b7,b9,btr,bev,bev2,bcp,bcp2,bgt,bit,ZSE,ZlQ,ZF7,Zmy,Zmx,clkX,pstR,hQ',hL',h71,h72,Zsg,Zl7,ZbP,Za3,Bool.and_assoc,Yat,Y0,Yi,Yv,Yf,Yl,Yj,Yy,YT,YY,YW,Bool.not_or_self,Bool.or_not_self,Ya,Yb,hP1,hH,l10,w0,w1,w2,w3,w4,w5];rw[hR];unfold evE evC ZkT;simp only[hLr,hr,Ya,ZjE,List.getLast?_concat,Zac];rfl
theorem ZK5 (b:BRDT) (s0:TC):∀(l:List INPT) (st:STT),RbOk st->RbOk (ZbU b s0 st l)
 |[],st,h=>h
 |i::l,st,h=>ZK5 b s0 l (Zas b s0 st i) (ZVM b s0 st i h)
theorem ZVL (b:BRDT) (l:List INPT) (s0:SYST) (Zal:TC) (st:STT) (h:RunOk b st 0) (q:RbOk st) (hpp:inR .u8 b.2.2.2.1) (hl:l.length<=70000):
  runF false Zc2 (λ_=>1000000000000) (tupB l 0 b s0 Zal st)=some (false,tupB l (l.length:Int) b s0 Zal (ZbU b Zal st l)):=by
 obtain⟨r,hr,h1⟩:=ZA (fl:=false) (t:=Zc2) (fuel:=λ_=>1000000000000)
  (λa=>∃i:Nat,i<=l.length/\a=tupB l (i:Int) b s0 Zal (ZbU b Zal st (l.take i)))
  (λa=>Int.toNat (a.2.1-a.2.2.1)) (λr=>r=(false,tupB l (l.length:Int) b s0 Zal (ZbU b Zal st l)))
  (by
   rintro a ⟨i,hi,rfl⟩;by_cases hlt:i<l.length
   ·left;have hk:=Zk5 b Zal (l.take i) st 0 h;refine⟨_,ZRf l i b s0 Zal (ZbU b Zal st (l.take i)) _ hk (ZK5 b Zal _ _ q) hlt (by omega) (by simp;omega) hpp _ rfl,⟨i+1,hlt,?_⟩,by show Int.toNat ((l.length:Int)-((i+1:Nat):Int))<Int.toNat ((l.length:Int)-(i:Int));omega⟩;have e:ZbU b Zal st (l.take (i+1))=Zas b Zal (ZbU b Zal st (l.take i)) (R.get ZcP l (i:Int)):=by rw[ZKn l ZcP.Df i hlt];simp only[ZbU,Yak,List.foldl_cons,List.foldl_nil];rfl
    rw[e]
   ·right;left;have e:i=l.length:=by omega
    subst e;have d:decide ((l.length:Int)<(l.length:Int))=false:=Yx (by omega);rw[YaC]
    exact⟨_,by unfold tupB Zc2;simp only[RT.val,d,Yb],rfl⟩)
  (tupB l 0 b s0 Zal st) ⟨0,Yr _,rfl⟩ (by show Int.toNat ((l.length:Int)-0)<_;omega)
 rw[h1] at hr;exact hr
theorem ZXs (b:BRDT) (hw:wNew b=(newS b,0)):RbOk (ZaN b):=by unfold ZaN;rw[hw];exact⟨⟨Int.le_refl 0,(by decide:(0:Int)<=5)⟩,ZjD _ (.inr (.inr rfl))⟩
theorem Zzo (b:BRDT) (l:List Int) (hg:smG b.2.1=true) (hm:b.2.2.2.2.2.2.length<=100000) (hl:l.length<=4000) (hpp:inR .u8 b.2.2.2.1):(ZrR b l).val=some (Zco b (decX l)):=by
 have hms:=mst;obtain⟨e1,e2⟩:=ZI7 b;have hc:=smCb (l:=b.2.2.2.2.2.2) (by omega);rw[ZmC b hg hc] at e2;have hn:=Zgq b hg hm;have hb:Nat.ble (List.length b.2.2.2.2.2.2) most=true:=ZaE (by omega);have hd:Zz7 l=true:=by unfold Zz7;rw[YG];exact hl
 unfold Zco;rw[hn.2.1];cases hx:ZbR b !=0
 ·have h0:ZbR b=0:=by simpa using hx
  have hnew:=Zyl b hg hm (by rw[hn.2.1,hx]);have hi:=(hn.2.2 (by rw[hn.2.1,h0])).1;have hf:=Zk5 b (ZN b) (decX l) (ZaN b) 0 hi;have hld:=dec_len l;have hr:=ZVL b (decX l) ZzA (ZN b) (ZaN b) hi (ZXs b hnew) hpp (by omega);have himg:=Zhz (ZiG.1 (ZJy b hg hc h0));have hs:tupB (decX l) 0 b ZzA (ZN b) (ZaN b)=(decX l,iN (decX l).length,0,newX b.1,b.2.2.2.2.2.2,ZV6,(0,0,0),0,b,ZzA,(newX b.1).1,[],[],[],[],[],()):=by unfold ZN ZaN;rw[hnew];unfold newS;rw[himg];rfl
  rw[hs] at hr;unfold ZzA Zj8 at hr;simp only[ZrR,RT.val,e1,e2,hx,hb,hd,hr,okB,getO,Yf,Yj,Yi,Ya,Yb];obtain⟨st,hst⟩:∃st,ZbU b (ZN b) (ZaN b) (decX l)=st:=⟨_,rfl⟩;rw[hst] at hf|-;have hk:=hf.k;have he:=hf.ev;have hcp:=hf.cp;have b1:Nat.ble (List.length st.1.1.2.2.1) most=true:=ZaE (by omega);have b2:∀x:EVTT,Nat.ble (List.length (st.2.2.2.1++[x])) most=true:=λx=>ZaE (by simp;omega)
  have b3:∀x:TC,Nat.ble (List.length (st.2.2.2.2++[x])) most=true:=λx=>ZaE (by simp;omega)
  have hpb:∀c,ZuN c=Zdx c:=λ_=>rfl
  unfold tupB;simp only[b1,b2,b3,hpb,Yi,Yf,Yj,Ya];unfold endS;cases Zdx st.1.1<;>rfl
 ·simp only[ZrR,RT.val,e1,e2,hx,Yf,Yv,Yi,Ya];rfl
def Zz5 (b:BRDT) (l:List Int):Bool:=smG b.2.1&&(Nat.ble b.2.2.2.2.2.2.length 100000&&Nat.ble l.length 4000)
theorem ZD8 {b:BRDT} {l:List Int} (h:Zz5 b l=true):smG b.2.1=true/\b.2.2.2.2.2.2.length<=100000/\l.length<=4000:=by simpa only[Zz5,Yc,YG] using h
def ZvC:En:=Zi ZDj ZvB (λa=>some (Zz5 a.1 a.2)) (λa=>Zco a.1 (decX a.2))
theorem Zp8:Zb Tryz.prog 23 ZvC:=ZTt.pure_congr
 (λa h hp=>by
  obtain⟨h1,h2,h3⟩:=ZD8 (b:=a.1) (l:=a.2) (by simpa using hp);have hv:=Zzo a.1 a.2 h1 h2 h3 h.1.2.2.2.1
  simp[ZUP,hv,okB])
 (λa h hp=>by
  obtain⟨h1,h2,h3⟩:=ZD8 (b:=a.1) (l:=a.2) (by simpa using hp);have hv:=Zzo a.1 a.2 h1 h2 h3 h.1.2.2.2.1
  simp only[ZZK,hv,getO])
end
end Go.Proofs.YtpnjbfjomebppaaGreat
open Go Go.S3 Go.Proofs
namespace Go.Proofs.YtpnjbfjomebppaaGreat
noncomputable section
theorem Zsz {τ:Type} {fl:Bool} (T:τ->RT (Option (Go1 τ))) (mk:Int->τ) (idx:τ->Int) (n:Nat) (hi:∀i,idx (mk i)=i) (hT:∀i:Nat,i<n->(T (mk i)).val=some (.cont (mk ((i+1:Nat):Int)))) (hE:(T (mk n)).val=some (.brk (mk n))) (hn:n<=1000000000):
  runF fl T (λ_=>1000000000000) (mk 0)=some (false,mk n):=by
 obtain⟨r,hr,h1⟩:=ZA (fl:=fl) (t:=T) (fuel:=λ_=>1000000000000)
  (λa=>∃i:Nat,i<=n/\a=mk i) (λa=>n-(idx a).toNat) (λr=>r=(false,mk n))
  (by
   rintro a ⟨i,h,rfl⟩;by_cases hlt:i<n
   ·exact .inl ⟨_,hT i hlt,⟨i+1,hlt,rfl⟩,by simp only[hi];omega⟩
   ·have e:i=n:=by omega
    subst e
    exact .inr (.inl ⟨_,hE,rfl⟩))
  (mk 0) ⟨0,Yr _,rfl⟩ (by simp only[hi];omega)
 rw[h1] at hr;exact hr
theorem ZGh {α:Type} {l:List α} {i:Nat} (h:i<l.length) (hl:l.length<=1000000000):decide ((i:Int)<iN l.length)=true/\Zf (i:Int) l.length=true/\IntKind.wrap .i64 ((i:Int)+1)=((i+1:Nat):Int):=by refine⟨by simp only[iN,Le,Yk];omega,ZT.2 ⟨by omega,by omega⟩,?_⟩;rw[wrap_i64 _ (by omega) (by omega)];omega
theorem ZGu (n:Nat):decide ((n:Int)<iN n)=false:=by simp[iN,Le]
theorem ZsD (b:BRDT) (l:List INPT) (hg:smG b.2.1=true) (hm:b.2.2.2.2.2.2.length<=100000) (hl:l.length<=1000):
  (Zco b l).1.1.length<=1000/\(Zco b l).1.2.1.length<=1000/\(Zco b l).1.2.2.1.length<=2001/\(Zco b l).1.2.2.2.1.length<=2001/\(Zco b l).1.2.2.2.2.2.1.length<=102000/\(Zco b l).1.2.2.2.2.2.2.2.2.2.length<=1000:=by
 obtain⟨_,_,h0⟩:=Zgq b hg hm;unfold Zco;cases hx:(wNew b).2 !=0
 ·have h0:=(h0 (by simpa using hx)).1;have hf:=Zk5 b (ZN b) l (ZaN b) 0 h0;rw[Yw] at hf;simp only[Yb];generalize ZbU b (ZN b) (ZaN b) l=st at hf;have ht:=hf.t;have hi:=hf.it;have he:=hf.ev;have hc:=hf.cp;have hmm:=hf.m;have ho:=hf.o;unfold endS;cases Zdx st.1.1
  ·exact⟨by show st.2.1.length<=_;omega,by show st.2.2.1.length<=_;omega,by show st.2.2.2.1.length<=_;omega,by show st.2.2.2.2.length<=_;omega,by show st.1.2.1.length<=_;omega,by show st.1.2.2.2.2.2.length<=_;omega⟩
  ·exact⟨by show st.2.1.length<=_;omega,by show st.2.2.1.length<=_;omega,by show (st.2.2.2.1++[_]).length<=_;simp;omega,by show (st.2.2.2.2++[_]).length<=_;simp;omega,by show st.1.2.1.length<=_;omega,by show st.1.2.2.2.2.2.length<=_;omega⟩
 ·exact⟨Yr _,Yr _,Yr _,Yr _,Yr _,Yr _⟩
theorem ZYs {w a b:Int} {m:Bool} (hw:inR .u16 w) (a0:0<=a) (a1:a<6) (b0:0<=b) (b1:b<5):
  badR (w,u16.wrap (if 65535<i64.wrap (i64.wrap w+R.get (R.int i64) [0,3,15,255,4095,65535] a) then 65535 else i64.wrap (i64.wrap w+R.get (R.int i64) [0,3,15,255,4095,65535] a)),m,R.get (R.int i64) [0,0,1,2,5] b)=false:=by
 rw[Ziu] at hw;obtain⟨x,ex,hx⟩:∃x:Int,R.get (R.int i64) [0,3,15,255,4095,65535] a=x/\0<=x/\x<=65535:=by
  have:a=0\/a=1\/a=2\/a=3\/a=4\/a=5:=by omega
  rcases this with rfl|rfl|rfl|rfl|rfl|rfl<;>exact⟨_,rfl,by decide,by decide⟩
 obtain⟨y,ey,hy⟩:∃y:Int,R.get (R.int i64) [0,0,1,2,5] b=y/\0<=y/\y<=100:=by
  have:b=0\/b=1\/b=2\/b=3\/b=4:=by omega
  rcases this with rfl|rfl|rfl|rfl|rfl<;>exact⟨_,rfl,by decide,by decide⟩
 rw[ex,ey];have w1:IntKind.wrap .i64 w=w:=wrap_i64 _ (by omega) (by omega);have w2:IntKind.wrap .i64 (w+x)=w+x:=wrap_i64 _ (by omega) (by omega);rw[w1,w2];have hu:∀z:Int,0<=z->z<=65535->IntKind.wrap .u16 z=z:=λz h1 h2=>by rw[ZrY];omega
 unfold badR;simp only;rw[Yo,Yo];refine⟨?_,Yx (by omega),Yx (by omega)⟩;by_cases h:65535<w+x
 ·rw[YZ h,hu _ (by omega) (by omega)];exact Yx (by omega)
 ·rw[Y3 h,hu _ (by omega) (by omega)];exact Yx (by omega)
variable {s:List Int×Int} {k:Int}
theorem Zyo (h:NB s k) (hk:k<=500000) (n:Nat) (hn:n<=100):
  Zb4 s (n:Int)=true/\NB (ZZ s (n:Int)).2 (k+1+5*n)/\(ZZ s (n:Int)).1.length<=n/\∀r∈(ZZ s (n:Int)).1,badR r=false:=by
 have hms:=mst;have w0:IntKind.wrap .i64 ((n:Int)+1)=(n:Int)+1:=wrap_i64 _ (by omega) (by omega);obtain⟨c1,b1,d0,d1⟩:=Zs h (by omega) ((n:Int)+1) (by omega) (by omega);obtain⟨L,N,hs1⟩:∃L N,(L,N)=(Za s ((n:Int)+1)).2:=⟨_,_,rfl⟩;obtain⟨q,hq⟩:∃q:Nat,(Za s ((n:Int)+1)).1=(q:Int):=⟨_,(Yap d0).symm⟩;rw[<-hs1] at b1;obtain⟨r,hr,h1,L',N',o,hs',⟨ho,hvv⟩,hR⟩:=ZA (fl:=false) (t:=Zb3) (fuel:=λa=>400)
  (λa=>∃(i:Nat) (L:List Int) (N:Int) (o:List ZG),i<=q/\NB (L,N) (k+1+5*((q-i:Nat):Int))/\(o.length<=q-i/\∀r∈o,badR r=false)/\a=((i:Int),(L,N),o,()))
  (λa=>Int.toNat a.1) (λr=>r.1=false/\∃(L:List Int) (N:Int) (o:List ZG),NB (L,N) (k+1+5*(q:Int))/\(o.length<=q/\∀r∈o,badR r=false)/\r.2=((0:Int),(L,N),o,()))
  (by
   rintro a ⟨i,L,N,o,hi,hs',⟨ho,hv⟩,rfl⟩;cases i with
   |zero=>
    right;left;exact⟨_,by simp only[Zb3,RT.val];rfl,rfl,L,N,o,by simpa using hs',⟨by omega,hv⟩,rfl⟩
   |succ i=>
    left;have d:decide (((i+1:Nat):Int)>0)=true:=Yq (by omega);obtain⟨kw,bw,hwr⟩:=ZFQ hs' (by omega);obtain⟨k1,b1,e0,e1⟩:=Zs bw (by omega) 6 (by decide) (by decide);obtain⟨k2,b2,_⟩:=Zs b1 (by omega) 3 (by decide) (by decide);obtain⟨k3,b3,f0,f1⟩:=Zs b2 (by omega) 5 (by decide) (by decide);have r1:Zf (Za (ZaX (L,N)).2 6).1 6=true:=ZT.2 ⟨e0,e1⟩;have r2:Zf (Za (Za (Za (ZaX (L,N)).2 6).2 3).2 5).1 5=true:=ZT.2 ⟨f0,f1⟩;have hb:∀x:ZG,Nat.ble (o++[x]).length most=true:=λx=>ZaE (by simp;omega)
    have w:IntKind.wrap .i64 (((i+1:Nat):Int)-1)=(i:Int):=by rw[wrap_i64 _ (by omega) (by omega)];omega
    obtain⟨o',ho'⟩:∃o':List ZG,o'=o++[((ZaX (L,N)).1,u16.wrap (if 65535<i64.wrap (i64.wrap (ZaX (L,N)).1+R.get (R.int i64) [0,3,15,255,4095,65535] (Za (ZaX (L,N)).2 6).1) then 65535 else i64.wrap (i64.wrap (ZaX (L,N)).1+R.get (R.int i64) [0,3,15,255,4095,65535] (Za (ZaX (L,N)).2 6).1)),decide ((Za (Za (ZaX (L,N)).2 6).2 3).1>0),R.get (R.int i64) [0,0,1,2,5] (Za (Za (Za (ZaX (L,N)).2 6).2 3).2 5).1)]:=⟨_,rfl⟩;refine⟨((i:Int),((Za (Za (Za (ZaX (L,N)).2 6).2 3).2 5).2.1,(Za (Za (Za (ZaX (L,N)).2 6).2 3).2 5).2.2),o',()),?_,⟨i,_,_,o',by omega,b3.up (by omega),⟨by rw[ho'];simp;omega,λr hr=>by rw[ho'] at hr;rcases Y1.1 hr with hr|hr;exact hv r hr;rw[Yac] at hr;rw[hr];exact ZYs hwr e0 e1 f0 f1⟩,rfl⟩,by simp only;omega⟩
    simp only[Zb3,RT.val,List.length_cons,List.length_nil,Nat.reduceAdd,d,kw,k1,k2,k3,r1,r2,hb,w,ho',Ya,Yf,Yj,Yi,Yy])
  ((q:Int),(L,N),[],()) ⟨q,L,N,[],Ye _,by simpa using b1,⟨by simp,λr hr=>by simp at hr⟩,rfl⟩ (by simp only;omega)
 obtain⟨r1,r2⟩:=r;simp only at h1 hR;subst h1 hR;have hv:(Zet s (n:Int)).val=some (o,L',N'):=by simp only[Zet,RT.val,w0,c1,hq,<-hs1,hr,okB,getO,Ya]
 simp only[Zb4,ZZ,hv,okB,getO];exact⟨trivial,hs'.up (by omega),by omega,hvv⟩
theorem ZSz (h:NB s k) (hk:k<=400000):∀r∈(nMap s).1,badR r=false:=by
 obtain⟨c1,b1,l1,hv1⟩:=Zyo h (by omega) 2 (by omega);have c1:Zb4 s 2=true:=c1;have b1:NB (ZZ s 2).2 (k+1+5*((2:Nat):Int)):=b1;have l1:(ZZ s 2).1.length<=2:=l1;have hv1:∀r∈(ZZ s 2).1,badR r=false:=hv1;obtain⟨c2,b2,d0,d1⟩:=Zs b1 (by omega) 3 (by decide) (by decide);have hs:∀x:ZG,Nat.ble ((ZZ s 2).1++[x]).length most=true:=λx=>ZaE (by have:=mst;simp;omega)
 have hg:∀l:List ZG,Stg.l (newG Zd7 Zd8 l)=l:=λ_=>rfl
 have hv:(ZCD s).val=some ((ZZ s 2).1++[(0,65535,true,IntKind.wrap .i64 (Int.tdiv (Za (ZZ s 2).2 3).1 2))],(Za (ZZ s 2).2 3).2):=by simp only[ZCD,RT.val,hg,c1,c2,hs,Yf,Yj,Yi,Ya]
 simp only[nMap,hv,getO];intro r hr;rcases Y1.1 hr with hr|hr
 ·exact hv1 r hr
 ·rw[Yac] at hr;subst hr;have:(Za (ZZ s 2).2 3).1=0\/(Za (ZZ s 2).2 3).1=1\/(Za (ZZ s 2).2 3).1=2:=by omega
  rcases this with e|e|e<;>rw[e]<;>rfl
theorem ZVB (n:List Int):ZbR (Zcz (n,0)).1=0:=by
 obtain⟨c1,b1,⟨s1,bs1,hr⟩,hch,hio,l,hl,hi⟩:=Zyx (ZCZ n) (by omega);obtain⟨c2,_,l2⟩:=ZCC bs1 (by omega);have hbad:=ZSz bs1 (by omega);generalize (Zcz (n,0)).1=b at hr hch hio hi;have hg:smG b.2.1=true:=by rw[hr];exact smGb (by omega)
 have hx:ZbO b.2.1=0:=by
  rw[hr];unfold ZbO;have q1:decide (iN (nMap s1).1.length>16)=false:=Yx (by simp only[iN,Le];omega);have q2:(nMap s1).1.any badR=false:=by rw[List.any_eq_false];intro r hr;rw[hbad r hr];simp
  rw[q1,q2];rfl
 have hc:smC (normX l)=true:=smCb (by have:=Zcx l;omega);have hvl:vldB (normX l)=true:=ZiG.2 (Zfn l);have q3:(b.1 !=1&&b.1 !=2)=false:=by rcases hch with e|e<;>rw[e]<;>rfl
 have q4:decide (b.2.2.1<0)=false:=Yx (by omega);have q5:decide (b.2.2.1>100)=false:=Yx (by omega);have hv:(ZfC b).val=some 0:=by unfold ZfC;simp only[RT.val,q3,hg,hx,q4,q5,hi,hc,hvl,Yi,Yf,YaB,Ya,Yb];rfl
 simp only[ZbR,hv,getO]
theorem ZD2 (b:BRDT) (l:List INPT) (h:wNew b=(newS b,0)):Zco b l=(endS (ZN b) (ZbU b (ZN b) (ZaN b) l),0):=by unfold Zco;rw[h];rfl
end
end Go.Proofs.YtpnjbfjomebppaaGreat
namespace Go.Proofs.YtpnjbfjomebppaaGreat
open Go Go.S3 Go.Proofs Go.RowKit Go.Shelf
attribute [local go_sem] Oper.semAt_some
noncomputable section
abbrev ZZp (x:ITMT):Array Value:= #[.int .i64 x.1,.int .i64 x.2.1.1,.int .u16 x.2.1.2.1,.int .u8 x.2.1.2.2.1,.int .i64 x.2.1.2.2.2,.int .i64 x.2.2.1,.int .i64 x.2.2.2.1,.bool x.2.2.2.2.1,.bool x.2.2.2.2.2]
def ZQr (W:World) (B:Nat) (x:ITMT):Prop:=W.heap[B]? =some (.cells (ZZp x) 70)
theorem ZQr.cell {W:World} {B:Nat} {x:ITMT} (h:ZQr W B x) (i:Nat) (hi:i<9):W.cell? ⟨B,i,none⟩=some ((ZZp x).getD i undef):=by
 unfold ZQr at h;simp only[World.cell?,h]
 match i,hi with
 |0,_=>rfl
 |1,_=>rfl
 |2,_=>rfl
 |3,_=>rfl
 |4,_=>rfl
 |5,_=>rfl
 |6,_=>rfl
 |7,_=>rfl
 |8,_=>rfl
 |i+9,hi=>omega
