import Derived.Test.YtpnjbfjomebppaaGreatRunC
open Go.IntKind (u8 u16 i64)
open Go Go.S3 Go.Proofs Go.Proofs.Cells
set_option linter.unusedVariables false
set_option linter.unusedSimpArgs false
set_option maxRecDepth 100000
namespace Go.Proofs.YtpnjbfjomebppaaGreat
noncomputable section
abbrev TupB:=List INPT×Int×Int×CORT×List Cell×PICT×(QT4)×Int×BRDT×SYST×TC×List (Int×Int)×List PINT×List ITMT×List EVTT×List TC×PUnit
def tupB (l:List INPT) (j:Int) (b:BRDT) (s0:SYST) (Zz:TC) (st:STT):TupB:=(l,(l.length:Int),j,st.1.1,st.1.2.1,st.1.2.2.1,st.1.2.2.2.1,st.1.2.2.2.2.1,b,s0,Zyi Zz st.2.2.2.2,st.1.2.2.2.2.2,st.2.1,st.2.2.1,st.2.2.2.1,st.2.2.2.2,())
theorem ZH2 (c:CORT) (it':List ITMT) (y:ITMT) (d:Int) (h:ZyZ c (it'++[y])):
  (bif Zp c==1 then it'++[y]++[(1,Zag c (Zp c) d,0,1,c.1.2.2.1,c.1.2.2.2.2.2.2.2.2.2.2.2.2)] else bif Zp c==7 then it'++[(y.1,y.2.1,IntKind.wrap .i64 (y.2.2.1+1),y.2.2.2)] else
   bif (bif Zp c==2 then Zp c==2 else bif Zp c==3 then Zp c==3 else bif Zp c==4 then Zp c==4 else bif Zp c==5 then Zp c==5 else Zp c==6) then it'++[(y.1,Zag c (Zp c) d,y.2.2.1,Zp c,y.2.2.2.2)] else
   bif Zp c==8 then (bif y.1==2&&(y.2.2.2.2.1==c.1.2.2.1&&y.2.2.2.2.2==c.1.2.2.2.2.2.2.2.2.2.2.2.2) then it'++[(y.1,y.2.1,y.2.2.1,IntKind.wrap .i64 (y.2.2.2.1+1),y.2.2.2.2)] else it'++[y]++[(2,(0,0,0,0),0,1,c.1.2.2.1,c.1.2.2.2.2.2.2.2.2.2.2.2.2)]) else
   bif Zp c==9 then (bif y.1==3&&(y.2.2.2.2.1==c.1.2.2.1&&y.2.2.2.2.2==c.1.2.2.2.2.2.2.2.2.2.2.2.2) then it'++[(y.1,y.2.1,y.2.2.1,IntKind.wrap .i64 (y.2.2.2.1+1),y.2.2.2.2)] else it'++[y]++[(3,(0,c.1.2.1.2.2.2.2.2.2.2.2.2,0,0),0,1,c.1.2.2.1,c.1.2.2.2.2.2.2.2.2.2.2.2.2)]) else it'++[y])=
  Zim (it'++[y]) c (Zag c (Zp c) d) (Zp c):=by
 obtain⟨hn,h⟩:=h;have hT:Zp c=c.2.2.2.2.1:=ZJO hn;rw[<-hT] at hn h;have hy:¬(Zp c=8\/Zp c=9\/Zp c=1)->y.2.1=c.2.2.2.1/\y.2.2.2.1=ZxR (Zp c):=λhx=>by
  rcases h with h|⟨l,z,e,h1,h2⟩
  ·exact absurd h hx
  ·have:=List.append_inj' e rfl;obtain⟨_,e2⟩:=this;simp only[List.cons.injEq,and_true] at e2;rw[e2];exact⟨h1,h2⟩
 generalize Zp c=n at hn hy;have hj:∀f:ITMT->ITMT,Zcz (it'++[y]) f=it'++[f y]:=ZbR it' y;have hg:∀k:Int,n=k->ZxR k+1=k->¬(k=8\/k=9\/k=1)->IntKind.wrap .i64 (y.2.2.2.1+1)=n:=λk hk h1 h2=>by subst hk;rw[(hy h2).2,h1,wrap_i64 _ (by omega) (by omega)]
 have e:n=1\/n=2\/n=3\/n=4\/n=5\/n=6\/n=7\/n=8\/n=9:=by omega
 rcases e with e|e|e|e|e|e|e|e|e
 ·subst e;rfl
 ·have w:=hg 2 e rfl (by decide);subst e;show _=Zcz _ _;rw[hj,w];rfl
 ·have w:=hg 3 e rfl (by decide);subst e;show _=Zcz _ _;rw[hj,w];rfl
 ·have w:=hg 4 e rfl (by decide);subst e;show _=Zcz _ _;rw[hj,w];rfl
 ·have w:=hg 5 e rfl (by decide);subst e;show _=Zcz _ _;rw[hj,w];rfl
 ·have w:=hg 6 e rfl (by decide);subst e;show _=Zcz _ _;rw[hj,w];rfl
 ·subst e;show _=Zcz _ _;rw[hj,(hy (by decide)).1];rfl
 ·subst e;show _=ZkG _ _ _ _;unfold ZkG;rw[List.getLast?_concat];dsimp only;rw[hj];rfl
 ·subst e;show _=ZkG _ _ _ _;unfold ZkG;rw[List.getLast?_concat];dsimp only;rw[hj];rfl
theorem Zjw (s:TC) (l:List TC) (x:TC):Zyi s (l++[x])=x:=by simp[Zyi]
theorem l1:((1:Int)==1)=true/\((1:Int)==10)=false/\((1:Int) !=10)=true:=by decide
theorem l10:((10:Int)==1)=false/\((10:Int)==2)=false/\((10:Int)==3)=false/\((10:Int)==4)=false/\((10:Int)==5)=false/\((10:Int)==6)=false/\((10:Int)==7)=false/\((10:Int)==8)=false/\((10:Int)==9)=false/\((10:Int)==10)=true/\((10:Int) !=10)=false:=by decide
theorem ZPS (l:List INPT) (j:Nat) (b:BRDT) (s0:SYST) (Zz:TC) (st:STT) (n:Nat) (h:RunOk b st n) (q:RbOk st) (hj:j<l.length) (hl:l.length<=100000) (hn:n<=200000) (hpp:inR .u8 b.2.2.2.1) (i:INPT) (hi:R.get Zbt l (j:Int)=i):
  (Zc4 (tupB l (j:Int) b s0 Zz st)).val=some (Go1.cont (tupB l ((j+1:Nat):Int) b s0 Zz (Zcp b Zz st i))):=by
 have hms:=mst;obtain⟨s,tr,it,ev,cp⟩:=st;obtain⟨g,m,o,k,t,hitl,hev,hcp,ne⟩:=h;obtain⟨hsrc,hlast⟩:=q;simp only at g m o k t hitl hev hcp ne hsrc hlast;have d:decide ((j:Int)<(l.length:Int))=true:=YA (by omega);have hin:Zf (j:Int) l.length=true:=Zx.2 ⟨by omega,by omega⟩;have w:IntKind.wrap .i64 ((j:Int)+1)=((j+1:Nat):Int):=by rw[wrap_i64 _ (by omega) (by omega)];omega
 obtain⟨p,hp⟩:∃p,IntKind.wrap .u8 s.1.2.2.2.1.2.1=p:=⟨_,rfl⟩;have hpr:inR .u8 p:=by rw[<-hp];exact Zao .u8 _
 obtain⟨p1,p2⟩:=ZEb hpr hpp;have b4:∀y:Int×Int,Nat.ble (List.length (s.2.2.2.2.2++[y])) most=true:=λy=>ZV (by simp;omega)
 have b5:smC s.2.1=true:=smCb (by omega);have b6:∀t v,smC (ZaK b.2.1 s.2.1 t v)=true:=λt v=>smCb (by have:=Zix b.2.1 s.2.1 t v;omega)
 have b7:∀c1 c2:Bool,∀t v,smC (bif c1 then bif c2 then ZaK b.2.1 s.2.1 t v else s.2.1 else s.2.1)=true:=λc1 c2 t v=>by cases c1<;>cases c2<;>first|exact b6 t v|exact b5
 have b9:Zh8 s.1=true:=Zef.2 (by omega);have btr:∀x:PINT,Nat.ble (tr++[x]).length most=true:=λx=>ZV (by simp;omega)
 have bev:∀x:EVTT,Nat.ble (ev++[x]).length most=true:=λx=>ZV (by simp;omega)
 have bev2:∀(c:Bool) (x y:EVTT),Nat.ble ((bif c then ev++[x] else ev)++[y]).length most=true:=λc x y=>ZV (by cases c<;>simp<;>omega)
 have bcp:∀x:TC,Nat.ble (cp++[x]).length most=true:=λx=>ZV (by simp;omega)
 have bcp2:∀(c:Bool) (x y:TC),Nat.ble ((bif c then cp++[x] else cp)++[y]).length most=true:=λc x y=>ZV (by cases c<;>simp<;>omega)
 have bgt:Nat.ble (List.length s.1.2.2.1) most=true:=ZV (by omega);have bit:∀x:ITMT,Nat.ble (it++[x]).length most=true:=λx=>ZV (by simp;omega)
 have n1:decide (iN ([]:List ITMT).length>0)=false:=rfl;have n2:Zf (IntKind.wrap .i64 (iN ([]:List ITMT).length-1)) ([]:List ITMT).length=false:=rfl;obtain⟨Q,hQ⟩:∃Q,(Zm b s i).2.2.1=Q:=⟨_,rfl⟩;have hQ':(bif b.2.2.2.2.2.1 then s.2.2.1 else ZaJ s.2.2.1 i.2.2.2.2.2.2.2.2.1)=Q:=by rw[<-hQ];unfold Zm;cases b.2.2.2.2.2.1<;>rfl
 obtain⟨L,hL⟩:∃L,ZbE b (Zm b s i) i=L:=⟨_,rfl⟩;have hL':=(ZNF b s i g).symm.trans hL;have hLr:L.2.2.1=i.2.2.1:=by rw[<-hL];rfl
 obtain⟨x71,h71⟩:∃x,(!b.2.2.2.2.2.1&&decide (IntKind.wrap .u8 (p-b.2.2.2.1)<2))=x:=⟨_,rfl⟩;obtain⟨x72,h72⟩:∃x,(IntKind.wrap .u8 (p-b.2.2.2.1)==1)=x:=⟨_,rfl⟩;have e71:(ZP b p).2=x71:=by rw[Zrb,<-h71,p1]
 have e72:x71=true->(ZP b p).1=x72:=λe=>by rw[<-h71,Yb] at e;rw[Zrb,<-h72,p2 e.2]
 have hnn:it=[]->Zp s.1=1:=ne;have hsn:∀it' y,it=it'++[y]->IntKind.wrap .i64 (iN (it'++[y]).length-1)=(it'.length:Int)/\decide (iN (it'++[y]).length>0)=true:=λit' y e=>by rw[e] at hitl;exact⟨Zmi it' y (by simp at hitl;omega),YA (by simp only[iN,Yd,List.length_singleton];omega)⟩
 have hit:it=[]\/∃it' y,it=it'++[y]:=by
  rcases Yao it with e|⟨it',y,e⟩
  ·exact .inl e
  ·exact .inr ⟨it',y,by rw[e,Yap]⟩
 cases hr:i.2.2.1
 ·obtain⟨D,hD⟩:∃D,(busS b (Zm b s i) i).2=D:=⟨_,rfl⟩;have hb:=ZXQ b (Zm b s i) i (!i.2.2.1&&(Zp s.1==3&&ZaU s.1.2.2.2.1.1)) (s.1.2.2.2.1.1==8||s.1.2.2.2.1.1==9) x71 x72 rfl rfl
   (by show _=(ZP b (IntKind.wrap .u8 s.1.2.2.2.1.2.1)).2;rw[hp,e71]) (λe=>by show _=(ZP b (IntKind.wrap .u8 s.1.2.2.2.1.2.1)).1;rw[hp,e72 e]) (λe=>by rw[<-h71,e];rfl)
  rw[hQ,hr] at hb;have hD2:(bif Zp s.1==3&&ZaU s.1.2.2.2.1.1 then bif decide (s.1.2.2.2.1.1>=1)&&decide (s.1.2.2.2.1.1<=5) then Zgw b.2.1 s.2.1 s.1.2.2.2.1.2.1 else bif s.1.2.2.2.1.1==8||s.1.2.2.2.1.1==9 then bif !b.2.2.2.2.2.1 then (vAck Q).2 else i.2.2.2.2.2.2.2.2.2 else bif x71 then (ZiE Q x72).2 else bif decide (IntKind.wrap .u8 (p-b.2.2.2.2.1)<4) then ZhM s.2.2.2.1 (IntKind.wrap .i64 (IntKind.wrap .u8 (p-b.2.2.2.2.1))) else i.2.2.2.2.2.2.2.2.2 else 0)=D:=by rw[<-hD,hb,ZFo,<-hp];rfl
  obtain⟨B,hB⟩:∃B,(busS b (Zm b s i) i).1.2.2.1=B:=⟨_,rfl⟩;have hB2:(bif Zp s.1==3&&ZaU s.1.2.2.2.1.1 then bif decide (s.1.2.2.2.1.1>=1)&&decide (s.1.2.2.2.1.1<=5) then Q else bif s.1.2.2.2.1.1==8||s.1.2.2.2.1.1==9 then bif !b.2.2.2.2.2.1 then (vAck Q).1 else Q else bif x71 then (ZiE Q x72).1 else Q else Q)=B:=by rw[<-hB,hb];rfl
  obtain⟨Wm,hm⟩:∃z,(bif Zp s.1==3&&Zb2 s.1.2.2.2.1.1 then bif s.1.2.2.2.1.1 !=7 then ZaK b.2.1 s.2.1 s.1.2.2.2.1.2.1 s.1.2.2.2.1.2.2.1 else s.2.1 else s.2.1)=z:=⟨_,rfl⟩;have b10:smC Wm=true:=by rw[<-hm];exact b7 _ _ _ _
  obtain⟨Wd,hwd⟩:∃z,(bif Zp s.1==3&&Zb2 s.1.2.2.2.1.1 then bif s.1.2.2.2.1.1 !=7 then s.2.2.2.1 else bif x71 then s.2.2.2.1 else bif decide (IntKind.wrap .u8 (p-b.2.2.2.2.1)<4) then ZdD s.2.2.2.1 (IntKind.wrap .i64 (IntKind.wrap .u8 (p-b.2.2.2.2.1))) s.1.2.2.2.1.2.2.1 else s.2.2.2.1 else s.2.2.2.1)=z:=⟨_,rfl⟩;obtain⟨kM,kP,kS,kC⟩:=ZRU b s i hr hL hD hB rfl rfl hp e71 e72 (ZFo b p) hm hwd;obtain⟨M,hM⟩:∃M,(Ze6 (Zcr s.1 L D)&&Zn Wd)=M:=⟨_,rfl⟩;rw[hM] at kM kS kC;have hM':((Zcr s.1 L D).2.2.2.2.2.2.2.2.2.2.2.2.2.2.2.1&&Zn Wd)=M:=hM;rw[hr] at hLr;have hP1:(Zcr s.1 L D).1=Zp s.1:=by rw[ZSu,hLr];rfl
  have hn9:1<=s.1.2.2.2.2.1/\s.1.2.2.2.2.1<=9:=hlast.1;obtain⟨c1,c2,c3,c4⟩:=ZXP s.1 L D hn9 hLr;have hT10:(Zp s.1==10)=false:=by have:=ZJO hn9;show (Zaf s.1.2.2.2.2.1==10)=false;rw[this];simp;omega
  have hT10':(Zp s.1 !=10)=true:=by rw[bne,hT10];rfl
  rw[hr] at hL';have hR:Zcp b Zz (s,tr,it,ev,cp) i=((Z4 b s i).1,tr++[Zcr s.1 L D],Zim (it) s.1 (Zag s.1 (Zp s.1) D) (Zp s.1),evE ev s.1 L D (Z4 b s i).2.2.2.2.1 M,evC cp Zz s.1 (Z2 s.1 L D) L D M):=by
   have hnow:nowS s i=Zp s.1:=by unfold nowS;rw[hr];rfl
   have hcc:(Z4 b s i).1.1=Z2 s.1 L D:=by rw[kS]
   show ((Z4 b s i).1,tr++[pinS b s i],Zim (it) s.1 (Zag s.1 (nowS s i) (busS b (Zm b s i) i).2) (nowS s i),evE ev s.1 (ZbE b (Zm b s i) i) (busS b (Zm b s i) i).2 (Z4 b s i).2.2.2.2.1 (ZdM b s i),evC cp Zz s.1 (Z4 b s i).1.1 (ZbE b (Zm b s i) i) (busS b (Zm b s i) i).2 (ZdM b s i))=_;rw[hnow,hcc,kP,kM,hL,hD]
  have hMv:(M&&Zn Wd)=M:=by rw[<-hM];cases Ze6 (Zcr s.1 L D)<;>cases Zn Wd<;>rfl
  have hMF:M=true->(finS s.1 L D).2=false:=λe=>by rw[<-hM,Yb] at e;have h8:=(Znm e.1).2;rw[ZJO hn9] at h8;unfold finS rdS;rw[hLr,h8];rfl
  rcases hit with rfl|⟨it',y,rfl⟩
  have hT1:=hnn rfl;have hP0:(Zcr s.1 L D).1=1:=by rw[hP1,hT1]
  have hI:Zim [] s.1 (Zag s.1 (Zp s.1) D) (Zp s.1)=[]++[(1,Zag s.1 (Zp s.1) D,0,1,s.1.1.2.2.1,s.1.1.2.2.2.2.2.2.2.2.2.2.2.2)]:=by rw[hT1];rfl
  unfold tupB Zc4;simp only[RT.val,hi,hr,hp,d,hin,w,g,b4,b5,b7,b9,btr,bev,bev2,bcp,bcp2,bgt,bit,ZNs,Ziy,Zye,Zme,Zmd,clkX,pstR,hQ',hL',h71,h72,ZrU,ZlP,ZaM,Zae,Bool.and_assoc,Yag,YQ,Yh,Yv,Yf,Ym,Yi,Yt,YK,YY,YT,Bool.not_or_self,Bool.or_not_self,Ya,Yc,hD2,hB2,hm,b10,hwd,hM',hP0,l1,n1,n2];rw[c3,hR,hI,hMv]
  rotate_left
  obtain⟨w0,w1⟩:=hsn it' y rfl;have w2:=λz:ITMT=>ZlG it' z
  have w3:=λz:ITMT=>Zl7 (r:=Zkc) it' z
  have w4:=λz:ITMT=>Zhk it' y z
  have w5:=λz z2:ITMT=>Zhk it' z z2
  unfold tupB Zc4;simp only[RT.val,hi,hr,hp,d,hin,w,g,b4,b5,b7,b9,btr,bev,bev2,bcp,bcp2,bgt,bit,ZNs,Ziy,Zye,Zme,Zmd,clkX,pstR,hQ',hL',h71,h72,ZrU,ZlP,ZaM,Zae,Bool.and_assoc,Yag,YQ,Yh,Yv,Yf,Ym,Yi,Yt,YK,YY,YT,Bool.not_or_self,Bool.or_not_self,Ya,Yc,hD2,hB2,hm,b10,hwd,hM',hP1,hT10,hT10',w0,w1,w2,w3,w4,w5];rw[c3,ZH2 s.1 it' y D hlast,hR,hMv];all_goals
    unfold evE evC;simp only[kS,kC,hLr,c1,c4,Yc];cases hF:(finS s.1 L D).2
    ·cases M
     ·rfl
     ·simp only[Ya,Yc,Zjw];rfl
    ·have hMz:M=false:=by
      cases M
      ·rfl
      ·rw[hMF rfl] at hF;simp at hF
     obtain⟨g1,g2⟩:=c2 hF;have hk:(bif s.1.2.1==0 then (1:Int) else bif s.1.2.1==5 then 2 else 3)=ZPe s.1.2.1:=ZRh hsrc;rw[hMz,g1,g2,hk];simp only[Ya,Yc,Zjw];rfl
 ·obtain⟨r1,r2,r3⟩:=ZON b s i hr;rw[hL] at r2;have hP1:(Zcr s.1 L 0).1=10:=by rw[ZSu,hLr,hr];rfl
  have hH:(Zcr s.1 L 0).2.2.2.2.2.2.2.2.2.2.2.2.2.2.2.1=false:=by
   cases e:(Zcr s.1 L 0).2.2.2.2.2.2.2.2.2.2.2.2.2.2.2.1
   ·rfl
   ·have:=(Znm e).1;rw[hLr,hr] at this;simp at this
  have hR:Zcp b Zz (s,tr,it,ev,cp) i=((Z2 s.1 L 0,s.2.1,ZPC Q 0,(s.2.2.2.1.1,s.2.2.2.1.2.1,0),ZaL s,s.2.2.2.2.2),tr++[Zcr s.1 L 0],ZkG it 4 s.1 (4,(0,0,0,0),0,1,ZNX s.1,sodC s.1),evE ev s.1 L 0 (Z4 b s i).2.2.2.2.1 false,evC cp Zz s.1 (Z2 s.1 L 0) L 0 false):=by
   have hnow:nowS s i=10:=by unfold nowS;rw[hr];rfl
   have hcc:(Z4 b s i).1.1=Z2 s.1 L 0:=by rw[r2]
   have hp2:pinS b s i=Zcr s.1 L 0:=by unfold pinS;rw[(Zf1 b (Zm b s i) i).1,hL,r1];rfl
   show ((Z4 b s i).1,tr++[pinS b s i],Zim it s.1 (Zag s.1 (nowS s i) (busS b (Zm b s i) i).2) (nowS s i),evE ev s.1 (ZbE b (Zm b s i) i) (busS b (Zm b s i) i).2 (Z4 b s i).2.2.2.2.1 (ZdM b s i),evC cp Zz s.1 (Z4 b s i).1.1 (ZbE b (Zm b s i) i) (busS b (Zm b s i) i).2 (ZdM b s i))=_;rw[hnow,hcc,hp2,r3,hL,r1,r2,hQ];rfl
  rw[hr] at hL';rcases hit with rfl|⟨it',y,rfl⟩
  ·unfold tupB Zc4;simp only[RT.val,hi,hr,hp,d,hin,w,g,b4,b5,b7,b9,btr,bev,bev2,bcp,bcp2,bgt,bit,ZNs,Ziy,Zye,Zme,Zmd,clkX,pstR,hQ',hL',h71,h72,ZrU,ZlP,ZaM,Zae,Bool.and_assoc,Yag,YQ,Yh,Yv,Yf,Ym,Yi,Yt,YK,YY,YT,Bool.not_or_self,Bool.or_not_self,Ya,Yc,hP1,hH,l10,n1,n2];rw[hR];unfold evE evC ZkG;simp only[hLr,hr,Ya,Zjw,List.getLast?_nil];rfl
  ·obtain⟨w0,w1⟩:=hsn it' y rfl;have w2:=λz:ITMT=>ZlG it' z
   have w3:=λz:ITMT=>Zl7 (r:=Zkc) it' z
   have w4:=λz:ITMT=>Zhk it' y z
   have w5:=λz z2:ITMT=>Zhk it' z z2
   unfold tupB Zc4;simp only[RT.val,hi,hr,hp,d,hin,w,g,b4,b5,b7,b9,btr,bev,bev2,bcp,bcp2,bgt,bit,ZNs,Ziy,Zye,Zme,Zmd,clkX,pstR,hQ',hL',h71,h72,ZrU,ZlP,ZaM,Zae,Bool.and_assoc,Yag,YQ,Yh,Yv,Yf,Ym,Yi,Yt,YK,YY,YT,Bool.not_or_self,Bool.or_not_self,Ya,Yc,hP1,hH,l10,w0,w1,w2,w3,w4,w5];rw[hR];unfold evE evC ZkG;simp only[hLr,hr,Ya,Zjw,List.getLast?_concat,ZbR];rfl
theorem ZJ1 (b:BRDT) (s0:TC):∀(l:List INPT) (st:STT),RbOk st->RbOk (Zal b s0 st l)
 |[],st,h=>h
 |i::l,st,h=>ZJ1 b s0 l (Zcp b s0 st i) (ZT5 b s0 st i h)
theorem ZT4 (b:BRDT) (l:List INPT) (s0:SYST) (Zz:TC) (st:STT) (h:RunOk b st 0) (q:RbOk st) (hpp:inR .u8 b.2.2.2.1) (hl:l.length<=70000):
  runF false Zc4 (λ_=>1000000000000) (tupB l 0 b s0 Zz st)=some (false,tupB l (l.length:Int) b s0 Zz (Zal b Zz st l)):=by
 obtain⟨r,hr,h1⟩:=ZC (fl:=false) (t:=Zc4) (fuel:=λ_=>1000000000000)
  (λa=>∃i:Nat,i<=l.length/\a=tupB l (i:Int) b s0 Zz (Zal b Zz st (l.take i)))
  (λa=>Int.toNat (a.2.1-a.2.2.1)) (λr=>r=(false,tupB l (l.length:Int) b s0 Zz (Zal b Zz st l)))
  (by
   rintro a ⟨i,hi,rfl⟩;by_cases hlt:i<l.length
   ·left;have hk:=Zir b Zz (l.take i) st 0 h;refine⟨_,ZPS l i b s0 Zz (Zal b Zz st (l.take i)) _ hk (ZJ1 b Zz _ _ q) hlt (by omega) (by simp;omega) hpp _ rfl,⟨i+1,hlt,?_⟩,by show Int.toNat ((l.length:Int)-((i+1:Nat):Int))<Int.toNat ((l.length:Int)-(i:Int));omega⟩;have e:Zal b Zz st (l.take (i+1))=Zcp b Zz (Zal b Zz st (l.take i)) (R.get Zbt l (i:Int)):=by rw[ZmK l Zbt.Df i hlt];simp only[Zal,YaF,List.foldl_cons,List.foldl_nil];rfl
    rw[e]
   ·right;left;have e:i=l.length:=by omega
    subst e;have d:decide ((l.length:Int)<(l.length:Int))=false:=YV (by omega);rw[List.take_length]
    exact⟨_,by unfold tupB Zc4;simp only[RT.val,d,Yc],rfl⟩)
  (tupB l 0 b s0 Zz st) ⟨0,Yu _,rfl⟩ (by show Int.toNat ((l.length:Int)-0)<_;omega)
 rw[h1] at hr;exact hr
theorem ZVJ (b:BRDT) (hw:wNew b=(newS b,0)):RbOk (ZcN b):=by unfold ZcN;rw[hw];exact⟨⟨Int.le_refl 0,(by decide:(0:Int)<=5)⟩,Zjv _ (.inr (.inr rfl))⟩
theorem ZyQ (b:BRDT) (l:List Int) (hg:smG b.2.1=true) (hm:b.2.2.2.2.2.2.length<=100000) (hl:l.length<=4000) (hpp:inR .u8 b.2.2.2.1):(Zrp b l).val=some (ZbX b (decX l)):=by
 have hms:=mst;obtain⟨e1,e2⟩:=Zro b;have hc:=smCb (l:=b.2.2.2.2.2.2) (by omega);rw[Ziz b hg hc] at e2;have hn:=ZjV b hg hm;have hb:Nat.ble (List.length b.2.2.2.2.2.2) most=true:=ZV (by omega);have hd:Zzw l=true:=by unfold Zzw;rw[YB];exact hl
 unfold ZbX;rw[hn.2.1];cases hx:ZbM b !=0
 ·have h0:ZbM b=0:=by simpa using hx
  have hnew:=ZSS b hg hm (by rw[hn.2.1,hx]);have hi:=(hn.2.2 (by rw[hn.2.1,h0])).1;have hf:=Zir b (Zbb b) (decX l) (ZcN b) 0 hi;have hld:=dec_len l;have hr:=ZT4 b (decX l) Zmh (Zbb b) (ZcN b) hi (ZVJ b hnew) hpp (by omega);have himg:=Zfl (Zg9.1 (Zvi b hg hc h0));have hs:tupB (decX l) 0 b Zmh (Zbb b) (ZcN b)=(decX l,iN (decX l).length,0,newX b.1,b.2.2.2.2.2.2,ZUq,(0,0,0),0,b,Zmh,(newX b.1).1,[],[],[],[],[],()):=by unfold Zbb ZcN;rw[hnew];unfold newS;rw[himg];rfl
  rw[hs] at hr;unfold Zmh Zrt at hr;simp only[Zrp,RT.val,e1,e2,hx,hb,hd,hr,okB,getO,Yf,Yi,Yh,Ya,Yc];obtain⟨st,hst⟩:∃st,Zal b (Zbb b) (ZcN b) (decX l)=st:=⟨_,rfl⟩;rw[hst] at hf|-;have hk:=hf.k;have he:=hf.ev;have hcp:=hf.cp;have b1:Nat.ble (List.length st.1.1.2.2.1) most=true:=ZV (by omega);have b2:∀x:EVTT,Nat.ble (List.length (st.2.2.2.1++[x])) most=true:=λx=>ZV (by simp;omega)
  have b3:∀x:TC,Nat.ble (List.length (st.2.2.2.2++[x])) most=true:=λx=>ZV (by simp;omega)
  have hpb:∀c,Zuj c=ZgC c:=λ_=>rfl
  unfold tupB;simp only[b1,b2,b3,hpb,Yh,Yf,Yi,Ya];unfold endS;cases ZgC st.1.1<;>rfl
 ·simp only[Zrp,RT.val,e1,e2,hx,Yf,Yv,Yh,Ya];rfl
def ZF9 (b:BRDT) (l:List Int):Bool:=smG b.2.1&&(Nat.ble b.2.2.2.2.2.2.length 100000&&Nat.ble l.length 4000)
theorem ZDh {b:BRDT} {l:List Int} (h:ZF9 b l=true):smG b.2.1=true/\b.2.2.2.2.2.2.length<=100000/\l.length<=4000:=by simpa only[ZF9,Yb,YB] using h
def ZCC:En:=Zg ZCB Zu2 (λa=>some (ZF9 a.1 a.2)) (λa=>ZbX a.1 (decX a.2))
theorem ZyR:Zb Tryz.prog 23 ZCC:=ZFK.pure_congr
 (λa h hp=>by
  obtain⟨h1,h2,h3⟩:=ZDh (b:=a.1) (l:=a.2) (by simpa using hp);have hv:=ZyQ a.1 a.2 h1 h2 h3 h.1.2.2.2.1
  simp[ZFM,hv,okB])
 (λa h hp=>by
  obtain⟨h1,h2,h3⟩:=ZDh (b:=a.1) (l:=a.2) (by simpa using hp);have hv:=ZyQ a.1 a.2 h1 h2 h3 h.1.2.2.2.1
  simp only[ZRZ,hv,getO])
end
end Go.Proofs.YtpnjbfjomebppaaGreat
open Go Go.S3 Go.Proofs
namespace Go.Proofs.YtpnjbfjomebppaaGreat
noncomputable section
abbrev ZKc:Rs:=Rs.one (Sh.one R.bool)
def Zho (a:List ITMT×List ITMT×Bool×Int×Int×PUnit):RT (Option (Go1 (List ITMT×List ITMT×Bool×Int×Int×PUnit))):=
 let x1:= !Zf a.2.2.2.2.1 (List.length a.1)||Zf a.2.2.2.2.1 (List.length a.2.1)
 let x2:ITMT:=R.get Zkc a.1 a.2.2.2.2.1
 let x3:ITMT:=R.get Zkc a.2.1 a.2.2.2.2.1
 let x18:Int×Int×PUnit:=(a.2.2.2.1,a.2.2.2.2.1,PUnit.unit)
 .br (decide (a.2.2.2.2.1<a.2.2.2.1)) (.br (!x1||Zf a.2.2.2.2.1 (List.length a.1)) (.br (x1) (.br (!(R.eqf Zkc x2 x3 true)) (.Lf (some (Go1.ret (a.1,a.2.1,false,x18)))) (.Lf (some (Go1.cont (a.1,a.2.1,a.2.2.1,a.2.2.2.1,i64.wrap (a.2.2.2.2.1+1),PUnit.unit))))) (.Lf none)) (.Lf none)) (.Lf (some (Go1.brk (a.1,a.2.1,a.2.2.1,x18))))
def ZlL (a:List ITMT) (b:List ITMT):RT (Option (Bool)):=
 let x1:=runF true Zho (λa_1=>1000000000000) (a,b,false,iN (List.length a),0,())
 let x2:=getO (false,a,b,false,iN (List.length a),0,()) x1
 .br (iN (List.length a) !=iN (List.length b)) (.Lf (some (false))) (.br (okB x1) (.br x2.1 (.Lf (some x2.2.2.2.1)) (.Lf (some (true)))) (.Lf none))
def Zkf (a:List ITMT) (b:List ITMT):Bool:=getO ZKc.Df (ZlL a b).val
def Zsn (a:List ITMT) (b:List ITMT):Bool:=okB (ZlL a b).val
abbrev ZIu:Rs:=Rs.one (Sh.one R.bool)
def Zg7 (a:List EVTT×Bool×List EVTT×Int×Int×PUnit):RT (Option (Go1 (List EVTT×Bool×List EVTT×Int×Int×PUnit))):=
 let x1:EVTT:=R.get ZJ0 a.2.2.1 a.2.2.2.2.1
 let x2:EVTT:=R.get ZJ0 a.1 a.2.2.2.2.1
 let x3:=x1.2
 let x4:=x2.2
 let x5:=x3.2
 let x6:=x4.2
 let x7:=x5.2
 let x8:=x7.1
 let x9:=x6.2
 let x10:=x9.1
 let x25:=x7.2
 let x26:=x9.2
 let x27:=x25.2
 let x28:=x26.2
 let x29:=x27.2
 let x30:=x28.2
 let x31:=x29.2
 let x32:=x30.2
 let p1:=(!x31.1==x32.1)::(!x29.1==x30.1)::(!x27.1==x28.1)::(!x25.1==x26.1)::(!(R.eqf ZGe x8 x10 true))::(!ByteArray.toList (ZvH x5.1)==ByteArray.toList (ZvH x6.1))::(x3.1 !=x4.1)::(x1.1 !=x2.1)::[]
 let x33:=x31.2
 let x34:=x32.2
 let x35:List EVTT×Int×Int×PUnit:=(a.2.2.1,a.2.2.2.1,a.2.2.2.2.1,PUnit.unit)
 .br (decide (a.2.2.2.2.1<a.2.2.2.1)) (.br (!Zf a.2.2.2.2.1 (List.length a.2.2.1)||Zf a.2.2.2.2.1 (List.length a.1)) (.br (Zf a.2.2.2.2.1 (List.length a.2.2.1)) (.br (orR p1 (!(x33.1==x34.1&&(x33.2==x34.2&&true)))) (.Lf (some (Go1.ret (a.1,false,x35)))) (.Lf (some (Go1.cont (a.1,a.2.1,a.2.2.1,a.2.2.2.1,i64.wrap (a.2.2.2.2.1+1),PUnit.unit))))) (.Lf none)) (.Lf none)) (.Lf (some (Go1.brk (a.1,a.2.1,x35))))
def Zlx (a:List EVTT) (b:List EVTT):RT (Option (Bool)):=
 let x1:=runF true Zg7 (λa_1=>1000000000000) (b,false,a,iN (List.length a),0,())
 let x2:=getO (false,b,false,a,iN (List.length a),0,()) x1
 .br (iN (List.length a) !=iN (List.length b)) (.Lf (some (false))) (.br (okB x1) (.br x2.1 (.Lf (some x2.2.2.1)) (.Lf (some (true)))) (.Lf none))
def Zmm (a:List EVTT) (b:List EVTT):Bool:=getO ZIu.Df (Zlx a b).val
def Zrz (a:List EVTT) (b:List EVTT):Bool:=okB (Zlx a b).val
abbrev ZFU:Rs:=Rs.one (Sh.one R.bool)
def ZiC (a:RUNT) (b:RUNT):RT (Option (Bool)):=
 let x1:= !Zeh a.1 b.1||Zsn a.2.1 b.2.1
 let x2:= !x1
 let x3:= !Zeh a.1 b.1||(!Zkf a.2.1 b.2.1||Zrz a.2.2.1 b.2.2.1)
 let x4:= !x3
 let x5:= !Zeh a.1 b.1||(!Zkf a.2.1 b.2.1||(!Zmm a.2.2.1 b.2.2.1||ZT1 a.2.2.2.1))
 let p1:=(!ZJI ZY a.2.2.2.1 b.2.2.2.1)::(!Zmm a.2.2.1 b.2.2.1)::(!Zkf a.2.1 b.2.1)::(!Zeh a.1 b.1)::(!x5)::x4::x2::(!Zdg a.1 b.1)::[]
 .br (orR p1 (ZiB a.2.2.2.2 b.2.2.2.2)) (.br (!Zdg a.1 b.1||(x2||(x4||x5))) (.br (!Zdg a.1 b.1||(x2||x3)) (.br (!Zdg a.1 b.1||x1) (.br (Zdg a.1 b.1) (.Lf (some (Zeh a.1 b.1&&(Zkf a.2.1 b.2.1&&(Zmm a.2.2.1 b.2.2.1&&(ZJI ZY a.2.2.2.1 b.2.2.2.1&&Zmk a.2.2.2.2 b.2.2.2.2)))))) (.Lf none)) (.Lf none)) (.Lf none)) (.Lf none)) (.Lf none)
def Zry (a:RUNT) (b:RUNT):Bool:=getO ZFU.Df (ZiC a b).val
def Zml (a:RUNT) (b:RUNT):Bool:=okB (ZiC a b).val
abbrev ZNJ:List Sh:=[Sh.one (R.sl (R.int i64))]
abbrev ZB9:Rs:=Rs.one (Sh.one R.bool)
def ZRg:LS:={n:=80,Sl:=[(2,.code (Sh.one R.bool)),(3,.fix (A.loc 0 0)),(5,.fix (A.loc 1 0)),(7,.fix (A.loc 2 0)),(50,.code (Sh.one (R.sl Zbt))),(51,.code (Sh.one (R.int i64))),(52,.code (Sh.one (R.int i64)))],Bx:=[[.many (R.Pq (R.int i64) (R.Pq rcRG (R.Pq (R.int i64) (R.Pq (R.int u8) (R.Pq (R.int u8) (R.Pq R.bool rcCE))))))],[.many (R.Pq (R.sl Zia) (R.Pq (R.sl Zkc) (R.Pq (R.sl ZJ0) (R.Pq (R.sl ZY) (R.Pq (R.Pq ZY (R.Pq (R.int i64) (R.Pq (R.sl (R.int u8)) (R.Pq (RY) (R.Pq (R.int i64) R.bool))))) (R.Pq rcCE (R.Pq ZaE (R.Pq (R.Pq (R.int u16) (R.Pq (R.int u8) (R.int i64))) (R.Pq (R.int i64) (R.sl (R.Pq (R.int u8) (R.int u8))))))))))))],[.many (R.Pq (R.Pq ZY (R.Pq (R.int i64) (R.Pq (R.sl (R.int u8)) (R.Pq (RY) (R.Pq (R.int i64) R.bool))))) (R.Pq rcCE (R.Pq ZaE (R.Pq (R.Pq (R.int u16) (R.Pq (R.int u8) (R.int i64))) (R.Pq (R.int i64) (R.sl (R.Pq (R.int u8) (R.int u8))))))))]],Sg:=[]}
def Zhy (a:QT23):RT (Option (Go1 (QT23))):=
 let x1:=ZvX a.2.2.2.2.1 a.2.2.2.2.2.2.1
 let x2:=Z4 a.2.2.2.2.1 a.2.2.2.2.2.2.1 (R.get Zbt a.2.1 a.2.2.2.1)
 let x3:=x2.2.1
 let x4:PINT:=R.get Zia a.2.2.2.2.2.1.1 a.2.2.2.1
 let x35:List INPT×Int×Int×BRDT×RUNT×SYST×PUnit:=(a.2.1,a.2.2.1,a.2.2.2.1,a.2.2.2.2.1,a.2.2.2.2.2.1,a.2.2.2.2.2.2.1,PUnit.unit)
 .br (decide (a.2.2.2.1<a.2.2.1)) (.br (!Zf a.2.2.2.1 (List.length a.2.1)||(!x1||Zf a.2.2.2.1 (List.length a.2.2.2.2.2.1.1))) (.br (!Zf a.2.2.2.1 (List.length a.2.1)||x1) (.br (Zf a.2.2.2.1 (List.length a.2.1)) (.br (!(R.eqf Zia x3 x4 true)) (.Lf (some (Go1.ret (false,x35)))) (.Lf (some (Go1.cont (a.1,a.2.1,a.2.2.1,i64.wrap (a.2.2.2.1+1),a.2.2.2.2.1,a.2.2.2.2.2.1,x2.1,PUnit.unit))))) (.Lf none)) (.Lf none)) (.Lf none)) (.Lf (some (Go1.brk (a.1,x35))))
def ZFh:Ora:=ZbI true ZRg Zhy (λa=>1000000000000)
theorem ZHY:Zbg (envX Tryz.prog [(23,ZCC),(45,ZVE),(46,ZCb),(48,ZOX),(52,Zrx),(63,ZpF),(65,ZrE)] [] 16383 8) (.block 0 (.loop (Z7 Tryz.f13.body 0))) ZFh:=
 loopP ⟨ZyR,ZNP,Zyj,ZFN,Zp0,ZpE,Zp2,Tv⟩
def Zq8 (n:List Int):RT (Option (Bool)):=
 let x1:QT23:=(false,ZaB (Zav n 80).2,iN (List.length (ZaB (Zav n 80).2)),0,(Zav n 80).1,(ZbX (Zav n 80).1 (decX (Zav n 80).2)).1,(ZCE (Zav n 80).1).1,())
 let x2:=runF true Zhy (λa=>1000000000000) x1
 let x3:=getO (false,x1) x2
 let x4:=x3.2
 let x5:=x4.2.2.2.2.2
 let x6:=x5.2.1
 let x7:=x5.1.2.2.2.2
 let x8:=ZiB x6 x7
 let x9:=Zmk x6 x7
 .br (!decide (iN (List.length n)>250)||ZRj) (.br (decide (iN (List.length n)>250)) (.Lf (some (true))) (.br (ZkE n 80) (.br (ZF9 (Zav n 80).1 (Zav n 80).2) (.br (ZFO (Zav n 80).1) (.br (ZiD (Zav n 80).2) (.br ((ZbX (Zav n 80).1 (decX (Zav n 80).2)).2 !=0||((ZCE (Zav n 80).1).2 !=0||iN (List.length (ZbX (Zav n 80).1 (decX (Zav n 80).2)).1.1) !=iN (List.length (ZaB (Zav n 80).2)))) (.Lf (some (false))) (.br (okB x2) (.br x3.1 (.Lf (some x4.1)) (.br (!x8||(!x9||ZRj)) (.br (x8) (.Lf (some (x9&&kKn5))) (.Lf none)) (.Lf none))) (.Lf none))) (.Lf none)) (.Lf none)) (.Lf none)) (.Lf none))) (.Lf none)
def ZVD (n:List Int):Bool:=getO ZB9.Df (Zq8 n).val
def ZNK (n:List Int):Bool:=okB (Zq8 n).val
def ZXB:En:=Zg ZNJ ZB9 (λa=>some (ZNK a)) (λa=>ZVD a)
theorem lBSte_ok:Zb Tryz.prog 13 ZXB:=
 pureP 16383 [(23,ZCC),(45,ZVE),(46,ZCb),(48,ZOX),(52,Zrx),(63,ZpF),(65,ZrE)] [(0,ZFh)] ZNJ ZB9 ⟨ZyR,ZNP,Zyj,ZFN,Zp0,ZpE,Zp2,Tv⟩ Tryz.func13 Tryz.call13 ⟨ZHY,Tv⟩ (t:=λa=>Zq8 a)
theorem ZlE {τ:Type} {fl:Bool} (T:τ->RT (Option (Go1 τ))) (mk:Int->τ) (idx:τ->Int) (n:Nat) (hi:∀i,idx (mk i)=i) (hT:∀i:Nat,i<n->(T (mk i)).val=some (.cont (mk ((i+1:Nat):Int)))) (hE:(T (mk n)).val=some (.brk (mk n))) (hn:n<=1000000000):
  runF fl T (λ_=>1000000000000) (mk 0)=some (false,mk n):=by
 obtain⟨r,hr,h1⟩:=ZC (fl:=fl) (t:=T) (fuel:=λ_=>1000000000000)
  (λa=>∃i:Nat,i<=n/\a=mk i) (λa=>n-(idx a).toNat) (λr=>r=(false,mk n))
  (by
   rintro a ⟨i,h,rfl⟩;by_cases hlt:i<n
   ·exact .inl ⟨_,hT i hlt,⟨i+1,hlt,rfl⟩,by simp only[hi];omega⟩
   ·have e:i=n:=by omega
    subst e
    exact .inr (.inl ⟨_,hE,rfl⟩))
  (mk 0) ⟨0,Yu _,rfl⟩ (by simp only[hi];omega)
 rw[h1] at hr;exact hr
theorem ZFp {α:Type} {l:List α} {i:Nat} (h:i<l.length) (hl:l.length<=1000000000):decide ((i:Int)<iN l.length)=true/\Zf (i:Int) l.length=true/\IntKind.wrap .i64 ((i:Int)+1)=((i+1:Nat):Int):=by refine⟨by simp only[iN,Yj];omega,Zx.2 ⟨by omega,by omega⟩,?_⟩;rw[wrap_i64 _ (by omega) (by omega)];omega
theorem ZFy (n:Nat):decide ((n:Int)<iN n)=false:=by simp[iN]
theorem ZTT (l:List PINT) (h:l.length<=1000000000):Zdg l l=true/\Zeh l l=true:=by
 have hr:=ZlE (fl:=true) ZeT (λi=>(l,l,false,iN l.length,i,())) (λa=>a.2.2.2.2.1) l.length (λ_=>rfl)
  (λi hi=>by
   obtain⟨k1,k2,k3⟩:=ZFp hi h
   simp only[ZeT,RT.val,k1,k2,k3,R.eqf_refl,Ya,Yc,Yf,Yi,Yh])
  (by simp only[ZeT,RT.val,ZFy,Yc]) h
 have hv:(Zhn l l).val=some true:=by simp only[Zhn,RT.val,hr,Yas,okB,getO,Yc,Ya]
 exact⟨by simp only[Zdg,hv,okB],by simp only[Zeh,hv,getO]⟩
theorem ZTU (l:List ITMT) (h:l.length<=1000000000):Zsn l l=true/\Zkf l l=true:=by
 have hr:=ZlE (fl:=true) Zho (λi=>(l,l,false,iN l.length,i,())) (λa=>a.2.2.2.2.1) l.length (λ_=>rfl)
  (λi hi=>by
   obtain⟨k1,k2,k3⟩:=ZFp hi h
   simp only[Zho,RT.val,k1,k2,k3,R.eqf_refl,Ya,Yc,Yf,Yi,Yh])
  (by simp only[Zho,RT.val,ZFy,Yc]) h
 have hv:(ZlL l l).val=some true:=by simp only[ZlL,RT.val,hr,Yas,okB,getO,Yc,Ya]
 exact⟨by simp only[Zsn,hv,okB],by simp only[Zkf,hv,getO]⟩
theorem ZTV (l:List EVTT) (h:l.length<=1000000000):Zrz l l=true/\Zmm l l=true:=by
 have hr:=ZlE (fl:=true) Zg7 (λi=>(l,false,l,iN l.length,i,())) (λa=>a.2.2.2.2.1) l.length (λ_=>rfl)
  (λi hi=>by
   obtain⟨k1,k2,k3⟩:=ZFp hi h
   simp only[Zg7,RT.val,k1,k2,k3,R.eqf_refl,ZCd,Yau,Yas,ZaM,Zae,Ya,Yc,Yf,Yi,Yh,Yar,YQ])
  (by simp only[Zg7,RT.val,ZFy,Yc]) h
 have hv:(Zlx l l).val=some true:=by simp only[Zlx,RT.val,hr,Yas,okB,getO,Yc,Ya]
 exact⟨by simp only[Zrz,hv,okB],by simp only[Zmm,hv,getO]⟩
theorem Zj8 (b:BRDT) (l:List INPT) (hg:smG b.2.1=true) (hm:b.2.2.2.2.2.2.length<=100000) (hl:l.length<=1000):
  (ZbX b l).1.1.length<=1000/\(ZbX b l).1.2.1.length<=1000/\(ZbX b l).1.2.2.1.length<=2001/\(ZbX b l).1.2.2.2.1.length<=2001/\(ZbX b l).1.2.2.2.2.2.1.length<=102000/\(ZbX b l).1.2.2.2.2.2.2.2.2.2.length<=1000:=by
 obtain⟨_,_,h0⟩:=ZjV b hg hm;unfold ZbX;cases hx:(wNew b).2 !=0
 ·have h0:=(h0 (by simpa using hx)).1;have hf:=Zir b (Zbb b) l (ZcN b) 0 h0;rw[Ys] at hf;simp only[Yc];generalize Zal b (Zbb b) (ZcN b) l=st at hf;have ht:=hf.t;have hi:=hf.it;have he:=hf.ev;have hc:=hf.cp;have hmm:=hf.m;have ho:=hf.o;unfold endS;cases ZgC st.1.1
  ·exact⟨by show st.2.1.length<=_;omega,by show st.2.2.1.length<=_;omega,by show st.2.2.2.1.length<=_;omega,by show st.2.2.2.2.length<=_;omega,by show st.1.2.1.length<=_;omega,by show st.1.2.2.2.2.2.length<=_;omega⟩
  ·exact⟨by show st.2.1.length<=_;omega,by show st.2.2.1.length<=_;omega,by show (st.2.2.2.1++[_]).length<=_;simp;omega,by show (st.2.2.2.2++[_]).length<=_;simp;omega,by show st.1.2.1.length<=_;omega,by show st.1.2.2.2.2.2.length<=_;omega⟩
 ·exact⟨Yu _,Yu _,Yu _,Yu _,Yu _,Yu _⟩
theorem ZPI (b:BRDT) (l:List INPT) (hg:smG b.2.1=true) (hm:b.2.2.2.2.2.2.length<=100000) (hl:l.length<=1000):Zml (ZbX b l).1 (ZbX b l).1=true/\Zry (ZbX b l).1 (ZbX b l).1=true:=by
 obtain⟨l1,l2,l3,l4,l5,l6⟩:=Zj8 b l hg hm hl;generalize (ZbX b l).1=r at l1 l2 l3 l4 l5 l6;obtain⟨p1,p2⟩:=ZTT r.1 (by omega);obtain⟨i1,i2⟩:=ZTU r.2.1 (by omega);obtain⟨e1,e2⟩:=ZTV r.2.2.1 (by omega);obtain⟨s1,s2⟩:=ZDc r.2.2.2.2 (by omega) (by omega);have c1:ZT1 r.2.2.2.1=true:=by simp[ZT1];omega
 have c2:=Zqp ZY r.2.2.2.1;have hv:(ZiC r r).val=some true:=by simp only[ZiC,RT.val,p1,p2,i1,i2,e1,e2,s1,s2,c1,c2,ZaM,Zae,Yh,Yf,Yar,YQ,Yi,Ya]
 exact⟨by simp only[Zml,hv,okB],by simp only[Zry,hv,getO]⟩
theorem ZPL (b:BRDT) (l:List Int) (hg:smG b.2.1=true) (hm:b.2.2.2.2.2.2.length<=1000) (hl:l.length<=4000):
  ZF9 b l=true/\ZTk b l=true/\wRun b l=ZbX b (decX l)/\Zml (ZbX b (decX l)).1 (ZbX b (decX l)).1=true/\Zry (ZbX b (decX l)).1 (ZbX b (decX l)).1=true:=by obtain⟨w1,w2⟩:=ZTj b l hg (by omega) hl;rw[Zmq l hl] at w2;have hd:=dec_len l;obtain⟨s1,s2⟩:=ZPI b (decX l) hg (by omega) (by omega);refine⟨?_,w1,w2,s1,s2⟩;simp only[ZF9,Yb,YB];exact⟨hg,by omega,hl⟩
theorem ZWE {w a b:Int} {m:Bool} (hw:inR .u16 w) (a0:0<=a) (a1:a<6) (b0:0<=b) (b1:b<5):
  badR (w,u16.wrap (if 65535<i64.wrap (i64.wrap w+R.get (R.int i64) [0,3,15,255,4095,65535] a) then 65535 else i64.wrap (i64.wrap w+R.get (R.int i64) [0,3,15,255,4095,65535] a)),m,R.get (R.int i64) [0,0,1,2,5] b)=false:=by
 rw[Zin] at hw;obtain⟨x,ex,hx⟩:∃x:Int,R.get (R.int i64) [0,3,15,255,4095,65535] a=x/\0<=x/\x<=65535:=by
  have:a=0\/a=1\/a=2\/a=3\/a=4\/a=5:=by omega
  rcases this with rfl|rfl|rfl|rfl|rfl|rfl<;>exact⟨_,rfl,by decide,by decide⟩
 obtain⟨y,ey,hy⟩:∃y:Int,R.get (R.int i64) [0,0,1,2,5] b=y/\0<=y/\y<=100:=by
  have:b=0\/b=1\/b=2\/b=3\/b=4:=by omega
  rcases this with rfl|rfl|rfl|rfl|rfl<;>exact⟨_,rfl,by decide,by decide⟩
 rw[ex,ey];have w1:IntKind.wrap .i64 w=w:=wrap_i64 _ (by omega) (by omega);have w2:IntKind.wrap .i64 (w+x)=w+x:=wrap_i64 _ (by omega) (by omega);rw[w1,w2];have hu:∀z:Int,0<=z->z<=65535->IntKind.wrap .u16 z=z:=λz h1 h2=>by rw[Zru];omega
 unfold badR;simp only;rw[Yo,Yo];refine⟨?_,YV (by omega),YV (by omega)⟩;by_cases h:65535<w+x
 ·rw[YX h,hu _ (by omega) (by omega)];exact YV (by omega)
 ·rw[Y1 h,hu _ (by omega) (by omega)];exact YV (by omega)
variable {s:List Int×Int} {k:Int}
theorem ZxN (h:NB s k) (hk:k<=500000) (n:Nat) (hn:n<=100):
  Zb7 s (n:Int)=true/\NB (ZQ s (n:Int)).2 (k+1+5*n)/\(ZQ s (n:Int)).1.length<=n/\∀r∈(ZQ s (n:Int)).1,badR r=false:=by
 have hms:=mst;have w0:IntKind.wrap .i64 ((n:Int)+1)=(n:Int)+1:=wrap_i64 _ (by omega) (by omega);obtain⟨c1,b1,d0,d1⟩:=Zq h (by omega) ((n:Int)+1) (by omega) (by omega);obtain⟨L,N,hs1⟩:∃L N,(L,N)=(Za s ((n:Int)+1)).2:=⟨_,_,rfl⟩;obtain⟨q,hq⟩:∃q:Nat,(Za s ((n:Int)+1)).1=(q:Int):=⟨_,(Yam d0).symm⟩;rw[<-hs1] at b1;obtain⟨r,hr,h1,L',N',o,hs',⟨ho,hvv⟩,hR⟩:=ZC (fl:=false) (t:=Zb6) (fuel:=λa=>400)
  (λa=>∃(i:Nat) (L:List Int) (N:Int) (o:List ZO),i<=q/\NB (L,N) (k+1+5*((q-i:Nat):Int))/\(o.length<=q-i/\∀r∈o,badR r=false)/\a=((i:Int),(L,N),o,()))
  (λa=>Int.toNat a.1) (λr=>r.1=false/\∃(L:List Int) (N:Int) (o:List ZO),NB (L,N) (k+1+5*(q:Int))/\(o.length<=q/\∀r∈o,badR r=false)/\r.2=((0:Int),(L,N),o,()))
  (by
   rintro a ⟨i,L,N,o,hi,hs',⟨ho,hv⟩,rfl⟩;cases i with
   |zero=>
    right;left;exact⟨_,by simp only[Zb6,RT.val];rfl,rfl,L,N,o,by simpa using hs',⟨by omega,hv⟩,rfl⟩
   |succ i=>
    left;have d:decide (((i+1:Nat):Int)>0)=true:=YA (by omega);obtain⟨kw,bw,hwr⟩:=ZEZ hs' (by omega);obtain⟨k1,b1,e0,e1⟩:=Zq bw (by omega) 6 (by decide) (by decide);obtain⟨k2,b2,_⟩:=Zq b1 (by omega) 3 (by decide) (by decide);obtain⟨k3,b3,f0,f1⟩:=Zq b2 (by omega) 5 (by decide) (by decide);have r1:Zf (Za (ZaW (L,N)).2 6).1 6=true:=Zx.2 ⟨e0,e1⟩;have r2:Zf (Za (Za (Za (ZaW (L,N)).2 6).2 3).2 5).1 5=true:=Zx.2 ⟨f0,f1⟩;have hb:∀x:ZO,Nat.ble (o++[x]).length most=true:=λx=>ZV (by simp;omega)
    have w:IntKind.wrap .i64 (((i+1:Nat):Int)-1)=(i:Int):=by rw[wrap_i64 _ (by omega) (by omega)];omega
    obtain⟨o',ho'⟩:∃o':List ZO,o'=o++[((ZaW (L,N)).1,u16.wrap (if 65535<i64.wrap (i64.wrap (ZaW (L,N)).1+R.get (R.int i64) [0,3,15,255,4095,65535] (Za (ZaW (L,N)).2 6).1) then 65535 else i64.wrap (i64.wrap (ZaW (L,N)).1+R.get (R.int i64) [0,3,15,255,4095,65535] (Za (ZaW (L,N)).2 6).1)),decide ((Za (Za (ZaW (L,N)).2 6).2 3).1>0),R.get (R.int i64) [0,0,1,2,5] (Za (Za (Za (ZaW (L,N)).2 6).2 3).2 5).1)]:=⟨_,rfl⟩;refine⟨((i:Int),((Za (Za (Za (ZaW (L,N)).2 6).2 3).2 5).2.1,(Za (Za (Za (ZaW (L,N)).2 6).2 3).2 5).2.2),o',()),?_,⟨i,_,_,o',by omega,b3.up (by omega),⟨by rw[ho'];simp;omega,λr hr=>by rw[ho'] at hr;rcases Yad.1 hr with hr|hr;exact hv r hr;rw[List.mem_singleton] at hr;rw[hr];exact ZWE hwr e0 e1 f0 f1⟩,rfl⟩,by simp only;omega⟩
    simp only[Zb6,RT.val,List.length_cons,List.length_nil,Nat.reduceAdd,d,kw,k1,k2,k3,r1,r2,hb,w,ho',Ya,Yf,Yi,Yh,Yt])
  ((q:Int),(L,N),[],()) ⟨q,L,N,[],Ye _,by simpa using b1,⟨by simp,λr hr=>by simp at hr⟩,rfl⟩ (by simp only;omega)
 obtain⟨r1,r2⟩:=r;simp only at h1 hR;subst h1 hR;have hv:(Zer s (n:Int)).val=some (o,L',N'):=by simp only[Zer,RT.val,w0,c1,hq,<-hs1,hr,okB,getO,Ya]
 simp only[Zb7,ZQ,hv,okB,getO];exact⟨trivial,hs'.up (by omega),by omega,hvv⟩
theorem ZQ7 (h:NB s k) (hk:k<=400000):∀r∈(nMap s).1,badR r=false:=by
 obtain⟨c1,b1,l1,hv1⟩:=ZxN h (by omega) 2 (by omega);have c1:Zb7 s 2=true:=c1;have b1:NB (ZQ s 2).2 (k+1+5*((2:Nat):Int)):=b1;have l1:(ZQ s 2).1.length<=2:=l1;have hv1:∀r∈(ZQ s 2).1,badR r=false:=hv1;obtain⟨c2,b2,d0,d1⟩:=Zq b1 (by omega) 3 (by decide) (by decide);have hs:∀x:ZO,Nat.ble ((ZQ s 2).1++[x]).length most=true:=λx=>ZV (by have:=mst;simp;omega)
 have hg:∀l:List ZO,Stg.l (newG Zd3 Zd4 l)=l:=λ_=>rfl
 have hv:(ZBX s).val=some ((ZQ s 2).1++[(0,65535,true,IntKind.wrap .i64 (Int.tdiv (Za (ZQ s 2).2 3).1 2))],(Za (ZQ s 2).2 3).2):=by simp only[ZBX,RT.val,hg,c1,c2,hs,Yf,Yi,Yh,Ya]
 simp only[nMap,hv,getO];intro r hr;rcases Yad.1 hr with hr|hr
 ·exact hv1 r hr
 ·rw[List.mem_singleton] at hr;subst hr;have:(Za (ZQ s 2).2 3).1=0\/(Za (ZQ s 2).2 3).1=1\/(Za (ZQ s 2).2 3).1=2:=by omega
  rcases this with e|e|e<;>rw[e]<;>rfl
theorem ZTW (n:List Int):ZbM (ZcA (n,0)).1=0:=by
 obtain⟨c1,b1,⟨s1,bs1,hr⟩,hch,hio,l,hl,hi⟩:=ZxW (ZOe n) (by omega);obtain⟨c2,_,l2⟩:=ZBW bs1 (by omega);have hbad:=ZQ7 bs1 (by omega);generalize (ZcA (n,0)).1=b at hr hch hio hi;have hg:smG b.2.1=true:=by rw[hr];exact smGb (by omega)
 have hx:ZbS b.2.1=0:=by
  rw[hr];unfold ZbS;have q1:decide (iN (nMap s1).1.length>16)=false:=YV (by simp only[iN];omega);have q2:(nMap s1).1.any badR=false:=by rw[List.any_eq_false];intro r hr;rw[hbad r hr];simp
  rw[q1,q2];rfl
 have hc:smC (normX l)=true:=smCb (by have:=Zep l;omega);have hvl:vldB (normX l)=true:=Zg9.2 (Zjj l);have q3:(b.1 !=1&&b.1 !=2)=false:=by rcases hch with e|e<;>rw[e]<;>rfl
 have q4:decide (b.2.2.1<0)=false:=YV (by omega);have q5:decide (b.2.2.1>100)=false:=YV (by omega);have hv:(Zfw b).val=some 0:=by unfold Zfw;simp only[RT.val,q3,hg,hx,q4,q5,hi,hc,hvl,Yh,Yf,Yar,Ya,Yc];rfl
 simp only[ZbM,hv,getO]
theorem ZJD (n:List Int) (k:Nat) (hk:k<=250):ZkE n (k:Int)=true/\smG (Zav n (k:Int)).1.2.1=true/\(Zav n (k:Int)).1.2.2.2.2.2.2.length<=200/\(Zav n (k:Int)).2.length<=4*k/\wNew (Zav n (k:Int)).1=(newS (Zav n (k:Int)).1,0):=by obtain⟨s1,s2,s3,s4,s5⟩:=ZPH n k hk;refine⟨s1,s2,s3,s4,ZSS _ s2 (by omega) ?_⟩;rw[(ZjV _ s2 (by omega)).2.1,s5,ZTW];rfl
theorem ZPK (b:BRDT) (l:List INPT) (h:wNew b=(newS b,0)):ZbX b l=(endS (Zbb b) (Zal b (Zbb b) (ZcN b) l),0):=by unfold ZbX;rw[h];rfl
theorem ZOo (s:TC) (st:STT):(endS s st).1=st.2.1/\(endS s st).2.2.2.2=st.1:=by unfold endS;cases ZgC st.1.1<;>exact⟨rfl,rfl⟩
theorem ZyA (b:BRDT) (s0:TC) (st:STT) (l:List INPT) (i:Nat) (h:i<l.length):Zal b s0 st (l.take (i+1))=Zcp b s0 (Zal b s0 st (l.take i)) (R.get Zbt l (i:Int)):=by rw[ZmK l Zbt.Df i h];simp only[Zal,YaF,List.foldl_cons,List.foldl_nil];rfl
theorem ZRA (b:BRDT) (s0:TC) (st:STT) (l:List INPT) (i:Nat) (h:i<l.length) (h0:st.2.1=[]):R.get Zia (Zal b s0 st l).2.1 (i:Int)=(Z4 b (Zal b s0 st (l.take i)).1 (R.get Zbt l (i:Int))).2.1:=by
 obtain⟨t,ht,_⟩:=ZuN b s0 (l.drop (i+1)) (Zal b s0 st (l.take (i+1)));rw[<-ZRB,Yaf,ZyA b s0 st l i h] at ht;obtain⟨u,hu,hul⟩:=ZuN b s0 (l.take i) st;rw[h0,List.nil_append] at hu;rw[ht];show R.get Zia (((Zal b s0 st (l.take i)).2.1++[(Z4 b (Zal b s0 st (l.take i)).1 (R.get Zbt l (i:Int))).2.1])++t) (i:Int)=_;rw[hu];have e:u.length=i:=by rw[hul];simp;omega
 subst e;simp[R.get]
theorem bste_law (n:List Int):ZNK n=true/\ZVD n=true:=by
 have hms:=mst;have hv:(Zq8 n).val=some true:=by
  cases hx:decide (iN (List.length n)>250)
  ·obtain⟨s1,s2,s3,s4,s5⟩:=ZJD n 80 (by omega);have s1:ZkE n 80=true:=s1;have s2:smG (Zav n 80).1.2.1=true:=s2;have s3:(Zav n 80).1.2.2.2.2.2.2.length<=200:=s3;have s4:(Zav n 80).2.length<=4*80:=s4;have s5:wNew (Zav n 80).1=(newS (Zav n 80).1,0):=s5;obtain⟨b,hb⟩:∃b,(Zav n 80).1=b:=⟨_,rfl⟩;obtain⟨x,hx2⟩:∃x,(Zav n 80).2=x:=⟨_,rfl⟩;rw[hb] at s2 s3 s5;rw[hx2] at s4;obtain⟨a1,a2,a3,a4,a5⟩:=ZPL b x s2 (by omega) (by omega);obtain⟨n1,n2,n3,n4,n5,n6⟩:=ZXs b s2 (by omega);obtain⟨w1,w2⟩:=Zp3 x (by omega);rw[Zmq x (by omega)] at w2;have hrun:=ZPK b (decX x) s5;have hok:=(ZjV b s2 (by omega)).2.2 (by rw[s5]);have hi:=hok.1;obtain⟨t,ht,htl⟩:=ZuN b (Zbb b) (decX x) (ZcN b);have htr:(ZbX b (decX x)).1.1.length=(decX x).length:=by rw[hrun];show (endS _ _).1.length=_;rw[(ZOo _ _).1,ht];show ([]++t).length=_;rw[List.nil_append,htl]
   have hloop:=ZlE (fl:=true) Zhy (λi=>(false,decX x,iN (decX x).length,i,b,(ZbX b (decX x)).1,(Zal b (Zbb b) (ZcN b) ((decX x).take i.toNat)).1,())) (λa=>a.2.2.2.1) (decX x).length (λ_=>rfl)
    (λi hi2=>by
     obtain⟨k1,k2,k3⟩:=ZFp hi2 (by omega);have hf:=Zir b (Zbb b) ((decX x).take i) (ZcN b) 0 hi;have hfl:((decX x).take i).length<=100:=by simp;omega
     have k4:Zf (i:Int) (ZbX b (decX x)).1.1.length=true:=by rw[htr];exact k2
     have k5:ZvX b (Zal b (Zbb b) (ZcN b) ((decX x).take i)).1=true:=by have h1:=hf.m;have h2:=hf.o;have h3:=hf.k;simp only[ZvX,Yb,YB];exact⟨s2,by omega,by omega,by omega⟩
     have k6:R.get Zia (ZbX b (decX x)).1.1 (i:Int)=(Z4 b (Zal b (Zbb b) (ZcN b) ((decX x).take i)).1 (R.get Zbt (decX x) (i:Int))).2.1:=by rw[hrun];show R.get Zia (endS _ _).1 _=_;rw[(ZOo _ _).1];exact ZRA b _ _ _ _ hi2 rfl
     have k7:(Z4 b (Zal b (Zbb b) (ZcN b) ((decX x).take i)).1 (R.get Zbt (decX x) (i:Int))).1=(Zal b (Zbb b) (ZcN b) ((decX x).take (i+1))).1:=by rw[ZyA b _ _ _ _ hi2];rfl
     simp only[Zhy,RT.val,Int.toNat_natCast,k1,k2,k3,k4,k5,k6,k7,R.eqf_refl,Yf,Yi,Ya,Yc])
    (by simp only[Zhy,RT.val,ZFy,Yc]) (by omega)
   have hloop0:runF true Zhy (λ_=>1000000000000) (false,decX x,iN (decX x).length,0,b,(ZbX b (decX x)).1,(ZcN b).1,())=_:=hloop;have hend:(Zal b (Zbb b) (ZcN b) ((decX x).take ((decX x).length:Int).toNat)).1=(ZbX b (decX x)).1.2.2.2.2:=by rw[Int.toNat_natCast,List.take_length,hrun];exact (ZOo _ _).2.symm
   obtain⟨l1,l2,l3,l4,l5,l6⟩:=Zj8 b (decX x) s2 (by omega) (by omega);obtain⟨y1,y2⟩:=ZDc (ZbX b (decX x)).1.2.2.2.2 (by omega) (by omega);have e0:(ZbX b (decX x)).2=0:=by rw[hrun]
   have e1:(ZCE b).2=0:=by rw[n3,s5]
   have e2:(ZCE b).1=(ZcN b).1:=by rw[n3];rfl
   rw[hend] at hloop0;simp only[Zq8,RT.val,hx,hb,hx2,Zmq x (by omega),ZNL.1,ZNL.2,s1,a1,n2,w1,e0,e1,e2,htr,hloop0,y1,y2,okB,getO,ZaM,Zae,Yas,Yh,Yv,Yf,Ym,Yar,Yt,Yi,YQ,Ya,Yc]
  ·simp only[Zq8,RT.val,hx,ZNL.1,Yf,Yi,Ya]
 exact⟨by simp only[ZNK,hv];rfl,by simp only[ZVD,hv,getO]⟩
end
end Go.Proofs.YtpnjbfjomebppaaGreat
