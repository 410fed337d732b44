import Derived.Test.YtghoimllhpjkjaaGreatGrT
open Go.IntKind (u8 u16 i64)
open Go Go.S3 Go.Proofs Go.Proofs.Cells
set_option linter.unusedVariables false
set_option linter.unusedSimpArgs false
set_option maxRecDepth 100000
namespace Go.Proofs.YtghoimllhpjkjaaGreat
noncomputable section
theorem Zy8:kKnG=true/\ZFO=true:=by
 have h:ZIj.val=some true:=by kernel_rfl
 simp only[kKnG,ZFO,h,okB,getO];exact⟨trivial,Tv⟩
theorem ZzM (l:List PINT) (h:l.length<=100000000000):∃i,runF true ZbQ (λ_=>1000000000000) (l,l,false,iN l.length,0,())=some (false,(l,l,false,iN l.length,i,())):=by
 obtain⟨r,hr,h1,i,h2⟩:=Zaj (fl:=true) (t:=ZbQ) (fuel:=λ_=>1000000000000)
  (λa=>∃i:Nat,i<=l.length/\a=(l,l,false,iN l.length,(i:Int),())) (λa=>l.length-a.2.2.2.2.1.toNat)
  (λr=>r.1=false/\∃i,r.2=(l,l,false,iN l.length,i,()))
  (by
   rintro a ⟨i,hi,rfl⟩;by_cases hlt:i<l.length
   ·have k2:Ze (i:Int) l.length=true:=ZB.2 ⟨by omega,by omega⟩;have k3:i64.wrap ((i:Int)+1)=(i:Int)+1:=Zq _ (by omega) (by omega);have k1:decide ((i:Int)<iN l.length)=true:=by simp[iN];omega
    refine .inl ⟨(l,l,false,iN l.length,(i:Int)+1,()),?_,⟨i+1,by omega,rfl⟩,by simp;omega⟩;simp only[ZbQ,RT.val,k1,k2,k3,R.eqf_refl,Ya,Yb,Yg,Yn,Ye]
   ·have k1:decide ((i:Int)<iN l.length)=false:=by simp[iN];omega
    refine .inr (.inl ⟨(l,l,false,iN l.length,(i:Int),()),?_,rfl,(i:Int),rfl⟩)
    simp only[ZbQ,RT.val,k1,Yb])
  (l,l,false,iN l.length,0,()) ⟨0,Yo _,rfl⟩ (by simp;omega)
 obtain⟨r1,r2⟩:=r;simp only at h1 h2;subst h1;subst h2;exact⟨i,hr⟩
theorem ZzL (l:List PINT) (h:l.length<=100000000000):ZgH l l=true/\Zfo l l=true:=by
 obtain⟨i,hi⟩:=ZzM l h;have hb:(iN l.length !=iN l.length)=false:=by simp
 have hv:(ZdW l l).val=some true:=by simp only[ZdW,RT.val,hi,hb,okB,getO,Yb,Ya]
 simp only[ZgH,Zfo,hv,okB,getO];exact⟨trivial,Tv⟩
theorem Zxl (w:Nat):∀n,stsC w n=stC w n
 |0=>rfl
 |1=>rfl
 |2=>by rw[ZdP];rfl
 |n+3=>by
  rw[ZdP,Zxl w (n+2)];have:(n+2==1)=false:=by simp
  rw[this];rfl
theorem Zjx (w:Nat):∀m,(stsC w m).length=m+(if 2<=m then w else 0)
 |0=>by simp[stsC]
 |m+1=>by
  rw[ZdP,Yf,Zjx w m];by_cases h1:m=1
  ·subst h1;simp;omega
  ·have:(m==1)=false:=by simpa using h1
   rw[this];simp only[Yb,List.length_cons,List.length_nil];split<;>split<;>omega
theorem ZtZ (y:ITMT) (h:okI y) (h1:y.2.2.2.1<=2000) (h2:y.2.2.1<=2000):stsL y=stI y/\(((stsL y).length:Nat):Int)=y.2.2.2.1+y.2.2.1/\0<=y.2.2.1/\1<=y.2.2.2.1:=by
 rcases h with ⟨e,s1,s2,n1,n2,w1,w2⟩|⟨e,n1,w1⟩
 ·have e1:(y.1 !=1)=false:=by simp[e]
  have e2:(y.1==1)=true:=by simp[e]
  have hg:gLim y.2.2.2.1 1 (gLim y.2.1.2.2.2 3 6)=y.2.2.2.1:=by simp only[gLim,Zs9,RT.val];omega
  have hw:(min y.2.2.1 65536)=y.2.2.1:=by omega
  unfold stsL stI;rw[e1,e2,hg,hw];refine⟨Zxl _ _,?_,w1,n1⟩;simp only[Yb];rw[Zjx];by_cases h0:0<y.2.2.1
  ·have:=(w2 h0).1;rw[YV (by omega)];omega
  ·split<;>omega
 ·have e1:(y.1 !=1)=true:=by simp;omega
  have e2:(y.1==1)=false:=by simp;omega
  have hg:gLim y.2.2.2.1 0 65536=y.2.2.2.1:=by simp only[gLim,Zs9,RT.val];omega
  unfold stsL stI;rw[e1,e2];have hr:gRep y=((bif y.1==2 then 8 else bif y.1==3 then 9 else 10),y.2.2.2.1):=by rcases e with e|e|e<;>simp[gRep,Zs8,RT.val,e,hg]
  rw[hr];simp only[Ya,Yb,List.length_replicate];exact⟨trivial,by omega,by omega,n1⟩
theorem ZKA (x:ITMT):∀t∈stsL x,1<=t/\t<=10:=by
 intro t ht;unfold stsL at ht;cases h1:x.1 !=1
 ·rw[h1] at ht;have hg1:(gLim x.2.2.2.1 1 (gLim x.2.1.2.2.2 3 6)).toNat<=6:=by simp only[gLim,Zs9,RT.val];omega
  simp only[Yb,stsC,List.mem_flatMap,Yaw] at ht;obtain⟨k,hk,ht⟩:=ht;rcases YA.1 ht with h|h
  ·omega
  ·cases hk1:k==1
   ·rw[hk1] at h;cases h
   ·rw[hk1] at h;have:=(List.mem_replicate.1 h).2;omega
 ·rw[h1] at ht;simp only[Ya] at ht;obtain⟨h2,h3⟩:=List.mem_replicate.1 ht;revert h2 h3;unfold gRep Zs8;cases x.1==2<;>cases x.1==3<;>cases x.1==4<;>simp[RT.val]<;>omega
theorem ZEQ (k:Int) (y:ITMT) (t:Int) (h1:1<=t) (h2:t<=10):pinP k y t=pinI k y t:=by
 unfold pinP pinI;rw[ZLi k t h1 h2 y.2.1 y.2.1.2.2.1 y.2.1.2.2.1 y.2.1.2.1 y.2.2.2.2.1 y.2.2.2.2.2 (λ_=>rfl)];by_cases h:t=9
 ·subst h;exact ZMQ k _ _ _ _ _ _ rfl
 ·have:(t==9)=false:=by simpa using h
  rw[this];rfl
variable {l:List ITMT}
theorem ZIA (h:GV 2000 l) (k:Int):expP k l=expX k l:=by
 unfold expP expX;have:∀y∈l,(stsL y).map (pinP k y)=(stI y).map (pinI k y):=λy hy=>by
  have hb:=h.bd y hy;rw[<-(ZtZ y (h.ok y hy) hb.1 hb.2).1];exact List.map_congr_left λt ht=>by have:=ZKA y t ht;exact ZEQ k y t this.1 this.2
 have key:∀l':List ITMT,(∀y∈l',(stsL y).map (pinP k y)=(stI y).map (pinI k y))->(l'.flatMap λy=>(stsL y).map (pinP k y))=l'.flatMap λy=>(stI y).map (pinI k y):=by
  intro l'
  induction l' with
  |nil=>intro _;rfl
  |cons y l' ih=>intro hh;simp only[List.flatMap_cons];rw[hh y (by simp),ih (λz hz=>hh z (by simp[hz]))]
 exact key l this
theorem Znh (b:BRDT) (s0:TC):∀(l:List INPT) (st:STT),(Za8 b s0 st l).2.1.length=st.2.1.length+l.length
 |[],st=>rfl
 |i::l,st=>by have:=Znh b s0 l (Zbv b s0 st i);show (Za8 b s0 (Zbv b s0 st i) l).2.1.length=_;rw[this];show (st.2.1++[_]).length+l.length=_;simp only[Yf,List.length_cons,List.length_nil];omega
theorem ZDb (b:BRDT) (l:List INPT):(Zej b l).1.1.length<=l.length:=by
 unfold Zej;cases (wNew b).2 !=0
 ·have:=Znh b (Zae b) l (Zby b);show (endS (Zae b) (Za8 b (Zae b) (Zby b) l)).1.length<=_;show (Za8 b (Zae b) (Zby b) l).2.1.length<=_;rw[this];show ([]:List PINT).length+l.length<=_;simp
 ·exact Yo _
def scrG (n:List Int):List INPT:=ZaC (Za0 (ZF (n,0)).2 80).1
theorem ZHh (n:List Int):ZpU n=true/\ZaL n=(brdK n true,(Zej (brdK n true) (scrG n)).1)/\smG (brdK n true).2.1=true/\(brdK n true).2.2.2.2.2.2.length<=200/\(scrG n).length<=80:=by
 obtain⟨_,_,hg,hm,_,_⟩:=ZKC n true;obtain⟨c1,b1,_⟩:=ZsD (ZGd n) (by omega);obtain⟨c3,b3,l3,_⟩:=Zm2 b1 (by omega) 80 (by omega);have hl3:(Za0 (ZF (n,0)).2 80).1.length<=4*80:=l3;have hd:=(Zhv (Za0 (ZF (n,0)).2 80).1 (by omega)).2;have hsl:(scrG n).length<=80:=by unfold scrG;rw[hd];omega
 obtain⟨w1,w2⟩:=ZBW (brdK n true) (Za0 (ZF (n,0)).2 80).1 hg (by omega) (by omega);have c3':ZcV (ZF (n,0)).2 80=true:=c3;have e:(ZF (n,0)).1=brdK n true:=rfl;have hv:(Zlx n).val=some (brdK n true,(Zej (brdK n true) (scrG n)).1):=by simp only[Zlx,RT.val,c1,c3',e,w1,w2,Ye,Ya];rfl
 exact⟨by simp only[ZpU,hv];rfl,by simp only[ZaL,hv,getO],hg,hm,hsl⟩
theorem accG (k:Int):pAcc k=Zm k:=by simp[pAcc,ZLr,Zm,ZgU,RT.val,Zi2,ZgY]
theorem ZLU {y:ITMT} {f:Bool} (h:okI y) (e:y.1=1) (hf:f=false->y.2.2.2.1=y.2.1.2.2.2):ZF9 y f=true:=by
 rcases h with ⟨_,s1,s2,n1,n2,w1,w2⟩|⟨e2,_⟩
 ·have a1:decide (y.2.2.2.1>y.2.1.2.2.2)=false:=by simp;omega
  have a2:decide (y.2.2.2.1<1)=false:=by simp;omega
  have a3:decide (y.2.1.2.2.2>6)=false:=by simp;omega
  have a4:decide (y.2.1.2.2.2<3)=false:=by simp;omega
  have a5:(!f&&y.2.2.2.1 !=y.2.1.2.2.2)=false:=by
   cases f
   ·simp[hf rfl]
   ·rfl
  have a6:(decide (y.2.2.1<0)||decide (y.2.2.2.1<2)&&y.2.2.1 !=0)=false:=by
   have b1:decide (y.2.2.1<0)=false:=by simp;omega
   rw[b1];by_cases h0:0<y.2.2.1
   ·have:=(w2 h0).1;have b2:decide (y.2.2.2.1<2)=false:=by simp;omega
    rw[b2];rfl
   ·have b2:(y.2.2.1 !=0)=false:=by simp;omega
    rw[b2];simp
  have a7:(y.2.2.1==0||pAcc y.2.1.1)=true:=by
   by_cases h0:0<y.2.2.1
   ·rw[accG,(w2 h0).2];simp
   ·have b2:(y.2.2.1==0)=true:=by simp;omega
    rw[b2];rfl
  simp only[ZF9,ZF6,RT.val,a1,a2,a3,a4,a5,a6,a7,orR,Yz,Yb]
 ·omega
theorem ZzD (h:GV 2000 l) (hl:l.length<=1000000):∃i,runF true Zb4 (λ_=>1000000000000) (l,false,l,iN l.length,0,())=some (false,(l,false,l,iN l.length,i,())):=by
 obtain⟨r,hr,h1,i,h2⟩:=Zaj (fl:=true) (t:=Zb4) (fuel:=λ_=>1000000000000)
  (λa=>∃i:Nat,i<=l.length/\a=(l,false,l,iN l.length,(i:Int),())) (λa=>l.length-a.2.2.2.2.1.toNat)
  (λr=>r.1=false/\∃i,r.2=(l,false,l,iN l.length,i,()))
  (by
   rintro a ⟨i,hi,rfl⟩;by_cases hlt:i<l.length
   ·have k1:decide ((i:Int)<iN l.length)=true:=by simp[iN];omega
    have k2:Ze (i:Int) l.length=true:=ZB.2 ⟨by omega,by omega⟩;have k3:i64.wrap ((i:Int)+1)=(i:Int)+1:=Zq _ (by omega) (by omega);have k4:i64.wrap ((i:Int)-1)=(i:Int)-1:=Zq _ (by omega) (by omega);have k5:((i:Int)+1==iN l.length||Ze ((i:Int)+1) l.length)=true:=by
     by_cases he:i+1=l.length
     ·have:((i:Int)+1==iN l.length)=true:=by simp[iN];omega
      rw[this];rfl
     ·have:Ze ((i:Int)+1) l.length=true:=ZB.2 ⟨by omega,by omega⟩;rw[this];simp
    obtain⟨y,hy⟩:∃y,l[i]? =some y:=⟨_,Yk hlt⟩;have hget:R.get Zav l (i:Int)=y:=by simp[R.get,hy]
    have hmem:y∈l:=List.mem_of_getElem? hy;have hok:=h.ok y hmem;have hp:decide ((i:Int)>0)=true->Ze ((i:Int)-1) l.length=true:=λh0=>ZB.2 ⟨by simp at h0;omega,by omega⟩
    have hpre:y.1≠1->(decide ((i:Int)>0)&&((R.get Zav l ((i:Int)-1)).1==y.1&&((R.get Zav l ((i:Int)-1)).2.2.2.2.1==y.2.2.2.2.1&&(R.get Zav l ((i:Int)-1)).2.2.2.2.2==y.2.2.2.2.2)))=false:=by
     intro hne;cases h0:decide ((i:Int)>0)
     ·rfl
     ·have hi0:0<i:=by simp at h0;omega
      have ha:=h.adj (i-1) (by omega);have e1:((i-1:Nat):Int)=(i:Int)-1:=by omega
      have e2:(((i-1+1:Nat)):Int)=(i:Int):=by omega
      rw[e1,e2,hget] at ha;have:=ha.2 hne;generalize R.get Zav l ((i:Int)-1)=z at*;by_cases q1:z.1=y.1
      ·by_cases q2:z.2.2.2.2.1=y.2.2.2.2.1
       ·have q3:z.2.2.2.2.2≠y.2.2.2.2.2:=λq3=>this ⟨q1,q2,q3⟩
        have:(z.2.2.2.2.2==y.2.2.2.2.2)=false:=by simpa using q3
        rw[this];simp
       ·have:(z.2.2.2.2.1==y.2.2.2.2.1)=false:=by simpa using q2
        rw[this];simp
      ·have:(z.1==y.1)=false:=by simpa using q1
       rw[this];simp
    have hfit:y.1=1->ZF9 y ((i:Int)+1==iN l.length||(R.get Zav l ((i:Int)+1)).1==4)=true:=λe=>ZLU hok e λhf=>by
     rw[Yj] at hf;have hi1:i+1<l.length:=by have:=hf.1;simp[iN] at this;omega
     have ha:=h.adj i hi1;have e2:(((i+1:Nat)):Int)=(i:Int)+1:=by omega
     rw[hget,e2] at ha;have h4:(R.get Zav l ((i:Int)+1)).1≠4:=by simpa using hf.2
     rcases hok with ⟨_,s1,s2,n1,n2,_⟩|⟨e3,_⟩
     ·by_cases hN:y.2.2.2.1<y.2.1.2.2.2
      ·exact absurd (ha.1 e hN) h4
      ·omega
     ·omega
    refine .inl ⟨(l,false,l,iN l.length,(i:Int)+1,()),?_,⟨i+1,by omega,rfl⟩,by simp;omega⟩;by_cases e:y.1=1
    ·have e1:(y.1==1)=true:=by simp[e]
     have hf:=hfit e;cases hd:decide ((i:Int)>0)
     ·simp only[Zb4,RT.val,k1,k2,k3,k4,k5,hget,e1,hf,hd,orR,Yg,Yq,YC,Ye,Yn,Yz,YM,YS,YN,YU,Ya,Yb]
     ·have k6:=hp hd;simp only[Zb4,RT.val,k1,k2,k3,k4,k5,k6,hget,e1,hf,hd,orR,Yg,Yq,YC,Ye,Yn,Yz,YM,YS,YN,YU,Ya,Yb]
    ·have e1:(y.1==1)=false:=by simp[e]
     have hq:=hpre e;have k10:((gRep y).1==0||(decide (y.2.2.2.1<1)||y.2.2.1 !=0))=false:=by
      rcases hok with ⟨e3,_⟩|⟨e3,n1,w1⟩
      ·exact absurd e3 e
      ·have b1:decide (y.2.2.2.1<1)=false:=by simp;omega
       have b2:(y.2.2.1 !=0)=false:=by simp[w1]
       rw[b1,b2];rcases e3 with e3|e3|e3<;>simp[gRep,Zs8,RT.val,e3]
     cases hd:decide ((i:Int)>0)
     ·simp only[Zb4,RT.val,k1,k2,k3,k4,k5,k10,hget,e1,hd,orR,Yg,Yq,YC,Ye,Yn,Yz,YM,YS,YN,YU,Ya,Yb]
     ·have k6:=hp hd;rw[hd] at hq;simp only[YM] at hq;simp only[Zb4,RT.val,k1,k2,k3,k4,k5,k6,k10,hget,e1,hd,hq,orR,Yg,Yq,YC,Ye,Yn,Yz,YM,YS,YN,YU,Ya,Yb]
   ·have k1:decide ((i:Int)<iN l.length)=false:=by simp[iN];omega
    refine .inr (.inl ⟨(l,false,l,iN l.length,(i:Int),()),?_,rfl,(i:Int),rfl⟩)
    simp only[Zb4,RT.val,k1,Yb])
  (l,false,l,iN l.length,0,()) ⟨0,Yo _,rfl⟩ (by simp;omega)
 obtain⟨r1,r2⟩:=r;simp only at h1 h2;subst h1;subst h2;exact⟨i,hr⟩
theorem ZGX (h:GV 2000 l) (hl:l.length<=1000000) (k:Int):Zs5 k l=true/\ZhZ k l=true:=by
 obtain⟨i,hi⟩:=ZzD h hl;have hv:(ZlD k l).val=some true:=by simp only[ZlD,RT.val,hi,okB,getO,Ya,Yb]
 simp only[Zs5,ZhZ,hv,okB,getO];exact⟨trivial,Tv⟩
theorem ZIz (k:Int) (l:List ITMT) (y:ITMT):(expP k (l++[y])).length=(expP k l).length+(stsL y).length:=by rw[Ztj,Yf,List.length_map]
theorem Zt2 (h:GV 2000 l) (k:Int) (hb:(expP k l).length<=1000000) (hl:l.length<=1000000):
  ∃c w d t z i,runF false Zbt (λ_=>1000000000000) (0,0,0,0,0,l,iN l.length,0,())=some (false,(c,w,d,t,z,l,iN l.length,i,()))/\(0<=c/\0<=w/\0<=d/\0<=t/\0<=z)/\c+w+d+t+z=((expP k l).length:Int):=by
 obtain⟨r,hr,h1,c,w,d,t,z,i,h2,h3,h4⟩:=Zaj (fl:=false) (t:=Zbt) (fuel:=λ_=>1000000000000)
  (λa=>∃(i:Nat) (c w d t z:Int),i<=l.length/\a=(c,w,d,t,z,l,iN l.length,(i:Int),())/\(0<=c/\0<=w/\0<=d/\0<=t/\0<=z)/\c+w+d+t+z=((expP k (l.take i)).length:Int)) (λa=>l.length-a.2.2.2.2.2.2.2.1.toNat)
  (λr=>r.1=false/\∃c w d t z i,r.2=(c,w,d,t,z,l,iN l.length,i,())/\(0<=c/\0<=w/\0<=d/\0<=t/\0<=z)/\c+w+d+t+z=((expP k l).length:Int))
  (by
   rintro a ⟨i,c,w,d,t,z,hi,rfl,⟨p1,p2,p3,p4,p5⟩,hs⟩;by_cases hlt:i<l.length
   ·have k1:decide ((i:Int)<iN l.length)=true:=by simp[iN];omega
    have k2:Ze (i:Int) l.length=true:=ZB.2 ⟨by omega,by omega⟩;have k3:i64.wrap ((i:Int)+1)=(i:Int)+1:=Zq _ (by omega) (by omega);obtain⟨y,hy⟩:∃y,l[i]? =some y:=⟨_,Yk hlt⟩;have hget:R.get Zav l (i:Int)=y:=by simp[R.get,hy]
    have hmem:y∈l:=List.mem_of_getElem? hy;have hok:=h.ok y hmem;have hbd:=h.bd y hmem;obtain⟨_,s2,s3,s4⟩:=ZtZ y hok hbd.1 hbd.2;have htk:l.take (i+1)=l.take i++[y]:=by rw[List.take_add_one,hy];rfl
    have hex:=ZIz k (l.take i) y;rw[<-htk] at hex;have hle:(expP k (l.take i)).length<=(expP k l).length:=by have:=ZGi k (l.take i) (l.drop i);rw[YaC] at this;exact this
    have m1:(if 0>y.2.2.2.1 then 0 else y.2.2.2.1)=y.2.2.2.1:=YX (by omega);have m2:(if 0>y.2.2.1 then 0 else y.2.2.1)=y.2.2.1:=YX (by omega);have wc:i64.wrap (c+y.2.2.2.1)=c+y.2.2.2.1:=Zq _ (by omega) (by omega);have ww:i64.wrap (w+y.2.2.1)=w+y.2.2.1:=Zq _ (by omega) (by omega);have wd:i64.wrap (d+y.2.2.2.1)=d+y.2.2.2.1:=Zq _ (by omega) (by omega);have wt:i64.wrap (t+y.2.2.2.1)=t+y.2.2.2.1:=Zq _ (by omega) (by omega);have wz:i64.wrap (z+y.2.2.2.1)=z+y.2.2.2.1:=Zq _ (by omega) (by omega);rcases hok with ⟨e,_⟩|⟨e,_,e0⟩
    ·have e1:(y.1==1)=true:=by simp[e]
     refine .inl ⟨(c+y.2.2.2.1,w+y.2.2.1,d,t,z,l,iN l.length,(i:Int)+1,()),?_,⟨i+1,c+y.2.2.2.1,w+y.2.2.1,d,t,z,by omega,rfl,⟨by omega,by omega,p3,p4,p5⟩,by rw[hex];omega⟩,by simp;omega⟩;simp only[Zbt,RT.val,k1,k2,k3,hget,e1,m1,m2,wc,ww,Ya]
    ·rcases e with e|e|e
     ·have e1:(y.1==1)=false:=by simp[e]
      have e2:(y.1==2)=true:=by simp[e]
      refine .inl ⟨(c,w,d+y.2.2.2.1,t,z,l,iN l.length,(i:Int)+1,()),?_,⟨i+1,c,w,d+y.2.2.2.1,t,z,by omega,rfl,⟨p1,p2,by omega,p4,p5⟩,by rw[hex];omega⟩,by simp;omega⟩;simp only[Zbt,RT.val,k1,k2,k3,hget,e1,e2,m1,m2,wd,Ya,Yb]
     ·have e1:(y.1==1)=false:=by simp[e]
      have e2:(y.1==2)=false:=by simp[e]
      have e3:(y.1==3)=true:=by simp[e]
      refine .inl ⟨(c,w,d,t+y.2.2.2.1,z,l,iN l.length,(i:Int)+1,()),?_,⟨i+1,c,w,d,t+y.2.2.2.1,z,by omega,rfl,⟨p1,p2,p3,by omega,p5⟩,by rw[hex];omega⟩,by simp;omega⟩;simp only[Zbt,RT.val,k1,k2,k3,hget,e1,e2,e3,m1,m2,wt,Ya,Yb]
     ·have e1:(y.1==1)=false:=by simp[e]
      have e2:(y.1==2)=false:=by simp[e]
      have e3:(y.1==3)=false:=by simp[e]
      have e4:(y.1==4)=true:=by simp[e]
      refine .inl ⟨(c,w,d,t,z+y.2.2.2.1,l,iN l.length,(i:Int)+1,()),?_,⟨i+1,c,w,d,t,z+y.2.2.2.1,by omega,rfl,⟨p1,p2,p3,p4,by omega⟩,by rw[hex];omega⟩,by simp;omega⟩;simp only[Zbt,RT.val,k1,k2,k3,hget,e1,e2,e3,e4,m1,m2,wz,Ya,Yb]
   ·have k1:decide ((i:Int)<iN l.length)=false:=by simp[iN];omega
    have htk:l.take i=l:=Yao (by omega);rw[htk] at hs;refine .inr (.inl ⟨(c,w,d,t,z,l,iN l.length,(i:Int),()),?_,rfl,c,w,d,t,z,(i:Int),rfl,⟨p1,p2,p3,p4,p5⟩,hs⟩)
    simp only[Zbt,RT.val,k1,Yb])
  (0,0,0,0,0,l,iN l.length,0,()) ⟨0,0,0,0,0,0,Yo _,rfl,by omega,by simp[expP]⟩ (by simp;omega)
 obtain⟨r1,r2⟩:=r;simp only at h1 h2;subst h1;subst h2;exact⟨c,w,d,t,z,i,hr,h3,h4⟩
theorem ZIk (h:GV 2000 l) (k:Int):l.length<=(expP k l).length:=by
 have key:∀l':List ITMT,(∀y∈l',1<=(stsL y).length)->l'.length<=(expP k l').length:=by
  intro l'
  induction l' with
  |nil=>intro _;simp
  |cons y l' ih=>
   intro hh;have e:expP k (y::l')=(stsL y).map (pinP k y)++expP k l':=by simp[expP]
   rw[e,Yf,List.length_map,List.length_cons];have h1:=hh y (by simp);have h2:=ih (λz hz=>hh z (by simp[hz]));omega
 refine key l λy hy=> ?_
 have hb:=h.bd y hy;obtain⟨_,s2,s3,s4⟩:=ZtZ y (h.ok y hy) hb.1 hb.2;omega
theorem traces_law (n:List Int):ZFG n=true/\ZLF n=true:=by
 have hv:(Zm8 n).val=some true:=by
  cases hx:decide (iN (List.length n)>250)
  ·obtain⟨r1,r2,hg,hm,hs⟩:=ZHh n;obtain⟨g1,g2⟩:=ZHj (brdK n true) (scrG n) hg (by omega) (by omega);have ht:=ZDb (brdK n true) (scrG n);have e1:=ZIA g2 (brdK n true).1;rw[g1] at e1;have hil:=ZIk g2 (brdK n true).1;rw[e1] at hil;obtain⟨s1,s2⟩:=ZzL (Zej (brdK n true) (scrG n)).1.1 (by omega);obtain⟨v1,v2⟩:=ZGX g2 (by omega) (brdK n true).1;obtain⟨c,w,d,t,z,i,q1,⟨p1,p2,p3,p4,p5⟩,q2⟩:=Zt2 g2 (brdK n true).1 (by rw[e1];omega) (by omega);rw[e1] at q2;have hst:(Zhg (Zej (brdK n true) (scrG n)).1.2.1).val=some (c,w,d,t,z):=by simp only[Zhg,RT.val,q1,okB,getO,Ya]
   have hs1:Zer (Zej (brdK n true) (scrG n)).1.2.1=(c,w,d,t,z):=by simp only[Zer,hst,getO]
   have hs2:Zhh (Zej (brdK n true) (scrG n)).1.2.1=true:=by simp only[Zhh,hst,okB]
   have hsum:(i64.wrap (i64.wrap (i64.wrap (i64.wrap (c+w)+d)+t)+z)==iN (List.length (Zej (brdK n true) (scrG n)).1.1))=true:=by rw[Zq (c+w) (by omega) (by omega),Zq (c+w+d) (by omega) (by omega),Zq (c+w+d+t) (by omega) (by omega),Zq (c+w+d+t+z) (by omega) (by omega),q2];simp[iN]
   have hble:Nat.ble (List.length (Zej (brdK n true) (scrG n)).1.1) most=true:=by rw[YT];simp only[most];omega
   simp only[Zm8,RT.val,hx,r1,r2,e1,s1,s2,v1,v2,hs1,hs2,hsum,hble,Zy8.1,Zy8.2,orR,Yg,Yq,YC,Ye,Yn,Yz,YM,YS,YN,YU,Ya,Yb]
  ·simp only[Zm8,RT.val,hx,Zy8.1,Zy8.2,orR,Yg,Yq,YC,Ye,Yn,Yz,YM,YS,YN,YU,Ya,Yb]
 exact⟨by simp only[ZFG,hv];rfl,by simp only[ZLF,hv,getO]⟩
end
end Go.Proofs.YtghoimllhpjkjaaGreat
