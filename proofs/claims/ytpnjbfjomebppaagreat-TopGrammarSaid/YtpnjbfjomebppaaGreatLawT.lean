import Derived.Test.YtpnjbfjomebppaaGreatGrT
open Go.IntKind (u8 u16 i64)
open Go Go.S3 Go.Proofs Go.Proofs.Cells
set_option linter.unusedVariables false
set_option linter.unusedSimpArgs false
set_option maxRecDepth 100000
namespace Go.Proofs.YtpnjbfjomebppaaGreat
noncomputable section
theorem ZC7 (w:Nat):∀n,stsC w n=stC w n
 |0=>rfl
 |1=>rfl
 |2=>by rw[ZeZ];rfl
 |n+3=>by
  rw[ZeZ,ZC7 w (n+2)];have:(n+2==1)=false:=by simp
  rw[this];rfl
theorem ZmK (w:Nat):∀m,(stsC w m).length=m+(if 2<=m then w else 0)
 |0=>by simp[stsC]
 |m+1=>by
  rw[ZeZ,Yd,ZmK w m];by_cases h1:m=1
  ·subst h1;simp;omega
  ·have:(m==1)=false:=by simpa using h1
   rw[this];simp only[Yb,List.length_cons,List.length_nil];split<;>split<;>omega
theorem ZJA (y:ITMT) (h:okI y) (h1:y.2.2.2.1<=2000) (h2:y.2.2.1<=2000):stsL y=stI y/\(((stsL y).length:Nat):Int)=y.2.2.2.1+y.2.2.1/\0<=y.2.2.1/\1<=y.2.2.2.1:=by
 rcases h with ⟨e,s1,s2,n1,n2,w1,w2⟩|⟨e,n1,w1⟩
 ·have e1:(y.1 !=1)=false:=by simp[e]
  have e2:(y.1==1)=true:=by simp[e]
  have hg:gLim y.2.2.2.1 1 (gLim y.2.1.2.2.2 3 6)=y.2.2.2.1:=by simp only[gLim,Zyh,RT.val];omega
  have hw:(min y.2.2.1 65536)=y.2.2.1:=by omega
  unfold stsL stI;rw[e1,e2,hg,hw];refine⟨ZC7 _ _,?_,w1,n1⟩;simp only[Yb];rw[ZmK];by_cases h0:0<y.2.2.1
  ·have:=(w2 h0).1;rw[YZ (by omega)];omega
  ·split<;>omega
 ·have e1:(y.1 !=1)=true:=by simp;omega
  have e2:(y.1==1)=false:=by simp;omega
  have hg:gLim y.2.2.2.1 0 65536=y.2.2.2.1:=by simp only[gLim,Zyh,RT.val];omega
  unfold stsL stI;rw[e1,e2];have hr:gRep y=((bif y.1==2 then 8 else bif y.1==3 then 9 else 10),y.2.2.2.1):=by rcases e with e|e|e<;>simp[gRep,Zyg,RT.val,e,hg]
  rw[hr];simp only[Ya,Yb,List.length_replicate];exact⟨trivial,by omega,by omega,n1⟩
theorem ZUz (x:ITMT):∀t∈stsL x,1<=t/\t<=10:=by
 intro t ht;unfold stsL at ht;cases h1:x.1 !=1
 ·rw[h1] at ht;have hg1:(gLim x.2.2.2.1 1 (gLim x.2.1.2.2.2 3 6)).toNat<=6:=by simp only[gLim,Zyh,RT.val];omega
  simp only[Yb,stsC,List.mem_flatMap,YaA] at ht;obtain⟨k,hk,ht⟩:=ht;rcases Yx.1 ht with h|h
  ·omega
  ·cases hk1:k==1
   ·rw[hk1] at h;cases h
   ·rw[hk1] at h;have:=(List.mem_replicate.1 h).2;omega
 ·rw[h1] at ht;simp only[Ya] at ht;obtain⟨h2,h3⟩:=List.mem_replicate.1 ht;revert h2 h3;unfold gRep Zyg;cases x.1==2<;>cases x.1==3<;>cases x.1==4<;>simp[RT.val]<;>omega
theorem ZLi (k:Int) (y:ITMT) (t:Int) (h1:1<=t) (h2:t<=10):pinP k y t=pinI k y t:=by
 unfold pinP pinI;rw[Zz3 k t h1 h2 y.2.1 y.2.1.2.2.1 y.2.1.2.2.1 y.2.1.2.1 y.2.2.2.2.1 y.2.2.2.2.2 (λ_=>rfl)];by_cases h:t=9
 ·subst h;exact ZXY k _ _ _ _ _ _ rfl
 ·have:(t==9)=false:=by simpa using h
  rw[this];rfl
variable {l:List ITMT}
theorem ZR4 (h:GV 2000 l) (k:Int):expP k l=expX k l:=by
 unfold expP expX;have:∀y∈l,(stsL y).map (pinP k y)=(stI y).map (pinI k y):=λy hy=>by
  have hb:=h.bd y hy;rw[<-(ZJA y (h.ok y hy) hb.1 hb.2).1];exact List.map_congr_left λt ht=>by have:=ZUz y t ht;exact ZLi k y t this.1 this.2
 have key:∀l':List ITMT,(∀y∈l',(stsL y).map (pinP k y)=(stI y).map (pinI k y))->(l'.flatMap λy=>(stsL y).map (pinP k y))=l'.flatMap λy=>(stI y).map (pinI k y):=by
  intro l'
  induction l' with
  |nil=>intro _;rfl
  |cons y l' ih=>intro hh;simp only[List.flatMap_cons];rw[hh y (by simp),ih (λz hz=>hh z (by simp[hz]))]
 exact key l this
theorem accG (k:Int):pAcc k=Zj k:=by simp[pAcc,ZV0,Zj,Zm7,RT.val,ZlY,Zi8]
theorem ZWC {y:ITMT} {f:Bool} (h:okI y) (e:y.1=1) (hf:f=false->y.2.2.2.1=y.2.1.2.2.2):ZOl y f=true:=by
 rcases h with ⟨_,s1,s2,n1,n2,w1,w2⟩|⟨e2,_⟩
 ·have a1:decide (y.2.2.2.1>y.2.1.2.2.2)=false:=by simp;omega
  have a2:decide (y.2.2.2.1<1)=false:=by simp;omega
  have a3:decide (y.2.1.2.2.2>6)=false:=by simp;omega
  have a4:decide (y.2.1.2.2.2<3)=false:=by simp;omega
  have a5:(!f&&y.2.2.2.1 !=y.2.1.2.2.2)=false:=by
   cases f
   ·simp[hf rfl]
   ·rfl
  have a6:(decide (y.2.2.1<0)||decide (y.2.2.2.1<2)&&y.2.2.1 !=0)=false:=by
   have b1:decide (y.2.2.1<0)=false:=by simp;omega
   rw[b1];by_cases h0:0<y.2.2.1
   ·have:=(w2 h0).1;have b2:decide (y.2.2.2.1<2)=false:=by simp;omega
    rw[b2];rfl
   ·have b2:(y.2.2.1 !=0)=false:=by simp;omega
    rw[b2];simp
  have a7:(y.2.2.1==0||pAcc y.2.1.1)=true:=by
   by_cases h0:0<y.2.2.1
   ·rw[accG,(w2 h0).2];simp
   ·have b2:(y.2.2.1==0)=true:=by simp;omega
    rw[b2];rfl
  simp only[ZOl,ZOi,RT.val,a1,a2,a3,a4,a5,a6,a7,orR,Yw,Yb]
 ·omega
theorem ZF0 (h:GV 2000 l) (hl:l.length<=1000000):∃i,runF true ZcY (λ_=>1000000000000) (l,false,l,iN l.length,0,())=some (false,(l,false,l,iN l.length,i,())):=by
 obtain⟨r,hr,h1,i,h2⟩:=ZI (fl:=true) (t:=ZcY) (fuel:=λ_=>1000000000000)
  (λa=>∃i:Nat,i<=l.length/\a=(l,false,l,iN l.length,(i:Int),())) (λa=>l.length-a.2.2.2.2.1.toNat)
  (λr=>r.1=false/\∃i,r.2=(l,false,l,iN l.length,i,()))
  (by
   rintro a ⟨i,hi,rfl⟩;by_cases hlt:i<l.length
   ·have k1:decide ((i:Int)<iN l.length)=true:=by simp[iN,Le];omega
    have k2:Zf (i:Int) l.length=true:=ZF.2 ⟨by omega,by omega⟩;have k3:i64.wrap ((i:Int)+1)=(i:Int)+1:=wrap_i64 _ (by omega) (by omega);have k4:i64.wrap ((i:Int)-1)=(i:Int)-1:=wrap_i64 _ (by omega) (by omega);have k5:((i:Int)+1==iN l.length||Zf ((i:Int)+1) l.length)=true:=by
     by_cases he:i+1=l.length
     ·have:((i:Int)+1==iN l.length)=true:=by simp[iN,Le];omega
      rw[this];rfl
     ·have:Zf ((i:Int)+1) l.length=true:=ZF.2 ⟨by omega,by omega⟩;rw[this];simp
    obtain⟨y,hy⟩:∃y,l[i]? =some y:=⟨_,Yh hlt⟩;have hget:R.get ZaB l (i:Int)=y:=by simp[R.get,hy]
    have hmem:y∈l:=List.mem_of_getElem? hy;have hok:=h.ok y hmem;have hp:decide ((i:Int)>0)=true->Zf ((i:Int)-1) l.length=true:=λh0=>ZF.2 ⟨by simp at h0;omega,by omega⟩
    have hpre:y.1≠1->(decide ((i:Int)>0)&&((R.get ZaB l ((i:Int)-1)).1==y.1&&((R.get ZaB l ((i:Int)-1)).2.2.2.2.1==y.2.2.2.2.1&&(R.get ZaB l ((i:Int)-1)).2.2.2.2.2==y.2.2.2.2.2)))=false:=by
     intro hne;cases h0:decide ((i:Int)>0)
     ·rfl
     ·have hi0:0<i:=by simp at h0;omega
      have ha:=h.adj (i-1) (by omega);have e1:((i-1:Nat):Int)=(i:Int)-1:=by omega
      have e2:(((i-1+1:Nat)):Int)=(i:Int):=by omega
      rw[e1,e2,hget] at ha;have:=ha.2 hne;generalize R.get ZaB l ((i:Int)-1)=z at*;by_cases q1:z.1=y.1
      ·by_cases q2:z.2.2.2.2.1=y.2.2.2.2.1
       ·have q3:z.2.2.2.2.2≠y.2.2.2.2.2:=λq3=>this ⟨q1,q2,q3⟩
        have:(z.2.2.2.2.2==y.2.2.2.2.2)=false:=by simpa using q3
        rw[this];simp
       ·have:(z.2.2.2.2.1==y.2.2.2.2.1)=false:=by simpa using q2
        rw[this];simp
      ·have:(z.1==y.1)=false:=by simpa using q1
       rw[this];simp
    have hfit:y.1=1->ZOl y ((i:Int)+1==iN l.length||(R.get ZaB l ((i:Int)+1)).1==4)=true:=λe=>ZWC hok e λhf=>by
     rw[Yn] at hf;have hi1:i+1<l.length:=by have:=hf.1;simp[iN,Le] at this;omega
     have ha:=h.adj i hi1;have e2:(((i+1:Nat)):Int)=(i:Int)+1:=by omega
     rw[hget,e2] at ha;have h4:(R.get ZaB l ((i:Int)+1)).1≠4:=by simpa using hf.2
     rcases hok with ⟨_,s1,s2,n1,n2,_⟩|⟨e3,_⟩
     ·by_cases hN:y.2.2.2.1<y.2.1.2.2.2
      ·exact absurd (ha.1 e hN) h4
      ·omega
     ·omega
    refine .inl ⟨(l,false,l,iN l.length,(i:Int)+1,()),?_,⟨i+1,by omega,rfl⟩,by simp;omega⟩;by_cases e:y.1=1
    ·have e1:(y.1==1)=true:=by simp[e]
     have hf:=hfit e;cases hd:decide ((i:Int)>0)
     ·simp only[ZcY,RT.val,k1,k2,k3,k4,k5,hget,e1,hf,hd,orR,Yf,Yl,Yv,Yj,Yi,Yw,YI,YR,YP,Yab,Ya,Yb]
     ·have k6:=hp hd;simp only[ZcY,RT.val,k1,k2,k3,k4,k5,k6,hget,e1,hf,hd,orR,Yf,Yl,Yv,Yj,Yi,Yw,YI,YR,YP,Yab,Ya,Yb]
    ·have e1:(y.1==1)=false:=by simp[e]
     have hq:=hpre e;have k10:((gRep y).1==0||(decide (y.2.2.2.1<1)||y.2.2.1 !=0))=false:=by
      rcases hok with ⟨e3,_⟩|⟨e3,n1,w1⟩
      ·exact absurd e3 e
      ·have b1:decide (y.2.2.2.1<1)=false:=by simp;omega
       have b2:(y.2.2.1 !=0)=false:=by simp[w1]
       rw[b1,b2];rcases e3 with e3|e3|e3<;>simp[gRep,Zyg,RT.val,e3]
     cases hd:decide ((i:Int)>0)
     ·simp only[ZcY,RT.val,k1,k2,k3,k4,k5,k10,hget,e1,hd,orR,Yf,Yl,Yv,Yj,Yi,Yw,YI,YR,YP,Yab,Ya,Yb]
     ·have k6:=hp hd;rw[hd] at hq;simp only[YI] at hq;simp only[ZcY,RT.val,k1,k2,k3,k4,k5,k6,k10,hget,e1,hd,hq,orR,Yf,Yl,Yv,Yj,Yi,Yw,YI,YR,YP,Yab,Ya,Yb]
   ·have k1:decide ((i:Int)<iN l.length)=false:=by simp[iN,Le];omega
    refine .inr (.inl ⟨(l,false,l,iN l.length,(i:Int),()),?_,rfl,(i:Int),rfl⟩)
    simp only[ZcY,RT.val,k1,Yb])
  (l,false,l,iN l.length,0,()) ⟨0,Yq _,rfl⟩ (by simp;omega)
 obtain⟨r1,r2⟩:=r;simp only at h1 h2;subst h1;subst h2;exact⟨i,hr⟩
theorem ZPu (h:GV 2000 l) (hl:l.length<=1000000) (k:Int):ZFx k l=true/\ZuG k l=true:=by
 obtain⟨i,hi⟩:=ZF0 h hl;have hv:(Zpn k l).val=some true:=by simp only[Zpn,RT.val,hi,okB,getO,Ya,Yb]
 simp only[ZFx,ZuG,hv,okB,getO];exact⟨trivial,Tv⟩
theorem ZRI (h:GV 2000 l) (k:Int):l.length<=(expP k l).length:=by
 have key:∀l':List ITMT,(∀y∈l',1<=(stsL y).length)->l'.length<=(expP k l').length:=by
  intro l'
  induction l' with
  |nil=>intro _;simp
  |cons y l' ih=>
   intro hh;have e:expP k (y::l')=(stsL y).map (pinP k y)++expP k l':=by simp[expP]
   rw[e,Yd,List.length_map,List.length_cons];have h1:=hh y (by simp);have h2:=ih (λz hz=>hh z (by simp[hz]));omega
 refine key l λy hy=> ?_
 have hb:=h.bd y hy;obtain⟨_,s2,s3,s4⟩:=ZJA y (h.ok y hy) hb.1 hb.2;omega
end
end Go.Proofs.YtpnjbfjomebppaaGreat
open Go Go.S3 Go.Proofs
namespace Go.Proofs.YtpnjbfjomebppaaGreat
noncomputable section
theorem ZSn (l:List ITMT) (i:Nat) (h:i<l.length):cyI (l.take (i+1))=cyI (l.take i)++(bif (R.get ZaB l (i:Int)).1==1&&decide ((R.get ZaB l (i:Int)).2.2.2.1>=3) then [(R.get ZaB l (i:Int)).2.1] else []):=by rw[ZmJ (r:=ZaB) l i h,Zex]
theorem ZOY (l:List ITMT):(cyI l).length<=l.length:=by unfold cyI;rw[List.length_map];exact List.length_filter_le _ _
theorem ZOZ:∀(l:List EVTT) (c:TC),(cyA c l).length<=wgh l
 |[],c=>Ye _
 |e::l,c=>by have h1:=ZSl c e;have h2:=ZOZ l (Zb8 c e);simp only[cyA,wgh,Yd];omega
theorem ZNP:ZPM=true/\tpKn=true:=lval9 (t:=ZPK) (by kernel_rfl)
theorem ZWd (n:List Int) (k:Nat) (hk:k<=250):ZmG n (k:Int)=true/\smG (Z3 n (k:Int)).1.2.1=true/\(Z3 n (k:Int)).1.2.2.2.2.2.2.length<=200/\(Z3 n (k:Int)).2.length<=4*k/\wNew (Z3 n (k:Int)).1=(newS (Z3 n (k:Int)).1,0):=by
 obtain⟨c1,b1,⟨s1,bs1,hr⟩,hch,_,l,hl,hi⟩:=ZxJ (ZOo n) (by omega);obtain⟨c2,_,l2⟩:=ZBS bs1 (by omega);obtain⟨c3,b3,l3,_⟩:=ZHP b1 (by omega) k hk;have hv:(ZmF n (k:Int)).val=some ((Zcu (n,0)).1,(Zgz (Zcu (n,0)).2 (k:Int)).1):=by simp only[ZmF,RT.val,c1,c3,Ya]
 have e:Z3 n (k:Int)=((Zcu (n,0)).1,(Zgz (Zcu (n,0)).2 (k:Int)).1):=by simp only[Z3,hv,getO]
 have hg:smG (Zcu (n,0)).1.2.1=true:=by rw[hr];exact smGb (by omega)
 have hil:(Zcu (n,0)).1.2.2.2.2.2.2.length<=200:=by rw[hi];exact Yy (Zel l) hl
 rw[e];refine⟨by simp only[ZmG,hv,okB],hg,hil,l3,ZE3 _ hg (Yy hil (by omega)) ?_⟩;rw[(ZrA _ hg (Yy hil (by omega))).2.1,ZUD];rfl
theorem ZW2 (l:List ITMT) (b:BRDT) (r:RUNT) (hl:l.length<=1000000):runF false Zhi (λ_=>1000000000000) (l,iN l.length,0,b,r,[],())=some (false,(l,iN l.length,(l.length:Int),b,r,cyI l,())):=by
 have hms:=mst;have h:=Zr5 (fl:=false) Zhi (λi=>(l,iN l.length,i,b,r,cyI (l.take i.toNat),())) (λa=>a.2.2.1) l.length (λ_=>rfl)
  (λi hi=>by
   obtain⟨k1,k2,k3⟩:=ZN7 hi (by omega);have hc:=ZOY (l.take i);have hb:∀x:TY,Nat.ble (cyI (l.take i)++[x]).length most=true:=λx=>ZaV (by rw[YJ] at hc;simp;omega)
   simp only[Int.toNat_natCast];rw[ZSn l i hi];simp only[Zhi,RT.val,k1,k2,k3,hb,Yj,Ya];cases hk:(R.get ZaB l (i:Int)).1==1&&decide ((R.get ZaB l (i:Int)).2.2.2.1>=3)
   ·simp only[Yb,YC]
   ·simp only[Ya])
  (by simp only[Zhi,RT.val,ZOA,Yb]) (by omega)
 rw[Int.toNat_natCast,YaD] at h;exact h
theorem ZCH:∀(k:Nat) (l:List EVTT),wgh (l.take k)<=wgh l
 |0,l=>by simp[wgh]
 |k+1,[]=>by simp[wgh]
 |k+1,e::l=>by have:=ZCH k l;simp only[List.take_succ_cons,wgh];omega
theorem got_T (l:List EVTT) (b:BRDT) (r:RUNT) (s0:TC) (w0:List TY) (hl:l.length<=1000000) (hw:wgh l<=1000000000) (he:∀e∈l,e.2.2.1.length<=1000000):
  runF false Zhh (λ_=>1000000000000) (l,iN l.length,0,b,r,s0,w0,[],())=some (false,(l,iN l.length,(l.length:Int),b,r,ZaN s0 l,w0,cyA s0 l,())):=by
 have hms:=mst;have h:=Zr5 (fl:=false) Zhh (λi=>(l,iN l.length,i,b,r,ZaN s0 (l.take i.toNat),w0,cyA s0 (l.take i.toNat),())) (λa=>a.2.2.1) l.length (λ_=>rfl)
  (λi hi=>by
   obtain⟨k1,k2,k3⟩:=ZN7 hi (by omega);have hmem:R.get Zht l (i:Int)∈l:=by
    have:R.get Zht l (i:Int)=l[i]:=by simp[R.get,Yh hi]
    rw[this];exact List.getElem_mem _
   have ht:cyA s0 (l.take (i+1))=cyA s0 (l.take i)++Zb4 (ZaN s0 (l.take i)) (R.get Zht l (i:Int)):=by rw[ZmJ (r:=Zht) l i hi,Zie]
   have ht2:ZaN s0 (l.take (i+1))=Zb8 (ZaN s0 (l.take i)) (R.get Zht l (i:Int)):=by rw[ZmJ (r:=Zht) l i hi,Zfe]
   have hwt:=ZCH (i+1) l;have hcl:=ZOZ (l.take (i+1)) s0;have hb:Nat.ble (cyA s0 (l.take i)++Zb4 (ZaN s0 (l.take i)) (R.get Zht l (i:Int))).length most=true:=ZaV (by rw[<-ht];omega);have hre:ZJ2 (R.get Zht l (i:Int))=true:=ZaV (he _ hmem);simp only[Int.toNat_natCast];rw[ht,ht2]
   simp only[Zhh,RT.val,k1,k2,k3,hb,hre,Yf,Yj,Ya])
  (by simp only[Zhh,RT.val,ZOA,Yb]) (by omega)
 rw[Int.toNat_natCast,YaD] at h;exact h
theorem tgra_law (n:List Int):ZNO n=true/\ZWn n=true:=by
 have hms:=mst;have hv:(Zrf n).val=some true:=by
  cases hx:decide (iN (List.length n)>250)
  ·obtain⟨s1,s2,s3,s4,s5⟩:=ZWd n 100 (by omega);have s1:ZmG n 100=true:=s1;have s2:smG (Z3 n 100).1.2.1=true:=s2;have s3:(Z3 n 100).1.2.2.2.2.2.2.length<=200:=s3;have s4:(Z3 n 100).2.length<=4*100:=s4;have s5:wNew (Z3 n 100).1=(newS (Z3 n 100).1,0):=s5;obtain⟨b,hb⟩:∃b,(Z3 n 100).1=b:=⟨_,rfl⟩;obtain⟨x,hx2⟩:∃x,(Z3 n 100).2=x:=⟨_,rfl⟩;rw[hb] at s2 s3 s5;rw[hx2] at s4;have hld:=dec_len x;have hroom:Zzm b x=true:=by simp only[Zzm,Yc,YF];exact⟨s2,by omega,by omega⟩
   obtain⟨g1,g2⟩:=ZP2 b (decX x) s2 (by omega) (by omega);obtain⟨e1,e2,e3⟩:=ZXr b (decX x) s2 (by omega) (by omega);obtain⟨t1,t2⟩:=ZJV b (decX x) s2 (by omega);obtain⟨t,ht,htl⟩:=ZOr b (ZM b) (decX x) (ZaS b);have hrun:=ZP3 b (decX x) s5;have htr:(Zbo b (decX x)).1.1.length=(decX x).length:=by rw[hrun];show (endS _ _).1.length=_;rw[(ZYK _ _).1,ht];show ([]++t).length=_;rw[List.nil_append,htl]
   have e0:(Zbo b (decX x)).2=0:=by rw[hrun]
   obtain⟨r,hr⟩:∃r,(Zbo b (decX x)).1=r:=⟨_,rfl⟩;rw[hr] at g1 g2 e1 e2 e3 t1 t2 htr;have x1:=ZR4 g2 b.1;rw[g1] at x1;have hil:=ZRI g2 b.1;rw[x1] at hil;obtain⟨p1,p2⟩:=ZUC r.1 (by omega);obtain⟨v1,v2⟩:=ZPu g2 (by omega) b.1;have hw2:=wgh_b r.2.2.1 1000 e2;have hw3:wgh r.2.2.1<=2001*1001:=Yy hw2 (Nat.mul_le_mul e1 (Ye _));have hk1:=ZW2 r.2.1 b r (by omega);have hst:Zy1 b=Zpb b:=rfl;have hk2:=got_T r.2.2.1 b r (Zpb b) (cyI r.2.1) (by omega) (by omega) (λe he=>Yy (e2 e he) (by omega));have hci:=ZOY r.2.1;have hL3:ZGb (cyI r.2.1)=true:=ZP5 (by omega);have hble:Nat.ble (List.length r.1) most=true:=ZaV (by omega);have hlen:(iN r.1.length !=IntKind.wrap .i64 (Int.tdiv (iN x.length) 4))=false:=by have:Int.tdiv (iN x.length) 4=((x.length/4:Nat):Int):=rfl;rw[this,wrap_i64 _ (by omega) (by omega),htr,hld];simp[iN,Le]
   simp only[Zrf,RT.val,hx,hb,hx2,s1,hroom,hr,e0,hlen,x1,p1,p2,v1,v2,hble,hk1,hst,hk2,<-t2,hL3,Zqz,ZNP.1,ZNP.2,okB,getO,ZcQ,ZbO,YaU,Yj,Yv,Yf,Yl,YaM,Yw,Yi,Y6,Ya,Yb]
  ·simp only[Zrf,RT.val,hx,ZNP.1,Yf,Yi,Ya]
 exact⟨by simp only[ZNO,hv];rfl,by simp only[ZWn,hv,getO]⟩
