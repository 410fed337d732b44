import Derived.Test.YtlgmapcjapofoaaGrQ
open Go.IntKind (u8 u16 i64)
open Go Go.S3 Go.Proofs
set_option linter.unusedVariables false
set_option linter.unusedSimpArgs false
set_option maxRecDepth 100000
namespace Go.Proofs.Ytlgmapcjapofoaa
noncomputable section
def clp (v:Int):Int:=if (if 1000<v then 1000 else v)>0 then (if 1000<v then 1000 else v) else 0
theorem Zj7 (l:List ITMT) (hl:l.length<=9223372036854775807):∃n i,runF false Zbo (λ_=>10000000000000000000) (l,0,l,iN l.length,0,())=some (false,(l,n,l,iN l.length,i,()))/\(l.length<=60->∀y∈l,clp y.2.2.2.1<=n/\clp y.2.2.1<=n):=by
 obtain⟨r,hr,h1,n,i,h2,h3⟩:=Zav (fl:=false) (t:=Zbo) (fuel:=λ_=>10000000000000000000)
  (λa=>∃(i:Nat) (n:Int),i<=l.length/\a=(l,n,l,iN l.length,(i:Int),())/\(l.length<=60->0<=n/\n<=2000*(i:Int)/\∀y∈l.take i,clp y.2.2.2.1<=n/\clp y.2.2.1<=n)) (λa=>l.length-a.2.2.2.2.1.toNat)
  (λr=>r.1=false/\∃n i,r.2=(l,n,l,iN l.length,i,())/\(l.length<=60->∀y∈l,clp y.2.2.2.1<=n/\clp y.2.2.1<=n))
  (by
   rintro a ⟨i,n,hi,rfl,hs⟩
   by_cases hlt:i<l.length
   ·have k1:decide ((i:Int)<iN l.length)=true:=by simp[iN];omega
    have k2:ZS (i:Int) l.length=true:=ZP.2 ⟨by omega,by omega⟩
    have k3:i64.wrap ((i:Int)+1)=(i:Int)+1:=ZH _ (by omega) (by omega)
    obtain⟨x,hx⟩:∃x,l[i]? =some x:=⟨_,List.getElem?_eq_getElem hlt⟩
    have hget:R.get ZB l (i:Int)=x:=by simp[R.get,hx]
    have htk:l.take (i+1)=l.take i++[x]:=by rw[List.take_add_one,hx];rfl
    have cb:∀v,0<=clp v/\clp v<=1000:=λv=>by unfold clp;omega
    refine .inl ⟨(l,i64.wrap (n+i64.wrap (clp x.2.2.2.1+clp x.2.2.1)),l,iN l.length,(i:Int)+1,()),?_,⟨i+1,_,by omega,rfl,λh60=> ?_⟩,by simp;omega⟩
    ·simp only[Zbo,RT.val,k1,k2,k3,hget,cond_true]
     rfl
    ·obtain⟨q1,q2,q3⟩:=hs h60
     have b1:=cb x.2.2.2.1
     have b2:=cb x.2.2.1
     have w1:i64.wrap (clp x.2.2.2.1+clp x.2.2.1)=clp x.2.2.2.1+clp x.2.2.1:=ZH _ (by omega) (by omega)
     have w2:i64.wrap (n+(clp x.2.2.2.1+clp x.2.2.1))=n+(clp x.2.2.2.1+clp x.2.2.1):=ZH _ (by omega) (by omega)
     rw[w1,w2]
     refine⟨by omega,by omega,λy hy=> ?_⟩
     rw[htk] at hy
     rcases List.mem_append.1 hy with hy|hy
     ·have:=q3 y hy;omega
     ·rw[List.mem_singleton] at hy;rw[hy];omega
   ·have k1:decide ((i:Int)<iN l.length)=false:=by simp[iN];omega
    have htk:l.take i=l:=List.take_of_length_le (by omega)
    refine .inr (.inl ⟨(l,n,l,iN l.length,(i:Int),()),?_,rfl,n,(i:Int),rfl,λh60=>by have:=(hs h60).2.2;rw[htk] at this;exact this⟩)
    simp only[Zbo,RT.val,k1,cond_false])
  (l,0,l,iN l.length,0,()) ⟨0,0,Nat.zero_le _,rfl,λ_=>⟨Int.le_refl _,Int.le_refl _,λy hy=>by simp at hy⟩⟩ (by simp;omega)
 obtain⟨r1,r2⟩:=r
 simp only at h1 h2
 subst h1;subst h2
 exact⟨n,i,hr,h3⟩
theorem ZmL (l:List ITMT) (hl:l.length<=9223372036854775807):Zgx l=true/\(Zcm l=true->l.length<=60/\∀y∈l,y.2.2.2.1<=900/\y.2.2.1<=900):=by
 obtain⟨n,i,hr,hs⟩:=Zj7 l hl
 have hv:(ZeJ l).val=some (decide (iN l.length<=60)&&decide (n<=900)):=by
  simp only[ZeJ,RT.val,hr,okB,getO,cond_true]
 refine⟨by simp only[Zgx,hv,okB],λh=> ?_⟩
 have h':(decide (iN l.length<=60)&&decide (n<=900))=true:=by
  have e:Zcm l=(decide (iN l.length<=60)&&decide (n<=900)):=by simp only[Zcm,hv,getO]
  rw[<-e];exact h
 simp only[Bool.and_eq_true,decide_eq_true_eq,iN] at h'
 have h60:l.length<=60:=by have:=h'.1;omega
 refine⟨h60,λy hy=> ?_⟩
 obtain⟨q1,q2⟩:=hs h60 y hy
 unfold clp at q1 q2
 omega
def Few (x:List ITMT):Prop:=x.length<=100/\∀c,(expP c x).length<=200000
theorem Zm2 (n:List Int):Few (ZeH n):=⟨by have:=(ZiE n).2.1;omega,λc=>by have:=ZmK c n;omega⟩
theorem ZlX (l:List ITMT) (h1:l.length<=60) (h2:∀y∈l,y.2.2.2.1<=900/\y.2.2.1<=900):Few l:=
 ⟨by omega,λc=>by
  have:=ZiW c 1806 l (λy hy=>by have h4:=Zi7 y;have:=h2 y hy;omega)
  have h7:l.length*1806<=60*1806:=Nat.mul_le_mul_right 1806 h1
  omega⟩
theorem Zn1 {x:List ITMT} (h:Few x) (c:Int):Nat.ble (expP c x).length most=true/\ZlQ c x=expP c x/\ZhL c x=true/\ZbM (expP c x) (expP c x)=true/\Zbj (expP c x) (expP c x)=true:=by
 have hb:=h.2 c
 have hx:=h.1
 obtain⟨e1,e2⟩:=Zoz c x (by omega) (by simp only[most];omega)
 obtain⟨s1,s2⟩:=ZkH (expP c x) (by omega)
 exact⟨by rw[Nat.ble_eq];simp only[most];omega,e1,e2,s1,s2⟩
theorem Zkn {l M:List ITMT} (hl:Few l) (hM:Few M) (c:Int) (cs:QT6) (ci:Int):
  ∃j,runF true Zbw (λ_=>5) (l,false,c,cs,ci,(l,M),0,M,())=some (false,(l,false,c,cs,ci,(l,M),j,M,())):=by
 obtain⟨r,hr,h1,j,h2⟩:=Zav (fl:=true) (t:=Zbw) (fuel:=λ_=>5)
  (λa=>∃j:Nat,j<=2/\a=(l,false,c,cs,ci,(l,M),(j:Int),M,())) (λa=>2-a.2.2.2.2.2.2.1.toNat)
  (λr=>r.1=false/\∃j,r.2=(l,false,c,cs,ci,(l,M),j,M,()))
  (by
   rintro a ⟨j,hj,rfl⟩
   by_cases hlt:j<2
   ·have hF:∀x,Few x->(bif ((j:Int)==0) then l else M)=x->∃a',(Zbw (l,false,c,cs,ci,(l,M),(j:Int),M,())).val=some (.cont a')/\(∃j:Nat,j<=2/\a'=(l,false,c,cs,ci,(l,M),(j:Int),M,()))/\2-a'.2.2.2.2.2.2.1.toNat<2-((j:Int)).toNat:=by
     intro x hx e
     have k1:decide ((j:Int)<2)=true:=by simp;omega
     have k2:decide (0<=(j:Int)/\(j:Int)<2)=true:=by simp;omega
     have k3:i64.wrap ((j:Int)+1)=(j:Int)+1:=ZH _ (by omega) (by omega)
     obtain⟨f1,f2,f3,f4,f5⟩:=Zn1 hx c
     refine⟨(l,false,c,cs,ci,(l,M),(j:Int)+1,M,()),?_,⟨j+1,by omega,rfl⟩,by simp;omega⟩
     simp only[Zbw,RT.val,k1,k2,k3,e,newG,f1,f2,f3,f4,f5,cond_true,cond_false,Bool.not_true,Bool.false_or,Bool.or_true]
    refine .inl ?_
    by_cases h0:j=0
    ·exact hF l hl (by rw[h0];rfl)
    ·exact hF M hM (by rw[show j=1 by omega];rfl)
   ·have k1:decide ((j:Int)<2)=false:=by simp;omega
    refine .inr (.inl ⟨(l,false,c,cs,ci,(l,M),(j:Int),M,()),?_,rfl,(j:Int),rfl⟩)
    simp only[Zbw,RT.val,k1,cond_false])
  (l,false,c,cs,ci,(l,M),0,M,()) ⟨0,Nat.zero_le _,rfl⟩ (by simp)
 obtain⟨r1,r2⟩:=r
 simp only at h1 h2
 subst h1;subst h2
 exact⟨j,hr⟩
theorem Zkm {l M:List ITMT} (hl:Few l) (hM:Few M) (cs:QT6):
  ∃i,runF true Zb9 (λ_=>5) (l,false,cs,0,M,())=some (false,(l,false,cs,i,M,())):=by
 obtain⟨r,hr,h1,j,h2⟩:=Zav (fl:=true) (t:=Zb9) (fuel:=λ_=>5)
  (λa=>∃j:Nat,j<=3/\a=(l,false,cs,(j:Int),M,())) (λa=>3-a.2.2.2.1.toNat)
  (λr=>r.1=false/\∃j,r.2=(l,false,cs,j,M,()))
  (by
   rintro a ⟨j,hj,rfl⟩
   by_cases hlt:j<3
   ·have k1:decide ((j:Int)<3)=true:=by simp;omega
    have k2:decide (0<=(j:Int)/\(j:Int)<3)=true:=by simp;omega
    have k3:i64.wrap ((j:Int)+1)=(j:Int)+1:=ZH _ (by omega) (by omega)
    obtain⟨jj,hjj⟩:=Zkn hl hM (bif (j:Int)==0 then cs.1 else bif (j:Int)==iN (0+1) then cs.2.1 else cs.2.2) cs (j:Int)
    refine .inl ⟨(l,false,cs,(j:Int)+1,M,()),?_,⟨j+1,by omega,rfl⟩,by simp;omega⟩
    simp only[Zb9,RT.val,k1,k2,k3,hjj,okB,getO,cond_true,cond_false,Bool.not_true,Bool.false_or]
   ·have k1:decide ((j:Int)<3)=false:=by simp;omega
    refine .inr (.inl ⟨(l,false,cs,(j:Int),M,()),?_,rfl,(j:Int),rfl⟩)
    simp only[Zb9,RT.val,k1,cond_false])
  (l,false,cs,0,M,()) ⟨0,Nat.zero_le _,rfl⟩ (by simp)
 obtain⟨r1,r2⟩:=r
 simp only at h1 h2
 subst h1;subst h2
 exact⟨j,hr⟩
theorem lGExp_law (chip:Int) (l:List ITMT) (n:List Int) (hl:l.length<=maxLen):ZnR chip l n=true/\Zlm chip l n=true:=by
 have hv:(ZfC chip l n).val=some true:=by
  obtain⟨p1,p2⟩:=ZmL l (Nat.le_trans hl (by decide))
  by_cases hg:(!Zcm l||decide (iN (List.length n)>250))=true
  ·simp only[ZfC,RT.val,p1,hg,Zlp.2,Bool.or_true,cond_true]
  ·have hg':(!Zcm l||decide (iN (List.length n)>250))=false:=by simpa using hg
   have hk:Zcm l=true:=by
    cases h:Zcm l
    ·rw[h] at hg';simp at hg'
    ·rfl
   obtain⟨q1,q2⟩:=p2 hk
   obtain⟨i,hi⟩:=Zkm (ZlX l q1 q2) (Zm2 n) (chip,1,2)
   simp only[ZfC,RT.val,p1,hg',newG,hi,okB,getO,(ZiE n).1,Zlp.2,Bool.not_false,Bool.not_true,Bool.true_or,Bool.or_true,Bool.false_or,cond_true,cond_false]
 simp only[ZnR,Zlm,hv,okB,getO];exact⟨trivial,Tv⟩
end
end Go.Proofs.Ytlgmapcjapofoaa
