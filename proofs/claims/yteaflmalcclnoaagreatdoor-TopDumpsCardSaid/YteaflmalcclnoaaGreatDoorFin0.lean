import Derived.Test.YteaflmalcclnoaaGreatDoorNext1
import Derived.Test.YteaflmalcclnoaaGreatDoorNext2
import Derived.Test.YteaflmalcclnoaaGreatDoorNext3
import Derived.Test.YteaflmalcclnoaaGreatDoorNext4
open Go Go.S3 Go.Proofs
open Go.S3.R (Pq)
set_option linter.unusedVariables false
set_option linter.unusedSimpArgs false
set_option maxRecDepth 100000
namespace Go.Proofs.YteaflmalcclnoaaGreatDoor
noncomputable section
theorem nx_2 (c) (s:Int) (g:List Int) (n:Int) (hk:(Zc c.1 (g.getD 0 0)).1=n):(n=4->(Ztb c s g).val=some (Zm c s g))/\(n=8->(Zs7 c s g).val=some (Zm c s g))/\(n=13->(Zn9 c s g).val=some (Zm c s g))/\(n=19->(Zn3 c s g).val=some (Zm c s g))/\(n=23->(ZnZ c s g).val=some (Zm c s g))/\(n=31->(ZnR c s g).val=some (Zm c s g))/\(n=36->(ZnM c s g).val=some (Zm c s g))/\(n=41->(ZnH c s g).val=some (Zm c s g))/\(n=46->(ZnC c s g).val=some (Zm c s g))/\True/\True/\True/\True/\True/\True/\True/\True/\True:=by
 refine⟨?_,?_,?_,?_,?_,?_,?_,?_,?_,?_,?_,?_,?_,?_,?_,?_,?_,?_⟩;any_goals trivial
 all_goals intro e;subst e
 all_goals simp only[Ztb,Zs7,Zn9,Zn3,ZnZ,ZnR,ZnM,ZnH,ZnC,RT.val,fin3,pk]
 all_goals simp only[qat0,mat0,qat1,mat1,rg0,hk,ZG,Zap,Za3,Z7,Z8,ZU,ZV,Zcr,Zct,ZaQ,ZF,Zbv,Zm,Ze1,ZW,Zbn]
 all_goals generalize Zz s=bi
 all_goals generalize (s==5)=bs
 all_goals cases g with
 |nil=>cases bi<;>cases bs<;>simp[ZoZ,ZbV,pcOf,spOf,ZcP]
 |cons o t=>
  simp only[YF] at hk;simp only[len0,YF,Zg5,hk,Zcj,Zbn,ZW,ZfB,bne];generalize Zc c.1 o=i at hk|-;cases bi<;>cases bs<;>simp[ZbW,ZcP,popX,pcOf,spOf,opC,ZiM,Zec,Zce,ZgX,ZdU,setI,R.get]
theorem nx_4 (c) (s:Int) (g:List Int) (n:Int) (hk:(Zc c.1 (g.getD 0 0)).1=n):(n=6->(Zs9 c s g).val=some (Zm c s g))/\(n=10->(Zoc c s g).val=some (Zm c s g))/\(n=17->(Zn5 c s g).val=some (Zm c s g))/\(n=21->(Zn1 c s g).val=some (Zm c s g))/\(n=28->(ZnU c s g).val=some (Zm c s g))/\(n=34->(ZnO c s g).val=some (Zm c s g))/\(n=39->(ZnJ c s g).val=some (Zm c s g))/\(n=43->(ZnF c s g).val=some (Zm c s g))/\True/\True/\True/\True/\True/\True/\True/\True:=by
 refine⟨?_,?_,?_,?_,?_,?_,?_,?_,?_,?_,?_,?_,?_,?_,?_,?_⟩;any_goals trivial
 all_goals intro e;subst e
 all_goals simp only[Zs9,Zoc,Zn5,Zn1,ZnU,ZnO,ZnJ,ZnF,RT.val,fin3,pk]
 all_goals simp only[qat0,mat0,qat1,mat1,rg0,hk,ZG,Zap,Za3,Z7,Z8,ZU,ZV,Zcr,Zct,ZaQ,ZF,Zbv,Zm,Ze1,ZW,Zbn]
 all_goals generalize Zz s=bi
 all_goals generalize (s==5)=bs
 all_goals cases g with
 |nil=>cases bi<;>cases bs<;>simp[ZoZ,ZbV,pcOf,spOf,ZcP]
 |cons o t=>
  simp only[YF] at hk;simp only[len0,YF,Zg5,hk,Zcj,Zbn,ZW,ZfB,bne];generalize Zc c.1 o=i at hk|-;cases bi<;>cases bs<;>simp[ZbW,ZcP,popX,pcOf,spOf,opC,ZiM,Zec,Zce,ZgX,ZdU,setI,R.get]
theorem nx_6 (c) (s:Int) (g:List Int) (n:Int) (hk:(Zc c.1 (g.getD 0 0)).1=n):(n=3->(Ztc c s g).val=some (Zm c s g))/\(n=14->(Zn8 c s g).val=some (Zm c s g))/\(n=15->(Zn7 c s g).val=some (Zm c s g))/\True/\True/\True:=by
 refine⟨?_,?_,?_,?_,?_,?_⟩;any_goals trivial
 all_goals intro e;subst e
 all_goals simp only[Ztc,Zn8,Zn7,RT.val,fin3,pk]
 all_goals simp only[qat0,mat0,qat1,mat1,rg0,hk,ZG,Zap,Za3,Z7,Z8,ZU,ZV,Zcr,Zct,ZaQ,ZF,Zbv,Zm,Ze1,ZW,Zbn]
 all_goals generalize Zz s=bi
 all_goals generalize (s==5)=bs
 all_goals cases g with
 |nil=>cases bi<;>cases bs<;>simp[ZoZ,ZbV,pcOf,spOf,ZcP]
 |cons o t=>
  simp only[YF] at hk;simp only[len0,YF,Zg5,hk,Zcj,Zbn,ZW,ZfB,bne];generalize Zc c.1 o=i at hk|-;generalize (i.2.2.1==6)=b0;cases b0<;>cases bi<;>cases bs<;>simp[ZbW,ZcP,popX,pcOf,spOf,opC,ZiM,Zec,Zce,ZgX,ZdU,setI,R.get]
theorem nx_8 (c) (s:Int) (g:List Int) (n:Int) (hk:(Zc c.1 (g.getD 0 0)).1=n):(n=24->(ZnY c s g).val=some (Zm c s g))/\(n=25->(ZnX c s g).val=some (Zm c s g))/\True/\True:=by
 refine⟨?_,?_,?_,?_⟩;any_goals trivial
 all_goals intro e;subst e
 all_goals simp only[ZnY,ZnX,RT.val,fin3,pk]
 all_goals simp only[qat0,mat0,qat1,mat1,rg0,hk,ZG,Zap,Za3,Z7,Z8,ZU,ZV,Zcr,Zct,ZaQ,ZF,Zbv,Zm,Ze1,ZW,Zbn]
 all_goals generalize Zz s=bi
 all_goals generalize (s==5)=bs
 all_goals cases g with
 |nil=>cases bi<;>cases bs<;>simp[ZoZ,ZbV,pcOf,spOf,ZcP]
 |cons o t=>
  simp only[YF] at hk;simp only[len0,YF,Zg5,hk,Zcj,Zbn,ZW,ZfB,bne];generalize Zc c.1 o=i at hk|-;generalize Zga _ _=b0;generalize (c.1==2)=b1;cases b0<;>cases b1<;>cases bi<;>cases bs<;>simp[ZbW,ZcP,popX,pcOf,spOf,opC,ZiM,Zec,Zce,ZgX,ZdU,setI,R.get]
theorem nx_10 (c) (s:Int) (g:List Int) (n:Int) (hk:(Zc c.1 (g.getD 0 0)).1=n):(n=30->(ZnS c s g).val=some (Zm c s g))/\True:=by
 refine⟨?_,?_⟩;any_goals trivial
 all_goals intro e;subst e
 all_goals simp only[ZnS,RT.val,fin3,pk]
 all_goals simp only[qat0,mat0,qat1,mat1,rg0,hk,ZG,Zap,Za3,Z7,Z8,ZU,ZV,Zcr,Zct,ZaQ,ZF,Zbv,Zm,Ze1,ZW,Zbn]
 all_goals generalize Zz s=bi
 all_goals generalize (s==5)=bs
 all_goals cases g with
 |nil=>cases bi<;>cases bs<;>simp[ZoZ,ZbV,pcOf,spOf,ZcP]
 |cons o t=>
  simp only[YF] at hk;simp only[len0,YF,Zg5,hk,Zcj,Zbn,ZW,ZfB,bne];generalize Zc c.1 o=i at hk|-;generalize (i.2.2.2.2.1==3)=b0;cases b0<;>cases bi<;>cases bs<;>simp[ZbW,ZcP,popX,pcOf,spOf,opC,ZiM,Zec,Zce,ZgX,ZdU,setI,R.get]
theorem nx_1 (c) (s:Int) (g:List Int) (n:Int) (hk:(Zc c.1 (g.getD 0 0)).1=n):(n=1->(Zte c s g).val=some (Zm c s g))/\(n=7->(Zs8 c s g).val=some (Zm c s g))/\(n=11->(Zob c s g).val=some (Zm c s g))/\(n=18->(Zn4 c s g).val=some (Zm c s g))/\(n=22->(Zn0 c s g).val=some (Zm c s g))/\(n=29->(ZnT c s g).val=some (Zm c s g))/\(n=35->(ZnN c s g).val=some (Zm c s g))/\(n=40->(ZnI c s g).val=some (Zm c s g))/\(n=44->(ZnE c s g).val=some (Zm c s g))/\True/\True/\True/\True/\True/\True/\True/\True/\True:=by
 refine⟨?_,?_,?_,?_,?_,?_,?_,?_,?_,?_,?_,?_,?_,?_,?_,?_,?_,?_⟩;any_goals trivial
 all_goals intro e;subst e
 all_goals simp only[Zte,Zs8,Zob,Zn4,Zn0,ZnT,ZnN,ZnI,ZnE,RT.val,fin3,pk]
 all_goals simp only[qat0,mat0,qat1,mat1,rg0,hk,ZG,Zap,Za3,Z7,Z8,ZU,ZV,Zcr,Zct,ZaQ,ZF,Zbv,Zm,Ze1,ZW,Zbn]
 all_goals generalize Zz s=bi
 all_goals generalize (s==5)=bs
 all_goals cases g with
 |nil=>cases bi<;>cases bs<;>simp[ZoZ,ZbV,pcOf,spOf,ZcP]
 |cons o t=>
  simp only[YF] at hk;simp only[len0,YF,Zg5,hk,Zcj,Zbn,ZW,ZfB,bne];generalize Zc c.1 o=i at hk|-;cases bi<;>cases bs<;>simp[ZbW,ZcP,popX,pcOf,spOf,opC,ZiM,Zec,Zce,ZgX,ZdU,setI,R.get]
theorem nx_3 (c) (s:Int) (g:List Int) (n:Int) (hk:(Zc c.1 (g.getD 0 0)).1=n):(n=5->(Zta c s g).val=some (Zm c s g))/\(n=9->(Zs6 c s g).val=some (Zm c s g))/\(n=16->(Zn6 c s g).val=some (Zm c s g))/\(n=20->(Zn2 c s g).val=some (Zm c s g))/\(n=27->(ZnV c s g).val=some (Zm c s g))/\(n=33->(ZnP c s g).val=some (Zm c s g))/\(n=38->(ZnK c s g).val=some (Zm c s g))/\(n=42->(ZnG c s g).val=some (Zm c s g))/\(n=47->(ZnB c s g).val=some (Zm c s g))/\True/\True/\True/\True/\True/\True/\True/\True/\True:=by
 refine⟨?_,?_,?_,?_,?_,?_,?_,?_,?_,?_,?_,?_,?_,?_,?_,?_,?_,?_⟩;any_goals trivial
 all_goals intro e;subst e
 all_goals simp only[Zta,Zs6,Zn6,Zn2,ZnV,ZnP,ZnK,ZnG,ZnB,RT.val,fin3,pk]
 all_goals simp only[qat0,mat0,qat1,mat1,rg0,hk,ZG,Zap,Za3,Z7,Z8,ZU,ZV,Zcr,Zct,ZaQ,ZF,Zbv,Zm,Ze1,ZW,Zbn]
 all_goals generalize Zz s=bi
 all_goals generalize (s==5)=bs
 all_goals cases g with
 |nil=>cases bi<;>cases bs<;>simp[ZoZ,ZbV,pcOf,spOf,ZcP]
 |cons o t=>
  simp only[YF] at hk;simp only[len0,YF,Zg5,hk,Zcj,Zbn,ZW,ZfB,bne];generalize Zc c.1 o=i at hk|-;cases bi<;>cases bs<;>simp[ZbW,ZcP,popX,pcOf,spOf,opC,ZiM,Zec,Zce,ZgX,ZdU,setI,R.get]
theorem nx_5 (c) (s:Int) (g:List Int) (n:Int) (hk:(Zc c.1 (g.getD 0 0)).1=n):(n=2->(Ztd c s g).val=some (Zm c s g))/\True:=by
 refine⟨?_,?_⟩;any_goals trivial
 all_goals intro e;subst e
 all_goals simp only[Ztd,RT.val,fin3,pk]
 all_goals simp only[qat0,mat0,qat1,mat1,rg0,hk,ZG,Zap,Za3,Z7,Z8,ZU,ZV,Zcr,Zct,ZaQ,ZF,Zbv,Zm,Ze1,ZW,Zbn]
 all_goals generalize Zz s=bi
 all_goals generalize (s==5)=bs
 all_goals cases g with
 |nil=>cases bi<;>cases bs<;>simp[ZoZ,ZbV,pcOf,spOf,ZcP]
 |cons o t=>
  simp only[YF] at hk;simp only[len0,YF,Zg5,hk,Zcj,Zbn,ZW,ZfB,bne];generalize Zc c.1 o=i at hk|-;generalize (i.2.2.2.1==6)=b0;generalize (i.2.2.1==6)=b1;cases b0<;>cases b1<;>cases bi<;>cases bs<;>simp[ZbW,ZcP,popX,pcOf,spOf,opC,ZiM,Zec,Zce,ZgX,ZdU,setI,R.get]
theorem nx_7 (c) (s:Int) (g:List Int) (n:Int) (hk:(Zc c.1 (g.getD 0 0)).1=n):(n=12->(Zoa c s g).val=some (Zm c s g))/\True:=by
 refine⟨?_,?_⟩;any_goals trivial
 all_goals intro e;subst e
 all_goals simp only[Zoa,RT.val,fin3,pk]
 all_goals simp only[qat0,mat0,qat1,mat1,rg0,hk,ZG,Zap,Za3,Z7,Z8,ZU,ZV,Zcr,Zct,ZaQ,ZF,Zbv,Zm,Ze1,ZW,Zbn]
 all_goals generalize Zz s=bi
 all_goals generalize (s==5)=bs
 all_goals cases g with
 |nil=>cases bi<;>cases bs<;>simp[ZoZ,ZbV,pcOf,spOf,ZcP]
 |cons o t=>
  simp only[YF] at hk;simp only[len0,YF,Zg5,hk,Zcj,Zbn,ZW,ZfB,bne];generalize Zc c.1 o=i at hk|-;generalize (i.2.2.2.1==6)=b0;cases b0<;>cases bi<;>cases bs<;>simp[ZbW,ZcP,popX,pcOf,spOf,opC,ZiM,Zec,Zce,ZgX,ZdU,setI,R.get]
theorem nx_9 (c) (s:Int) (g:List Int) (n:Int) (hk:(Zc c.1 (g.getD 0 0)).1=n):(n=26->(ZnW c s g).val=some (Zm c s g))/\(n=45->(ZnD c s g).val=some (Zm c s g))/\True/\True:=by
 refine⟨?_,?_,?_,?_⟩;any_goals trivial
 all_goals intro e;subst e
 all_goals simp only[ZnW,ZnD,RT.val,fin3,pk]
 all_goals simp only[qat0,mat0,qat1,mat1,rg0,hk,ZG,Zap,Za3,Z7,Z8,ZU,ZV,Zcr,Zct,ZaQ,ZF,Zbv,Zm,Ze1,ZW,Zbn]
 all_goals generalize Zz s=bi
 all_goals generalize (s==5)=bs
 all_goals cases g with
 |nil=>cases bi<;>cases bs<;>simp[ZoZ,ZbV,pcOf,spOf,ZcP]
 |cons o t=>
  simp only[YF] at hk;simp only[len0,YF,Zg5,hk,Zcj,Zbn,ZW,ZfB,bne];generalize Zc c.1 o=i at hk|-;generalize Zga _ _=b0;cases b0<;>cases bi<;>cases bs<;>simp[ZbW,ZcP,popX,pcOf,spOf,opC,ZiM,Zec,Zce,ZgX,ZdU,setI,R.get]
theorem nx_11 (c) (s:Int) (g:List Int) (n:Int) (hk:(Zc c.1 (g.getD 0 0)).1=n):(n=32->(ZnQ c s g).val=some (Zm c s g))/\(n=37->(ZnL c s g).val=some (Zm c s g))/\True/\True:=by
 refine⟨?_,?_,?_,?_⟩;any_goals trivial
 all_goals intro e;subst e
 all_goals simp only[ZnQ,ZnL,RT.val,fin3,pk]
 all_goals simp only[qat0,mat0,qat1,mat1,rg0,hk,ZG,Zap,Za3,Z7,Z8,ZU,ZV,Zcr,Zct,ZaQ,ZF,Zbv,Zm,Ze1,ZW,Zbn]
 all_goals generalize Zz s=bi
 all_goals generalize (s==5)=bs
 all_goals cases g with
 |nil=>cases bi<;>cases bs<;>simp[ZoZ,ZbV,pcOf,spOf,ZcP]
 |cons o t=>
  simp only[YF] at hk;simp only[len0,YF,Zg5,hk,Zcj,Zbn,ZW,ZfB,bne];generalize Zc c.1 o=i at hk|-;generalize (c.1==2)=b0;cases b0<;>cases bi<;>cases bs<;>simp[ZbW,ZcP,popX,pcOf,spOf,opC,ZiM,Zec,Zce,ZgX,ZdU,setI,R.get]
theorem ZQ4 (a:HL Zu) (h:okHL Zu a):∃l,ZdM Tryz.prog l/\(Zg1 (envX Tryz.prog l [] 1125900980585471 8) Tryz.f16 Zu ZAG a).val=some (Zm a.1 a.2.1 a.2.2):=by
 have hk:=ZNE a.1.1 _ (ZN2 h.2.2);refine⟨ZLK (Zc a.1.1 (a.2.2.getD 0 0)).1,ZLJ _,?_⟩;show (EV1 _ a).val=_;have n1:=nx_1 a.1 a.2.1 a.2.2;have n5:=nx_5 a.1 a.2.1 a.2.2;have n6:=nx_6 a.1 a.2.1 a.2.2;have n2:=nx_2 a.1 a.2.1 a.2.2;have n3:=nx_3 a.1 a.2.1 a.2.2;have n4:=nx_4 a.1 a.2.1 a.2.2;have n7:=nx_7 a.1 a.2.1 a.2.2;have n8:=nx_8 a.1 a.2.1 a.2.2;have n9:=nx_9 a.1 a.2.1 a.2.2;have n10:=nx_10 a.1 a.2.1 a.2.2;have n11:=nx_11 a.1 a.2.1 a.2.2;rcases ZND hk.1 hk.2 with e|e|e|e|e|e|e|e|e|e|e|e|e|e|e|e|e|e|e|e|e|e|e|e|e|e|e|e|e|e|e|e|e|e|e|e|e|e|e|e|e|e|e|e|e|e|e
 ·rw[e,ZGs a,((n1 _ e).1 rfl)]
 ·rw[e,ZGr a,((n5 _ e).1 rfl)]
 ·rw[e,ZGq a,((n6 _ e).1 rfl)]
 ·rw[e,ZGp a,((n2 _ e).1 rfl)]
 ·rw[e,ZGo a,((n3 _ e).1 rfl)]
 ·rw[e,ZGn a,((n4 _ e).1 rfl)]
 ·rw[e,ZGm a,((n1 _ e).2.1 rfl)]
 ·rw[e,ZGl a,((n2 _ e).2.1 rfl)]
 ·rw[e,ZGk a,((n3 _ e).2.1 rfl)]
 ·rw[e,ZAF a,((n4 _ e).2.1 rfl)]
 ·rw[e,ZAE a,((n1 _ e).2.2.1 rfl)]
 ·rw[e,ZAD a,((n7 _ e).1 rfl)]
 ·rw[e,ZAC a,((n2 _ e).2.2.1 rfl)]
 ·rw[e,ZAB a,((n6 _ e).2.1 rfl)]
 ·rw[e,ZAA a,((n6 _ e).2.2.1 rfl)]
 ·rw[e,ZAz a,((n3 _ e).2.2.1 rfl)]
 ·rw[e,ZAy a,((n4 _ e).2.2.1 rfl)]
 ·rw[e,ZAx a,((n1 _ e).2.2.2.1 rfl)]
 ·rw[e,ZAw a,((n2 _ e).2.2.2.1 rfl)]
 ·rw[e,ZAv a,((n3 _ e).2.2.2.1 rfl)]
 ·rw[e,ZAu a,((n4 _ e).2.2.2.1 rfl)]
 ·rw[e,ZAt a,((n1 _ e).2.2.2.2.1 rfl)]
 ·rw[e,ZAs a,((n2 _ e).2.2.2.2.1 rfl)]
 ·rw[e,ZAr a,((n8 _ e).1 rfl)]
 ·rw[e,ZAq a,((n8 _ e).2.1 rfl)]
 ·rw[e,ZAp a,((n9 _ e).1 rfl)]
 ·rw[e,ZAo a,((n3 _ e).2.2.2.2.1 rfl)]
 ·rw[e,ZAn a,((n4 _ e).2.2.2.2.1 rfl)]
 ·rw[e,ZAm a,((n1 _ e).2.2.2.2.2.1 rfl)]
 ·rw[e,ZAl a,((n10 _ e).1 rfl)]
 ·rw[e,ZAk a,((n2 _ e).2.2.2.2.2.1 rfl)]
 ·rw[e,ZAj a,((n11 _ e).1 rfl)]
 ·rw[e,ZAi a,((n3 _ e).2.2.2.2.2.1 rfl)]
 ·rw[e,ZAh a,((n4 _ e).2.2.2.2.2.1 rfl)]
 ·rw[e,ZAg a,((n1 _ e).2.2.2.2.2.2.1 rfl)]
 ·rw[e,ZAf a,((n2 _ e).2.2.2.2.2.2.1 rfl)]
 ·rw[e,ZAe a,((n11 _ e).2.1 rfl)]
 ·rw[e,ZAd a,((n3 _ e).2.2.2.2.2.2.1 rfl)]
 ·rw[e,ZAc a,((n4 _ e).2.2.2.2.2.2.1 rfl)]
 ·rw[e,ZAb a,((n1 _ e).2.2.2.2.2.2.2.1 rfl)]
 ·rw[e,ZAa a,((n2 _ e).2.2.2.2.2.2.2.1 rfl)]
 ·rw[e,Zz9 a,((n3 _ e).2.2.2.2.2.2.2.1 rfl)]
 ·rw[e,Zz8 a,((n4 _ e).2.2.2.2.2.2.2.1 rfl)]
 ·rw[e,Zz7 a,((n1 _ e).2.2.2.2.2.2.2.2.1 rfl)]
 ·rw[e,Zz6 a,((n9 _ e).2.1 rfl)]
 ·rw[e,Zz5 a,((n2 _ e).2.2.2.2.2.2.2.2.1 rfl)]
 ·rw[e,Zz4 a,((n3 _ e).2.2.2.2.2.2.2.2.1 rfl)]
def ZwC:En:=Zf Zu ZAG (λ_=>none) (λa=>Zm a.1 a.2.1 a.2.2)
theorem Zs5:Za Tryz.prog 16 ZwC:=ZDq Tryz.func16 rfl (by kernel_rfl) Tryz.call16 λa h _=>ZQ4 a h
end
end Go.Proofs.YteaflmalcclnoaaGreatDoor
open Go.IntKind (u8 u16 i64 wrap)
namespace Go.Proofs.YteaflmalcclnoaaGreatDoor
noncomputable section
def wPC (r:RegT) (v:Int):RegT:=(r.1,r.2.1,r.2.2.1,r.2.2.2.1,r.2.2.2.2.1,r.2.2.2.2.2.1,r.2.2.2.2.2.2.1,r.2.2.2.2.2.2.2.1,r.2.2.2.2.2.2.2.2.1,v)
def wSP (r:RegT) (v:Int):RegT:=(r.1,r.2.1,r.2.2.1,r.2.2.2.1,r.2.2.2.2.1,r.2.2.2.2.2.1,r.2.2.2.2.2.2.1,r.2.2.2.2.2.2.2.1,v,r.2.2.2.2.2.2.2.2.2)
def wA (r:RegT) (v:Int):RegT:=(v,r.2)
def wF (r:RegT) (f:FlgT):RegT:=(r.1,r.2.1,r.2.2.1,r.2.2.2.1,r.2.2.2.2.1,r.2.2.2.2.2.1,r.2.2.2.2.2.2.1,f,r.2.2.2.2.2.2.2.2)
def fCY (f:FlgT) (b:Bool):FlgT:=(f.1,f.2.1,f.2.2.1,f.2.2.2.1,f.2.2.2.2.1,f.2.2.2.2.2.1,b)
def fVCY (f:FlgT) (v b:Bool):FlgT:=(f.1,f.2.1,f.2.2.1,f.2.2.2.1,f.2.2.2.2.1,v,b)
def Zgw (r:RegT):Int:=r.2.2.2.2.2.2.2.2.1
def flOf (r:RegT):FlgT:=r.2.2.2.2.2.2.2.1
def finR (c:CpuT) (r r0:RegT) (g:List Int) (i:InsT):RegT:=
 let dst:=i.2.2.1
 let src:=i.2.2.2.1
 let pr:=i.2.2.2.2.1
 let op:=i.2.2.2.2.2.1
 let g1:=g.getD 1 0
 let tk:=Zga i.2.2.2.2.2.2.1 (flOf r)
 bif i.1==2 then rSet r0 dst (bif src==6 then g1 else rGet r src) else
 bif i.1==3 then rSet r0 dst g1 else
 bif i.1==4 then ZX r0 pr (Zce g 1) else
 bif i.1==5 then wA r0 (g.getD 3 0) else
 bif i.1==7 then ZX r0 2 (Zce g 3) else
 bif i.1==9 then wA r0 g1 else
 bif i.1==11 then (r0.1,r0.2.1,r0.2.2.1,r0.2.2.2.2.2.1,r0.2.2.2.2.2.2.1,r0.2.2.2.1,r0.2.2.2.2.1,r0.2.2.2.2.2.2.2) else
 bif i.1==12 then (let q:=rDo c.1 op r.1 (bif src==6 then g1 else rGet r src) (flOf r);wA (wF r0 q.2) q.1) else
 bif i.1==13 then (let q:=rDo c.1 op r.1 g1 (flOf r);wA (wF r0 q.2) q.1) else
 bif i.1==14 then (let q:=rInr c.1 (bif dst==6 then g1 else rGet r dst) (flOf r);rSet (wF r0 q.2) dst q.1) else
 bif i.1==15 then (let q:=rDcr c.1 (bif dst==6 then g1 else rGet r dst) (flOf r);rSet (wF r0 q.2) dst q.1) else
 bif i.1==16 then (let q:=rInx c.1 (ZeJ r pr) (flOf r);ZX (wF r0 q.2) pr q.1) else
 bif i.1==17 then (let q:=rDcx c.1 (ZeJ r pr) (flOf r);ZX (wF r0 q.2) pr q.1) else
 bif i.1==18 then (let q:=rDad c.1 (ZeJ r 2) (ZeJ r pr) (flOf r);ZX (wF r0 q.2) 2 q.1) else
 bif i.1==19 then (let q:=rDaa c.1 r.1 (flOf r);wA (wF r0 q.2) q.1) else
 bif i.1==20 then wA r0 (notI .u8 r.1) else
 bif i.1==21 then wF r0 (fCY (flOf r) true) else
 bif i.1==22 then wF r0 (fCY (flOf r) (!(flOf r).2.2.2.2.2.2)) else
 bif i.1==23 then (let q:=rRot op r.1 (flOf r).2.2.2.2.2.2;wA (wF r0 (fCY (flOf r) q.2)) q.1) else
 bif i.1==24 then (bif tk then wPC r0 (Zce g 1) else r0) else
 bif i.1==25 then (bif tk then wPC (wSP r0 (wrap .u16 (Zgw r-2))) (Zce g 1) else r0) else
 bif i.1==26 then (bif tk then wPC (wSP r0 (wrap .u16 (Zgw r+2))) (Zce g 1) else r0) else
 bif i.1==27 then wPC (wSP r0 (wrap .u16 (Zgw r-2))) (wrap .u16 (wrap .i64 (8*i.2.2.2.2.2.2.2))) else
 bif i.1==28 then wPC r0 (ZeJ r 2) else
 bif i.1==29 then wSP r0 (ZeJ r 2) else
 bif i.1==30 then wSP r0 (wrap .u16 (Zgw r-2)) else
 bif i.1==31 then (let q:=bif pr==3 then ZmT c.1 r0 (Zce g 1) else ZX r0 pr (Zce g 1);wSP q (wrap .u16 (Zgw q+2))) else
 bif i.1==32 then ZX r0 2 (Zce g 1) else
 bif i.1==33 then wA r0 (g.getD 2 0) else
 bif i.1==40 then (let q:=ZKe (ZeJ r 2) (ZeJ r 0);ZX (wF r0 q.2) 2 q.1) else
 bif i.1==41 then (let q:=ZQn (ZeJ r 2);ZX (wF r0 (fCY (flOf r) q.2)) 2 q.1) else
 bif i.1==42 then (let q:=ZJV (ZeJ r 1) (flOf r).2.2.2.2.2.2;ZX (wF r0 (fVCY (flOf r) q.2.2 q.2.1)) 1 q.1) else
 bif i.1==43 then ZX r0 1 (wrap .u16 (ZeJ r 2+wrap .u16 g1)) else
 bif i.1==44 then ZX r0 1 (wrap .u16 (Zgw r+wrap .u16 g1)) else
 bif i.1==45 then (bif tk then wPC (wSP r0 (wrap .u16 (Zgw r-2))) 64 else r0) else
 bif i.1==47 then ZX r0 2 (Zce g 1) else
 r0
def finI (c:CpuT) (inj:Bool) (g:List Int) (l:QT1) (i:InsT):CpuT:=
 let r0:=wPC c.2.1 (ZW c inj i)
 let d:CpuT:=(c.1,r0,c.2.2.1,false,false,c.2.2.2.2.2)
 bif i.1==38 then (let q:=rRim d l;(q.2.1,wA q.2.2.1 q.1,q.2.2.2)) else
 bif i.1==39 then rSim d c.2.1.1 else
 (c.1,finR c c.2.1 r0 g i,bif i.1==35 then true else bif i.1==36 then false else c.2.2.1,i.1==35,i.1==37,c.2.2.2.2.2)
def finX (c:CpuT) (s:Int) (g:List Int) (l:QT1):CpuT:=
 bif Zz s then (c.1,wPC (wSP c.2.1 (wrap .u16 (spOf c-2))) (Zw s),c.2.2)
 else finI c (s==5) g l (Zc c.1 (g.getD 0 0))
theorem ZSZ (c:CpuT) (l):(rRim c l).2=(c.1,c.2.1,c.2.2.1,c.2.2.2.1,c.2.2.2.2.1,c.2.2.2.2.2.1,c.2.2.2.2.2.2.1,c.2.2.2.2.2.2.2.1,c.2.2.2.2.2.2.2.2.1,c.2.2.2.2.2.2.2.2.2.1,false,false,c.2.2.2.2.2.2.2.2.2.2.2.2):=by
 have h3:∀b,Zaz b 3=true:=λb=>by cases b<;>rfl
 have h4:∀b,Zaz b 4=true:=λb=>by cases b<;>rfl
 have h5:∀b,Zaz b 5=true:=λb=>by cases b<;>rfl
 have h6:∀b,Zaz b 6=true:=λb=>by cases b<;>rfl
 have h7:∀b,Zaz b 7=true:=λb=>by cases b<;>rfl
 simp only[rRim,ZQb,RT.val,h3,h4,h5,h6,h7,Yh,Yj,Ya,getO]
theorem ZhU (s):ZgF s=true/\ZiV s=bif (s.2.2.2.1.1==13||s.2.2.2.1.2.2.2.1==6) then s.2.2.1.getD 1 0 else rGet s.1.2.1 s.2.2.2.1.2.2.2.1:=by simp only[ZgF,ZiV,ZiU,RT.val,qat1,Za3];cases (s.2.2.2.1.1==13||s.2.2.2.1.2.2.2.1==6)<;>simp[okB,getO]
end
end Go.Proofs.YteaflmalcclnoaaGreatDoor
open Go.Proofs.Tryz (prog)
namespace Go.Proofs.YteaflmalcclnoaaGreatDoor
noncomputable section
def ZdR (k:Int):En:=.tree (Zo (envX prog [(37,ZwJ k),(116,qAtE)] [] 255 8) Tryz.f43)
theorem Zgj (k:Int):Za prog 43 (ZdR k):=ZL (P:=prog) (n:=255) (k:=8) (l:=[(37,ZwJ k),(116,qAtE)]) (ol:=[]) ⟨(ZEm k),ZiZ,Tv⟩ Tryz.func43 rfl (by kernel_rfl) Tryz.call43 trivial
def Zcl:En:=.tree (Zo (envX prog [(116,qAtE),(119,Zv3),(185,Zm0),(191,Zwt),(192,Zca)] [] 2597417327555236063515274458956831 8) Tryz.f127)
theorem Zgk:Za prog 127 Zcl:=ZL ⟨ZiZ,Zsk,Zsl,ZDR,ZeQ,Tv⟩ Tryz.func127 rfl (by kernel_rfl) Tryz.call127 trivial
def ZbC:En:=.tree (Zo (envX prog [(116,qAtE),(118,ZgE),(119,Zv3),(183,ZEb),(184,ZEp),(191,Zwt),(192,Zca),(193,ZV5),(194,ZmZ),(195,ZLZ),(196,ZMs),(197,ZMw),(198,ZMy),(199,ZLh)] [] 7069140681974987581262622498806463579024171163532525608263727578473562367 8) Tryz.f128)
theorem Ze5:Za prog 128 ZbC:=ZL ⟨ZiZ,ZiT,Zsk,ZEa,ZEo,ZDR,ZeQ,ZV4,Zzc,ZQ7,ZRf,ZRh,ZRj,ZQT,Tv⟩ Tryz.func128 rfl (by kernel_rfl) Tryz.call128 trivial
def ZbB:En:=.tree (Zo (envX prog [(118,ZgE),(185,Zm0),(187,Zie),(192,Zca),(200,Znw)] [] 1300629477622019213679053869679119 8) Tryz.f129)
theorem Ze4:Za prog 129 ZbB:=ZL ⟨ZiT,Zsl,ZmY,ZeQ,ZzN,Tv⟩ Tryz.func129 rfl (by kernel_rfl) Tryz.call129 trivial
def Zb1:En:=.tree (Zo (envX prog [(116,qAtE),(118,ZgE),(192,Zca),(202,ZA1),(203,ZA5),(204,ZzV)] [] 19808249554387950831669350527 8) Tryz.f132)
theorem ZfX:Za prog 132 Zb1:=ZL ⟨ZiZ,ZiT,ZeQ,ZMm,ZMF,ZLr,Tv⟩ Tryz.func132 rfl (by kernel_rfl) Tryz.call132 trivial
def Zc7:En:=.tree (Zo (envX prog [(126,ZiY),(127,Zcl),(128,ZbC),(129,ZbB),(130,ZLj),(131,ZK9),(132,Zb1)] [] 1299342484808491477133836286951679 8) Tryz.f48)
theorem Zfv:Za prog 48 Zc7:=ZL ⟨ZqE,Zgk,Ze5,Ze4,ZQV,ZQP,ZfX,Tv⟩ Tryz.func48 rfl (by kernel_rfl) Tryz.call48 trivial
abbrev ZO:List Sh:=[Sh.agg Zbc,So Kc,So (R.sl Ka),Sh.agg (Pq R.bool (Pq R.bool rcF7))]
def ZV0 (k:Int):List (FuncId×En):=[(43,ZdR k),(44,Zkj),(47,Zwm),(48,Zc7)]
theorem ZRb (k:Int):ZdM prog (ZV0 k):=⟨(Zgj k),Zk1,ZzG,Zfv,Tv⟩
abbrev EV0 (k:Int) (a:HL ZO):=Zg1 (envX prog (ZV0 k) [] 1023 8) Tryz.f18 ZO ZK8 a
