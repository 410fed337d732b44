import Derived.Test.YteaflmalcclnoaaGreatDoorFin1
import Derived.Test.YteaflmalcclnoaaGreatDoorFin2
import Derived.Test.YteaflmalcclnoaaGreatDoorFin3
import Derived.Test.YteaflmalcclnoaaGreatDoorFin4
import Derived.Shelf.Spec.SlicesInsertGrow
import Derived.Deep.RegionLaw
import Derived.Lib.SliceRun
open Go Go.S3 Go.Proofs
open Go.S3.R (Pq)
set_option linter.unusedVariables false
set_option linter.unusedSimpArgs false
set_option maxRecDepth 100000
namespace Go.Proofs.YteaflmalcclnoaaGreatDoor
noncomputable section
theorem fp_1 (c) (s:Int) (g:List Int) (l) (n:Int) (hk:(Zc c.1 (g.getD 0 0)).1=n):(n=1->(ZAY c s g l).val=some (finX c s g l))/\(n=6->(ZAT c s g l).val=some (finX c s g l))/\(n=10->(Zt1 c s g l).val=some (finX c s g l))/\(n=17->(ZtU c s g l).val=some (finX c s g l))/\(n=21->(ZtQ c s g l).val=some (finX c s g l))/\(n=28->(ZtJ c s g l).val=some (finX c s g l))/\(n=33->(ZtE c s g l).val=some (finX c s g l))/\(n=37->(ZtA c s g l).val=some (finX c s g l))/\(n=43->(Ztu c s g l).val=some (finX c s g l)):=by
 refine⟨?_,?_,?_,?_,?_,?_,?_,?_,?_⟩;all_goals intro e;subst e
 all_goals simp only[ZAY,ZAT,Zt1,ZtU,ZtQ,ZtJ,ZtE,ZtA,Ztu,RT.val,rgx]
 all_goals simp only[qat0,mat0,qat1,mat1,rg0,hk,ZG,Zap,Za3,Z7,Z8,ZU,ZV,Zcr,Zct,ZhV,ZhU,ZF,Zbv,finX,spOf]
 all_goals generalize Zz s=bi
 all_goals cases bi with
 |true=>simp[wPC,wSP]
 |false=>
  generalize (s==5)=bs;simp only[finI,hk,finR,wPC,wSP,wA,wF,fCY,fVCY,Zgw,flOf,ZW,pcOf,Zce];generalize Zc c.1 (g.getD 0 0)=i at hk|-;simp (config:={implicitDefEqProofs:=false}) [ZdU,ZdO,ZeS,hk]
theorem fp_2 (c) (s:Int) (g:List Int) (l) (n:Int) (hk:(Zc c.1 (g.getD 0 0)).1=n):(n=3->(ZAW c s g l).val=some (finX c s g l))/\(n=7->(ZAS c s g l).val=some (finX c s g l))/\(n=11->(Zt0 c s g l).val=some (finX c s g l))/\(n=18->(ZtT c s g l).val=some (finX c s g l))/\(n=22->(ZtP c s g l).val=some (finX c s g l))/\(n=29->(ZtI c s g l).val=some (finX c s g l))/\(n=34->(ZtD c s g l).val=some (finX c s g l))/\(n=40->(Ztx c s g l).val=some (finX c s g l))/\(n=44->(Ztt c s g l).val=some (finX c s g l)):=by
 refine⟨?_,?_,?_,?_,?_,?_,?_,?_,?_⟩;all_goals intro e;subst e
 all_goals simp only[ZAW,ZAS,Zt0,ZtT,ZtP,ZtI,ZtD,Ztx,Ztt,RT.val,rgx]
 all_goals simp only[qat0,mat0,qat1,mat1,rg0,hk,ZG,Zap,Za3,Z7,Z8,ZU,ZV,Zcr,Zct,ZhV,ZhU,ZF,Zbv,finX,spOf]
 all_goals generalize Zz s=bi
 all_goals cases bi with
 |true=>simp[wPC,wSP]
 |false=>
  generalize (s==5)=bs;simp only[finI,hk,finR,wPC,wSP,wA,wF,fCY,fVCY,Zgw,flOf,ZW,pcOf,Zce];generalize Zc c.1 (g.getD 0 0)=i at hk|-;simp (config:={implicitDefEqProofs:=false}) [ZdU,ZdO,ZeS,hk]
theorem fp_3 (c) (s:Int) (g:List Int) (l) (n:Int) (hk:(Zc c.1 (g.getD 0 0)).1=n):(n=4->(ZAV c s g l).val=some (finX c s g l))/\(n=8->(ZAR c s g l).val=some (finX c s g l))/\(n=13->(ZtY c s g l).val=some (finX c s g l))/\(n=19->(ZtS c s g l).val=some (finX c s g l))/\(n=23->(ZtO c s g l).val=some (finX c s g l))/\(n=30->(ZtH c s g l).val=some (finX c s g l))/\(n=35->(ZtC c s g l).val=some (finX c s g l))/\(n=41->(Ztw c s g l).val=some (finX c s g l))/\(n=46->(Ztr c s g l).val=some (finX c s g l)):=by
 refine⟨?_,?_,?_,?_,?_,?_,?_,?_,?_⟩;all_goals intro e;subst e
 all_goals simp only[ZAV,ZAR,ZtY,ZtS,ZtO,ZtH,ZtC,Ztw,Ztr,RT.val,rgx]
 all_goals simp only[qat0,mat0,qat1,mat1,rg0,hk,ZG,Zap,Za3,Z7,Z8,ZU,ZV,Zcr,Zct,ZhV,ZhU,ZF,Zbv,finX,spOf]
 all_goals generalize Zz s=bi
 all_goals cases bi with
 |true=>simp[wPC,wSP]
 |false=>
  generalize (s==5)=bs;simp only[finI,hk,finR,wPC,wSP,wA,wF,fCY,fVCY,Zgw,flOf,ZW,pcOf,Zce];generalize Zc c.1 (g.getD 0 0)=i at hk|-;simp (config:={implicitDefEqProofs:=false}) [ZdU,ZdO,ZeS,hk]
theorem fp_4 (c) (s:Int) (g:List Int) (l) (n:Int) (hk:(Zc c.1 (g.getD 0 0)).1=n):(n=5->(ZAU c s g l).val=some (finX c s g l))/\(n=9->(ZAQ c s g l).val=some (finX c s g l))/\(n=16->(ZtV c s g l).val=some (finX c s g l))/\(n=20->(ZtR c s g l).val=some (finX c s g l))/\(n=27->(ZtK c s g l).val=some (finX c s g l))/\(n=32->(ZtF c s g l).val=some (finX c s g l))/\(n=36->(ZtB c s g l).val=some (finX c s g l))/\(n=42->(Ztv c s g l).val=some (finX c s g l))/\(n=47->(Ztq c s g l).val=some (finX c s g l)):=by
 refine⟨?_,?_,?_,?_,?_,?_,?_,?_,?_⟩;all_goals intro e;subst e
 all_goals simp only[ZAU,ZAQ,ZtV,ZtR,ZtK,ZtF,ZtB,Ztv,Ztq,RT.val,rgx]
 all_goals simp only[qat0,mat0,qat1,mat1,rg0,hk,ZG,Zap,Za3,Z7,Z8,ZU,ZV,Zcr,Zct,ZhV,ZhU,ZF,Zbv,finX,spOf]
 all_goals generalize Zz s=bi
 all_goals cases bi with
 |true=>simp[wPC,wSP]
 |false=>
  generalize (s==5)=bs;simp only[finI,hk,finR,wPC,wSP,wA,wF,fCY,fVCY,Zgw,flOf,ZW,pcOf,Zce];generalize Zc c.1 (g.getD 0 0)=i at hk|-;simp (config:={implicitDefEqProofs:=false}) [ZdU,ZdO,ZeS,hk]
theorem fp_5 (c) (s:Int) (g:List Int) (l) (n:Int) (hk:(Zc c.1 (g.getD 0 0)).1=n):(n=2->(ZAX c s g l).val=some (finX c s g l))/\(n=12->(ZtZ c s g l).val=some (finX c s g l)):=by
 refine⟨?_,?_⟩;all_goals intro e;subst e
 all_goals simp only[ZAX,ZtZ,RT.val,rgx]
 all_goals simp only[qat0,mat0,qat1,mat1,rg0,hk,ZG,Zap,Za3,Z7,Z8,ZU,ZV,Zcr,Zct,ZhV,ZhU,ZF,Zbv,finX,spOf]
 all_goals generalize Zz s=bi
 all_goals cases bi with
 |true=>simp[wPC,wSP]
 |false=>
  generalize (s==5)=bs;simp only[finI,hk,finR,wPC,wSP,wA,wF,fCY,fVCY,Zgw,flOf,ZW,pcOf,Zce];generalize Zc c.1 (g.getD 0 0)=i at hk|-;generalize (i.2.2.2.1==6)=b0;cases b0<;>simp (config:={implicitDefEqProofs:=false}) [ZdU,ZdO,ZeS,hk]
theorem fp_6 (c) (s:Int) (g:List Int) (l) (n:Int) (hk:(Zc c.1 (g.getD 0 0)).1=n):(n=14->(ZtX c s g l).val=some (finX c s g l))/\(n=15->(ZtW c s g l).val=some (finX c s g l)):=by
 refine⟨?_,?_⟩;all_goals intro e;subst e
 all_goals simp only[ZtX,ZtW,RT.val,rgx]
 all_goals simp only[qat0,mat0,qat1,mat1,rg0,hk,ZG,Zap,Za3,Z7,Z8,ZU,ZV,Zcr,Zct,ZhV,ZhU,ZF,Zbv,finX,spOf]
 all_goals generalize Zz s=bi
 all_goals cases bi with
 |true=>simp[wPC,wSP]
 |false=>
  generalize (s==5)=bs;simp only[finI,hk,finR,wPC,wSP,wA,wF,fCY,fVCY,Zgw,flOf,ZW,pcOf,Zce];generalize Zc c.1 (g.getD 0 0)=i at hk|-;generalize (i.2.2.1==6)=b0;cases b0<;>simp (config:={implicitDefEqProofs:=false}) [ZdU,ZdO,ZeS,hk]
theorem fp_7 (c) (s:Int) (g:List Int) (l) (n:Int) (hk:(Zc c.1 (g.getD 0 0)).1=n):(n=24->(ZtN c s g l).val=some (finX c s g l))/\(n=25->(ZtM c s g l).val=some (finX c s g l))/\(n=26->(ZtL c s g l).val=some (finX c s g l))/\(n=45->(Zts c s g l).val=some (finX c s g l)):=by
 refine⟨?_,?_,?_,?_⟩;all_goals intro e;subst e
 all_goals simp only[ZtN,ZtM,ZtL,Zts,RT.val,rgx]
 all_goals simp only[qat0,mat0,qat1,mat1,rg0,hk,ZG,Zap,Za3,Z7,Z8,ZU,ZV,Zcr,Zct,ZhV,ZhU,ZF,Zbv,finX,spOf]
 all_goals generalize Zz s=bi
 all_goals cases bi with
 |true=>simp[wPC,wSP]
 |false=>
  generalize (s==5)=bs;simp only[finI,hk,finR,wPC,wSP,wA,wF,fCY,fVCY,Zgw,flOf,ZW,pcOf,Zce];generalize Zc c.1 (g.getD 0 0)=i at hk|-;generalize Zga _ _=b0;cases b0<;>simp (config:={implicitDefEqProofs:=false}) [ZdU,ZdO,ZeS,hk]
theorem fp_8 (c) (s:Int) (g:List Int) (l) (n:Int) (hk:(Zc c.1 (g.getD 0 0)).1=n):(n=31->(ZtG c s g l).val=some (finX c s g l)):=by
 skip
 all_goals intro e;subst e
 all_goals simp only[ZtG,RT.val,rgx]
 all_goals simp only[qat0,mat0,qat1,mat1,rg0,hk,ZG,Zap,Za3,Z7,Z8,ZU,ZV,Zcr,Zct,ZhV,ZhU,ZF,Zbv,finX,spOf]
 all_goals generalize Zz s=bi
 all_goals cases bi with
 |true=>simp[wPC,wSP]
 |false=>
  generalize (s==5)=bs;simp only[finI,hk,finR,wPC,wSP,wA,wF,fCY,fVCY,Zgw,flOf,ZW,pcOf,Zce];generalize Zc c.1 (g.getD 0 0)=i at hk|-;generalize (i.2.2.2.2.1==3)=b0;cases b0<;>simp (config:={implicitDefEqProofs:=false}) [ZdU,ZdO,ZeS,hk]
theorem fp_9 (c) (s:Int) (g:List Int) (l) (n:Int) (hk:(Zc c.1 (g.getD 0 0)).1=n):(n=38->(Ztz c s g l).val=some (finX c s g l)):=by
 skip
 all_goals intro e;subst e
 all_goals simp only[Ztz,RT.val,rgx]
 all_goals simp only[qat0,mat0,qat1,mat1,rg0,hk,ZG,Zap,Za3,Z7,Z8,ZU,ZV,Zcr,Zct,ZhV,ZhU,ZF,Zbv,finX,spOf]
 all_goals generalize Zz s=bi
 all_goals cases bi with
 |true=>simp[wPC,wSP]
 |false=>
  generalize (s==5)=bs;simp only[finI,hk,finR,wPC,wSP,wA,wF,fCY,fVCY,Zgw,flOf,ZW,pcOf,Zce];generalize Zc c.1 (g.getD 0 0)=i at hk|-;simp[ZdU,ZdO,ZeS,hk,ZSZ]
theorem fp_10 (c) (s:Int) (g:List Int) (l) (n:Int) (hk:(Zc c.1 (g.getD 0 0)).1=n):(n=39->(Zty c s g l).val=some (finX c s g l)):=by
 skip
 all_goals intro e;subst e
 all_goals simp only[Zty,RT.val,rgx]
 all_goals simp only[qat0,mat0,qat1,mat1,rg0,hk,ZG,Zap,Za3,Z7,Z8,ZU,ZV,Zcr,Zct,ZhV,ZhU,ZF,Zbv,finX,spOf]
 all_goals generalize Zz s=bi
 all_goals cases bi with
 |true=>simp[wPC,wSP]
 |false=>
  generalize (s==5)=bs;simp only[finI,hk,finR,wPC,wSP,wA,wF,fCY,fVCY,Zgw,flOf,ZW,pcOf,Zce];generalize Zc c.1 (g.getD 0 0)=i at hk|-;simp[ZdU,ZdO,ZeS,hk,rSim,ZU4,RT.val]
theorem ZVZ (a:HL ZO) (h:okHL ZO a):∃l,ZdM Tryz.prog l/\(Zg1 (envX Tryz.prog l [] 1023 8) Tryz.f18 ZO ZK8 a).val=some (finX a.1 a.2.1 a.2.2.1 a.2.2.2):=by
 have hk:=ZNE a.1.1 _ (ZN2 h.2.2.1);refine⟨ZV0 (Zc a.1.1 (a.2.2.1.getD 0 0)).1,ZRb _,?_⟩;show (EV0 _ a).val=_;rcases ZND hk.1 hk.2 with e|e|e|e|e|e|e|e|e|e|e|e|e|e|e|e|e|e|e|e|e|e|e|e|e|e|e|e|e|e|e|e|e|e|e|e|e|e|e|e|e|e|e|e|e|e|e
 ·rw[e,ZMj a,((fp_1 a.1 a.2.1 a.2.2.1 a.2.2.2 _ e).1 rfl)]
 ·rw[e,ZMi a,((fp_5 a.1 a.2.1 a.2.2.1 a.2.2.2 _ e).1 rfl)]
 ·rw[e,ZMh a,((fp_2 a.1 a.2.1 a.2.2.1 a.2.2.2 _ e).1 rfl)]
 ·rw[e,ZMg a,((fp_3 a.1 a.2.1 a.2.2.1 a.2.2.2 _ e).1 rfl)]
 ·rw[e,ZMf a,((fp_4 a.1 a.2.1 a.2.2.1 a.2.2.2 _ e).1 rfl)]
 ·rw[e,ZMe a,((fp_1 a.1 a.2.1 a.2.2.1 a.2.2.2 _ e).2.1 rfl)]
 ·rw[e,ZMd a,((fp_2 a.1 a.2.1 a.2.2.1 a.2.2.2 _ e).2.1 rfl)]
 ·rw[e,ZMc a,((fp_3 a.1 a.2.1 a.2.2.1 a.2.2.2 _ e).2.1 rfl)]
 ·rw[e,ZMb a,((fp_4 a.1 a.2.1 a.2.2.1 a.2.2.2 _ e).2.1 rfl)]
 ·rw[e,ZHb a,((fp_1 a.1 a.2.1 a.2.2.1 a.2.2.2 _ e).2.2.1 rfl)]
 ·rw[e,ZHa a,((fp_2 a.1 a.2.1 a.2.2.1 a.2.2.2 _ e).2.2.1 rfl)]
 ·rw[e,ZG9 a,((fp_5 a.1 a.2.1 a.2.2.1 a.2.2.2 _ e).2 rfl)]
 ·rw[e,ZG8 a,((fp_3 a.1 a.2.1 a.2.2.1 a.2.2.2 _ e).2.2.1 rfl)]
 ·rw[e,ZG7 a,((fp_6 a.1 a.2.1 a.2.2.1 a.2.2.2 _ e).1 rfl)]
 ·rw[e,ZG6 a,((fp_6 a.1 a.2.1 a.2.2.1 a.2.2.2 _ e).2 rfl)]
 ·rw[e,ZG5 a,((fp_4 a.1 a.2.1 a.2.2.1 a.2.2.2 _ e).2.2.1 rfl)]
 ·rw[e,ZG4 a,((fp_1 a.1 a.2.1 a.2.2.1 a.2.2.2 _ e).2.2.2.1 rfl)]
 ·rw[e,ZG3 a,((fp_2 a.1 a.2.1 a.2.2.1 a.2.2.2 _ e).2.2.2.1 rfl)]
 ·rw[e,ZG2 a,((fp_3 a.1 a.2.1 a.2.2.1 a.2.2.2 _ e).2.2.2.1 rfl)]
 ·rw[e,ZG1 a,((fp_4 a.1 a.2.1 a.2.2.1 a.2.2.2 _ e).2.2.2.1 rfl)]
 ·rw[e,ZG0 a,((fp_1 a.1 a.2.1 a.2.2.1 a.2.2.2 _ e).2.2.2.2.1 rfl)]
 ·rw[e,ZGZ a,((fp_2 a.1 a.2.1 a.2.2.1 a.2.2.2 _ e).2.2.2.2.1 rfl)]
 ·rw[e,ZGY a,((fp_3 a.1 a.2.1 a.2.2.1 a.2.2.2 _ e).2.2.2.2.1 rfl)]
 ·rw[e,ZGX a,((fp_7 a.1 a.2.1 a.2.2.1 a.2.2.2 _ e).1 rfl)]
 ·rw[e,ZGW a,((fp_7 a.1 a.2.1 a.2.2.1 a.2.2.2 _ e).2.1 rfl)]
 ·rw[e,ZGV a,((fp_7 a.1 a.2.1 a.2.2.1 a.2.2.2 _ e).2.2.1 rfl)]
 ·rw[e,ZGU a,((fp_4 a.1 a.2.1 a.2.2.1 a.2.2.2 _ e).2.2.2.2.1 rfl)]
 ·rw[e,ZGT a,((fp_1 a.1 a.2.1 a.2.2.1 a.2.2.2 _ e).2.2.2.2.2.1 rfl)]
 ·rw[e,ZGS a,((fp_2 a.1 a.2.1 a.2.2.1 a.2.2.2 _ e).2.2.2.2.2.1 rfl)]
 ·rw[e,ZGR a,((fp_3 a.1 a.2.1 a.2.2.1 a.2.2.2 _ e).2.2.2.2.2.1 rfl)]
 ·rw[e,ZGQ a,((fp_8 a.1 a.2.1 a.2.2.1 a.2.2.2 _ e) rfl)]
 ·rw[e,ZGP a,((fp_4 a.1 a.2.1 a.2.2.1 a.2.2.2 _ e).2.2.2.2.2.1 rfl)]
 ·rw[e,ZGO a,((fp_1 a.1 a.2.1 a.2.2.1 a.2.2.2 _ e).2.2.2.2.2.2.1 rfl)]
 ·rw[e,ZGN a,((fp_2 a.1 a.2.1 a.2.2.1 a.2.2.2 _ e).2.2.2.2.2.2.1 rfl)]
 ·rw[e,ZGM a,((fp_3 a.1 a.2.1 a.2.2.1 a.2.2.2 _ e).2.2.2.2.2.2.1 rfl)]
 ·rw[e,ZGL a,((fp_4 a.1 a.2.1 a.2.2.1 a.2.2.2 _ e).2.2.2.2.2.2.1 rfl)]
 ·rw[e,ZGK a,((fp_1 a.1 a.2.1 a.2.2.1 a.2.2.2 _ e).2.2.2.2.2.2.2.1 rfl)]
 ·rw[e,ZGJ a,((fp_9 a.1 a.2.1 a.2.2.1 a.2.2.2 _ e) rfl)]
 ·rw[e,ZGI a,((fp_10 a.1 a.2.1 a.2.2.1 a.2.2.2 _ e) rfl)]
 ·rw[e,ZGH a,((fp_2 a.1 a.2.1 a.2.2.1 a.2.2.2 _ e).2.2.2.2.2.2.2.1 rfl)]
 ·rw[e,ZGG a,((fp_3 a.1 a.2.1 a.2.2.1 a.2.2.2 _ e).2.2.2.2.2.2.2.1 rfl)]
 ·rw[e,ZGF a,((fp_4 a.1 a.2.1 a.2.2.1 a.2.2.2 _ e).2.2.2.2.2.2.2.1 rfl)]
 ·rw[e,ZGE a,((fp_1 a.1 a.2.1 a.2.2.1 a.2.2.2 _ e).2.2.2.2.2.2.2.2 rfl)]
 ·rw[e,ZGD a,((fp_2 a.1 a.2.1 a.2.2.1 a.2.2.2 _ e).2.2.2.2.2.2.2.2 rfl)]
 ·rw[e,ZGC a,((fp_7 a.1 a.2.1 a.2.2.1 a.2.2.2 _ e).2.2.2 rfl)]
 ·rw[e,ZGB a,((fp_3 a.1 a.2.1 a.2.2.1 a.2.2.2 _ e).2.2.2.2.2.2.2.2 rfl)]
 ·rw[e,ZGA a,((fp_4 a.1 a.2.1 a.2.2.1 a.2.2.2 _ e).2.2.2.2.2.2.2.2 rfl)]
def ZV1:En:=Zf ZO ZK8 (λ_=>none) (λa=>finX a.1 a.2.1 a.2.2.1 a.2.2.2)
theorem ZVY:Za Tryz.prog 18 ZV1:=ZDq Tryz.func18 rfl (by kernel_rfl) Tryz.call18 λa h _=>ZVZ a h
theorem Zqq (c op:Int) (h:c≠2):Zc c op=Zc 0 op:=by unfold Zc;rw[ZmO c op h]
theorem Zzy (c op:Int) (h:c≠2):ZqR c op=ZqR 0 op:=by
 have h1:(c==2)=false:=by simpa using h
 have h0:((0:Int)==2)=false:=rfl;simp only[ZqR,ZAO,RT.val,Zqq c op h,h1,h0]
theorem ZyS (c op:Int) (h:c≠2):ZeP c op=ZeP 0 op:=by
 have h1:rOn c=false:=by simpa [Zbv] using h
 have h0:rOn 0=false:=rfl;simp only[ZeP,Zzb,RT.val,Zqq c op h,h1,h0]
def firT (c op:Int):Bool:=ZqR c op==ZeP c op
theorem ZR3 (c op:Int) (h:inR .u8 op):ZqR c op=ZeP c op:=by
 by_cases hc:c=2
 ·subst hc;exact eq_of_beq (Zf5 (firT 2) (by kernel_rfl) op h)
 ·rw[Zzy c op hc,ZyS c op hc];exact eq_of_beq (Zf5 (firT 0) (by kernel_rfl) op h)
def ZEf:En:=Zf Zwp ZTl (λ_=>none) (λa=>ZeP a.1 a.2)
theorem ZGy:Za Tryz.prog 17 ZEf:=ZL9.tot (λa h=>by simp) (λa h=>ZR3 _ _ h.2)
end
end Go.Proofs.YteaflmalcclnoaaGreatDoor
open Go.Proofs.Tryz (prog)
open Go.IntKind (u8 u16 i64 wrap)
namespace Go.Proofs.YteaflmalcclnoaaGreatDoor
noncomputable section
def ZK6 (c:CORT):RT (Int):=
 .br (decide (c.2.2.2.2.1<1)||decide (c.2.2.2.2.1>9))
 (.Lf (1))
 (.Lf c.2.2.2.2.1)
def ZbG (c:CORT):Int:=(ZK6 c).val
def Znr:En:=Zf ZMB ZTl (λ_=>none) (λa=>ZbG a)
theorem Znq:Za prog 69 Znr:=
 pureQ 7 [] [] _ _ trivial Tryz.func69 Tryz.call69 trivial
abbrev ZL1:List Sh:=[Sh.agg (Pq Zbc (Pq Kc (Pq (R.sl Ka) (Pq (RY) (Pq Kc R.bool))))),So R.bool]
def ZL2 (c:CORT) (h:Bool):RT (Int):=
 .br (h)
 (.Lf (8))
 (.br (c.1.2.2.2.2.1&&c.2.1==0)
  (.Lf (9))
  (.Lf (1)))
def ZwE (c:CORT) (h:Bool):Int:=(ZL2 c h).val
def ZEd:En:=Zf ZL1 ZTl (λ_=>none) (λa=>ZwE a.1 a.2)
theorem ZEc:Za prog 147 ZEd:=
 pureQ 191 [] [] _ _ trivial Tryz.func147 Tryz.call147 trivial
abbrev ZqJ:List Sh:=[So Kc,So R.bool]
def Znj (s:Int) (h:Bool):RT (Int):=
 .br (h)
 (.Lf (8))
 (.br (s==0)
  (.Lf (9))
  (.Lf (1)))
def ZlJ (s:Int) (h:Bool):Int:=(Znj s h).val
def Zwl:En:=Zf ZqJ ZTl (λ_=>none) (λa=>ZlJ a.1 a.2)
theorem ZzF:Za prog 150 Zwl:=
 pureQ 191 [] [] _ _ trivial Tryz.func150 Tryz.call150 trivial
abbrev ZDS:List Sh:=[Sh.agg (Pq Zbc (Pq Kc (Pq (R.sl Ka) (Pq (RY) (Pq Kc R.bool))))),So Kc]
abbrev ZDT:Rs:=Rs.one (Sh.agg (Pq Zbc (Pq Kc (Pq (R.sl Ka) (Pq (RY) (Pq Kc R.bool))))))
def ZLe (c:CORT) (s:Int):RT CORT:=
 .Lf ((ZA c.1 s,s,[],(Zm (ZA c.1 s) s []).1,c.2.2.2.2))
def Zwv (c:CORT) (s:Int):CORT:=(ZLe c s).val
def ZsS:En:=Zf ZDS ZDT (λ_=>none) (λa=>Zwv a.1 a.2)
theorem Zwu:Za prog 149 ZsS:=
 pureQ 31 [(16,ZwC),(206,ZwN)] [] _ _ ⟨Zs5,ZA8,Tv⟩ Tryz.func149 Tryz.call149 trivial
def ZME (c:TC) (s:Int):RT CORT:=
 .Lf ((c,s,[],(Zm c s []).1,1,false))
def Zfn (c:TC) (s:Int):CORT:=(ZME c s).val
def ZA2:En:=Zf Zon ZDT (λ_=>none) (λa=>Zfn a.1 a.2)
theorem ZwL:Za prog 141 ZA2:=
 pureQ 127 [(16,ZwC)] [] _ _ ⟨Zs5,Tv⟩ Tryz.func141 Tryz.call141 trivial
def Zy0 (c:CORT):RT (Int):=
 .br (decide (c.2.2.2.2.1<1)||decide (c.2.2.2.2.1>9))
 (.Lf (1))
 (.Lf c.2.2.2.2.1)
def Zq (c:CORT):Int:=(Zy0 c).val
def ZS3 (t:Int) (x:QT15):RT (Bool):=
 .br (t==3)
 (.Lf (decide (x.2.2.2<=3)))
 (.br (bif t==4 then t==4 else t==5)
  (.Lf (decide (x.2.2.2<=t)))
  (.Lf (t==6)))
def ZpQ (t:Int) (x:QT15):Bool:=(ZS3 t x).val
def ZVP (chip:Int):RT CORT:=
 let x1:TR:=(0,0,0,0,0,0,0,(false,false,false,false,false,false,false),0,0)
 let x2:TC:=(Zfn (ZY (chip,x1,false,false,false,0,false,false,false,false,false,false,false)) 0).1
 .Lf (((x2.1,x1,false,false,false,x2.2.2.2.2.2.1,false,false,false,false,false,false,false),0,[],(1,0,0,4),1,false))
def pNew (chip:Int):CORT:=(ZVP chip).val
def pNewE:En:=Zf Zwr ZDT (λ_=>none) (λa=>pNew a)
theorem ZVO:Za prog 57 pNewE:=
 pureQ 7 [(141,ZA2),(142,ZsW)] [] _ _ ⟨ZwL,ZqP,Tv⟩ Tryz.func57 Tryz.call57 trivial
def Zlg:En:=.tree (Zo (envX prog [(16,ZwC),(18,ZV1),(147,ZEd),(148,Zs1),(149,ZsS)] [] 1023 8) Tryz.f146)
theorem ZpX:Za prog 146 Zlg:=ZL ⟨Zs5,ZVY,ZEc,Zwy,Zwu,Tv⟩ Tryz.func146 rfl (by kernel_rfl) Tryz.call146 trivial
abbrev ZMH:List Sh:=[Sh.agg (Pq Zbc (Pq Kc (Pq (R.sl Ka) (Pq (RY) (Pq Kc R.bool))))),Sh.agg ZJP,So Ka]
abbrev ZEu:Rs:=Rs.tup [Sh.agg (Pq Zbc (Pq Kc (Pq (R.sl Ka) (Pq (RY) (Pq Kc R.bool))))),Sh.agg (Pq R.bool (Pq Zbc (Pq (R.sl Ka) (Pq (RY) Zbc))))]
def ZMI (c:CORT) (l:LINT) (d:Int):RT (Option (CORT×Bool×TC×List Int×TY×TC)):=
 let x1:Int:=bif Zba c.2.2.2.1.1 then d else c.2.2.2.1.2.2.1
 let x2:List Int:=c.2.2.1++[x1]
 let x3:TC:=(0,(0,0,0,0,0,0,0,(false,false,false,false,false,false,false),0,0),false,false,false,0,false,false,false,false,false,false,false)
 let x4:Bool×TC×List Int×TY×TC:=(false,x3,[],c.2.2.2.1,Ze c.1 l)
 let x5:Int:=bif c.2.2.2.1.1==1||c.2.2.2.1.1==8 then ZeP (Ze c.1 l).1 x1 else c.2.2.2.1.2.2.2
 let x6:QT15:=(c.2.2.2.1.1,c.2.2.2.1.2.1,x1,x5)
 let x7:TY×TC:=(x6,Ze c.1 l)
 let x8:Bool×TC×List Int×TY×TC:=(false,x3,[],x7)
 let x9:=Zm (Ze c.1 l) c.2.1 x2
 let x10:=x9.1
 let x11:=finX (Ze c.1 l) c.2.1 x2 l
 let x12:=Zwv (x11,c.2.1,x2,x6,c.2.2.2.2) (ZbP x11 l)
 let x13:=x12.2
 let x14:=x13.2.2
 let x15:=Zwv (finX (Ze c.1 l) c.2.1 c.2.2.1 l,c.2) (ZbP (finX (Ze c.1 l) c.2.1 c.2.2.1 l) l)
 let x16:=x15.2
 let x17:=x16.2.2
 let x18:=Zwv (Ze c.1 l,c.2) (ZbP (Ze c.1 l) l)
 let x19:=x18.2
 let x20:=x19.2.2
 .br (Nat.ble (Le c.2.2.1) most) (.br (ZbG c==1||((bif ZbG c==2 then ZbG c==2 else ZbG c==7)||(!ZbG c==3||Nat.ble (Le x2) most))) (.br (ZbG c==1) (Ls (((Ze c.1 l,c.2.1,c.2.2.1,c.2.2.2.1,2,c.2.2.2.2.2),x4))) (.br (bif ZbG c==2 then ZbG c==2 else ZbG c==7) (Ls (((Ze c.1 l,c.2.1,c.2.2.1,c.2.2.2.1,bif Zg c.2.2.2.1.1&& !l.1 then 7 else 3,bif Zg c.2.2.2.1.1&& !l.1 then c.2.2.2.2.2 else l.2.1),x4))) (.br (ZbG c==3) (.br (decide (x5>3)) (Ls (((Ze c.1 l,c.2.1,x2,x6,4,c.2.2.2.2.2),x8))) (.br x9.2 (Ls (((Ze c.1 l,c.2.1,x2,x10,ZwE (Ze c.1 l,c.2.1,x2,x10,c.2.2.2.2) c.2.2.2.2.2,false),x8))) (Ls (((x12.1,x13.1,[],x14.1,ZwE x12 x14.2.2,false),true,x11,x2,x7))))) (.br (bif ZbG c==4 then ZbG c==4 else bif ZbG c==5 then ZbG c==5 else ZbG c==6) (.br (decide (c.2.2.2.1.2.2.2>ZbG c)&&ZbG c !=6) (Ls (((Ze c.1 l,c.2.1,c.2.2.1,c.2.2.2.1,i64.wrap (ZbG c+1),c.2.2.2.2.2),x4))) (.br (Zm (Ze c.1 l) c.2.1 c.2.2.1).2 (Ls (((Ze c.1 l,c.2.1,c.2.2.1,(Zm (Ze c.1 l) c.2.1 c.2.2.1).1,ZwE (Ze c.1 l,c.2.1,c.2.2.1,(Zm (Ze c.1 l) c.2.1 c.2.2.1).1,c.2.2.2.2) c.2.2.2.2.2,false),x4))) (Ls (((x15.1,x16.1,[],x17.1,ZwE x15 x17.2.2,false),true,finX (Ze c.1 l) c.2.1 c.2.2.1 l,c.2.2.1,c.2.2.2.1,Ze c.1 l))))) (.br (ZbG c==8) (Ls (((Ze c.1 l,c.2.1,c.2.2.1,c.2.2.2.1,ZwE (Ze c.1 l,c.2) l.2.1,c.2.2.2.2.2),x4))) (.br (ZbG c==9) (.br (ZbP (Ze c.1 l) l !=0) (Ls (((x18.1,x19.1,[],x20.1,ZlJ (ZbP (Ze c.1 l) l) l.2.1,x20.2.2),x4))) (Ls (((Ze c.1 l,c.2.1,c.2.2.1,c.2.2.2.1,ZlJ (ZbP (Ze c.1 l) l) l.2.1,c.2.2.2.2.2),x4)))) (Ls (((Ze c.1 l,c.2),x4))))))))) Ln) Ln
def pAdv (c:CORT) (l:LINT) (d:Int):CORT×Bool×TC×List Int×TY×TC:=getO ZEu.Df (ZMI c l d).val
def ZMJ (c:CORT) (l:LINT) (d:Int):Bool:=okB (ZMI c l d).val
def ZYD:En:=Zf ZMH ZEu (λa=>some (ZMJ a.1 a.2.1 a.2.2)) (λa=>pAdv a.1 a.2.1 a.2.2)
theorem ZMG:Za prog 63 ZYD:=
 pureP 2679225218618052313454186380042176511 [(17,ZEf),(69,Znr),(70,ZdY),(79,ZkQ),(144,ZD7),(145,ZqU),(146,Zlg),(147,ZEd),(148,Zs1),(149,ZsS),(150,Zwl)] [] _ _ ⟨ZGy,Znq,Zfm,Zpz,ZGw,ZwM,ZpX,ZEc,Zwy,Zwu,ZzF,Tv⟩ Tryz.func63 Tryz.call63 trivial
abbrev ZlR:Rs:=Rs.tup [Sh.agg (Pq Zbc (Pq Kc (Pq (R.sl Ka) (Pq (RY) (Pq Kc R.bool))))),Sh.agg ZcS]
def Zkk (c:CORT) (l:LINT) (d:Int):RT (Option (CORT×PINT)):=
 let x1:Int×TF×Int×Int:=(Zfn (ZY c.1) 0).1.2.1.2.2.2.2.2.2
 let x2:=x1.2
 let x3:TY×Int×Int×Bool×Bool:=(c.2.2.2.1,d,c.1.2.1.2.2.2.2.2.2.2.2.2,c.1.2.2.1,c.1.2.2.2.2.2.2.2.2.2.2.2.2)
 .br l.2.2.1 (Ls (((((Zfn (ZY c.1) 0).1.1,((Zfn (ZY c.1) 0).1.2.1.1,(Zfn (ZY c.1) 0).1.2.1.2.1,(Zfn (ZY c.1) 0).1.2.1.2.2.1,(Zfn (ZY c.1) 0).1.2.1.2.2.2.1,(Zfn (ZY c.1) 0).1.2.1.2.2.2.2.1,(Zfn (ZY c.1) 0).1.2.1.2.2.2.2.2.1,x1.1,x2.1,x2.2.1,0),false,false,false,(Zfn (ZY c.1) 0).1.2.2.2.2.2.1,false,false,false,false,false,false,false),0,[],(1,0,0,4),1,false),ZGi c.1.1 (10,x3)))) (.br (ZMJ c l d) (Ls (((pAdv c l d).1,ZGi c.1.1 (ZbG c,x3)))) Ln)
def ZTt (c:CORT) (l:LINT) (d:Int):CORT×PINT:=getO ZlR.Df (Zkk c l d).val
def ZMA (c:CORT) (l:LINT) (d:Int):Bool:=okB (Zkk c l d).val
def ZWe:En:=Zf ZMH ZlR (λa=>some (ZMA a.1 a.2.1 a.2.2)) (λa=>ZTt a.1 a.2.1 a.2.2)
theorem ZMz:Za prog 72 ZWe:=
 pureP 2047 [(32,ZDY),(63,ZYD),(69,Znr),(141,ZA2),(142,ZsW)] [] _ _ ⟨ZDX,ZMG,Znq,ZwL,ZqP,Tv⟩ Tryz.func72 Tryz.call72 trivial
abbrev LnT:=QT1
abbrev ZhL:=CpuT×Int×List Int×Cyc×Int×Bool
def Z2 (n:Int):Int:=bif decide (n<1)||decide (n>9) then 1 else n
def ZpB (c:CpuT) (s:Int):ZhL:=(c,s,[],(Zm c s []).1,1,false)
def idlX (c:CpuT) (s:Int) (h:Bool):Int:=bif h then 8 else bif c.2.2.2.2.1&&s==0 then 9 else 1
def endX (c:CpuT) (s:Int) (g:List Int) (h:Bool) (l:LnT):ZhL:=
 bif (Zm c s g).2 then (c,s,g,(Zm c s g).1,idlX c s h,false) else
 let q:=finX c s g l
 let k:=ZbP q l
 let d:=ZA q k
 (d,k,[],(Zm d k []).1,idlX d k h,false)
def ZaE (c:CpuT) (x:Cyc) (d:Int):Cyc:=
 let v:=bif Zba x.1 then d else x.2.2.1
 (x.1,x.2.1,v,bif x.1==1||x.1==8 then ZeP c.1 v else x.2.2.2)
def le3 (x:Int):Bool:=decide (x<=3)
def Zl (c:ZhL) (l:LnT) (d:Int):ZhL:=
 let t:=Z2 c.2.2.2.2.1
 let p:=Ze c.1 l
 let s:=c.2.1
 let g:=c.2.2.1
 let x:=c.2.2.2.1
 let h:=c.2.2.2.2.2
 bif l.2.2.1 then ZpB (ZY c.1) 0 else
 bif t==1 then (p,s,g,x,2,h) else
 bif t==2||t==7 then (bif l.1|| !Zg x.1 then (p,s,g,x,3,l.2.1) else (p,s,g,x,7,h)) else
 bif t==8 then (p,s,g,x,idlX p s l.2.1,h) else
 bif t==9 then
  (let k:=ZbP p l
   bif k==0 then (p,s,g,x,bif l.2.1 then 8 else 9,h) else
   (ZA p k,k,[],(Zm (ZA p k) k []).1,bif l.2.1 then 8 else 1,h)) else
 bif t==3 then
  (let y:=ZaE p x d
   bif le3 y.2.2.2 then endX p s (g++[y.2.2.1]) h l else (p,s,g++[y.2.2.1],y,4,h)) else
 bif decide (t<x.2.2.2)&& !(t==6) then (p,s,g,x,t+1,h) else endX p s g h l
abbrev PinT:=QT8
def ZpW (c:ZhL) (t:Int):Cyc:=bif t==9 then (0,c.1.2.1.2.2.2.2.2.2.2.2.2,0,0) else c.2.2.2.1
def ZbN (c:ZhL) (l:LnT) (d:Int):PinT:=
 let t:=Z2 c.2.2.2.2.1
 ZaZ c.1.1 (bif l.2.2.1 then 10 else t) (ZpW c t) (bif l.2.2.1 then 0 else d) c.1.2.2.1 c.1.2.2.2.2.2.2.2.2.2.2.2.2
theorem Zvu (n:Int):1<=Z2 n/\Z2 n<=9:=by
 unfold Z2;by_cases h:n<1\/n>9
 ·have:(decide (n<1)||decide (n>9))=true:=by simpa using h
  rw[this];simp
 ·have:(decide (n<1)||decide (n>9))=false:=by simpa using h
  rw[this];simp only[Yc];omega
theorem Zv9 (c):ZbG c=Z2 c.2.2.2.2.1:=rfl
theorem ZKu (c:ZhL) (s):Zwv c s=(ZA c.1 s,s,[],(Zm (ZA c.1 s) s []).1,c.2.2.2.2):=rfl
theorem ZQC (c:ZhL) (h:Bool):ZwE c h=idlX c.1 c.2.1 h:=by simp only[ZwE,ZL2,idlX,RT.val]
theorem ZYj (chip:Int) (x y:Cyc) (d:Int) (i o:Bool):ZaZ chip 10 x d i o=ZaZ chip 10 y 0 i o:=by simp only[ZaZ,ZhR,RT.val,Zbv];generalize (chip==2)=b;cases b<;>simp
theorem ZvO (c:CpuT):ZY c=((ZY c).1,((ZY c).2.1.1,(ZY c).2.1.2.1,(ZY c).2.1.2.2.1,(ZY c).2.1.2.2.2.1,(ZY c).2.1.2.2.2.2.1,(ZY c).2.1.2.2.2.2.2.1,(ZY c).2.1.2.2.2.2.2.2.1,(ZY c).2.1.2.2.2.2.2.2.2.1,(ZY c).2.1.2.2.2.2.2.2.2.2.1,0),false,false,false,(ZY c).2.2.2.2.2.1,false,false,false,false,false,false,false):=by simp only[ZY,ZmV,RT.val,Zbv]
theorem ZT1 (c:CpuT):ZpB (ZY c) 0=(ZY c,0,[],(1,0,0,4),1,false):=by
 simp only[ZpB];have:(Zm (ZY c) 0 []).1=(1,0,0,4):=by
  have hp:pcOf (ZY c)=0:=by rw[ZvO];rfl
  simp[Zm,Ze1,Zz,Zqx,RT.val,hp];rfl
 rw[this]
theorem len1 {α:Type} (l:List α) (x:α) (h:l.length+1<=most):Nat.ble l.length most=true/\Nat.ble (l++[x]).length most=true:=by rw[Yy,Yy];simp only[Yd,List.length_cons,List.length_nil];omega
abbrev ChgT:=Bool×CpuT×List Int×Cyc×CpuT
abbrev cpu0:CpuT:=(0,(0,0,0,0,0,0,0,(false,false,false,false,false,false,false),0,0),false,false,false,0,false,false,false,false,false,false,false)
def ZaB (c:ZhL) (l:LnT) (d:Int):ChgT:=
 let t:=Z2 c.2.2.2.2.1
 let p:=Ze c.1 l
 let s:=c.2.1
 let g:=c.2.2.1
 let x:=c.2.2.2.1
 bif t==3 then
  (let y:=ZaE p x d
   bif le3 y.2.2.2&& !(Zm p s (g++[y.2.2.1])).2 then (true,finX p s (g++[y.2.2.1]) l,g++[y.2.2.1],y,p) else (false,cpu0,[],y,p)) else
 bif (t==4||(t==5||t==6))&&(!(decide (t<x.2.2.2)&& !(t==6))&& !(Zm p s g).2) then (true,finX p s g l,g,x,p) else (false,cpu0,[],x,p)
theorem gt3 (x:Int):decide (x>3)= !le3 x:=by unfold le3;by_cases h:x<=3<;>simp[h]<;>omega
theorem ZA6 (c:ZhL) (l:LnT) (d:Int) (hg:c.2.2.1.length+1<=most) (hr:l.2.2.1=false):(ZMI c l d).val=some (Zl c l d,ZaB c l d):=by
 have h1:=λx=>len1 c.2.2.1 x hg
 obtain⟨t1,t2⟩:=Zvu c.2.2.2.2.1;unfold ZMI Zl ZaB;simp only[Zv9,hr,Yc,RT.val,(h1 0).1,(h1 _).2,Ya,Yk,ZKu,ZQC,endX,ZaE,idlX,ZlJ,Znj,gt3];have:Z2 c.2.2.2.2.1=1\/Z2 c.2.2.2.2.1=2\/Z2 c.2.2.2.2.1=7\/Z2 c.2.2.2.2.1=3\/Z2 c.2.2.2.2.1=4\/Z2 c.2.2.2.2.1=5\/Z2 c.2.2.2.2.1=6\/Z2 c.2.2.2.2.1=8\/Z2 c.2.2.2.2.1=9:=by omega
 rcases this with h|h|h|h|h|h|h|h|h<;>simp only[h,Int.reduceBEq,Int.reduceBNe,Ya,Yc,Yj,Yx,Yau,YZ,YY,YQ,Yh,Ym,gt_iff_lt,show wrap .i64 (4+1)=4+1 from rfl,show wrap .i64 (5+1)=5+1 from rfl]
 ·cases Zg c.2.2.2.1.1<;>cases l.1<;>rfl
 ·cases Zg c.2.2.2.1.1<;>cases l.1<;>rfl
 ·cases hA:le3 (ZaE (Ze c.1 l) c.2.2.2.1 d).2.2.2<;>cases hB:(Zm (Ze c.1 l) c.2.1 (c.2.2.1++[(ZaE (Ze c.1 l) c.2.2.2.1 d).2.2.1])).2<;>simp only[ZaE] at hA hB<;>simp only[hA,hB,Ya,Yc,Yh,Ym,YY,Yau,YZ]<;>with_reducible rfl
 ·cases decide (4<c.2.2.2.1.2.2.2)<;>cases (Zm (Ze c.1 l) c.2.1 c.2.2.1).2<;>rfl
 ·cases decide (5<c.2.2.2.1.2.2.2)<;>cases (Zm (Ze c.1 l) c.2.1 c.2.2.1).2<;>rfl
 ·cases (Zm (Ze c.1 l) c.2.1 c.2.2.1).2<;>rfl
 ·have hb:(ZbP (Ze c.1 l) l !=0)= !(ZbP (Ze c.1 l) l==0):=rfl;rw[hb];cases hk:(ZbP (Ze c.1 l) l==0)<;>rfl
theorem Zwi (c:ZhL) (l:LnT) (d:Int) (hg:c.2.2.1.length+1<=most):(Zkk c l d).val=some (Zl c l d,ZbN c l d):=by
 obtain⟨t1,t2⟩:=Zvu c.2.2.2.2.1;cases hr:l.2.2.1 with
 |true=>
  have hb:Zfn (ZY c.1) 0=(ZY c.1,0,[],(Zm (ZY c.1) 0 []).1,1,false):=rfl;simp only[Zkk,RT.val,hr,Ya,Zl,ZbN,ZT1,hb];rw[<-ZvO,Zzx c.1.1 10 (by decide) (by decide) c.2.2.2.1 d 0 _ _ _ (λh=>absurd rfl h),ZYj c.1.1 _ (ZpW c (Z2 c.2.2.2.2.1)) 0]
 |false=>
  have h:=ZA6 c l d hg hr;have h1:ZMJ c l d=true:=by simp only[ZMJ,h,okB]
  have h2:(pAdv c l d).1=Zl c l d:=by simp only[pAdv,h,getO]
  simp only[Zkk,RT.val,hr,Yc,h1,Ya,h2,ZbN,Zv9];rw[Zzx c.1.1 (Z2 c.2.2.2.2.1) t1 (by omega) c.2.2.2.1 d d _ _ _ (λ_=>rfl)];simp only[ZpW]
def ZmM (c:ZhL):Bool:=Nat.ble (c.2.2.1.length+1) most
theorem Zgz {c:ZhL}:ZmM c=true↔c.2.2.1.length+1<=most:=by simp[ZmM]
def clkX (c:ZhL) (l:LnT) (d:Int):ZhL×PinT:=(Zl c l d,ZbN c l d)
def Zt5:En:=Zf ZMH ZlR (λa=>some (ZmM a.1)) (λa=>clkX a.1 a.2.1 a.2.2)
theorem ZHd:Za Tryz.prog 72 Zt5:=ZMz.pure_congr
 (λa h hp=>by have h1:=Zwi a.1 a.2.1 a.2.2 (Zgz.1 (by simpa using hp));simp[ZMA,h1,okB])
 (λa h hp=>by have h1:=Zwi a.1 a.2.1 a.2.2 (Zgz.1 (by simpa using hp));simp only[ZTt,h1,getO,clkX])
def ZMK:En:=Zf ZMH ZEu (λa=>some (ZmM a.1&& !a.2.1.2.2.1)) (λa=>(Zl a.1 a.2.1 a.2.2,ZaB a.1 a.2.1 a.2.2))
theorem ZRm:Za Tryz.prog 63 ZMK:=ZMG.pure_congr
 (λa h hp=>by
  have hp:(ZmM a.1&& !a.2.1.2.2.1)=true:=by simpa using hp
  simp only[Yb,YJ] at hp
  have h1:=ZA6 a.1 a.2.1 a.2.2 (Zgz.1 hp.1) hp.2;simp[ZMJ,h1,okB])
 (λa h hp=>by
  have hp:(ZmM a.1&& !a.2.1.2.2.1)=true:=by simpa using hp
  simp only[Yb,YJ] at hp
  have h1:=ZA6 a.1 a.2.1 a.2.2 (Zgz.1 hp.1) hp.2;simp only[pAdv,h1,getO])
def newX (chip:Int):ZhL:=ZpB (ZY (chip,(0,0,0,0,0,0,0,(false,false,false,false,false,false,false),0,0),false,false,false,0,false,false,false,false,false,false,false)) 0
theorem ZVi (chip:Int):pNew chip=newX chip:=by
 have hb:∀c,Zfn c 0=ZpB c 0:=λ_=>rfl
 unfold newX;simp only[pNew,ZVP,RT.val,hb];rw[ZT1];simp only[ZY,ZmV,RT.val,Zbv]
def ZLN:En:=Zf Zwr ZDT (λ_=>none) (λa=>newX a)
theorem ZQ5:Za Tryz.prog 57 ZLN:=ZVO.tot (λa h=>by simp) (λa h=>ZVi _)
abbrev ZEJ:List Sh:=[So Kc,So Kc]
def ZoP (x:Int) (n:Int):RT (Option (Int)):=
 .br (IntKind.u64.wrap n !=0) (Ls (i64.wrap (Int.tmod (IntKind.u64.wrap x) (IntKind.u64.wrap n)))) Ln
def ZEK (x:Int) (n:Int):Int:=getO ZTl.Df (ZoP x n).val
def Zuo (x:Int) (n:Int):Bool:=okB (ZoP x n).val
def ZNl:En:=Zf ZEJ ZTl (λa=>some (Zuo a.1 a.2)) (λa=>ZEK a.1 a.2)
theorem ZNj:Za prog 96 ZNl:=
 pureP 31 [] [] _ _ trivial Tryz.func96 Tryz.call96 trivial
abbrev ZBm:R:=Pq (R.sl Kc) Kc
def ZoA (s:List Int×Int) (n:Int):RT (Option (QT21)):=
 let x1:=Zh (i64.wrap (i64.wrap (s.2+1)-1)) (Le s.1)
 let x2:Int:=R.get Kc s.1 (i64.wrap (i64.wrap (s.2+1)-1))
 .br (decide (s.2>=iN (Le s.1))) (Ls ((0,s.1,i64.wrap (s.2+1)))) (.br (!x1||Zuo x2 n) (.br (x1) (Ls ((ZEK x2 n,s.1,i64.wrap (s.2+1)))) Ln) Ln)
def Zb (s:List Int×Int) (n:Int):QT21:=getO (ZTl.Df,ZBm.Df) (ZoA s n).val
def Zj (s:List Int×Int) (n:Int):Bool:=okB (ZoA s n).val
def ZcU:En:=boxE ZBm Zwr ZTl (λa=>some (Zj a.1 a.2)) (λa=>Zb a.1 a.2)
theorem Zbb:Za prog 36 ZcU:=
 ZcA (P:=prog) (n:=31) (k:=8) (l:=[(96,ZNl)]) (ol:=[]) ⟨ZNj,Tv⟩ Tryz.func36 rfl (by kernel_rfl) Tryz.call36 trivial (rb:=ZBm) (ts:=Zwr) (rs:=ZTl) (t:=λa=>ZoA a.1 a.2) (λa=>by kernel_rfl)
def ZoH (s:List Int×Int):RT (Option (QT21)):=
 let x1:List Int:=[0,1,127,128,255,15,16,153,154,9,102,254,129,85,170,64]
 .br (Zj s 512) (.br (!decide ((Zb s 512).1>=256)||Zh (Int.tmod (Zb s 512).1 16) (Le x1)) (.br (decide ((Zb s 512).1>=256)) (Ls ((R.get Ka x1 (Int.tmod (Zb s 512).1 16),(Zb s 512).2))) (Ls ((u8.wrap (Zb s 512).1,(Zb s 512).2)))) Ln) Ln
def Zc3 (s:List Int×Int):QT21:=getO (ZMD.Df,ZBm.Df) (ZoH s).val
def ZgR (s:List Int×Int):Bool:=okB (ZoH s).val
def Zw4:En:=boxE ZBm Zv5 ZMD (λa=>some (ZgR a.1)) (λa=>Zc3 a.1)
theorem ZlW:Za prog 51 Zw4:=
 ZcA (P:=prog) (n:=15) (k:=8) (l:=[(36,ZcU)]) (ol:=[]) ⟨Zbb,Tv⟩ Tryz.func51 rfl (by kernel_rfl) Tryz.call51 trivial (rb:=ZBm) (ts:=Zv5) (rs:=ZMD) (t:=λa=>ZoH a.1) (λa=>by kernel_rfl)
def Zji (s:List Int×Int):RT (Option (QT21)):=
 let x1:List Int:=[0,1,65535,65534,32767,32768,255,256]
 let x2:= !(Zb s 5).1==0||(!Zj (Zb s 5).2 8||Zh (Zb (Zb s 5).2 8).1 (Le x1))
 let x3:= !x2
 let x4:= !(Zb s 5).1==0||Zj (Zb s 5).2 8
 .br (Zj s 5) (.br (x3||(!x4||((Zb s 5).1==0||(!(Zb s 5).1==1||Zj (Zb s 5).2 65536)))) (.br (x3||x4) (.br (x2) (.br ((Zb s 5).1==0) (Ls ((R.get Kb x1 (Zb (Zb s 5).2 8).1,(Zb (Zb s 5).2 8).2))) (.br ((Zb s 5).1==1) (Ls ((u16.wrap (Zb (Zb s 5).2 65536).1,(Zb (Zb s 5).2 65536).2))) (.br (Zj (Zb s 5).2 64) (Ls ((u16.wrap (Zb (Zb s 5).2 64).1,(Zb (Zb s 5).2 64).2))) Ln))) Ln) Ln) Ln) Ln
def ZaR (s:List Int×Int):QT21:=getO (ZAM.Df,ZBm.Df) (Zji s).val
def Zgb (s:List Int×Int):Bool:=okB (Zji s).val
def ZM0:En:=boxE ZBm Zv5 ZAM (λa=>some (Zgb a.1)) (λa=>ZaR a.1)
theorem ZEy:Za prog 95 ZM0:=
 ZcA (P:=prog) (n:=4135) (k:=8) (l:=[(36,ZcU)]) (ol:=[]) ⟨Zbb,Tv⟩ Tryz.func95 rfl (by kernel_rfl) Tryz.call95 trivial (rb:=ZBm) (ts:=Zv5) (rs:=ZAM) (t:=λa=>Zji a.1) (λa=>by kernel_rfl)
def Zw3 (s:List Int×Int):RT (Option (QT21)):=
 .br (Zj s 2) (Ls ((i64.wrap (1+(Zb s 2).1),(Zb s 2).2))) Ln
def Za0 (s:List Int×Int):QT21:=getO (ZTl.Df,ZBm.Df) (Zw3 s).val
def ZoG (s:List Int×Int):Bool:=okB (Zw3 s).val
def ZM8:En:=boxE ZBm Zv5 ZTl (λa=>some (ZoG a.1)) (λa=>Za0 a.1)
theorem ZEE:Za prog 33 ZM8:=
 ZcA (P:=prog) (n:=7) (k:=8) (l:=[(36,ZcU)]) (ol:=[]) ⟨Zbb,Tv⟩ Tryz.func33 rfl (by kernel_rfl) Tryz.call33 trivial (rb:=ZBm) (ts:=Zv5) (rs:=ZTl) (t:=λa=>Zw3 a.1) (λa=>by kernel_rfl)
def ZfT (s:List Int×Int):RT (Option (QT21)):=
 let x1:List Int:=[251,243,118,205,201,197,227,211,219,54,52,32,48,194,202,255,62,49]
 .br (Zj s 3) (.br (!decide ((Zb s 3).1>0)||Zj (Zb s 3).2 256) (.br (decide ((Zb s 3).1>0)) (Ls ((u8.wrap (Zb (Zb s 3).2 256).1,(Zb (Zb s 3).2 256).2))) (.br (!Zj (Zb s 3).2 18||Zh (Zb (Zb s 3).2 18).1 (Le x1)) (.br (Zj (Zb s 3).2 18) (Ls ((R.get Ka x1 (Zb (Zb s 3).2 18).1,(Zb (Zb s 3).2 18).2))) Ln) Ln)) Ln) Ln
def Zal (s:List Int×Int):QT21:=getO (ZMD.Df,ZBm.Df) (ZfT s).val
def Zcc (s:List Int×Int):Bool:=okB (ZfT s).val
def Zhv:En:=boxE ZBm Zv5 ZMD (λa=>some (Zcc a.1)) (λa=>Zal a.1)
theorem Zfp:Za prog 53 Zhv:=
 ZcA (P:=prog) (n:=7) (k:=8) (l:=[(36,ZcU)]) (ol:=[]) ⟨Zbb,Tv⟩ Tryz.func53 rfl (by kernel_rfl) Tryz.call53 trivial (rb:=ZBm) (ts:=Zv5) (rs:=ZMD) (t:=λa=>ZfT a.1) (λa=>by kernel_rfl)
def NB (s:List Int×Int) (k:Int):Prop:=0<=s.2/\s.2<=k
theorem ZNk (x n:Int) (h0:0<n) (h1:n<=4611686018427387904):Zuo x n=true/\ZEK x n=(x%18446744073709551616)%n:=by
 have e:wrap .u64 n=n:=Zrq ⟨by simp[IntKind.min,IntKind.signed];omega,by simp[IntKind.max,IntKind.signed,IntKind.bits];omega⟩;have e2:wrap .u64 x=x%18446744073709551616:=by simp[wrap,IntKind.signed,IntKind.bits]
 have hn:(n !=0)=true:=by simp;omega
 have h2:0<=x%18446744073709551616:=Int.emod_nonneg _ (by decide);have h3:=Int.emod_nonneg (x%18446744073709551616) (b:=n) (by omega);have h4:=Int.emod_lt_of_pos (x%18446744073709551616) (b:=n) h0;have hv:(ZoP x n).val=some ((x%18446744073709551616)%n):=by simp only[ZoP,RT.val,e,e2,hn,Ya,Int.tmod_eq_emod_of_nonneg h2];rw[wrap_i64 _ (by omega) (by omega)]
 exact⟨by simp only[Zuo,hv];rfl,by simp only[ZEK,hv,getO]⟩
variable {s:List Int×Int} {k:Int}
theorem Zr (h:NB s k) (hk:k<=1000000) (n:Int) (h0:0<n) (h1:n<=4611686018427387904):
  Zj s n=true/\NB (Zb s n).2 (k+1)/\0<=(Zb s n).1/\(Zb s n).1<n:=by
 obtain⟨ha,hb⟩:=h;have e1:wrap .i64 (s.2+1)=s.2+1:=wrap_i64 _ (by omega) (by omega);have e2:wrap .i64 s.2=s.2:=wrap_i64 _ (by omega) (by omega);by_cases hl:(s.1.length:Int)<=s.2
 ·have hv:(ZoA s n).val=some (0,s.1,s.2+1):=by simp[ZoA,RT.val,iN,Le,hl,e1]
  simp only[Zj,Zb,hv,okB,getO,NB];exact⟨trivial,⟨by omega,by omega⟩,by omega,h0⟩
 ·have hr:Zh s.2 s.1.length=true:=ZP.2 ⟨ha,by omega⟩;obtain⟨p1,p2⟩:=ZNk (R.get (R.int i64) s.1 s.2) n h0 h1;have h3:=Int.emod_nonneg (R.get (R.int i64) s.1 s.2%18446744073709551616) (b:=n) (by omega);have h4:=Int.emod_lt_of_pos (R.get (R.int i64) s.1 s.2%18446744073709551616) (b:=n) h0;have hv:(ZoA s n).val=some ((R.get (R.int i64) s.1 s.2%18446744073709551616)%n,s.1,s.2+1):=by simp[ZoA,RT.val,iN,Le,hl,e1,e2,hr,p1,p2]
  simp only[Zj,Zb,hv,okB,getO,NB];exact⟨trivial,⟨by omega,by omega⟩,h3,h4⟩
theorem ZlX (h:NB s k) (hk:k<=1000000):ZgR s=true/\NB (Zc3 s).2 (k+1)/\inR .u8 (Zc3 s).1:=by
 obtain⟨c,b,d0,d1⟩:=Zr h hk 512 (by decide) (by decide);have m0:0<=(Zb s 512).1%16:=Int.emod_nonneg _ (by decide);have m1:(Zb s 512).1%16<16:=Int.emod_lt_of_pos _ (by decide);have ht:Int.tmod (Zb s 512).1 16=(Zb s 512).1%16:=Int.tmod_eq_emod_of_nonneg d0;by_cases hn:256<=(Zb s 512).1
 ·have hv:(ZoH s).val=some (R.get (R.int u8) [0,1,127,128,255,15,16,153,154,9,102,254,129,85,170,64] ((Zb s 512).1%16),(Zb s 512).2):=by simp[ZoH,RT.val,c,hn,ht,Zh,m0,m1]
  simp only[ZgR,Zc3,hv,okB,getO];refine⟨trivial,b,?_⟩;have hall:∀i:Nat,i<16->inR .u8 (([0,1,127,128,255,15,16,153,154,9,102,254,129,85,170,64]:List Int).getD i 0):=by
   intro i hi;have:∀i:Fin 16,decide (0<=([0,1,127,128,255,15,16,153,154,9,102,254,129,85,170,64]:List Int).getD i 0)&&decide (([0,1,127,128,255,15,16,153,154,9,102,254,129,85,170,64]:List Int).getD i 0<=255):=by decide
   have:=this ⟨i,hi⟩;rw[Zgc];simpa using this
  exact hall ((Zb s 512).1%16).toNat (by omega)
 ·have hv:(ZoH s).val=some (wrap .u8 (Zb s 512).1,(Zb s 512).2):=by simp[ZoH,RT.val,c,hn]
  simp only[ZgR,Zc3,hv,okB,getO];exact⟨trivial,b,Zaq _ _⟩
theorem ZEz (h:NB s k) (hk:k<=900000):Zgb s=true/\NB (ZaR s).2 (k+2)/\inR .u16 (ZaR s).1:=by
 obtain⟨c,b,d0,d1⟩:=Zr h (by omega) 5 (by decide) (by decide);obtain⟨c8,b8,e0,e1⟩:=Zr b (by omega) 8 (by decide) (by decide);obtain⟨c6,b6,_⟩:=Zr b (by omega) 65536 (by decide) (by decide);obtain⟨c4,b4,_⟩:=Zr b (by omega) 64 (by decide) (by decide);have w:∀{t:List Int×Int},NB t (k+1+1)->NB t (k+2):=λh=>⟨h.1,by have:=h.2;omega⟩
 have hr:Zh (Zb (Zb s 5).2 8).1 8=true:=ZP.2 ⟨e0,by omega⟩;by_cases h0:(Zb s 5).1=0
 ·have hv:(Zji s).val=some (R.get (R.int u16) [0,1,65535,65534,32767,32768,255,256] (Zb (Zb s 5).2 8).1,(Zb (Zb s 5).2 8).2):=by simp[Zji,RT.val,c,h0,c8,hr]
  simp only[Zgb,ZaR,hv,okB,getO];refine⟨trivial,w b8,?_⟩;have hall:∀i:Nat,i<8->inR .u16 (([0,1,65535,65534,32767,32768,255,256]:List Int).getD i 0):=by
   intro i hi;have:∀i:Fin 8,decide (0<=([0,1,65535,65534,32767,32768,255,256]:List Int).getD i 0)&&decide (([0,1,65535,65534,32767,32768,255,256]:List Int).getD i 0<=65535):=by decide
   have:=this ⟨i,hi⟩;simp only[Yb,Yf] at this;exact⟨by simpa [IntKind.min,IntKind.signed] using this.1,by simpa [IntKind.max,IntKind.signed,IntKind.bits] using this.2⟩
  exact hall (Zb (Zb s 5).2 8).1.toNat (by omega)
 ·by_cases h1:(Zb s 5).1=1
  ·have hv:(Zji s).val=some (wrap .u16 (Zb (Zb s 5).2 65536).1,(Zb (Zb s 5).2 65536).2):=by simp[Zji,RT.val,c,h1,c6]
   simp only[Zgb,ZaR,hv,okB,getO];exact⟨trivial,w b6,Zaq _ _⟩
  ·have hv:(Zji s).val=some (wrap .u16 (Zb (Zb s 5).2 64).1,(Zb (Zb s 5).2 64).2):=by
    have g0:((Zb s 5).1==0)=false:=by simpa using h0
    have g1:((Zb s 5).1==1)=false:=by simpa using h1
    simp[Zji,RT.val,c,g0,g1,c4]
   simp only[Zgb,ZaR,hv,okB,getO];exact⟨trivial,w b4,Zaq _ _⟩
theorem ZRx (h:NB s k) (hk:k<=1000000):ZoG s=true/\NB (Za0 s).2 (k+1)/\((Za0 s).1=1\/(Za0 s).1=2):=by
 obtain⟨c,b,d0,d1⟩:=Zr h hk 2 (by decide) (by decide);have hv:(Zw3 s).val=some (1+(Zb s 2).1,(Zb s 2).2):=by simp[Zw3,RT.val,c];rw[wrap_i64 _ (by omega) (by omega)]
 simp only[ZoG,Za0,hv,okB,getO];exact⟨trivial,b,by omega⟩
theorem Zkv (h:NB s k) (hk:k<=900000):Zcc s=true/\NB (Zal s).2 (k+2)/\inR .u8 (Zal s).1:=by
 obtain⟨c,b,d0,d1⟩:=Zr h (by omega) 3 (by decide) (by decide);have w:∀{t:List Int×Int},NB t (k+1+1)->NB t (k+2):=λh=>⟨h.1,by have:=h.2;omega⟩
 by_cases hn:0<(Zb s 3).1
 ·have hk':k+1<=1000001:=by omega
  obtain⟨c2,b2,_⟩:=Zr b (by omega) 256 (by decide) (by decide);have hv:(ZfT s).val=some (wrap .u8 (Zb (Zb s 3).2 256).1,(Zb (Zb s 3).2 256).2):=by simp[ZfT,RT.val,c,hn,c2]
  simp only[Zcc,Zal,hv,okB,getO];exact⟨trivial,w b2,Zaq _ _⟩
 ·obtain⟨c2,b2,e0,e1⟩:=Zr b (by omega) 18 (by decide) (by decide);have hr:Zh (Zb (Zb s 3).2 18).1 18=true:=ZP.2 ⟨e0,by omega⟩;have hv:(ZfT s).val=some (R.get (R.int u8) [251,243,118,205,201,197,227,211,219,54,52,32,48,194,202,255,62,49] (Zb (Zb s 3).2 18).1,(Zb (Zb s 3).2 18).2):=by simp[ZfT,RT.val,c,hn,c2,hr]
  simp only[Zcc,Zal,hv,okB,getO];refine⟨trivial,w b2,?_⟩;have hall:∀i:Nat,i<18->inR .u8 (([251,243,118,205,201,197,227,211,219,54,52,32,48,194,202,255,62,49]:List Int).getD i 0):=by
   intro i hi;have:∀i:Fin 18,decide (0<=([251,243,118,205,201,197,227,211,219,54,52,32,48,194,202,255,62,49]:List Int).getD i 0)&&decide (([251,243,118,205,201,197,227,211,219,54,52,32,48,194,202,255,62,49]:List Int).getD i 0<=255):=by decide
   have:=this ⟨i,hi⟩;rw[Zgc];simpa using this
  exact hall (Zb (Zb s 3).2 18).1.toNat (by omega)
theorem ZOa (l:List Int):NB (l,0) 0:=⟨by simp,by simp⟩
abbrev vOnRs:Rs:=Rs.one (So R.bool)
def vOnT (s:Int) (l:Int):RT (Option (Bool)):=
 .br (decide (0<=l)) (Ls (andI u8 (shrI u8 s l) 1==1)) Ln
def vOn (s:Int) (l:Int):Bool:=getO vOnRs.Df (vOnT s l).val
def vOnC (s:Int) (l:Int):Bool:=okB (vOnT s l).val
def ZIs (l:Int) (k:Int):RT (Int):=
 .Lf (andI i64 (i64.wrap (i64.wrap (andI i64 l 7-andI i64 k 7)+15)) 7)
def Zc9 (l:Int) (k:Int):Int:=(ZIs l k).val
def Zdp (a:QT22):RT (Option (Go1 (QT22))):=
 .br (decide (a.2.2.2.1<8)) (.br (vOnC a.1 a.2.2.2.1) (Ls (Go1.cont (a.1,a.2.1,bif vOn a.1 a.2.2.2.1&&(decide (a.2.2.1<0)||decide (Zc9 a.2.2.2.1 a.2.1<Zc9 a.2.2.1 a.2.1)) then a.2.2.2.1 else a.2.2.1,i64.wrap (a.2.2.2.1+1),PUnit.unit))) Ln) (Ls (Go1.brk (a.1,a.2.1,a.2.2.1,a.2.2.2.1,PUnit.unit)))
def Zmo (s:Int) (k:Int):RT (Option (Int)):=
 let x1:=runF false Zdp (λa=>9) (s,k,-1,0,())
 .br (okB x1) (Ls (getO (false,s,k,-1,0,()) x1).2.2.2.1) Ln
def Zdt (s:Int) (k:Int):Int:=getO ZTl.Df (Zmo s k).val
def ZiA (s:Int) (k:Int):Bool:=okB (Zmo s k).val
def Zmq (m:Int) (s:Int) (p:Bool):RT (Int):=
 .br (p) (.Lf (Z1 u8 s m)) (.Lf (s))
def ZcK (m:Int) (s:Int) (p:Bool):Int:=(Zmq m s p).val
def Zmn (r:Int) (m:Int) (s:Int) (k:Int) (p:Bool):RT (Option (Int)):=
 .br (ZiA (Z1 u8 r m) k) (.br (ZiA (ZcK m s p) k) (.br (decide (Zdt (Z1 u8 r m) k>=0)&&(decide (Zdt (ZcK m s p) k<0)||decide (Zc9 (Zdt (Z1 u8 r m) k) k<Zc9 (Zdt (ZcK m s p) k) k))) (Ls (Zdt (Z1 u8 r m) k)) (Ls (-1))) Ln) Ln
def ZFy (r:Int) (m:Int) (s:Int) (k:Int) (p:Bool):Int:=getO ZTl.Df (Zmn r m s k p).val
def Zva (r:Int) (m:Int) (s:Int) (k:Int) (p:Bool):Bool:=okB (Zmn r m s k p).val
def ZIt (p:PICT) (l:Int):RT PICT:=
 let x1:=p.2.2.2.2.2.2.2.2.2.2.2.2.2
 .Lf ((p.1,p.2.1,p.2.2.1,p.2.2.2.1,p.2.2.2.2.1,p.2.2.2.2.2.1,p.2.2.2.2.2.2.1,p.2.2.2.2.2.2.2.1,p.2.2.2.2.2.2.2.2.1,p.2.2.2.2.2.2.2.2.2.1,p.2.2.2.2.2.2.2.2.2.2.1,p.2.2.2.2.2.2.2.2.2.2.2.1,l,andI u8 (orI u8 x1.1 (Z1 u8 l p.2.2.2.2.2.2.2.2.2.2.2.2.1)) l,x1.2))
def ZkW (p:PICT) (l:Int):PICT:=(ZIt p l).val
def ZXt (p:PICT):RT (Int):=
 .br p.2.1 (.Lf p.2.2.2.2.2.2.2.2.2.2.2.2.1) (.Lf p.2.2.2.2.2.2.2.2.2.2.2.2.2.1)
def vReq (p:PICT):Int:=(ZXt p).val
def ZFz (p:PICT):RT (Option (Int)):=
 let x1:=p.2.2.2.2.2.2.2.2.2.2.2.2.2.2
 let x2:=x1.2
 let x3:=x2.1
 let x4:=x1.1
 let x5:=x2.2.1
 .br (Zva (vReq p) x3 x4 x5 p.2.2.2.2.2.2.2.2.2.1) (Ls (ZFy (vReq p) x3 x4 x5 p.2.2.2.2.2.2.2.2.2.1)) Ln
def vPck (p:PICT):Int:=getO ZTl.Df (ZFz p).val
def Zrv (p:PICT):Bool:=okB (ZFz p).val
def ZPv (p:PICT):RT (Option (Bool)):=
 .br (Zrv p) (Ls (decide (vPck p>=0))) Ln
def vInt (p:PICT):Bool:=getO ZnA.Df (ZPv p).val
def ZXw (p:PICT):Bool:=okB (ZPv p).val
def ZUl (p:PICT) (v:Int):RT PICT:=
 .Lf ((2,andI u8 v 8 !=0,andI u8 v 4 !=0,andI u8 v 2 !=0,andI u8 v 1 !=0,andI u8 v 224,0,false,false,false,false,false,p.2.2.2.2.2.2.2.2.2.2.2.2.1,0,0,0,7,0,0,false))
def Zmp (p:PICT) (v:Int):PICT:=(ZUl p v).val
def Zvd (p:PICT) (v:Int):RT PICT:=
 let x1:=p.2.2.2.2.2.2.2.2.2.2.2.2.2
 let x2:=x1.2
 let x3:=x2.2
 let x4:=x3.1
 .Lf ((bif p.1==2 then bif !p.2.2.2.1 then 3 else bif p.2.2.2.2.1 then 4 else 0 else bif p.1==3 then bif p.2.2.2.2.1 then 4 else 0 else bif p.1==4 then 0 else p.1,p.2.1,p.2.2.1,p.2.2.2.1,p.2.2.2.2.1,p.2.2.2.2.2.1,bif p.1==2 then v else p.2.2.2.2.2.2.1,bif p.1==2 then p.2.2.2.2.2.2.2.1 else bif p.1==3 then p.2.2.2.2.2.2.2.1 else bif p.1==4 then andI u8 v 2 !=0 else p.2.2.2.2.2.2.2.1,p.2.2.2.2.2.2.2.2.1,p.2.2.2.2.2.2.2.2.2.1,p.2.2.2.2.2.2.2.2.2.2.1,p.2.2.2.2.2.2.2.2.2.2.2.1,p.2.2.2.2.2.2.2.2.2.2.2.2.1,x1.1,x2.1,bif p.1==2 then x4 else bif p.1==3 then x4 else bif p.1==4 then x4 else v,x3.2))
def Zrx (p:PICT) (v:Int):PICT:=(Zvd p v).val
abbrev ZUg:Rs:=Rs.one (Sh.agg Zcq)
def Zvb (p:PICT) (v:Int):RT (Option PICT):=
 let x1:=p.2.2.2.2.2.2.2.2.2.2.2.2.2
 let x2:=x1.2
 let x3:=x2.2
 let x4:=x3.1
 let x5:=x2.1
 let x6:=ZcK x4 x5 p.2.2.2.2.2.2.2.2.2.1
 let x7:=x3.2
 let x8:=x7.1
 let x9:=Zdt x6 x8
 let x10:=decide (x9>=0)
 let x11:= !x10||decide (0<=x9)
 let x12:=shrI u8 v 5==0||(!shrI u8 v 5==1||x11)
 let x13:= !x12
 let x14:=shrI u8 v 5==0||(shrI u8 v 5==1||(!shrI u8 v 5==3||decide (0<=i64.wrap (andI u8 v 7))))
 let x15:= !x14
 let x16:=shrI u8 v 5==0||(shrI u8 v 5==1||(shrI u8 v 5==3||(shrI u8 v 5==4||(!shrI u8 v 5==5||x11))))
 let x17:Int:=bif x10 then Z1 u8 x5 (shlI u8 1 x9) else x5
 let x18:=Z1 u8 x5 (shlI u8 1 (i64.wrap (andI u8 v 7)))
 .br (ZiA x6 x8) (.br (x13||(x15||(!x16||(shrI u8 v 5==0||(shrI u8 v 5==1||(shrI u8 v 5==3||(shrI u8 v 5==4||(shrI u8 v 5==5||(shrI u8 v 5==6||(!shrI u8 v 5==7||decide (0<=i64.wrap (andI u8 v 7)))))))))))) (.br (x13||(x15||x16)) (.br (x13||x14) (.br (x12) (Ls ((p.1,p.2.1,p.2.2.1,p.2.2.2.1,p.2.2.2.2.1,p.2.2.2.2.2.1,p.2.2.2.2.2.2.1,p.2.2.2.2.2.2.2.1,!shrI u8 v 5==0&&bif shrI u8 v 5==1 then p.2.2.2.2.2.2.2.2.1 else bif shrI u8 v 5==3 then p.2.2.2.2.2.2.2.2.1 else shrI u8 v 5==4||p.2.2.2.2.2.2.2.2.1,p.2.2.2.2.2.2.2.2.2.1,p.2.2.2.2.2.2.2.2.2.2.1,p.2.2.2.2.2.2.2.2.2.2.2.1,p.2.2.2.2.2.2.2.2.2.2.2.2.1,x1.1,bif shrI u8 v 5==0 then x5 else bif shrI u8 v 5==1 then x17 else bif shrI u8 v 5==3 then x18 else bif shrI u8 v 5==4 then x5 else bif shrI u8 v 5==5 then x17 else bif shrI u8 v 5==6 then x5 else bif shrI u8 v 5==7 then x18 else x5,x4,bif shrI u8 v 5==0 then x8 else bif shrI u8 v 5==1 then x8 else bif shrI u8 v 5==3 then x8 else bif shrI u8 v 5==4 then x8 else bif shrI u8 v 5==5 then bif x10 then x9 else x8 else bif shrI u8 v 5==6 then i64.wrap (andI u8 v 7) else bif shrI u8 v 5==7 then i64.wrap (andI u8 v 7) else x8,x7.2))) Ln) Ln) Ln) Ln) Ln
def ZUh (p:PICT) (v:Int):PICT:=getO ZUg.Df (Zvb p v).val
def Zvc (p:PICT) (v:Int):Bool:=okB (Zvb p v).val
def Zmk (p:PICT) (h:Bool) (v:Int):RT (Option PICT):=
 .br (h||(andI u8 v 16 !=0||(!andI u8 v 8==0||Zvc p v))) (.br (h) (Ls (Zrx p v)) (.br (andI u8 v 16 !=0) (Ls ((2,(Zmp p v).2.1,(Zmp p v).2.2.1,(Zmp p v).2.2.2.1,(Zmp p v).2.2.2.2.1,(Zmp p v).2.2.2.2.2.1,0,false,false,false,false,false,(Zmp p v).2.2.2.2.2.2.2.2.2.2.2.2.1,0,0,0,7,0,0,false))) (.br (andI u8 v 8==0) (Ls (ZUh p v)) (Ls ((p.1,p.2.1,p.2.2.1,p.2.2.2.1,p.2.2.2.2.1,p.2.2.2.2.2.1,p.2.2.2.2.2.2.1,p.2.2.2.2.2.2.2.1,p.2.2.2.2.2.2.2.2.1,bif andI u8 v 64 !=0 then andI u8 v 32 !=0 else p.2.2.2.2.2.2.2.2.2.1,bif andI u8 v 2 !=0 then andI u8 v 1 !=0 else p.2.2.2.2.2.2.2.2.2.2.1,p.2.2.2.2.2.2.2.2.2.2.2.1||andI u8 v 4 !=0,p.2.2.2.2.2.2.2.2.2.2.2.2)))))) Ln
def Zml (p:PICT) (h:Bool) (v:Int):PICT:=getO ZUg.Df (Zmk p h v).val
def Zrt (p:PICT) (h:Bool) (v:Int):Bool:=okB (Zmk p h v).val
def Zu7 (p:PICT) (x:Int):RT (Option PICT):=
 let x1:=p.2.2.2.2.2.2.2.2.2.2.2.2.2
 let x2:=x1.2
 .br (decide (0<=x)) (.br (decide (0<=x)) (Ls ((p.1,p.2.1,p.2.2.1,p.2.2.2.1,p.2.2.2.2.1,p.2.2.2.2.2.1,p.2.2.2.2.2.2.1,p.2.2.2.2.2.2.2.1,p.2.2.2.2.2.2.2.2.1,p.2.2.2.2.2.2.2.2.2.1,p.2.2.2.2.2.2.2.2.2.2.1,p.2.2.2.2.2.2.2.2.2.2.2.1,p.2.2.2.2.2.2.2.2.2.2.2.2.1,Z1 u8 x1.1 (shlI u8 1 x),orI u8 x2.1 (shlI u8 1 x),x2.2))) Ln) Ln
def ZFx (p:PICT) (x:Int):PICT:=getO ZUg.Df (Zu7 p x).val
def ZhN (p:PICT) (x:Int):Bool:=okB (Zu7 p x).val
def ZCv (p:PICT) (x:Int):RT (Option PICT):=
 let x1:=p.2.2.2.2.2.2.2.2.2.2.2.2.2
 let x2:=x1.2
 let x3:=x2.2
 let x4:=x3.2
 .br (decide (0<=x)) (Ls ((p.1,p.2.1,p.2.2.1,p.2.2.2.1,p.2.2.2.2.1,p.2.2.2.2.2.1,p.2.2.2.2.2.2.1,p.2.2.2.2.2.2.2.1,p.2.2.2.2.2.2.2.2.1,p.2.2.2.2.2.2.2.2.2.1,p.2.2.2.2.2.2.2.2.2.2.1,p.2.2.2.2.2.2.2.2.2.2.2.1,p.2.2.2.2.2.2.2.2.2.2.2.2.1,x1.1,Z1 u8 x2.1 (shlI u8 1 x),x3.1,bif p.2.2.2.2.2.2.2.2.1 then x else x4.1,x4.2))) Ln
def ZIu (p:PICT) (x:Int):PICT:=getO ZUg.Df (ZCv p x).val
def ZiB (p:PICT) (x:Int):Bool:=okB (ZCv p x).val
abbrev ZUd:Rs:=Rs.tup [Sh.agg Zcq,So Ka]
def Zu9 (p:PICT) (h:Bool):RT (Option (PICT×Int)):=
 let x1:= !p.2.2.2.2.2.2.2.2.2.2.2.1
 let x2:=h||(x1||Zrv p)
 let x3:= !x2
 let x4:PICT:=(p.1,p.2.1,p.2.2.1,p.2.2.2.1,p.2.2.2.2.1,p.2.2.2.2.2.1,p.2.2.2.2.2.2.1,p.2.2.2.2.2.2.2.1,p.2.2.2.2.2.2.2.2.1,p.2.2.2.2.2.2.2.2.2.1,p.2.2.2.2.2.2.2.2.2.2.1,false,p.2.2.2.2.2.2.2.2.2.2.2.2)
 let x5:=ZhN x4 (vPck p)
 let x6:=ZFx x4 (vPck p)
 let x14:=x6.2.2.2.2.2.2.2.1
 let x15:=p.2.2.2.2.2.2.2.2.2.2.2.2.2.2
 .br (x3||(h||(x1||(decide (vPck p<0)||(!x5||(!x14||ZiB x6 (vPck p))))))) (.br (x3||(h||(x1||(decide (vPck p<0)||x5)))) (.br (x2) (.br (h) (Ls ((p,x15.2.1))) (.br p.2.2.2.2.2.2.2.2.2.2.2.1 (.br (decide (vPck p<0)) (Ls ((x4,0))) (Ls (((R.sel Zcq x14 (ZIu x6 (vPck p)) x6),u8.wrap (i64.wrap (128+vPck p)))))) (.br p.2.2.2.2.2.2.2.2.2.2.1 (Ls ((p,x15.1))) (Ls ((p,vReq p)))))) Ln) Ln) Ln
def ZpL (p:PICT) (h:Bool):PICT×Int:=getO ZUd.Df (Zu9 p h).val
def ZCt (p:PICT) (h:Bool):Bool:=okB (Zu9 p h).val
def ZIv (p:PICT):RT (Option (PICT×Int)):=
 let x1:=p.2.2.2.2.2.2.2.2.2.2.2.2.2
 let x2:=x1.2
 let x3:=x2.2
 let x4:=x3.2
 let x5:=x4.2
 let x6:=x5.1
 let x7:=x6==0
 let x8:= !x7
 let x9:=x8||Zrv p
 let x10:=p.2.2.2.2.2.2.2.2.2.2.2.2.1
 let x11:=x1.1
 let x12:=x2.1
 let x13:=x3.1
 let x14:=x4.1
 let x15:PICT:=(p.1,p.2.1,p.2.2.1,p.2.2.2.1,p.2.2.2.2.1,p.2.2.2.2.2.1,p.2.2.2.2.2.2.1,p.2.2.2.2.2.2.2.1,p.2.2.2.2.2.2.2.2.1,p.2.2.2.2.2.2.2.2.2.1,p.2.2.2.2.2.2.2.2.2.2.1,p.2.2.2.2.2.2.2.2.2.2.2.1,x10,x11,x12,x13,x14,1,7,true)
 let x16:=ZFx x15 (vPck p)
 let x17:=x16.2
 let x18:=x17.2
 let x19:=x18.2
 let x20:=x19.2
 let x21:=x20.2
 let x22:=x21.2
 let x23:=x22.2
 let x24:=x23.2
 let x25:=x24.2
 let x26:=x25.2
 let x27:=x26.2
 let x28:=x27.2
 let x29:=x28.2
 let x30:=x29.2
 let x31:=x30.2
 let x32:=x31.2
 let x33:=x5.2
 let x34:PICT:=(p.1,p.2.1,p.2.2.1,p.2.2.2.1,p.2.2.2.2.1,p.2.2.2.2.2.1,p.2.2.2.2.2.2.1,p.2.2.2.2.2.2.2.1,p.2.2.2.2.2.2.2.2.1,p.2.2.2.2.2.2.2.2.2.1,p.2.2.2.2.2.2.2.2.2.2.1,p.2.2.2.2.2.2.2.2.2.2.2.1,x10,x11,x12,x13,x14,2,x33)
 let x35:=x33.1
 let x36:=andI i64 x35 7
 let x37:=x33.2
 let x38:=p.2.2.2.2.2.2.2.1&& !x37
 let x39:PICT:=(p.1,p.2.1,p.2.2.1,p.2.2.2.1,p.2.2.2.2.1,p.2.2.2.2.2.1,p.2.2.2.2.2.2.1,p.2.2.2.2.2.2.2.1,p.2.2.2.2.2.2.2.2.1,p.2.2.2.2.2.2.2.2.2.1,p.2.2.2.2.2.2.2.2.2.2.1,p.2.2.2.2.2.2.2.2.2.2.2.1,x10,x11,x12,x13,x14,0,x33)
 let x40:=ZIu x39 x36
 let x41:=x40.2
 let x42:=x41.2
 let x43:=x42.2
 let x44:=x43.2
 let x45:=x44.2
 let x46:=x45.2
 let x47:Int:=bif x38 then x46.1 else p.2.2.2.2.2.2.1
 let x48:=x46.2
 let x49:=x48.2
 let x50:=x49.2
 let x51:=x50.2
 let x52:=x51.2
 let x53:=x52.2
 let x54:=x53.2
 let x55:=x54.2
 let x56:=x55.2
 let x57:=x56.2
 let x58:=x57.2
 let x59:=x58.2
 .br (!x9||(x8||(!decide (vPck p>=0)||ZhN x15 (vPck p)))) (.br (x9) (.br (x7) (Ls (((bif decide (vPck p>=0) then x16.1 else p.1,bif decide (vPck p>=0) then x17.1 else p.2.1,bif decide (vPck p>=0) then x18.1 else p.2.2.1,bif decide (vPck p>=0) then x19.1 else p.2.2.2.1,bif decide (vPck p>=0) then x20.1 else p.2.2.2.2.1,bif decide (vPck p>=0) then x21.1 else p.2.2.2.2.2.1,bif decide (vPck p>=0) then x22.1 else p.2.2.2.2.2.2.1,bif decide (vPck p>=0) then x23.1 else p.2.2.2.2.2.2.2.1,bif decide (vPck p>=0) then x24.1 else p.2.2.2.2.2.2.2.2.1,bif decide (vPck p>=0) then x25.1 else p.2.2.2.2.2.2.2.2.2.1,bif decide (vPck p>=0) then x26.1 else p.2.2.2.2.2.2.2.2.2.2.1,bif decide (vPck p>=0) then x27.1 else p.2.2.2.2.2.2.2.2.2.2.2.1,bif decide (vPck p>=0) then x28.1 else x10,bif decide (vPck p>=0) then x29.1 else x11,bif decide (vPck p>=0) then x30.1 else x12,bif decide (vPck p>=0) then x31.1 else x13,bif decide (vPck p>=0) then x32.1 else x14,bif decide (vPck p>=0) then x32.2.1 else 1,bif decide (vPck p>=0) then vPck p else 7,!decide (vPck p>=0)),205))) (.br (x6==1) (.br p.2.2.1 (Ls ((x34,u8.wrap (andI u8 p.2.2.2.2.2.1 224+u8.wrap (i64.wrap (4*x36)))))) (Ls ((x34,u8.wrap (andI u8 p.2.2.2.2.2.1 192+u8.wrap (i64.wrap (8*x36))))))) (.br (!x38||ZiB x39 x36) (Ls (((bif x38 then x40.1 else p.1,bif x38 then x41.1 else p.2.1,bif x38 then x42.1 else p.2.2.1,bif x38 then x43.1 else p.2.2.2.1,bif x38 then x44.1 else p.2.2.2.2.1,bif x38 then x45.1 else p.2.2.2.2.2.1,x47,bif x38 then x48.1 else p.2.2.2.2.2.2.2.1,bif x38 then x49.1 else p.2.2.2.2.2.2.2.2.1,bif x38 then x50.1 else p.2.2.2.2.2.2.2.2.2.1,bif x38 then x51.1 else p.2.2.2.2.2.2.2.2.2.2.1,bif x38 then x52.1 else p.2.2.2.2.2.2.2.2.2.2.2.1,bif x38 then x53.1 else x10,bif x38 then x54.1 else x11,bif x38 then x55.1 else x12,bif x38 then x56.1 else x13,bif x38 then x57.1 else x14,bif x38 then x58.1 else 0,bif x38 then x59.1 else x35,bif x38 then x59.2 else x37),x47))) Ln))) Ln) Ln
def vAck (p:PICT):PICT×Int:=getO ZUd.Df (ZIv p).val
def ZPw (p:PICT):Bool:=okB (ZIv p).val
def ZCr (d:QT3) (r:Int) (v:Int):RT (QT3):=
 .Lf ((bif andI i64 r 3==0 then orI u16 (andI u16 d.1 65280) (u16.wrap v) else bif andI i64 r 3==1 then orI u16 (andI u16 d.1 255) (shlI u16 (u16.wrap v) 8) else d.1,bif andI i64 r 3==0 then d.2.1 else bif andI i64 r 3==1 then d.2.1 else bif andI i64 r 3==2 then v else d.2.1,bif andI i64 r 3==0 then d.2.2 else bif andI i64 r 3==1 then d.2.2 else bif andI i64 r 3==2 then d.2.2 else i64.wrap v))
def Zh4 (d:QT3) (r:Int) (v:Int):QT3:=(ZCr d r v).val
def Zru (d:QT3) (r:Int):RT (Option (Int)):=
 .br (decide (0<=andI i64 r 3/\andI i64 r 3<4)) (Ls (bif andI i64 r 3==0 then u8.wrap d.1 else bif andI i64 r 3==iN (0+1) then u8.wrap (shrI u16 d.1 8) else bif andI i64 r 3==iN (0+1+1) then d.2.1 else u8.wrap d.2.2)) Ln
def Zmm (d:QT3) (r:Int):Int:=getO ZMD.Df (Zru d r).val
def ZIr (d:QT3) (r:Int):Bool:=okB (Zru d r).val
def Zu8 (d:QT3):RT (Bool):=
 .Lf (decide (d.2.2>0))
def Zaa (d:QT3):Bool:=(Zu8 d).val
def ZjV (d:QT3):RT ((QT3)×(Int×Int)×Bool):=
 .br (!Zaa d) (.Lf (((0,0,0),(0,0),false))) (.Lf (((u16.wrap (d.1+1),d.2.1,i64.wrap (d.2.2-1)),(d.1,d.2.1),true)))
def ZbF (d:QT3):(QT3)×(Int×Int)×Bool:=(ZjV d).val
end
end Go.Proofs.YteaflmalcclnoaaGreatDoor
namespace Go.Proofs.YteaflmalcclnoaaGreatDoor
open Go Go.S3 Go.Proofs Go.Shelf Go.RowKit Go.Lib
noncomputable section
set_option maxHeartbeats 4000000 in
set_option maxRecDepth 100000 in
theorem ZNN (b n c i vb vc:Nat) (cs:List Value) (u0 u1:Value) (w:World) (hi:i<n) (hroom:n+1<=c) (hc63:c<=9223372036854775807) (hvb:vb≠b) (hcl:cs.length=n*2)
  (hcs:∀j v,cs[j]? =some v->w.cell? ⟨b,j,none⟩=some v) (hsp:∀j,j<(n+1)*2->(w.cell? ⟨b,j,none⟩).isSome=true) (hfz:∀j,j<(n+1)*2->w.frozen? ⟨b,j,none⟩=false)
  (hvs:∀j v,[u0,u1][j]? =some v->w.cell? ⟨vb,j,none⟩=some v) (h1c:∀v∈cs,v.oneCell'=true) (h1v:∀v∈[u0,u1],v.oneCell'=true)
  (tA tB:TypeId) (kA kB:Nat) (hsa:w.shape? vb=some (tA,kA)) (hsb:w.shape? b=some (tB,kB)) (hkB:kB≠0) (hfa:w.frozen? ⟨vb,0,none⟩=false) (hfe:w.frozen? ⟨vb,kA,none⟩=false):
  Calls prog 219 #[.slice (some ⟨b,0,none⟩) n c,.int .i64 i,.slice (some ⟨vb,0,none⟩) 1 vc] w λe w'=>
   e=.returned (.slice (some ⟨b,0,none⟩) (n+1) c)/\w'=(w.drew.setCells b ((i+1)*2) (cs.drop (i*2))).setCells b (i*2) [u0,u1]:=by
 have mixed:prog.follows .mixedOrders=true:=by kernel_rfl
 have u22:prog.underlying 25=some (.slice 97):=by kernel_rfl
 have hz2:¬((i:Int)=(n:Int)):=by omega
 have hsz:(prog.info? 97).map (·.size)=some 2:=by kernel_rfl
 have hov:∀lb cb,(callFunc 251 #[.slice (some ⟨vb,0,none⟩) 1 vc,.slice (some ⟨b,(i+1)*2,none⟩) lb cb]).run prog w=.ok (.value (.bool false)) w:=λlb cb=>by
  rw[run_callFunc_extern Tryz.func251 (by kernel_rfl) (by kernel_rfl) (by kernel_rfl) (e:=Extern.SlicesOverlaps.overlaps #[25,25] #[4]) (by kernel_rfl),
   Lib.run_overlaps_apart w 25 4 97 u22 2 (λw=>by rfl) ⟨vb,0,none⟩ ⟨b,(i+1)*2,none⟩ 1 vc lb cb hvb tA tB kA kB hsa hsb hkB hfa hfe]
  rfl
 have hdl:(cs.drop (i*2)).length=(n-i)*2:=by rw[YO,hcl];omega
 have hw1:i64.wrap ((i:Int)+1)=(i:Int)+1:=by rw[IntKind.wrap_i64];omega
 have hw2:i64.wrap ((n:Int)+1)=(n:Int)+1:=by rw[IntKind.wrap_i64];omega
 have hb1:(0:Int)<=(i:Int)+1:=by omega
 have hin:i<=n:=by omega
 have htn:((i:Int)+1).toNat=i+1:=by omega
 have hb2:¬(c=i+1):=by omega
 have hb3:(i:Int)<=(n:Int)+1:=by omega
 have hb4:¬(c=i):=by omega
 have hcp1:∀ty dc sc,(Builtin.copy_ #[25,25] ty #[.slice (some ⟨b,(i+1)*2,none⟩) (n-i) dc,.slice (some ⟨b,i*2,none⟩) (n+1-i) sc]).run prog w.drew=.ok (goInt (Nat.min (n+1-i) (n-i))) (w.drew.setCells b ((i+1)*2) (cs.drop (i*2))):=λty dc sc=>
  ZcR w.drew _ _ ty 97 2 b ((i+1)*2) (n-i) dc ⟨b,i*2,none⟩ (n+1-i) sc (cs.drop (i*2)) u22 hsz (by rw[hdl];simp only[Nat.min_def];split<;>omega)
   (λj v hj=>by rw[Addr.add_lit];exact hcs (i*2+j) v (by rwa [YN] at hj))
   (λj hj=>by exact hsp _ (by omega)) (λj hj=>by exact hfz _ (by omega)) (λv hv=>h1c v (Yaw hv))
 obtain⟨W1,hW1⟩:∃W1,W1=w.drew.setCells b ((i+1)*2) (cs.drop (i*2)):=⟨_,rfl⟩;have hsp1:∀k,k<(n+1)*2->(W1.cell? ⟨b,k,none⟩).isSome=true:=λk hk=>by rw[hW1];exact isSome_setCells b (cs.drop (i*2)) ((i+1)*2) w.drew (λj hj=>hsp _ (by omega)) _ (hsp k hk)
 have hcp2:∀(W:World),(∀x,W.cell? x=W1.cell? x)->(∀x,W.frozen? x=W1.frozen? x)->∀ty dc,(Builtin.copy_ #[25,25] ty #[.slice (some ⟨b,i*2,none⟩) (n+1-i) dc,.slice (some ⟨vb,0,none⟩) 1 vc]).run prog W=.ok (goInt (Nat.min 1 (n+1-i))) (W.setCells b (i*2) [u0,u1]):=λW hWc hWf ty dc=>
  ZcR W _ _ ty 97 2 b (i*2) (n+1-i) dc ⟨vb,0,none⟩ 1 vc [u0,u1] u22 hsz (by simp only[Nat.min_def,List.length_cons,List.length_nil];split<;>omega)
   (λj v hj=>by
    rw[Addr.add_lit,Yu,hWc,hW1,World.cell?_setCells_out b _ _ _ _ (λh _=>absurd h hvb)]
    exact hvs j v hj)
   (λj hj=>by rw[hWc];simp only[List.length_cons,List.length_nil] at hj;exact hsp1 _ (by omega)) (λj hj=>by rw[hWf,hW1,World.frozen?_setCells];simp only[List.length_cons,List.length_nil] at hj;exact hfz _ (by omega)) h1v
 rw[<-hW1] at hcp1
 go_enter Tryz.func219,Tryz.ntmps219
 go_wp2_with (simp only[hov])
 go_region_law_o (refine step_copy_runI rfl _ _ 25 25 rfl _ _ (by simp[Act.eval,Act.put]) (by simp[Act.eval,Act.put]) (hcp1 _ _ _) ?_)
 go_wp2_with (at_builtin;refine wpList_copy_runI _ rfl _ _ 25 25 rfl _ _ rfl rfl (hcp2 _ (λ_=>rfl) (λ_=>rfl) _ _) ?_)
 go_ret
 first|exact⟨rfl,rfl⟩|exact⟨rfl,by rw[hW1]⟩
set_option maxHeartbeats 4000000 in
set_option maxRecDepth 100000 in
theorem Zxx (b n c vb vc:Nat) (u0 u1:Value) (w:World) (hroom:n+1<=c) (hc63:c<=9223372036854775807)
  (hsp:∀j,j<2->(w.cell? ⟨b,n*2+j,none⟩).isSome=true) (hfz:∀j,j<2->w.frozen? ⟨b,n*2+j,none⟩=false)
  (hvs:∀j v,[u0,u1][j]? =some v->w.cell? ⟨vb,j,none⟩=some v) (h1v:∀v∈[u0,u1],v.oneCell'=true):
  Calls prog 219 #[.slice (some ⟨b,0,none⟩) n c,.int .i64 n,.slice (some ⟨vb,0,none⟩) 1 vc] w λe w'=>
   e=.returned (.slice (some ⟨b,0,none⟩) (n+1) c)/\w'=w.setCells b (n*2) [u0,u1]:=by
 have mixed:prog.follows .mixedOrders=true:=by kernel_rfl
 have u22:prog.underlying 25=some (.slice 97):=by kernel_rfl
 obtain⟨i0,hi0,hzs⟩:∃i0,prog.info? 97=some i0/\i0.size=2:=⟨_,rfl,by kernel_rfl⟩;have hsrc:Src prog i0.size 25 (.slice (some ⟨vb,0,none⟩) 1 vc) 1 [u0,u1] w:=Src.ofSlice w u22 ⟨vb,0,none⟩ 1 vc [u0,u1] (by rw[hzs];rfl) (λj u hj=>by rw[Addr.add_lit,Yu];exact hvs j u hj) h1v;have hrun:∀ty,(Builtin.append_ #[25,25] ty #[.slice (some ⟨b,0,none⟩) n c,.slice (some ⟨vb,0,none⟩) 1 vc]).run prog w=.ok (.slice (some ⟨b,0,none⟩) (n+1) c) (w.setCells b (n*2) [u0,u1]):=λty=>by have:=run_append_room_src (P:=prog) w 25 25 ty 97 i0 u22 hi0 b 0 n c _ 1 [u0,u1] hsrc hroom (by rw[hzs,Yu];exact hsp) (by rw[hzs,Yu];exact hfz);rwa [hzs,Yu] at this
 clear hsrc hsp hfz hvs
 go_enter Tryz.func219,Tryz.ntmps219
 go_wp2_with (at_builtin;refine Lib.wpList_append_run _ rfl _ _ _ _ rfl _ _ rfl rfl _ _ (hrun _) ?_)
 go_ret
 exact⟨rfl,rfl⟩
set_option maxHeartbeats 4000000 in
set_option maxRecDepth 100000 in
theorem Zk8 (base:Option Addr) (n c vb vc:Nat) (cs:List Value) (u0 u1:Value) (w:World) (hnc:n<=c) (hroom:c<n+1) (hbig:n+1<=most)
  (hcl:cs.length=n*2) (hnil:base=none->n=0) (hz:∀i,prog.info? 97=some i->i.zero=some (.agg #[.int .u16 0,.int .u8 0]))
  (hcs:∀a,base=some a->∀j v,cs[j]? =some v->w.cell? (a.add j)=some v)
  (hvs:∀j v,[u0,u1][j]? =some v->w.cell? ⟨vb,j,none⟩=some v) (h1v:∀v∈[u0,u1],v.oneCell'=true):
  Calls prog 219 #[.slice base n c,.int .i64 n,.slice (some ⟨vb,0,none⟩) 1 vc] w λe w'=>
   e=.returned (.slice (some ⟨w.heap.size,0,none⟩) (n+1) (grownCap w (n+1) c 97))/\
   w'=w.drew.alloc (.cells ((cs++[u0,u1]).toArray++Builtin.zeroCells #[Value.int .u16 0,Value.int .u8 0] (grownCap w (n+1) c 97-(n+1))) 97):=by
 have mixed:prog.follows .mixedOrders=true:=by kernel_rfl
 have u22:prog.underlying 25=some (.slice 97):=by kernel_rfl
 obtain⟨i0,hi0,hzs,hzb⟩:∃i0,prog.info? 97=some i0/\i0.size=2/\i0.bytes=4:=⟨_,rfl,by kernel_rfl,by kernel_rfl⟩;have hz0:=hz i0 hi0;have hmost:most<=1073741824:=by decide
 have hsrc:Src prog i0.size 25 (.slice (some ⟨vb,0,none⟩) 1 vc) 1 [u0,u1] w:=Src.ofSlice w u22 ⟨vb,0,none⟩ 1 vc [u0,u1] (by rw[hzs];rfl) (λj u hj=>by rw[Addr.add_lit,Yu];exact hvs j u hj) h1v;have hold:(Builtin.firstCells i0.size n (.slice base n c)).run prog w.drew=.ok cs.toArray w.drew:=by
  cases base with
  |none=>
   have h0:=hnil rfl;subst h0;have h0c:cs=[]:=Y2.1 (by omega);rw[h0c];exact run_firstCells_none w.drew _ 0 0 c
  |some a=>exact run_firstCells_some w.drew _ n a n c cs (by rw[hzs];exact hcl) (λj v hj=>hcs a rfl j v hj)
 have hrun:∀ty,(Builtin.append_ #[25,25] ty #[.slice base n c,.slice (some ⟨vb,0,none⟩) 1 vc]).run prog w=_:=λty=>
  run_append_grow_src w 25 25 ty 97 i0 _ u22 hi0 hz0 base n c cs hold _ 1 [u0,u1] hsrc hroom (by omega) (by rw[hzb];exact growslice_fits hroom (by omega))
 clear hsrc hold hvs hz
 go_enter Tryz.func219,Tryz.ntmps219
 cases base with
 |none=>
  have h0:=hnil rfl;subst h0
  go_wp2_with (at_builtin;refine Lib.wpList_append_run _ rfl _ _ _ _ rfl _ _ rfl rfl _ _ (hrun _) ?_)
  go_ret
  exact⟨rfl,rfl⟩
 |some a=>
  obtain⟨ab,ao,asp⟩:=a
  go_wp2_with (at_builtin;refine Lib.wpList_append_run _ rfl _ _ _ _ rfl _ _ rfl rfl _ _ (hrun _) ?_)
  all_goals (go_ret;exact⟨rfl,rfl⟩)
end
open Go Go.S3 Go.Proofs Go.Shelf Go.RowKit Go.Lib
noncomputable section
set_option maxHeartbeats 4000000 in
set_option maxRecDepth 100000 in
theorem ZRN (b n c i vb vc:Nat) (cs:List Value) (u0 u1:Value) (w:World) (hi:i<n) (hnc:n<=c) (hroom:c<n+1) (hbig:n+1<=most)
  (hcl:cs.length=n*2) (hz:∀i,prog.info? 97=some i->i.zero=some (.agg #[.int .u16 0,.int .u8 0]))
  (hcs:∀j v,cs[j]? =some v->w.cell? ⟨b,j,none⟩=some v)
  (hvs:∀j v,[u0,u1][j]? =some v->w.cell? ⟨vb,j,none⟩=some v) (h1c:∀v∈cs,v.oneCell'=true) (h1v:∀v∈[u0,u1],v.oneCell'=true):
  Calls prog 219 #[.slice (some ⟨b,0,none⟩) n c,.int .i64 i,.slice (some ⟨vb,0,none⟩) 1 vc] w λe w'=>
   e=.returned (.slice (some ⟨w.heap.size,0,none⟩) (n+1) (grownCap w (n+1) c 97))/\
   w'=(((w.alloc (.cells ((cs.take (i*2)).toArray++Builtin.zeroCells #[Value.int .u16 0,Value.int .u8 0] (n+1-i)++Builtin.zeroCells #[Value.int .u16 0,Value.int .u8 0] (grownCap w (n+1) c 97-(n+1))) 97)).drew.setCells w.heap.size (i*2) [u0,u1]).drew).setCells w.heap.size ((i+1)*2) (cs.drop (i*2)):=by
 have mixed:prog.follows .mixedOrders=true:=by kernel_rfl
 have u22:prog.underlying 25=some (.slice 97):=by kernel_rfl
 have u3:prog.underlying 3=some (.int .i64):=by kernel_rfl
 obtain⟨i0,hi0,hzs,hzb⟩:∃i0,prog.info? 97=some i0/\i0.size=2/\i0.bytes=4:=⟨_,rfl,by kernel_rfl,by kernel_rfl⟩;have hz0:=hz i0 hi0;have hmost:most<=1073741824:=by decide
 have hz2:¬((i:Int)=(n:Int)):=by omega
 have hz3:(c:Int)<(n:Int)+1:=by omega
 have hsz:(prog.info? 97).map (·.size)=some 2:=by rw[hi0];simp[hzs]
 have hbw:b<w.heap.size:=block_lt_of_cell (hcs 0 _ (Yg (by omega)));have hvw:vb<w.heap.size:=block_lt_of_cell (hvs 0 _ rfl);have hkk:(n:Int)+1-(i:Int)=((n+1-i:Nat):Int):=by omega
 have hik:i+(n+1-i)=n+1:=by omega
 have hold:(Builtin.firstCells i0.size i (.slice (some ⟨b,0,none⟩) i c)).run prog w.drew=.ok (cs.take (i*2)).toArray w.drew:=
  run_firstCells_some w.drew _ i ⟨b,0,none⟩ i c (cs.take (i*2)) (by rw[hzs,YH];omega) (λj v hj=>by
   rw[Addr.add_lit,Yu];rw[YI] at hj;split at hj
   ·exact hcs j v hj
   ·cases hj)
 have hrz:∀ty,(Builtin.append_ #[25,3] ty #[.slice (some ⟨b,0,none⟩) i c,.int .i64 ((n:Int)+1-(i:Int))]).run prog w=
   .ok (.slice (some ⟨w.heap.size,0,none⟩) (n+1) (grownCap w (n+1) c 97)) (w.drew.alloc (.cells ((cs.take (i*2)).toArray++Builtin.zeroCells #[Value.int .u16 0,Value.int .u8 0] (n+1-i)++Builtin.zeroCells #[Value.int .u16 0,Value.int .u8 0] (grownCap w (n+1) c 97-(n+1))) 97)):=λty=>by have h:=Lib.run_append_grow_zeros w 25 3 ty 97 i0 _ .i64 .i64 u22 u3 hi0 hz0 (some ⟨b,0,none⟩) i c (cs.take (i*2)) hold (n+1-i) (by omega) (by omega) (by omega) (by omega) (by rw[hzb];omega) (by rw[hzb,hik];exact growslice_fits hroom (by omega));rw[hik] at h;rw[hkk];exact h
 obtain⟨G,hG⟩:∃G,G=grownCap w (n+1) c 97:=⟨_,rfl⟩;obtain⟨ROW,hROW⟩:∃ROW:Array Value,ROW=(cs.take (i*2)).toArray++Builtin.zeroCells #[Value.int .u16 0,Value.int .u8 0] (n+1-i)++Builtin.zeroCells #[Value.int .u16 0,Value.int .u8 0] (G-(n+1)):=⟨_,rfl⟩;rw[<-hG] at hrz|-;rw[<-hROW] at hrz|-;have hRl:(n+1)*2<=ROW.size:=by rw[hROW];simp only[Array.size_append,Y7,YH,size_zeroCells,List.length_cons,List.length_nil];omega
 obtain⟨W1,hW1⟩:∃W1,W1=w.drew.alloc (.cells ROW 97):=⟨_,rfl⟩;rw[<-hW1] at hrz;have hN:∀j,j<(n+1)*2->(W1.cell? ⟨w.heap.size,j,none⟩).isSome=true:=λj hj=>by rw[hW1,World.cell?_alloc_at (w:=w.drew) ROW _ w.heap.size j rfl,YP (by omega)];rfl
 have hNf:∀j,W1.frozen? ⟨w.heap.size,j,none⟩=false:=λj=>by rw[hW1];exact World.frozen?_alloc_at (w:=w.drew) ROW _ w.heap.size j rfl
 have hOb:∀j v,w.cell? ⟨b,j,none⟩=some v->W1.cell? ⟨b,j,none⟩=some v:=λj v h=>by rw[hW1,World.cell?_alloc_past (w:=w.drew) _ b j hbw];exact h
 have hOv:∀j v,w.cell? ⟨vb,j,none⟩=some v->W1.cell? ⟨vb,j,none⟩=some v:=λj v h=>by rw[hW1,World.cell?_alloc_past (w:=w.drew) _ vb j hvw];exact h
 have hcpA:∀(W:World),(∀x,W.cell? x=W1.cell? x)->(∀x,W.frozen? x=W1.frozen? x)->∀ty dc,(Builtin.copy_ #[25,25] ty #[.slice (some ⟨w.heap.size,i*2,none⟩) (n+1-i) dc,.slice (some ⟨vb,0,none⟩) 1 vc]).run prog W=.ok (goInt (Nat.min 1 (n+1-i))) (W.setCells w.heap.size (i*2) [u0,u1]):=λW hWc hWf ty dc=>
  ZcR W _ _ ty 97 2 w.heap.size (i*2) (n+1-i) dc ⟨vb,0,none⟩ 1 vc [u0,u1] u22 hsz (by simp only[Nat.min_def,List.length_cons,List.length_nil];split<;>omega)
   (λj v hj=>by rw[Addr.add_lit,Yu,hWc];exact hOv _ v (hvs j v hj))
   (λj hj=>by rw[hWc];simp only[List.length_cons,List.length_nil] at hj;exact hN _ (by omega)) (λj hj=>by rw[hWf];exact hNf _) h1v
 have hGn:n+1<=G:=by rw[hG];exact grownCap_ge w _ _ _
 have hG63:G<=9223372036854775807:=by have:=grownCap_le_maxLen w (n+1) c 97 (by unfold maxLen;omega);rw[<-hG] at this;unfold maxLen at this;omega
 have hGi:¬(G=i):=by omega
 have hGim:¬(G=i+1):=by omega
 have hci:¬(c=i):=by omega
 have hbN:b≠w.heap.size:=by omega
 have hdl:(cs.drop (i*2)).length=(n-i)*2:=by rw[YO,hcl];omega
 have hcpB:∀(W:World),(∀x,W.cell? x=(W1.setCells w.heap.size (i*2) [u0,u1]).cell? x)->(∀x,W.frozen? x=(W1.setCells w.heap.size (i*2) [u0,u1]).frozen? x)->∀ty dc sc,(Builtin.copy_ #[25,25] ty #[.slice (some ⟨w.heap.size,(i+1)*2,none⟩) (n-i) dc,.slice (some ⟨b,i*2,none⟩) (n-i) sc]).run prog W=.ok (goInt (Nat.min (n-i) (n-i))) (W.setCells w.heap.size ((i+1)*2) (cs.drop (i*2))):=λW hWc hWf ty dc sc=>
  ZcR W _ _ ty 97 2 w.heap.size ((i+1)*2) (n-i) dc ⟨b,i*2,none⟩ (n-i) sc (cs.drop (i*2)) u22 hsz (by rw[hdl];simp only[Nat.min_def];split<;>omega)
   (λj v hj=>by
    rw[Addr.add_lit,hWc,World.cell?_setCells_out _ _ _ _ _ (λh _=>absurd h hbN)]
    exact hOb _ v (hcs (i*2+j) v (by rwa [YN] at hj)))
   (λj hj=>by rw[hWc];exact isSome_setCells _ _ _ _ (λt ht=>by simp only[List.length_cons,List.length_nil] at ht;exact hN _ (by omega)) _ (hN _ (by omega)))
   (λj hj=>by rw[hWf,World.frozen?_setCells];exact hNf _) (λv hv=>h1c v (Yaw hv))
 subst hW1;have hE1:∀x,((w.alloc (.cells ROW 97)).drew).cell? x=(w.drew.alloc (.cells ROW 97)).cell? x:=λx=>rfl
 have hE2:∀x,((w.alloc (.cells ROW 97)).drew).frozen? x=(w.drew.alloc (.cells ROW 97)).frozen? x:=λx=>rfl
 have hF1:∀x,(((w.alloc (.cells ROW 97)).drew.setCells w.heap.size (i*2) [u0,u1]).drew).cell? x=((w.drew.alloc (.cells ROW 97)).setCells w.heap.size (i*2) [u0,u1]).cell? x:=λx=>rfl
 have hF2:∀x,(((w.alloc (.cells ROW 97)).drew.setCells w.heap.size (i*2) [u0,u1]).drew).frozen? x=((w.drew.alloc (.cells ROW 97)).setCells w.heap.size (i*2) [u0,u1]).frozen? x:=λx=>rfl
 have hw1:i64.wrap ((i:Int)+1)=(i:Int)+1:=by rw[IntKind.wrap_i64];omega
 have hw2:i64.wrap ((n:Int)+1)=(n:Int)+1:=by rw[IntKind.wrap_i64];omega
 have hb1:(0:Int)<=(i:Int)+1:=by omega
 have hin:i<=n:=by omega
 have htn:((i:Int)+1).toNat=i+1:=by omega
 have hb3:(i:Int)<=(n:Int):=by omega
 clear hkk hik hold hROW hG hRl hz hz0 hi0
 go_enter Tryz.func219,Tryz.ntmps219
 go_wp2_with (first
  |(at_builtin;refine Lib.wpList_append_run _ rfl _ _ _ _ rfl _ _ rfl rfl _ _ (hrz _) ?_)
  |(at_builtin;refine wpList_copy_runI _ rfl _ _ 25 25 rfl _ _ rfl rfl (hcpA _ hE1 hE2 _ _) ?_)
  |(at_builtin;refine wpList_copy_runI _ rfl _ _ 25 25 rfl _ _ rfl rfl (hcpB _ (λ_=>rfl) (λ_=>rfl) _ _ _) ?_))
 go_region_law_o (refine step_copy_runI rfl _ _ 25 25 rfl (.slice (some ⟨w.heap.size,(i+1)*2,none⟩) (n-i) (G-(i+1))) (.slice (some ⟨b,i*2,none⟩) (n-i) (c-i)) (by simp[Act.eval,Act.put]) (by simp[Act.eval,Act.put]) (hcpB _ hF1 hF2 3 (G-(i+1)) (c-i)) ?_)
 go_wp2
 go_ret
 exact⟨rfl,rfl⟩
set_option maxHeartbeats 4000000 in
set_option maxRecDepth 1000000 in
theorem ZXb (b n c i:Nat) (cs:List Value) (z0 z1:Value) (w:World) (hi:i<n) (hnc:n<=c) (hm:c<=9223372036854775807) (hcl:cs.length=n*2)
  (hz:∀w,(zeroValue 97).run prog w=.ok (.agg #[.int .u16 0,.int .u8 0]) w) (hzs:(Builtin.zeroCells (Value.agg #[.int .u16 0,.int .u8 0]).cells 1).toList=[z0,z1]) (h1z:∀v∈[z0,z1],v.oneCell'=true)
  (hcs:∀j v,cs[j]? =some v->w.cell? ⟨b,j,none⟩=some v) (hfz:∀j,j<n*2->w.frozen? ⟨b,j,none⟩=false) (h1c:∀v∈cs,v.oneCell'=true):
  Calls prog 218 #[.slice (some ⟨b,0,none⟩) n c,.int .i64 i,.int .i64 ((i:Int)+1)] w λe w'=>
   e=.returned (.slice (some ⟨b,0,none⟩) (n-1) c)/\w'=(w.drew.setCells b (i*2) (cs.drop ((i+1)*2))).setCells b ((n-1)*2) [z0,z1]:=by
 have mixed:prog.follows .mixedOrders=true:=by kernel_rfl
 have t22:prog.underlying 25=some (.slice 97):=by kernel_rfl
 obtain⟨i0,hi0,hz1⟩:∃i0,prog.info? 97=some i0/\i0.size=2:=⟨_,rfl,by kernel_rfl⟩;obtain⟨news,hnews⟩:∃news,news=cs.drop ((i+1)*2):=⟨_,rfl⟩;have hlen:news.length=(n-(i+1))*2:=by rw[hnews,YO,hcl];omega
 obtain⟨A,hA,hsrc⟩:∃A:Addr,(if c=i+1 then some (⟨b,0,none⟩:Addr) else some ⟨b,(i+1)*2,none⟩)=some A/\Hid (∀t u,news[t]? =some u->w.drew.cell? (A.add t)=some u):=by
  by_cases h:c=i+1
  ·refine⟨⟨b,0,none⟩,by simp[h],λt u hu=> ?_⟩;have h0:news.length=0:=by rw[hlen];omega
   rw[Y2.1 h0] at hu;simp at hu
  ·refine⟨⟨b,(i+1)*2,none⟩,by simp[h],λt u hu=> ?_⟩;rw[Addr.add_lit];rw[hnews,YN] at hu;exact hcs _ u hu
 have s1:Hid (news.length=(n-(i+1))*2):=hlen;have s2:Hid (∀u∈news,u.oneCell'=true):=by intro u hu;rw[hnews] at hu;exact h1c u (Yaw hu)
 have hsome:∀j,j<n*2->(w.cell? ⟨b,j,none⟩).isSome=true:=λj hj=>by rw[hcs j _ (Yg (by omega))];rfl
 have s3:Hid (∀t,t<news.length->(w.drew.cell? ⟨b,0+i*2+t,none⟩).isSome=true/\w.drew.frozen? ⟨b,0+i*2+t,none⟩=false):=by intro t ht;rw[hlen] at ht;rw[Yu];exact⟨hsome _ (by omega),hfz _ (by omega)⟩
 obtain⟨W1,hW1⟩:∃W1,W1=w.drew.setCells b (0+i*2) news:=⟨_,rfl⟩;have hsome1:∀j,j<n*2->(W1.cell? ⟨b,j,none⟩).isSome=true:=λj hj=>by rw[hW1];exact isSome_setCells b _ _ _ (λt ht=>by rw[hlen] at ht;rw[Yu];exact hsome _ (by omega)) _ (hsome j hj)
 have hcl:∀ty dc,(Builtin.clear_ #[25] ty #[.slice (some ⟨b,(i+(n-(i+1)))*2,none⟩) (n-(i+(n-(i+1)))) dc]).run prog W1=.ok (.tuple #[]) (W1.setCells b ((i+(n-(i+1)))*2) [z0,z1]):=λty dc=>by rw[show n-(i+(n-(i+1)))=1 by omega];exact ZmK W1 _ _ ty (.agg #[.int .u16 0,.int .u8 0]) t22 hz b _ 1 dc (by omega) [z0,z1] hzs h1z (λt ht=>hsome1 _ (by simp only[List.length_cons,List.length_nil] at ht;omega)) (λt ht=>by rw[hW1,World.frozen?_setCells];exact hfz _ (by simp only[List.length_cons,List.length_nil] at ht;omega))
 have hW:Hid (W1=w.drew.setCells b (0+i*2) news):=hW1;have hfin:w.drew.setCells b (i*2) (cs.drop ((i+1)*2))=W1:=by rw[hW1,hnews,Yu]
 rw[hfin];have hic:i<=c:=by omega
 have hjc:i+1<=c:=by omega
 have hne:¬((i:Int)=(i:Int)+1):=by omega
 have hb5:(i:Int)+1<=(n:Int):=by omega
 have htn:((i:Int)+1).toNat=i+1:=by omega
 have hb1:(0:Int)<=(i:Int)+1:=by omega
 clear hW1 hnews hlen hsome hsome1 hfin hcs hfz h1c
 go_enter Tryz.func218,Tryz.ntmps218
 go_wp2_with fail
 go_region_law_o (refine step_append_room rfl (.tmp 22) (.tmp 25) 25 rfl 97 i0 2 t22 hi0 hz1 b 0 i c (by simp[Act.eval,Act.put]) A (n-(i+1)) (c-(i+1)) news (by simp[Act.eval,Act.put]) s1.out hsrc.out s2.out (by omega) s3.out ?_;rw[<-hW.out])
 go_wp2
 go_ret
 have hq:n-1=i+(n-(i+1)):=by omega
 exact⟨by rw[hq];rfl,by rw[hq]⟩
end
end Go.Proofs.YteaflmalcclnoaaGreatDoor
namespace Go.Proofs.Cells
abbrev Cell:=Int×Int
def flt (k:Int) (l:List Cell):List Cell:=l.filter (λc=>c.1==k)
def Srt (l:List Cell):Prop:=l.Pairwise (λa b=>a.1<=b.1)
def Sm (l l':List Cell):Prop:=∀k,flt k l=flt k l'
theorem ZdK (k:Int) (a b:List Cell):flt k (a++b)=flt k a++flt k b:=List.filter_append ..
variable {l:List Cell}
theorem Zez {k:Int} (h:∀c∈l,c.1≠k):flt k l=[]:=by simp only[flt,List.filter_eq_nil_iff,YaA];exact h
theorem Sm.refl (l:List Cell):Sm l l:=λ_=>rfl
theorem Sm.symm {a b:List Cell} (h:Sm a b):Sm b a:=λk=>(h k).symm
theorem Sm.trans {a b c:List Cell} (h:Sm a b) (k:Sm b c):Sm a c:=λi=>(h i).trans (k i)
variable {a b:List Cell}
theorem Sm.app {c d:List Cell} (h:Sm a b) (k:Sm c d):Sm (a++c) (b++d):=λi=>by rw[ZdK,ZdK,h i,k i]
theorem Sm.mem (h:Sm a b) (x:Cell):x∈a↔x∈b:=by
 have e:∀l:List Cell,x∈l↔x∈flt x.1 l:=λl=>by simp[flt]
 rw[e a,e b,h x.1]
theorem uniq:∀{l l':List Cell},Srt l->Srt l'->Sm l l'->l=l'
 |[],[],_,_,_=>rfl
 |[],y::r,_,_,h=>by have:=h y.1;simp[flt] at this
 |x::l,[],_,_,h=>by have:=h x.1;simp[flt] at this
 |x::l,y::r,hl,hr,h=>by
  have h1:=YC.1 hl;have h2:=YC.1 hr;have hx:x∈y::r:=(h.mem x).1 (by simp);have hy:y∈x::l:=(h.mem y).2 (by simp);have e1:y.1<=x.1:=by
   rcases Ys.1 hx with e|e
   ·rw[e];exact Int.le_refl _
   ·exact h2.1 x e
  have e2:x.1<=y.1:=by
   rcases Ys.1 hy with e|e
   ·rw[e];exact Int.le_refl _
   ·exact h1.1 y e
  have e:x.1=y.1:=Int.le_antisymm e2 e1;have hxy:=h x.1;have k1:flt x.1 (x::l)=x::flt x.1 l:=by simp[flt]
  have k2:flt x.1 (y::r)=y::flt x.1 r:=by simp[flt,e]
  rw[k1,k2] at hxy;obtain⟨exy,_⟩:=List.cons.inj hxy;subst exy;have:l=r:=uniq h1.2 h2.2 λk=>by
   have:=h k;by_cases hk:x.1=k
   ·subst hk;simpa [flt] using this
   ·simpa [flt,hk] using this
  rw[this]
def ins (x:Cell):List Cell->List Cell
 |[]=>[x]
 |y::r=>if x.1<y.1 then x::y::r else y::ins x r
def isort (l:List Cell):List Cell:=l.foldl (λa x=>ins x a) []
theorem ZNO {x y:Cell}:∀{l:List Cell},y∈ins x l↔y=x\/y∈l
 |[]=>by simp[ins]
 |z::r=>by
  simp only[ins];split
  ·simp
  ·simp only[Ys,ZNO (l:=r)];constructor
   ·rintro (h|h|h)<;>simp[h]
   ·rintro (h|h|h)<;>simp[h]
theorem ZBG (x:Cell):∀{l:List Cell},Srt l->Srt (ins x l)
 |[],_=>by simp[ins,Srt]
 |y::r,h=>by
  have h1:=YC.1 h;simp only[ins];split
  ·rename_i hlt;refine YC.2 ⟨λz hz=> ?_,h⟩;rcases Ys.1 hz with e|e
   ·rw[e];omega
   ·have:=h1.1 z e;omega
  ·refine YC.2 ⟨λz hz=> ?_,ZBG x h1.2⟩;rcases ZNO.1 hz with e|e
   ·rw[e];omega
   ·exact h1.1 z e
theorem ZNQ (k:Int) (x:Cell):∀{l:List Cell},Srt l->flt k (ins x l)=flt k l++flt k [x]
 |[],_=>by simp[ins,flt]
 |y::r,h=>by
  have h1:=YC.1 h;simp only[ins];split
  ·rename_i hlt;by_cases hk:x.1=k
   ·have:flt k (y::r)=[]:=Zez λc hc=>by
     rcases Ys.1 hc with e|e
     ·rw[e];omega
     ·have:=h1.1 c e;omega
    have e:flt k (x::y::r)=flt k [x]++flt k (y::r):=ZdK k [x] (y::r);rw[e,this];simp
   ·have e1:flt k [x]=[]:=Zez λc hc=>by simp at hc;rw[hc];exact hk
    have e:flt k (x::y::r)=flt k [x]++flt k (y::r):=ZdK k [x] (y::r);rw[e,e1];simp
  ·have e:∀t,flt k (y::t)=flt k [y]++flt k t:=λt=>ZdK k [y] t
   rw[e,e r,ZNQ k x h1.2,Yo]
theorem ZHE (l:List Cell) (x:Cell):isort (l++[x])=ins x (isort l):=by simp[isort]
theorem ZE1:∀(l acc:List Cell),Srt acc->Srt (l.foldl (λa x=>ins x a) acc)
 |[],_,h=>h
 |x::l,acc,h=>ZE1 l (ins x acc) (ZBG x h)
theorem ZE3 (k:Int):∀(l acc:List Cell),Srt acc->flt k (l.foldl (λa x=>ins x a) acc)=flt k acc++flt k l
 |[],acc,_=>by simp[flt]
 |x::l,acc,h=>by have e:flt k (x::l)=flt k [x]++flt k l:=ZdK k [x] l;rw[List.foldl_cons,ZE3 k l _ (ZBG x h),ZNQ k x h,e,Yo]
theorem Zb0 (l:List Cell):Srt (isort l):=ZE1 l [] Yap
theorem ZfU (l:List Cell):Sm (isort l) l:=λk=>by rw[isort,ZE3 k l [] Yap];rfl
variable {l':List Cell}
theorem Zhx (h1:Srt l') (h2:Sm l' l):isort l=l':=uniq (Zb0 l) h1 ((ZfU l).trans h2.symm)
theorem Zxw {x:Cell}:x∈isort l↔x∈l:=(ZfU l).mem x
theorem Zq7 (h:Srt l):isort l=l:=Zhx h (Sm.refl l)
theorem Zo3 (h:Sm l l'):isort l=isort l':=Zhx (Zb0 l') ((ZfU l').trans h.symm)
theorem ZNK (h:∀x∈a,∀y∈b,x.1<=y.1):isort (a++b)=isort a++isort b:=
 Zhx (Yai.2 ⟨Zb0 a,Zb0 b,λx hx y hy=>h x (Zxw.1 hx) y (Zxw.1 hy)⟩) ((ZfU a).app (ZfU b))
theorem Sm.swap {u v:List Cell} (h:∀x∈u,∀y∈v,x.1≠y.1) (a b:List Cell):Sm (a++u++v++b) (a++v++u++b):=by
 have:Sm (u++v) (v++u):=λk=>by
  rw[ZdK,ZdK];by_cases hu:flt k u=[]
  ·simp[hu]
  ·have:flt k v=[]:=Zez λy hy e=>by apply hu;refine Zez λx hx e'=>h x hx y hy (by rw[e,e'])
   simp[this]
 rw[Yo a u v,Yo a v u];exact ((Sm.refl a).app this).app (Sm.refl b)
theorem ZUF {u1 u2 v1 v2:List Cell} (h12:∀x∈u2,∀y∈v1,y.1<x.1) (h1:∀x∈u1,∀y∈v2,x.1<=y.1) (hu:∀x∈u1,∀y∈u2,x.1<=y.1) (hv:∀x∈v1,∀y∈v2,x.1<=y.1):
  isort (u1++u2++v1++v2)=isort (u1++v1)++isort (u2++v2):=by
 rw[Zo3 (Sm.swap (λx hx y hy=>by have:=h12 x hx y hy;omega) u1 v2)];rw[Yo (u1++v1) u2 v2];refine ZNK λx hx y hy=> ?_
 rcases YV.1 hx with hx|hx<;>rcases YV.1 hy with hy|hy
 ·exact hu x hx y hy
 ·exact h1 x hx y hy
 ·have:=h12 y hy x hx;omega
 ·exact hv x hx y hy
end Go.Proofs.Cells
namespace Go.Proofs.YteaflmalcclnoaaGreatDoor
open Go Go.S3 Go.Proofs Go.Proofs.Cells
noncomputable section
abbrev ZcQ:R:=Pq Kb Ka
abbrev Zcy:TypeId:=97
def insX {α:Type} (l:List α) (i:Nat) (c:α):List α:=l.take i++[c]++l.drop i
def delX {α:Type} (l:List α) (i:Nat):List α:=l.take i++l.drop (i+1)
def Zju (m:Mem) (h:Nat) (l:List ZcQ.den) (v:Nat) (chk:Bool):Res:=
 {chk:=some chk,v:=.w (.one (.tip h (v+1))),m:={m with Sg:=setN m.Sg h ⟨ZcQ,Zcy,l,v+1,false,false,false,0⟩},bd:=[],sd:=[h]}
def insE:En:=.tree λvs m=>match vs with
 |[.w (.one (.tip h ver)),.w (.one (.int _ .i64 i)),.w (.one (.tip h2 ver2))]=>match ZaY m h ver,ZaY m h2 ver2 with
  |some g,some g2=>match R.same g.r ZcQ,R.same g2.r ZcQ,!g.fzn&&Nat.beq g.T Zcy&&Nat.beq g2.T Zcy&& !Nat.beq h h2 with
   |some e,some e2,true=>match e2.slc.cast g2.l with
    |[c]=>.Lf (some (Zju m h (insX (e.slc.cast g.l) i.toNat c) g.ver (decide (0<=i)&&decide (i<=((e.slc.cast g.l).length:Int))&&Nat.ble ((e.slc.cast g.l).length+1) most)))
    |_=>.Lf none
   |_,_,_=>.Lf none
  |_,_=>.Lf none
 |_=>.Lf none
def delE:En:=.tree λvs m=>match vs with
 |[.w (.one (.tip h ver)),.w (.one (.int _ .i64 i)),.w (.one (.int _ .i64 j))]=>match ZaY m h ver with
  |some g=>match R.same g.r ZcQ,!g.fzn&&Nat.beq g.T Zcy with
   |some e,true=>.Lf (some (Zju m h (delX (e.slc.cast g.l) i.toNat) g.ver (decide (0<=i)&&decide (i<((e.slc.cast g.l).length:Int))&&decide (j=i+1))))
   |_,_=>.Lf none
  |none=>.Lf none
 |_=>.Lf none
variable {m:Mem} {h:Nat} {chk:Bool} {g:Stg}
theorem Zo6 {l:List ZcQ.den} {v:Nat} (hg:nth m.Sg h=some g) (hv:g.ver=v):KeepC m (Zju m h l v chk):=by
 refine⟨Ye _,λb l hl=>⟨l,hl,rfl,λ_ _=>rfl⟩,by simp[Zju,ZH],λi g1 h1=> ?_⟩;by_cases hi:h=i
 ·subst hi;rw[hg] at h1;simp only[oinj] at h1;subst h1;exact⟨_,ZE hg,by simp only;omega,λh=>by simp[Zju,memN] at h⟩
 ·exact⟨g1,by show nth (setN m.Sg h _) i=_;rw[ZB hi];exact h1,Ye _,λ_=>rfl⟩
theorem wid2:ZcQ.wid=2:=rfl
theorem ZpH (w:World) (o:Obj):(w.alloc o).heap[w.heap.size]? =some o:=by show (w.heap.push o)[w.heap.size]? =some o;simp
theorem ZjL:∃i0,prog.info? Zcy=some i0/\i0.zero=some (.agg #[.int .u16 0,.int .u8 0]):=⟨_,rfl,by kernel_rfl⟩
theorem ZOY (w:World):(zeroValue Zcy).run prog w=.ok (Value.agg #[.int .u16 0,.int .u8 0]) w:=by obtain⟨i0,h1,h2⟩:=ZjL;simp[zeroValue,typeInfo,h1,h2]
variable {x:Ctx} {a:List Value}
theorem ZXH {c:ZcQ.den} (h:RowsOk x ZcQ [c] a):∃u0 u1,a=[u0,u1]:=by
 have:=h.len;simp only[List.length_singleton,wid2] at this
 match a,this with
 |[u0,u1],_=>exact⟨u0,u1,rfl⟩
theorem ZRL {l:List ZcQ.den} {c:ZcQ.den} {b:List Value} (h:RowsOk x ZcQ l a) (hc:RowsOk x ZcQ [c] b) (i:Nat):RowsOk x ZcQ (insX l i c) (a.take (i*2)++b++a.drop (i*2)):=((h.take i).append hc).append (h.drop i)
theorem ZSq {l:List ZcQ.den} (h:RowsOk x ZcQ l a) (i:Nat):RowsOk x ZcQ (delX l i) (a.take (i*2)++a.drop ((i+1)*2)):=(h.take i).append (h.drop (i+1))
variable {α:Type}
theorem ZRO (l:List α) (i:Nat) (c:α):(insX l i c).length=l.length+1:=by simp[insX];omega
theorem ZSs (l:List α) (i:Nat) (h:i<l.length):(delX l i).length=l.length-1:=by simp[delX];omega
def Made (w w':World) (e:Ending) (s:SI) (x:Ctx) (l:List ZcQ.den):Prop:=
 w'.os=w.os/\w'.tape=w.tape/\w'.output=w.output/\w.heap.size<=w'.heap.size/\(∀k,k<w.heap.size->(∀cap,s.blk≠some (k,cap))->w'.heap[k]? =w.heap[k]?)/\
 ∃p cap C rest,((∃c,s.blk=some (p,c))\/w.heap.size<=p)/\w'.heap[p]? =some (.cells (List.toArray (C++rest)) Zcy (0,0))/\(C++rest).length=cap*2/\l.length<=cap/\cap<=maxLen/\RowsOk x ZcQ l C/\
  e=.returned (.slice (some ⟨p,0,none⟩) l.length cap)
variable {w:World} {s:SI}
theorem ZNe {w':World} (hm:MK x m w) (hg:nth m.Sg h=some g) (hs:nth x.S h=some s) (hf:g.fzn=false) (hr:g.r=ZcQ) (hT:g.T=Zcy)
  {l:List ZcQ.den} {e:Ending} (hd:Made w w' e s x l):
  ∃val x',e=.returned val/\RV x' (Zju m h l g.ver chk).v val/\MK x' (Zju m h l g.ver chk).m w'/\Ext x x'/\Step x w w':=by obtain⟨h1,h2,h3,h4,h5,p,cap,C,rest,h6,h7,h8,h9,h10,h11,rfl⟩:=hd;obtain⟨r,T,gl,gv,gf,gff,glit,gub⟩:=g;simp only at hr hT;subst hr;subst hT;obtain⟨x',m1,e1,s1,a1⟩:=ZXR hm hg hs hf h1 h2 h3 h4 h5 (l:=l) h6 h7 h8 h9 h10 (h11.pre rest);exact⟨_,x',rfl,a1,m1,e1,s1⟩
variable {C A B:List Value} {n:Nat}
theorem ZrJ (h:C=A++B) (hn:A.length=n):C.take n=A:=by rw[h,List.take_append_of_le_length (by omega),YW (by omega)]
theorem ZSd (h:C=A++B) (hn:A.length=n):C.drop n=B:=by rw[h,List.drop_append_of_le_length (by omega),Y6 (by omega),List.nil_append]
variable {i:Nat}
theorem ZRM (hm:MK x m w) (hg:nth m.Sg h=some g) (hs:nth x.S h=some s) (hr:g.r=ZcQ) (hT:g.T=Zcy)
  {l:List ZcQ.den} (hl:HEq g.l l) (hi:i<=l.length) (hbig:l.length+1<=most) {c:ZcQ.den} {u0 u1:Value} (hc:RowsOk x ZcQ [c] [u0,u1])
  {pv cv:Nat} {Cv:List Value} (hv:w.heap[pv]? =some (.cells (List.toArray ([u0,u1]++Cv)) Zcy (0,0))) (hne:∀cap,s.blk≠some (pv,cap)):
  Calls prog 219 #[tipVal s,.int .i64 i,.slice (some ⟨pv,0,none⟩) 1 cv] w λe w'=>Made w w' e s x (insX l i c):=by
 have ho:=hm.stg h g s hg hs;obtain⟨r,T,gl,gv,gf,gff,glit,gub⟩:=g;simp only at hr hT;subst hr;subst hT;have hl:=eq_of_heq hl;simp only at hl;subst hl;have hmost:most<=1073741824:=by decide
 have hmax:maxLen=9223372036854775807:=rfl;have h1v:∀v∈[u0,u1],v.oneCell'=true:=hc.one (by decide);have hvs:∀j v,[u0,u1][j]? =some v->w.cell? ⟨pv,j,none⟩=some v:=λj v hj=>by rw[Zaj hv,Yp (YE.1 hj).1];exact hj
 have hpv:=Zin hv;have hn:=ho.n;simp only at hn;have hil:=ZRO gl i c;cases hb:s.blk with
 |none=>
  have h0:=ho.nil hb;have hnil:gl=[]:=Y2.1 (by omega);subst hnil;have hi0:i=0:=by simpa using hi
  subst hi0;have ht:tipVal s=.slice s.na 0 0:=by simp[tipVal,hb]
  rw[ht];refine (Zk8 s.na 0 0 pv cv [] u0 u1 w (Ye _) (by omega) (by omega) rfl (λ_=>rfl) (λi0 hi0=>by obtain⟨i1,e1,e2⟩:=ZjL;rw[e1] at hi0;simp only[oinj] at hi0;subst hi0;exact e2) (λ_ _ j v hj=>by simp at hj) hvs h1v).mono ?_;rintro e w' ⟨rfl,rfl⟩;have hG:=grownCap_ge w (0+1) 0 Zcy;have hG2:=grownCap_le_maxLen w (0+1) 0 Zcy (by rw[hmax];omega);generalize grownCap w (0+1) 0 Zcy=G at hG hG2;refine⟨rfl,rfl,rfl,by simp,λk hk _=>RowKit.Below.heap_alloc w.drew _ k hk,w.heap.size,G,[u0,u1],(Builtin.zeroCells #[.int .u16 0,.int .u8 0] (G-(0+1))).toList,.inr (Ye _),?_,?_,by rw[hil];exact hG,hG2,by simpa [insX] using hc,by rw[hil];rfl⟩
  ·have:=ZpH w.drew (.cells (([]++[u0,u1]:List Value).toArray++Builtin.zeroCells #[Value.int .u16 0,Value.int .u8 0] (G-(0+1))) Zcy);refine this.trans ?_;simp[Value.cells]
  ·simp only[Yd,List.length_cons,List.length_nil,Array.length_toList,size_zeroCells];simp;omega
 |some pc=>
  obtain⟨p,cap⟩:=pc;obtain⟨C,c1,c2,c3,c4,_⟩:=ho.row p cap hb;obtain⟨hrows,_,_,_⟩:=RowsOk.of_tip ho c1 hb;simp only[wid2] at c2 hrows;simp only at c1;have ht:tipVal s=.slice (some ⟨p,0,none⟩) gl.length cap:=by simp[tipVal,hb,hn]
  rw[ht];have hp:=Zin c1;have hcell:∀j,w.cell? ⟨p,j,none⟩=C[j]? :=λj=>Zaj c1 j
  have hfr:∀j,w.frozen? ⟨p,j,none⟩=false:=λj=>ZfY c1 j
  obtain⟨cs,hcs⟩:∃cs,cs=C.take (gl.length*2):=⟨_,rfl⟩;rw[<-hcs] at hrows;have hcsl:cs.length=gl.length*2:=hrows.len;have h1c:∀v∈cs,v.oneCell'=true:=hrows.one (by decide);have hcsc:∀j v,cs[j]? =some v->w.cell? ⟨p,j,none⟩=some v:=λj v hj=>by
   rw[hcell];rw[hcs,YI] at hj;split at hj
   ·exact hj
   ·simp at hj
  have hne':pv≠p:=λe=>hne cap (by rw[hb,e])
  have hrow:=ZRL hrows hc i;have hsome:∀j,j<cap*2->(w.cell? ⟨p,j,none⟩).isSome=true:=λj hj=>by rw[hcell,Yg (by omega)];rfl
  by_cases hroom:gl.length+1<=cap
  ·by_cases hend:i=gl.length
   ·--at the end,room
    subst hend;refine (Zxx p gl.length cap pv cv u0 u1 w hroom (by rw[hmax] at c4;omega) (λj hj=>hsome _ (by omega)) (λj hj=>hfr _) hvs h1v).mono ?_;rintro e w' ⟨rfl,rfl⟩;have hh:=ZbA (w:=w) (b:=p) (o:=gl.length*2) (vs:=[u0,u1]) c1 (by simp;omega) h1v;obtain⟨z1,z2,z3⟩:=Za9 p [u0,u1] (gl.length*2) w;refine⟨z1,z2,z3,by rw[Za8];exact Ye _,λk hk hkb=>ZaI p _ _ _ k (λe=>hkb cap (by rw[e,hb])),p,cap,_,C.drop (gl.length*2+2),.inl ⟨cap,hb⟩,?_,?_,by rw[hil];exact hroom,c4,hrow,by rw[hil]⟩
    ·rw[hh];have e1:cs.take (gl.length*2)=cs:=YW (by omega);have e2:cs.drop (gl.length*2)=[]:=Y6 (by omega);rw[e1,e2,<-hcs];simp
    ·have e2:cs.drop (gl.length*2)=[]:=Y6 (by omega);rw[e2];simp only[Yd,YH,YO,List.length_cons,List.length_nil];omega
   ·--a shift
    have hkB:C.toArray.size≠0:=by simp only[Y7];omega
    refine (ZNN p gl.length cap i pv cv cs u0 u1 w (by omega) hroom (by rw[hmax] at c4;omega) hne' hcsl hcsc (λj hj=>hsome _ (by omega)) (λj _=>hfr _) hvs h1c h1v Zcy Zcy ([u0,u1]++Cv).toArray.size C.toArray.size (by simp[World.shape?,hv]) (by simp[World.shape?,c1]) hkB (ZfY hv _) (ZfY hv _)).mono ?_;rintro e w' ⟨rfl,rfl⟩;have hdl:(cs.drop (i*2)).length=(gl.length-i)*2:=by rw[YO,hcsl];omega
    have hh1:=ZbA (w:=w.drew) (b:=p) (o:=(i+1)*2) (vs:=cs.drop (i*2)) c1 (by rw[hdl];omega) (λv hv=>h1c v (Yaw hv));obtain⟨C1,hC1⟩:∃C1,C1=C.take ((i+1)*2)++cs.drop (i*2)++C.drop ((i+1)*2+(cs.drop (i*2)).length):=⟨_,rfl⟩;rw[<-hC1] at hh1;have hC1l:C1.length=C.length:=by rw[hC1];simp only[Yd,YH,YO,hdl];omega
    have hh:=ZbA (w:=w.drew.setCells p ((i+1)*2) (cs.drop (i*2))) (b:=p) (o:=i*2) (vs:=[u0,u1]) hh1 (by simp;omega) h1v;obtain⟨z1,z2,z3⟩:=Za9 p [u0,u1] (i*2) (w.drew.setCells p ((i+1)*2) (cs.drop (i*2)));obtain⟨y1,y2,y3⟩:=Za9 p (cs.drop (i*2)) ((i+1)*2) w.drew;refine⟨z1.trans y1,z2.trans y2,z3.trans y3,by rw[Za8,Za8];exact Ye _,λk hk hkb=> ?_,p,cap,_,C.drop ((gl.length+1)*2),.inl ⟨cap,hb⟩,?_,?_,by rw[hil];exact hroom,c4,hrow,by rw[hil]⟩
    ·have:k≠p:=λe=>hkb cap (by rw[e,hb])
     rw[ZaI p _ _ _ k this,ZaI p _ _ _ k this];rfl
    ·rw[hh];have e1:C1.take (i*2)=cs.take (i*2):=by rw[hC1,Yo,List.take_append_of_le_length (by simp;omega),List.take_take,hcs,List.take_take,Ya7 (by omega),Ya7 (by omega)]
     have e2:C1.drop (i*2+[u0,u1].length)=cs.drop (i*2)++C.drop ((gl.length+1)*2):=by refine ZSd (A:=C.take ((i+1)*2)) ?_ (by simp;omega);rw[hC1,hdl,Yo];congr 3;omega
     rw[e1,e2];simp
    ·simp only[Yd,YH,YO,List.length_cons,List.length_nil,hdl,hcsl,c2];omega
  ·have hcap:cap=gl.length:=by have:=hn;omega
   by_cases hend:i=gl.length
   ·--at the end,a new row
    subst hend
    refine (Zk8 (some ⟨p,0,none⟩) gl.length cap pv cv cs u0 u1 w (by omega) (by omega) hbig hcsl (λe=>by simp at e) (λi0 hi0=>by obtain⟨i1,e1,e2⟩:=ZjL;rw[e1] at hi0;simp only[oinj] at hi0;subst hi0;exact e2) (λa ha j v hj=>by
     simp only[oinj] at ha;subst ha
     rw[Addr.add_lit,Yu];exact hcsc j v hj) hvs h1v).mono ?_
    rintro e w' ⟨rfl,rfl⟩;have hG:=grownCap_ge w (gl.length+1) cap Zcy;have hG2:=grownCap_le_maxLen w (gl.length+1) cap Zcy (by rw[hmax];omega);generalize grownCap w (gl.length+1) cap Zcy=G at hG hG2;refine⟨rfl,rfl,rfl,by simp,λk hk _=>RowKit.Below.heap_alloc w.drew _ k hk,w.heap.size,G,_,(Builtin.zeroCells #[.int .u16 0,.int .u8 0] (G-(gl.length+1))).toList,.inr (Ye _),?_,?_,by rw[hil];exact hG,hG2,hrow,by rw[hil]⟩
    ·have:=ZpH w.drew (.cells ((cs++[u0,u1]:List Value).toArray++Builtin.zeroCells #[Value.int .u16 0,Value.int .u8 0] (G-(gl.length+1))) Zcy);refine this.trans ?_;have e1:cs.take (gl.length*2)=cs:=YW (by omega);have e2:cs.drop (gl.length*2)=[]:=Y6 (by omega);rw[e1,e2];simp[Value.cells]
    ·have e2:cs.drop (gl.length*2)=[]:=Y6 (by omega);rw[e2];simp only[Yd,YH,List.length_cons,List.length_nil,Array.length_toList,size_zeroCells];simp;omega
   ·refine (ZRN p gl.length cap i pv cv cs u0 u1 w (by omega) (by omega) (by omega) hbig hcsl (λi0 hi0=>by obtain⟨i1,e1,e2⟩:=ZjL;rw[e1] at hi0;simp only[oinj] at hi0;subst hi0;exact e2) hcsc hvs h1c h1v).mono ?_;rintro e w' ⟨rfl,rfl⟩;have hG:=grownCap_ge w (gl.length+1) cap Zcy;have hG2:=grownCap_le_maxLen w (gl.length+1) cap Zcy (by rw[hmax];omega);generalize grownCap w (gl.length+1) cap Zcy=G at hG hG2;obtain⟨R0,hR0⟩:∃R0:List Value,R0=cs.take (i*2)++((Builtin.zeroCells #[.int .u16 0,.int .u8 0] (gl.length+1-i)).toList++(Builtin.zeroCells #[.int .u16 0,.int .u8 0] (G-(gl.length+1))).toList):=⟨_,rfl⟩;have hR:((cs.take (i*2)).toArray++Builtin.zeroCells #[Value.int .u16 0,Value.int .u8 0] (gl.length+1-i)++Builtin.zeroCells #[Value.int .u16 0,Value.int .u8 0] (G-(gl.length+1)))=R0.toArray:=by rw[hR0];simp[Value.cells]
    rw[hR];have hR0l:R0.length=G*2:=by rw[hR0];simp only[Yd,YH,Array.length_toList,size_zeroCells];simp;omega
    have hdl:(cs.drop (i*2)).length=(gl.length-i)*2:=by rw[YO,hcsl];omega
    have hnew:((w.alloc (.cells R0.toArray Zcy)).drew).heap[w.heap.size]? =some (.cells R0.toArray Zcy (0,0)):=ZpH w _;have hh1:=ZbA (b:=w.heap.size) (o:=i*2) (vs:=[u0,u1]) hnew (by simp;omega) h1v;obtain⟨C1,hC1⟩:∃C1,C1=R0.take (i*2)++[u0,u1]++R0.drop (i*2+[u0,u1].length):=⟨_,rfl⟩;rw[<-hC1] at hh1;have hC1l:C1.length=G*2:=by rw[hC1];simp only[Yd,YH,YO,List.length_cons,List.length_nil];omega
    have hh:=ZbA (w:=(((w.alloc (.cells R0.toArray Zcy)).drew.setCells w.heap.size (i*2) [u0,u1]).drew)) (b:=w.heap.size) (o:=(i+1)*2) (vs:=cs.drop (i*2)) hh1 (by rw[hdl];omega) (λv hv=>h1c v (Yaw hv));obtain⟨z1,z2,z3⟩:=Za9 w.heap.size (cs.drop (i*2)) ((i+1)*2) (((w.alloc (.cells R0.toArray Zcy)).drew.setCells w.heap.size (i*2) [u0,u1]).drew);obtain⟨y1,y2,y3⟩:=Za9 w.heap.size [u0,u1] (i*2) (w.alloc (.cells R0.toArray Zcy)).drew;refine⟨z1.trans y1,z2.trans y2,z3.trans y3,?_,λk hk hkb=> ?_,w.heap.size,G,_,C1.drop ((i+1)*2+(cs.drop (i*2)).length),.inr (Ye _),?_,?_,by rw[hil];exact hG,hG2,hrow,by rw[hil]⟩
    ·rw[Za8];show _<=((w.alloc (.cells R0.toArray Zcy)).drew.setCells w.heap.size (i*2) [u0,u1]).heap.size;rw[Za8];show _<=(w.alloc (.cells R0.toArray Zcy)).heap.size;simp
    ·have:k≠w.heap.size:=by omega
     rw[ZaI _ _ _ _ k this];show ((w.alloc (.cells R0.toArray Zcy)).drew.setCells w.heap.size (i*2) [u0,u1]).heap[k]? =_;rw[ZaI _ _ _ _ k this];exact RowKit.Below.heap_alloc w _ k hk
    ·rw[hh];have e1:C1.take ((i+1)*2)=cs.take (i*2)++[u0,u1]:=by refine ZrJ (B:=R0.drop (i*2+[u0,u1].length)) ?_ (by simp;omega);rw[hC1];have:R0.take (i*2)=cs.take (i*2):=ZrJ hR0 (by simp;omega);rw[this]
     rw[e1]
    ·simp only[Yd,YH,YO,List.length_cons,List.length_nil,hdl,hcsl,hC1l];omega
theorem ZSr (hm:MK x m w) (hg:nth m.Sg h=some g) (hs:nth x.S h=some s) (hr:g.r=ZcQ) (hT:g.T=Zcy)
  {l:List ZcQ.den} (hl:HEq g.l l) (hi:i<l.length):
  Calls prog 218 #[tipVal s,.int .i64 i,.int .i64 ((i:Int)+1)] w λe w'=>Made w w' e s x (delX l i):=by
 have ho:=hm.stg h g s hg hs;obtain⟨r,T,gl,gv,gf,gff,glit,gub⟩:=g;simp only at hr hT;subst hr;subst hT;have hl:=eq_of_heq hl;simp only at hl;subst hl;have hmax:maxLen=9223372036854775807:=rfl;have hn:=ho.n;simp only at hn;have hil:=ZSs gl i hi;cases hb:s.blk with
 |none=>
  have h0:=ho.nil hb;omega
 |some pc=>
  obtain⟨p,cap⟩:=pc;obtain⟨C,c1,c2,c3,c4,_⟩:=ho.row p cap hb;obtain⟨hrows,_,_,_⟩:=RowsOk.of_tip ho c1 hb;simp only[wid2] at c2 hrows;simp only at c1;have ht:tipVal s=.slice (some ⟨p,0,none⟩) gl.length cap:=by simp[tipVal,hb,hn]
  rw[ht];have hcell:∀j,w.cell? ⟨p,j,none⟩=C[j]? :=λj=>Zaj c1 j
  obtain⟨cs,hcs⟩:∃cs,cs=C.take (gl.length*2):=⟨_,rfl⟩;rw[<-hcs] at hrows;have hcsl:cs.length=gl.length*2:=hrows.len;have h1c:∀v∈cs,v.oneCell'=true:=hrows.one (by decide);have h1z:∀v∈[Value.int .u16 0,Value.int .u8 0],v.oneCell'=true:=by simp[Value.oneCell']
  have hcsc:∀j v,cs[j]? =some v->w.cell? ⟨p,j,none⟩=some v:=λj v hj=>by
   rw[hcell];rw[hcs,YI] at hj;split at hj
   ·exact hj
   ·simp at hj
  refine (ZXb p gl.length cap i cs (.int .u16 0) (.int .u8 0) w hi (by omega) (by rw[hmax] at c4;omega) hcsl ZOY (by simp[Builtin.zeroCells,Value.cells];rfl) h1z hcsc (λj _=>ZfY c1 j) h1c).mono ?_;rintro e w' ⟨rfl,rfl⟩;have hdl:(cs.drop ((i+1)*2)).length=(gl.length-(i+1))*2:=by rw[YO,hcsl];omega
  have hh1:=ZbA (w:=w.drew) (b:=p) (o:=i*2) (vs:=cs.drop ((i+1)*2)) c1 (by rw[hdl];omega) (λv hv=>h1c v (Yaw hv));obtain⟨C1,hC1⟩:∃C1,C1=C.take (i*2)++cs.drop ((i+1)*2)++C.drop (i*2+(cs.drop ((i+1)*2)).length):=⟨_,rfl⟩;rw[<-hC1] at hh1;have hC1l:C1.length=C.length:=by rw[hC1];simp only[Yd,YH,YO,hdl];omega
  have hh:=ZbA (w:=w.drew.setCells p (i*2) (cs.drop ((i+1)*2))) (b:=p) (o:=(gl.length-1)*2) (vs:=[.int .u16 0,.int .u8 0]) hh1 (by simp;omega) h1z;obtain⟨z1,z2,z3⟩:=Za9 p [.int .u16 0,.int .u8 0] ((gl.length-1)*2) (w.drew.setCells p (i*2) (cs.drop ((i+1)*2)));obtain⟨y1,y2,y3⟩:=Za9 p (cs.drop ((i+1)*2)) (i*2) w.drew;refine⟨z1.trans y1,z2.trans y2,z3.trans y3,by rw[Za8,Za8];exact Ye _,λk hk hkb=> ?_,p,cap,_,[.int .u16 0,.int .u8 0]++C1.drop ((gl.length-1)*2+[Value.int .u16 0,.int .u8 0].length),.inl ⟨cap,hb⟩,?_,?_,by rw[hil];omega,c4,ZSq hrows i,by rw[hil]⟩
  ·have:k≠p:=λe=>hkb cap (by rw[e,hb])
   rw[ZaI p _ _ _ k this,ZaI p _ _ _ k this];rfl
  ·rw[hh];have e1:C1.take ((gl.length-1)*2)=cs.take (i*2)++cs.drop ((i+1)*2):=by refine ZrJ (B:=C.drop (i*2+(cs.drop ((i+1)*2)).length)) ?_ (by simp;omega);rw[hC1,hcs,List.take_take,Ya7 (by omega)]
   rw[e1];simp
  ·simp only[Yd,YH,YO,List.length_cons,List.length_nil,hdl,hcsl,hC1l,c2];omega
theorem ZY2:Za prog 219 insE:=by
 refine⟨Tryz.call219,λvs m=> ?_,λvs m q hp hc x w args hm hv=> ?_⟩
 ·simp only;split
  ·split
   ·rename_i g g2 hg hg2;split
    ·split
     ·intro q hq;simp only[oinj] at hq;subst hq;exact Zo6 (ZR hg).1 rfl
     ·intro q hq;simp at hq
    ·intro q hq;simp at hq
   ·intro q hq;simp at hq
  ·intro q hq;simp at hq
 ·simp only at hp;split at hp
  ·rename_i h ver lit i h2 ver2;split at hp
   ·rename_i g g2 hg hg2;split at hp
    ·rename_i _ _ _ e e2 he he2 hcond;split at hp
     ·rename_i c hc1;simp only[RT.val,oinj] at hp;subst hp;simp only[Yb,Yt,YJ] at hcond;obtain⟨⟨⟨hf,hT⟩,hT2⟩,hne⟩:=hcond;have hne:h≠h2:=λe=>by rw[e,Nat.beq_refl] at hne;simp at hne
      obtain⟨hg,hgv⟩:=ZR hg;obtain⟨hg2,hgv2⟩:=ZR hg2
      match args,hv with
      |[v,vi,v2],hv=>
       obtain⟨s,hs,hso,rfl⟩:=Zf8 hm.toR hv.1 (by unfold ZaY;rw[hg];simp[hgv]:ZaY m h ver=some g);obtain⟨s2,hs2,hso2,rfl⟩:=Zf8 hm.toR hv.2.2.1 (by unfold ZaY;rw[hg2];simp[hgv2]:ZaY m h2 ver2=some g2);have hvi:RA x (.int lit .i64 i) vi:=hv.2.1;cases hvi;simp only[Zju] at hc;have hck:(decide (0<=i)&&decide (i<=((e.slc.cast g.l).length:Int))&&Nat.ble ((e.slc.cast g.l).length+1) most)=true:=by
        cases hb:(decide (0<=i)&&decide (i<=((e.slc.cast g.l).length:Int))&&Nat.ble ((e.slc.cast g.l).length+1) most) with
        |true=>rfl
        |false=>rw[hb] at hc;exact absurd rfl hc
       simp only[Yb,Yf,Yy] at hck;obtain⟨⟨k1,k2⟩,k3⟩:=hck;have hi:(i.toNat:Int)=i:=by omega
       obtain⟨r2,T2,l2,gv2,gf2,gff2,glit2,gub2⟩:=g2;cases e2;simp only[EqR.slc,EqR.cast] at hc1;simp only at hT2;subst hc1;subst hT2;have hn2:s2.n=1:=hso2.n;cases hb2:s2.blk with
       |none=>have:=(hso2.nil hb2).1;omega
       |some pc=>
        obtain⟨pv,cv⟩:=pc;obtain⟨Cf,c1,_⟩:=hso2.row pv cv hb2;obtain⟨hrows2,_,_,_⟩:=RowsOk.of_tip hso2 c1 hb2;simp only[List.length_singleton] at hrows2;obtain⟨u0,u1,hu⟩:=ZXH hrows2;rw[hu] at hrows2;have hCf:Cf=[u0,u1]++Cf.drop (1*ZcQ.wid):=by rw[<-hu,Yam]
        rw[hCf] at c1;have hv2:tipVal s2=.slice (some ⟨pv,0,none⟩) 1 cv:=by simp[tipVal,hb2,hn2]
        rw[hv2,<-hi];have hgr:g.r=ZcQ:=R.same_eq he;have key:=ZRM hm hg hs hgr hT (l:=e.slc.cast g.l) (by cases g;simp only at hgr;subst hgr;cases e;rfl) (i:=i.toNat) (by omega) k3 hrows2 c1 (cv:=cv) (λcap hb=>hne (hm.sinj h h2 s s2 pv cap cv hs hs2 hb hb2));refine key.mono λe' w' hd=> ?_
        rw[Int.toNat_natCast];exact ZNe hm hg hs hf hgr hT hd
      |[],hv=>exact hv.elim
      |[_],hv=>exact hv.2.elim
      |[_,_],hv=>exact hv.2.2.elim
      |_::_::_::_::_,hv=>exact hv.2.2.2.elim
     ·simp[RT.val] at hp
    ·simp[RT.val] at hp
   ·simp[RT.val] at hp
  ·simp[RT.val] at hp
theorem ZZi:Za prog 218 delE:=by
 refine⟨Tryz.call218,λvs m=> ?_,λvs m q hp hc x w args hm hv=> ?_⟩
 ·simp only;split
  ·split
   ·rename_i g hg;split
    ·intro q hq;simp only[oinj] at hq;subst hq;exact Zo6 (ZR hg).1 rfl
    ·intro q hq;simp at hq
   ·intro q hq;simp at hq
  ·intro q hq;simp at hq
 ·simp only at hp;split at hp
  ·rename_i h ver lit i lit2 j;split at hp
   ·rename_i g hg;split at hp
    ·rename_i _ _ e he hcond;simp only[RT.val,oinj] at hp;subst hp;simp only[Yb,Yt,YJ] at hcond;obtain⟨hf,hT⟩:=hcond;obtain⟨hg,hgv⟩:=ZR hg
     match args,hv with
     |[v,vi,vj],hv=>
      obtain⟨s,hs,hso,rfl⟩:=Zf8 hm.toR hv.1 (by unfold ZaY;rw[hg];simp[hgv]:ZaY m h ver=some g);have hvi:RA x (.int lit .i64 i) vi:=hv.2.1;have hvj:RA x (.int lit2 .i64 j) vj:=hv.2.2.1;cases hvi;cases hvj;simp only[Zju] at hc;have hck:(decide (0<=i)&&decide (i<((e.slc.cast g.l).length:Int))&&decide (j=i+1))=true:=by
       cases hb:(decide (0<=i)&&decide (i<((e.slc.cast g.l).length:Int))&&decide (j=i+1)) with
       |true=>rfl
       |false=>rw[hb] at hc;exact absurd rfl hc
      simp only[Yb,Yf] at hck;obtain⟨⟨k1,k2⟩,rfl⟩:=hck;have hi:(i.toNat:Int)=i:=by omega
      rw[<-hi];have hgr:g.r=ZcQ:=R.same_eq he;have key:=ZSr hm hg hs hgr hT (l:=e.slc.cast g.l) (by cases g;simp only at hgr;subst hgr;cases e;rfl) (i:=i.toNat) (by omega);refine key.mono λe' w' hd=> ?_
      rw[Int.toNat_natCast];exact ZNe hm hg hs hf hgr hT hd
     |[],hv=>exact hv.elim
     |[_],hv=>exact hv.2.elim
     |[_,_],hv=>exact hv.2.2.elim
     |_::_::_::_::_,hv=>exact hv.2.2.2.elim
    ·simp[RT.val] at hp
   ·simp[RT.val] at hp
  ·simp[RT.val] at hp
end
end Go.Proofs.YteaflmalcclnoaaGreatDoor
namespace Go.Proofs.YteaflmalcclnoaaGreatDoor
noncomputable section
def Zee:En:=.tree (Zo (envX prog [] [] 7 8) Tryz.f250)
theorem Zgq:Za prog 250 Zee:=ZL trivial Tryz.func250 rfl (by kernel_rfl) Tryz.call250 trivial
def ZI1 (x:Int) (y:Int):RT (Int):=
 .br (x !=x) (.br (y !=y) (.Lf (0)) (.Lf (-1))) (.br (y !=y) (.Lf (1)) (.br (decide (x<y)) (.Lf (-1)) (.br (decide (x>y)) (.Lf (1)) (.Lf (0)))))
def uCmp (x:Int) (y:Int):Int:=(ZI1 x y).val
def ZUB:En:=Zf ZA0 ZTl (λ_=>none) (λa=>uCmp a.1 a.2)
theorem ZIZ:Za prog 217 ZUB:=
 pureQ 127 [(250,Zee)] [] _ _ ⟨Zgq,Tv⟩ Tryz.func217 Tryz.call217 trivial
abbrev ZIR:List Sh:=[Sh.agg (Pq Kb Ka),Sh.agg (Pq Kb Ka)]
def ZIS (a:Int×Int) (b:Int×Int):RT (Int):=
 .Lf (uCmp a.1 b.1)
def ZpM (a:Int×Int) (b:Int×Int):Int:=(ZIS a b).val
def ZbR:En:=Zf ZIR ZTl (λ_=>none) (λa=>ZpM a.1 a.2)
theorem Zav:Za prog 221 ZbR:=
 pureQ 31 [(217,ZUB)] [] _ _ ⟨ZIZ,Tv⟩ Tryz.func221 Tryz.call221 trivial
abbrev ZrC:Nat:=97
abbrev Zyp:List Sh:=[So Kc,So Kc,So Kc]
def ZPz:LS:={n:=38,Sl:=[(0,.tip 0),(1,.code (So Kc)),(2,.code (So Kc)),(3,.code (So Kc)),(10,.code (So Kc))],Bx:=[],Sg:=[⟨Pq Kb Ka,97,false⟩],keep:=[0]}
def ZiD (a:QT6):RT (Option (Go1 (QT6))):=
 let x1:=Zh (i64.wrap (a.2.1+a.2.2.2.1)) (Le a.2.2.2.2.1)
 let x2:= !x1
 let x3:=Zh (i64.wrap (a.1+a.2.2.2.1)) (Le a.2.2.2.2.1)
 let x4:= !x3
 let x5:=setI a.2.2.2.2.1 (i64.wrap (a.1+a.2.2.2.1)) (R.get (Pq Kb Ka) a.2.2.2.2.1 (i64.wrap (a.2.1+a.2.2.2.1)))
 let x6:=x2||(x4||(x4||Zh (i64.wrap (a.2.1+a.2.2.2.1)) (Le x5)))
 let x7:= !x6
 let x8:=x2||(x4||x3)
 let x9:= !x8
 let x10:=x2||x3
 .br (decide (a.2.2.2.1<a.2.2.1)) (.br (x7||(x9||(!x10||x1))) (.br (x7||(x9||x10)) (.br (x7||x8) (.br (x6) (Ls (Go1.cont (a.1,a.2.1,a.2.2.1,i64.wrap (a.2.2.2.1+1),setI x5 (i64.wrap (a.2.1+a.2.2.2.1)) (R.get (Pq Kb Ka) a.2.2.2.2.1 (i64.wrap (a.1+a.2.2.2.1))),PUnit.unit))) Ln) Ln) Ln) Ln) (Ls (Go1.brk (a.1,a.2.1,a.2.2.1,a.2.2.2.1,a.2.2.2.2.1,PUnit.unit)))
def ZCy:Ora:=Zbq false ZPz ZiD (λa=>(a.2.2.1-a.2.2.2.1).toNat+1)
theorem ZFB:Za1 (envX prog [(221,ZbR)] [] 2047 8) (.block 0 (.loop (Z5 Tryz.f268.body 0))) ZCy:=
 loopP ⟨Zav,Tv⟩
def Zvh (s:List (Int×Int)) (a:Int) (b:Int) (n:Int):RT (Option (List (Int×Int))):=
 let x1:QT6:=(a,b,n,0,Stg.l (ZdI ZcQ ZrC s),())
 let x2:=runF false ZiD (λa_1=>Int.toNat (a_1.2.2.1-a_1.2.2.2.1)+1) x1
 .br (okB x2) (Ls (getO (false,x1) x2).2.2.2.2.2.1) Ln
def ZXA (s:List (Int×Int)) (a:Int) (b:Int) (n:Int):List (Int×Int):=getO [] (Zvh s a b n).val
def ZSL (s:List (Int×Int)) (a:Int) (b:Int) (n:Int):Bool:=okB (Zvh s a b n).val
def ZXz:En:=stE ZcQ ZrC 221 Zyp (λa=>some (ZSL a.1 a.2.1 a.2.2.1 a.2.2.2)) (λa=>ZXA a.1 a.2.1 a.2.2.1 a.2.2.2)
theorem ZPy:Za prog 268 ZXz:=
 ZmF (P:=prog) (n:=2047) (k:=8) (l:=[(221,ZbR)]) (ol:=[(0,ZCy)]) ⟨Zav,Tv⟩ Tryz.func268 rfl (by kernel_rfl) Tryz.call268 ⟨ZFB,Tv⟩ (r:=ZcQ) (T:=ZrC) (g0:=221) (ts:=Zyp) (t:=λa=>Zvh a.1 a.2.1 a.2.2.1 a.2.2.2) (λa=>by kernel_rfl)
def ZUz:LS:={n:=53,Sl:=[(0,.tip 0),(1,.code (So Kc)),(2,.code (So Kc)),(3,.fix (A.clo 221 [])),(8,.code (So Kc)),(9,.code (So Kc))],Bx:=[],Sg:=[⟨Pq Kb Ka,97,false⟩],keep:=[0]}
def Zh6 (a:QT6):RT (Option (Go1 (QT6))):=
 let x1:= !Zh a.2.2.2.1 (Le a.2.2.2.2.1)
 let x2:=Zh (i64.wrap (a.2.2.2.1-1)) (Le a.2.2.2.2.1)
 let x3:Int×Int:=R.get (Pq Kb Ka) a.2.2.2.2.1 a.2.2.2.1
 let x4:Int×Int:=R.get (Pq Kb Ka) a.2.2.2.2.1 (i64.wrap (a.2.2.2.1-1))
 let x5:= !x2
 let x6:=setI a.2.2.2.2.1 a.2.2.2.1 x4
 let x7:=x5||(x1||(x1||Zh (i64.wrap (a.2.2.2.1-1)) (Le x6)))
 let x8:= !x7
 let x9:=x5||(x1||Zh a.2.2.2.1 (Le a.2.2.2.2.1))
 let x10:= !x9
 let x11:=x5||Zh a.2.2.2.1 (Le a.2.2.2.2.1)
 .br (!decide (a.2.2.2.1>a.1)||(x1||x2)) (.br (!decide (a.2.2.2.1>a.1)||Zh a.2.2.2.1 (Le a.2.2.2.2.1)) (.br (decide (a.2.2.2.1>a.1)&&decide (ZpM x3 x4<0)) (.br (x8||(x10||(!x11||x2))) (.br (x8||(x10||x11)) (.br (x8||x9) (.br (x7) (Ls (Go1.cont (a.1,a.2.1,a.2.2.1,i64.wrap (a.2.2.2.1-1),setI x6 (i64.wrap (a.2.2.2.1-1)) x3,PUnit.unit))) Ln) Ln) Ln) Ln) (Ls (Go1.brk (a.1,a.2.1,a.2.2.1,a.2.2.2.1,a.2.2.2.2.1,PUnit.unit)))) Ln) Ln
def ZrF:Ora:=Zbq false ZUz Zh6 (λa=>(a.2.2.2.1-a.1).toNat+1)
theorem Zvn:Za1 (envX prog [(221,ZbR)] [] 1023 8) (.block 2 (.loop (Z5 Tryz.f264.body 2))) ZrF:=
 loopP ⟨Zav,Tv⟩
def ZUy:LS:={n:=53,Sl:=[(0,.tip 0),(1,.code (So Kc)),(2,.code (So Kc)),(3,.fix (A.clo 221 [])),(8,.code (So Kc))],Bx:=[],Sg:=[⟨Pq Kb Ka,97,false⟩],keep:=[0]}
def Zmw (a:QT9):RT (Option (Go1 (QT9))):=
 let x1:QT6:=(a.1,a.2.1,a.2.2.1,a.2.2.1,a.2.2.2.1,())
 let x2:=runF false Zh6 (λa_1=>Int.toNat (a_1.2.2.2.1-a_1.1)+1) x1
 let x3:QT6:=(getO (false,x1) x2).2
 let x4:=x3.2
 let x5:=x4.2
 .br (decide (a.2.2.1<a.2.1)) (.br (okB x2) (Ls (Go1.cont (x3.1,x4.1,i64.wrap (x5.1+1),x5.2.2.1,PUnit.unit))) Ln) (Ls (Go1.brk (a.1,a.2.1,a.2.2.1,a.2.2.2.1,PUnit.unit)))
def ZIX:Ora:=Zbq false ZUy Zmw (λa=>(a.2.1-a.2.2.1).toNat+1)
theorem ZIW:Za1 (envX prog [(221,ZbR)] [(2,ZrF)] 1023 8) (.block 0 (.loop (Z5 Tryz.f264.body 0))) ZIX:=
 Zev (ZaT (l:=[(221,ZbR)]) ⟨Zav,Tv⟩ [(2,ZrF)] 1023 8) (Zim (by kernel_rfl) (by kernel_rfl) ⟨Zvn,Tv⟩) (λa=>by kernel_rfl)
def ZIV (s:List (Int×Int)) (a:Int) (b:Int):RT (Option (List (Int×Int))):=
 let x1:QT9:=(a,b,i64.wrap (a+1),Stg.l (ZdI ZcQ ZrC s),())
 let x2:=runF false Zmw (λa_1=>Int.toNat (a_1.2.1-a_1.2.2.1)+1) x1
 .br (okB x2) (Ls (getO (false,x1) x2).2.2.2.2.1) Ln
def uIns (s:List (Int×Int)) (a:Int) (b:Int):List (Int×Int):=getO [] (ZIV s a b).val
def ZXE (s:List (Int×Int)) (a:Int) (b:Int):Bool:=okB (ZIV s a b).val
def uInsE:En:=stE ZcQ ZrC 221 ZEJ (λa=>some (ZXE a.1 a.2.1 a.2.2)) (λa=>uIns a.1 a.2.1 a.2.2)
theorem ZUx:Za prog 264 uInsE:=
 ZmF (P:=prog) (n:=1023) (k:=8) (l:=[(221,ZbR)]) (ol:=[(2,ZrF),(0,ZIX)]) ⟨Zav,Tv⟩ Tryz.func264 rfl (by kernel_rfl) Tryz.call264 ⟨Zvn,ZIW,Tv⟩ (r:=ZcQ) (T:=ZrC) (g0:=221) (ts:=ZEJ) (t:=λa=>ZIV a.1 a.2.1 a.2.2) (λa=>by kernel_rfl)
end
end Go.Proofs.YteaflmalcclnoaaGreatDoor
open Go.S3
namespace Go.Proofs.Cells
theorem Zpa {r:R} (X:List r.den) (x:r.den) (Y:List r.den) (i:Int) (h:i=X.length):R.get r (X++x::Y) i=x:=by subst h;simp[R.get,Yl]
variable {α:Type}
theorem ZrU (X:List α) (x y:α) (Y:List α) (i:Int) (h:i=X.length):setI (X++x::Y) i y=X++y::Y:=by subst h;simp[setI]
theorem ZCJ (X:List α) (p q:α) (M Y:List α) (i j:Int) (hi:i=X.length) (hj:j=X.length+1+M.length):
  setI (setI (X++p::(M++q::Y)) i q) j p=X++q::(M++p::Y):=by
 rw[ZrU X p q _ i hi];have e:X++q::(M++q::Y)=(X++q::M)++q::Y:=by simp
 rw[e,ZrU (X++q::M) q p Y j (by simp;omega)];simp
theorem Zvr (X:List α) (p q:α) (M Y:List α) (i j:Int) (hi:i=X.length) (hj:j=X.length+1+M.length):
  setI (setI (X++p::(M++q::Y)) j p) i q=X++q::(M++p::Y):=by
 have e:X++p::(M++q::Y)=(X++p::M)++q::Y:=by simp
 rw[e,ZrU (X++p::M) q p Y j (by simp;omega)];have e:(X++p::M)++p::Y=X++p::(M++p::Y):=by simp
 rw[e,ZrU X p q _ i hi]
theorem ZBH (x:Cell):∀(P Q:List Cell),(∀y∈P,y.1<=x.1)->(∀y∈Q,x.1<y.1)->ins x (P++Q)=P++x::Q
 |[],[],_,_=>rfl
 |[],q::Q,_,h=>by simp[ins,h q (by simp)]
 |p::P,Q,h1,h2=>by have:=h1 p (by simp);simp only[List.cons_append,ins];rw[Y3 (by omega),ZBH x P Q (λy hy=>h1 y (by simp[hy])) h2]
theorem Zb6 (l:List α) (n:Nat) (h:n<=l.length):∃a b,l=a++b/\a.length=n:=⟨l.take n,l.drop n,(Yam n l).symm,by simp;omega⟩
end Go.Proofs.Cells
open Go Go.S3 Go.Proofs Go.Proofs.Cells
namespace Go.Proofs.YteaflmalcclnoaaGreatDoor
noncomputable section
theorem Zlw (a b:Cell):decide (ZpM a b<0)=decide (a.1<b.1):=by
 simp only[ZpM,ZIS,uCmp,ZI1,RT.val,bne_self_eq_false,Yc];by_cases h:a.1<b.1
 ·simp[h]
 ·by_cases h2:a.1>b.1<;>simp[h,h2]
theorem Zvm (a b:Cell):(!decide (ZpM a b<0))=decide (b.1<=a.1):=by rw[Zlw];by_cases h:a.1<b.1<;>simp[h]<;>omega
theorem ml:(maxLen:Int)<=9223372036854775807:=by decide
abbrev CR:R:=Pq Kb Ka
variable {α:Type}
theorem Zr0 (X:List α) (p:α) (Y:List α) (i:Int) (h:i=X.length):Zh i (X++p::Y).length=true:=ZP.2 (by subst h;simp;omega)
theorem ZlA (X:List α) (p q:α) (M Y:List α) (j:Int) (h:j=X.length+1+M.length):Zh j (X++p::(M++q::Y)).length=true:=ZP.2 (by subst h;simp;omega)
theorem Zl0 (X:List Cell) (p q:Cell) (M Y:List Cell) (j:Int) (h:j=X.length+1+M.length):R.get CR (X++p::(M++q::Y)) j=q:=by
 have e:X++p::(M++q::Y)=(X++p::M)++q::Y:=by simp
 rw[e];exact Zpa (r:=CR) _ _ _ _ (by simp;omega)
theorem ZoY (l:List α) (i:Int) (x:α):(setI l i x).length=l.length:=by simp[setI]
theorem ZPL (X U M V Y:List Cell) (h:V.length=U.length) (hm:((X++U++M++V++Y).length:Int)<=maxLen):
  (Zvh (X++U++M++V++Y) X.length (X.length+U.length+M.length) U.length).val=some (X++V++M++U++Y):=by
 have hml:=ml;simp only[Yd] at hm;obtain⟨r,hr,hR⟩:=ZK (fl:=false) (t:=ZiD) (fuel:=λa=>Int.toNat (a.2.2.1-a.2.2.2.1)+1)
  (I:=λa=>∃i:Nat,i<=U.length/\a=((X.length:Int),(X.length:Int)+U.length+M.length,(U.length:Int),(i:Int),X++V.take i++U.drop i++M++U.take i++V.drop i++Y,()))
  (m:=λa=>Int.toNat (a.2.2.1-a.2.2.2.1)) (R:=λr=>r.2.2.2.2.2.1=X++V++M++U++Y)
  (λa hi=>by
   obtain⟨i,hi,rfl⟩:=hi;by_cases hlt:i<U.length
   ·left;obtain⟨p,hp⟩:∃p,U.drop i=p::U.drop (i+1):=⟨U[i],by rw[Yaa hlt]⟩;obtain⟨q,hq⟩:∃q,V.drop i=q::V.drop (i+1):=⟨V[i]'(by omega),by rw[Yaa (by omega)]⟩;have hp':U.take (i+1)=U.take i++[p]:=by rw[Yak];congr 1;have:=congrArg List.head? hp;simp[List.head?_drop] at this;rw[this];rfl
    have hq':V.take (i+1)=V.take i++[q]:=by rw[Yak];congr 1;have:=congrArg List.head? hq;simp[List.head?_drop] at this;rw[this];rfl
    have e0:X++V.take i++U.drop i++M++U.take i++V.drop i++Y=(X++V.take i)++p::((U.drop (i+1)++M++U.take i)++q::(V.drop (i+1)++Y)):=by rw[hp,hq];simp
    have e1:X++V.take (i+1)++U.drop (i+1)++M++U.take (i+1)++V.drop (i+1)++Y=(X++V.take i)++q::((U.drop (i+1)++M++U.take i)++p::(V.drop (i+1)++Y)):=by rw[hp',hq'];simp
    have l1:(V.take i).length=i:=by simp;omega
    have l2:(U.drop (i+1)++M++U.take i).length+1=U.length+M.length:=by simp;omega
    have a1:((X.length:Int)+i)=(X++V.take i).length:=by rw[Yd,l1];omega
    have a2:((X.length:Int)+U.length+M.length+i)=(X++V.take i).length+1+(U.drop (i+1)++M++U.take i).length:=by rw[Yd,l1];omega
    refine⟨_,?_,⟨i+1,hlt,rfl⟩,by simp;omega⟩;rw[e0,e1];have w1:wrap .i64 ((X.length:Int)+i)=(X++V.take i).length:=by rw[wrap_i64 _ (by omega) (by omega),a1]
    have w2:wrap .i64 ((X.length:Int)+U.length+M.length+i)=(X++V.take i).length+1+(U.drop (i+1)++M++U.take i).length:=by rw[wrap_i64 _ (by omega) (by omega),a2]
    have w3:wrap .i64 ((i:Int)+1)=((i+1:Nat):Int):=by rw[wrap_i64 _ (by omega) (by omega)];simp
    have d1:decide ((i:Int)<(U.length:Int))=true:=by simpa using hlt
    have g1:R.get CR ((X++V.take i)++p::((U.drop (i+1)++M++U.take i)++q::(V.drop (i+1)++Y))) ((X++V.take i).length:Int)=p:=Zpa (r:=CR) _ _ _ _ rfl;have g2:=Zl0 (X++V.take i) p q (U.drop (i+1)++M++U.take i) (V.drop (i+1)++Y) _ rfl;have r1:=Zr0 (X++V.take i) p ((U.drop (i+1)++M++U.take i)++q::(V.drop (i+1)++Y)) _ rfl;have r2:=ZlA (X++V.take i) p q (U.drop (i+1)++M++U.take i) (V.drop (i+1)++Y) _ rfl;have s1:=ZCJ (X++V.take i) p q (U.drop (i+1)++M++U.take i) (V.drop (i+1)++Y) _ _ rfl rfl;simp only[ZiD,RT.val,w1,w2,w3,d1,g1,g2,r1,r2,s1,ZoY,Ya,Yh,Yk,Yj,Yx,Yc]
   ·right;left;have:i=U.length:=by omega
    subst this;refine⟨((X.length:Int),(X.length:Int)+U.length+M.length,(U.length:Int),(U.length:Int),X++V.take U.length++U.drop U.length++M++U.take U.length++V.drop U.length++Y,()),?_,?_⟩
    ·have d1:decide ((U.length:Int)<(U.length:Int))=false:=by simp
     simp only[ZiD,RT.val,d1,Yc]
    ·have e1:V.take U.length=V:=YW (by omega);have e2:V.drop U.length=[]:=Y6 (by omega)
     simp[e1,e2])
  ((X.length:Int),(X.length:Int)+U.length+M.length,(U.length:Int),0,X++U++M++V++Y,()) ⟨0,Yr _,by simp⟩ (YaD _)
 simp only[Zvh,ZdI,RT.val,hr,okB,getO,Ya,hR]
def Zyx (l:List Cell) (a b n:Nat):List Cell:=l.take a++(l.drop b).take n++(l.drop (a+n)).take (b-a-n)++(l.drop a).take n++l.drop (b+n)
theorem ZYm (l:List α) (a b n:Nat) (h1:a+n<=b) (h2:b+n<=l.length):∃X U M V Y:List α,l=X++U++M++V++Y/\X.length=a/\U.length=n/\M.length=b-a-n/\V.length=n:=by obtain⟨X,l1,rfl,hX⟩:=Zb6 l a (by omega);simp only[Yd] at h2;obtain⟨U,l2,rfl,hU⟩:=Zb6 l1 n (by omega);simp only[Yd] at h2;obtain⟨M,l3,rfl,hM⟩:=Zb6 l2 (b-a-n) (by omega);simp only[Yd] at h2;obtain⟨V,Y,rfl,hV⟩:=Zb6 l3 n (by omega);exact⟨X,U,M,V,Y,by simp,hX,hU,hM,hV⟩
theorem ZCK (X U M V Y:List Cell) (h:V.length=U.length):Zyx (X++U++M++V++Y) X.length (X.length+U.length+M.length) U.length=X++V++M++U++Y:=by
 unfold Zyx;have e1:(X++U++M++V++Y).take X.length=X:=by simp[Yo]
 have e2:((X++U++M++V++Y).drop (X.length+U.length+M.length)).take U.length=V:=by
  have:X++U++M++V++Y=(X++U++M)++(V++Y):=by simp
  rw[this,Yah (by simp;omega),<-h,Yav rfl]
 have e3:((X++U++M++V++Y).drop (X.length+U.length)).take (X.length+U.length+M.length-X.length-U.length)=M:=by
  have:X++U++M++V++Y=(X++U)++(M++(V++Y)):=by simp
  rw[this,Yah (by simp),Yav (by omega)]
 have e4:((X++U++M++V++Y).drop X.length).take U.length=U:=by
  have:X++U++M++V++Y=X++(U++(M++(V++Y))):=by simp
  rw[this,Yah rfl,Yav rfl]
 have e5:(X++U++M++V++Y).drop (X.length+U.length+M.length+U.length)=Y:=by exact Yah (by simp;omega)
 rw[e1,e2,e3,e4,e5]
def ZhO (l:List Cell) (a b n:Int):Bool:=decide (0<=a)&&decide (0<=n)&&decide (a+n<=b)&&decide (b+n<=l.length)
def Zyq:En:=stE ZcQ ZrC 221 Zyp (λa=>some (ZhO a.1 a.2.1 a.2.2.1 a.2.2.2)) (λa=>Zyx a.1 a.2.1.toNat a.2.2.1.toNat a.2.2.2.toNat)
theorem Zgv {P:Program} {f:FuncId} {r:R} {T:TypeId} {g0:FuncId} {ts:List Sh} {pre pre':List r.den×HL ts->Option Bool} {F G:List r.den×HL ts->List r.den} (h:Za P f (stE r T g0 ts pre F))
  (hp:∀a,(R.sl r).ok a.1->okHL ts a.2->pre' a≠some false->pre a≠some false/\F a=G a):Za P f (stE r T g0 ts pre' G):=Za.st_congr h hp
theorem Zvi:Za Tryz.prog 268 Zyq:=Zgv ZPy λa h1 h2 hp=>by
 obtain⟨l,a,b,n⟩:=a;have hp:ZhO l a b n=true:=by cases h:ZhO l a b n<;>simp_all
 simp only[ZhO,Yb,Yf] at hp;obtain⟨⟨⟨p1,p2⟩,p3⟩,p4⟩:=hp;have hlen:l.length<=maxLen:=h1.1;obtain⟨a,rfl⟩:=Y4 p1;obtain⟨n,rfl⟩:=Y4 p2;obtain⟨b,rfl⟩:=Y4 (show (0:Int)<=b by omega);obtain⟨X,U,M,V,Y,rfl,rfl,rfl,hM,hV⟩:=ZYm l a b n (by omega) (by omega);have hb:b=X.length+U.length+M.length:=by omega
 subst hb;have:=ZPL X U M V Y hV (by exact_mod_cast hlen);simp only[ZSL,ZXA,Int.toNat_natCast]
 push_cast at this|-
 rw[this,ZCK X U M V Y hV];simp[okB,getO]
theorem ZNP (X T Rr:List Cell) (x:Cell) (b i:Int) (hT:Srt T) (hm:((X++T++x::Rr).length:Int)<=maxLen):
  ∃r,runF false Zh6 (λa=>Int.toNat (a.2.2.2.1-a.1)+1) ((X.length:Int),b,i,(X.length:Int)+T.length,X++T++x::Rr,())=some r/\∃j,r.2=((X.length:Int),b,i,j,X++ins x T++Rr,()):=by
 have hml:=ml;simp only[Yd,List.length_cons] at hm;refine ZK (fl:=false) (t:=Zh6) (fuel:=λa=>Int.toNat (a.2.2.2.1-a.1)+1)
  (I:=λa=>∃P Q:List Cell,T=P++Q/\(∀y∈Q,x.1<y.1)/\a=((X.length:Int),b,i,(X.length:Int)+P.length,X++P++x::(Q++Rr),()))
  (m:=λa=>Int.toNat (a.2.2.2.1-a.1)) (R:=λr=>∃j,r.2=((X.length:Int),b,i,j,X++ins x T++Rr,()))
  (λa hi=> ?_) _ ⟨T,[],by simp,by simp,by simp⟩ (YaD _)
 obtain⟨P,Q,hPQ,hQ,rfl⟩:=hi;have hlen:T.length=P.length+Q.length:=by rw[hPQ];simp
 rcases Yag P with rfl|⟨P',y,hc⟩
 ·right;left;refine⟨((X.length:Int),b,i,(X.length:Int)+(([]:List Cell).length:Int),X++ins x T++Rr,()),?_,_,rfl⟩;have e:X++ins x T++Rr=X++x::(Q++Rr):=by rw[hPQ,List.nil_append,show ins x Q=x::Q from by have:=ZBH x [] Q (by simp) hQ;simpa using this];simp
  have d:decide ((X.length:Int)+(([]:List Cell).length:Int)>X.length)=false:=by simp
  rw[e];simp only[Zh6,RT.val,d,Ym,Yw,Ya,YZ,Yc,YG]
 ·rw[Yac] at hc;subst hc;have hl1:(P'++[y]).length=P'.length+1:=by simp
  have d:decide ((X.length:Int)+((P'++[y]).length:Int)>X.length)=true:=by simp;omega
  have e0:X++(P'++[y])++x::(Q++Rr)=(X++P')++y::([]++x::(Q++Rr)):=by simp
  have w1:wrap .i64 ((X.length:Int)+((P'++[y]).length:Int)-1)=(X++P').length:=by rw[wrap_i64 _ (by simp;omega) (by simp;omega)];simp;omega
  have w2:((X.length:Int)+((P'++[y]).length:Int))=(X++P').length+1+(([]:List Cell).length:Int):=by simp;omega
  have g1:R.get CR ((X++P')++y::([]++x::(Q++Rr))) ((X++P').length:Int)=y:=Zpa (r:=CR) _ _ _ _ rfl;have g2:=Zl0 (X++P') y x [] (Q++Rr) _ rfl;have r1:=Zr0 (X++P') y ([]++x::(Q++Rr)) _ rfl;have r2:=ZlA (X++P') y x [] (Q++Rr) _ rfl;have s1:=Zvr (X++P') y x [] (Q++Rr) _ _ rfl rfl;by_cases hlt:x.1<y.1
  ·left;have u1:decide (ZpM x y<0)=true:=by rw[Zlw];simpa using hlt
   refine⟨((X.length:Int),b,i,(X.length:Int)+(P'.length:Int),X++P'++x::((y::Q)++Rr),()),?_,⟨P',y::Q,by rw[hPQ];simp,by simpa using ⟨hlt,λa b h=>hQ (a,b) h⟩,rfl⟩,by simp;omega⟩;have e9:X++P'++x::((y::Q)++Rr)=(X++P')++x::([]++y::(Q++Rr)):=by simp
   have w3:(X.length:Int)+(P'.length:Int)=((X++P').length:Int):=by simp
   rw[e0,e9,w3];rw[w2] at w1 d|-;simp only[Zh6,RT.val,w1,d,g1,g2,r1,r2,s1,u1,ZoY,Ya,Yh,Yk,Yj,Yx,Yc,YY,YQ]
  ·right;left;have u1:decide (ZpM x y<0)=false:=by rw[Zlw];simpa using hlt
   refine⟨((X.length:Int),b,i,(X.length:Int)+((P'++[y]).length:Int),X++(P'++[y])++x::(Q++Rr),()),?_,(X.length:Int)+((P'++[y]).length:Int),?_⟩
   ·rw[e0];rw[w2] at w1 d|-;simp only[Zh6,RT.val,w1,d,g1,g2,r1,r2,s1,u1,ZoY,Ya,Yh,Yk,Yj,Yx,Yc,YY,YQ,Yau]
   ·have hsrt:=hT;rw[hPQ] at hsrt;have hP:∀z∈P'++[y],z.1<=x.1:=λz hz=>by
     rcases YV.1 hz with hz|hz
     ·have:=(Yai.1 (Yai.1 hsrt).1).2.2 z hz y (by simp);omega
     ·simp at hz;subst hz;omega
    rw[hPQ,ZBH x (P'++[y]) Q hP hQ];simp
theorem ZWM (X L Y:List Cell) (hm:(X++L++Y).length+1<=maxLen):
  (ZIV (X++L++Y) X.length (X.length+L.length)).val=some (X++isort L++Y):=by
 have hml:=ml;have hmi:((X++L++Y).length:Int)+1<=maxLen:=by exact_mod_cast hm
 simp only[Yd] at hmi;have w0:wrap .i64 ((X.length:Int)+1)=(X.length:Int)+((1:Nat):Int):=by rw[wrap_i64 _ (by omega) (by omega)];simp
 obtain⟨r,hr,hR⟩:=ZK (fl:=false) (t:=Zmw) (fuel:=λa=>Int.toNat (a.2.1-a.2.2.1)+1)
  (I:=λa=>∃k:Nat,(k<=L.length\/L.length=0/\k=1)/\1<=k/\a=((X.length:Int),(X.length:Int)+L.length,(X.length:Int)+(k:Int),X++isort (L.take k)++L.drop k++Y,()))
  (m:=λa=>Int.toNat (a.2.1-a.2.2.1)) (R:=λr=>r.2.2.2.2.1=X++isort L++Y)
  (λa hi=>by
   obtain⟨k,hk,hk1,rfl⟩:=hi;by_cases hlt:k<L.length
   ·left;obtain⟨x,hx⟩:∃x,L.drop k=x::L.drop (k+1):=⟨L[k],by rw[Yaa hlt]⟩;have hx':L.take (k+1)=L.take k++[x]:=by rw[Yak];congr 1;have:=congrArg List.head? hx;simp[List.head?_drop] at this;rw[this];rfl
    have hil:∀l:List Cell,(isort l).length=l.length:=λl=>by
     have:∀(l acc:List Cell),(l.foldl (λa x=>ins x a) acc).length=acc.length+l.length:=by
      intro l
      induction l with
      |nil=>intro acc;simp
      |cons a l ih=>
       intro acc;rw[List.foldl_cons,ih];have:(ins a acc).length=acc.length+1:=by
        induction acc with
        |nil=>rfl
        |cons b acc ih2=>simp only[ins];split<;>simp[ih2]
       simp;omega
     simp[isort,this]
    have l1:(isort (L.take k)).length=k:=by rw[hil];simp;omega
    obtain⟨q,hq,j,hj⟩:=ZNP X (isort (L.take k)) (L.drop (k+1)++Y) x ((X.length:Int)+L.length) ((X.length:Int)+k) (Zb0 _) (by simp only[Yd,List.length_cons,l1,YO];omega)
    have e0:X++isort (L.take k)++L.drop k++Y=X++isort (L.take k)++x::(L.drop (k+1)++Y):=by rw[hx];simp
    rw[l1] at hq;refine⟨((X.length:Int),(X.length:Int)+L.length,(X.length:Int)+((k+1:Nat):Int),X++isort (L.take (k+1))++L.drop (k+1)++Y,()),?_,⟨k+1,.inl hlt,by omega,rfl⟩,by simp;omega⟩;have d:decide ((X.length:Int)+(k:Int)<(X.length:Int)+L.length)=true:=by simp;omega
    have w1:wrap .i64 ((X.length:Int)+(k:Int)+1)=(X.length:Int)+((k+1:Nat):Int):=by rw[wrap_i64 _ (by omega) (by omega)];push_cast;omega
    have e1:X++ins x (isort (L.take k))++(L.drop (k+1)++Y)=X++isort (L.take (k+1))++L.drop (k+1)++Y:=by rw[hx',ZHE];simp
    rw[e0];simp only[Zmw,RT.val,d,hq,okB,getO,Ya,hj,w1,e1]
   ·right;left;have d:decide ((X.length:Int)+(k:Int)<(X.length:Int)+L.length)=false:=by simp;omega
    refine⟨((X.length:Int),(X.length:Int)+L.length,(X.length:Int)+(k:Int),X++isort (L.take k)++L.drop k++Y,()),?_,?_⟩
    ·simp only[Zmw,RT.val,d,Yc]
    ·have e1:L.take k=L:=YW (by omega);have e2:L.drop k=[]:=Y6 (by omega)
     simp[e1,e2])
  ((X.length:Int),(X.length:Int)+L.length,(X.length:Int)+((1:Nat):Int),X++L++Y,()) ⟨1,by omega,by omega,by
   cases L with
   |nil=>simp[isort]
   |cons a l=>simp[isort,ins]⟩ (YaD _)
 simp only[ZIV,ZdI,RT.val,w0,hr,okB,getO,Ya,hR]
def ZdV (l:List Cell) (a b:Nat):List Cell:=l.take a++isort ((l.drop a).take (b-a))++l.drop b
theorem ZrM (X L Y:List Cell):ZdV (X++L++Y) X.length (X.length+L.length)=X++isort L++Y:=by
 unfold ZdV;have e1:(X++L++Y).take X.length=X:=by simp[Yo]
 have e2:((X++L++Y).drop X.length).take (X.length+L.length-X.length)=L:=by rw[Yo,Yah rfl,Yav (by omega)]
 have e3:(X++L++Y).drop (X.length+L.length)=Y:=Yah (by simp);rw[e1,e2,e3]
theorem ZTf (l:List α) (a b:Nat) (h1:a<=b) (h2:b<=l.length):∃X L Y:List α,l=X++L++Y/\X.length=a/\X.length+L.length=b:=by obtain⟨X,l1,rfl,hX⟩:=Zb6 l a (by omega);simp only[Yd] at h2;obtain⟨L,Y,rfl,hL⟩:=Zb6 l1 (b-a) (by omega);exact⟨X,L,Y,by simp,hX,by omega⟩
def ZgB (l:List Cell) (a b:Int):Bool:=decide (0<=a)&&decide (a<=b)&&decide (b<=l.length)&&Nat.ble l.length most
def Zp6:En:=stE ZcQ ZrC 221 ZEJ (λa=>some (ZgB a.1 a.2.1 a.2.2)) (λa=>ZdV a.1 a.2.1.toNat a.2.2.toNat)
theorem Zlx:Za Tryz.prog 264 Zp6:=Zgv ZUx λa h1 h2 hp=>by
 obtain⟨l,a,b⟩:=a;have hp:ZgB l a b=true:=by cases h:ZgB l a b<;>simp_all
 simp only[ZgB,Yb,Yf,Yy] at hp;obtain⟨⟨⟨p1,p2⟩,p3⟩,p4⟩:=hp;obtain⟨a,rfl⟩:=Y4 p1;obtain⟨b,rfl⟩:=Y4 (show (0:Int)<=b by omega);obtain⟨X,L,Y,rfl,rfl,rfl⟩:=ZTf l a b (by omega) (by omega);have:=ZWM X L Y (YD (Nat.add_le_add_right p4 1) (by decide));simp only[ZXE,uIns,Int.toNat_natCast]
 push_cast at this|-
 rw[this,ZrM];simp[okB,getO]
def ZUw:LS:={n:=58,Sl:=[(0,.tip 0),(2,.code (So Kc)),(4,.fix (A.clo 221 [])),(10,.code (So Kc)),(11,.code (So Kc))],Bx:=[],Sg:=[⟨Pq Kb Ka,97,false⟩],keep:=[0]}
def Zj2 (a:QT9):RT (Option (Go1 (QT9))):=
 let x1:= !decide (a.2.1>a.2.2.1)||ZhO a.2.2.2.1 (i64.wrap (a.1-a.2.1)) a.1 a.2.2.1
 let x2:=i64.wrap (i64.wrap (a.1+a.2.2.1)-a.2.1)
 .br (a.2.1 !=a.2.2.1) (.br (!x1||(decide (a.2.1>a.2.2.1)||ZhO a.2.2.2.1 (i64.wrap (a.1-a.2.1)) x2 a.2.1)) (.br (x1) (Ls (Go1.cont (a.1,bif decide (a.2.1>a.2.2.1) then i64.wrap (a.2.1-a.2.2.1) else a.2.1,bif decide (a.2.1>a.2.2.1) then a.2.2.1 else i64.wrap (a.2.2.1-a.2.1),bif decide (a.2.1>a.2.2.1) then Zyx a.2.2.2.1 (Int.toNat (i64.wrap (a.1-a.2.1))) (Int.toNat a.1) (Int.toNat a.2.2.1) else Zyx a.2.2.2.1 (Int.toNat (i64.wrap (a.1-a.2.1))) (Int.toNat x2) (Int.toNat a.2.1),PUnit.unit))) Ln) Ln) (Ls (Go1.brk (a.1,a.2.1,a.2.2.1,a.2.2.2.1,PUnit.unit)))
def ZIQ:Ora:=Zbq false ZUw Zj2 (λa=>(a.2.1+a.2.2.1).toNat+1)
theorem ZIP:Za1 (envX Tryz.prog [(268,Zyq),(221,ZbR)] [] 4095 8) (.block 0 (.loop (Z5 Tryz.f267.body 0))) ZIQ:=
 loopP ⟨Zvi,Zav,Tv⟩
def ZIO (s:List (Int×Int)) (a:Int) (m:Int) (b:Int):RT (Option (List (Int×Int))):=
 let x1:QT9:=(m,i64.wrap (m-a),i64.wrap (b-m),Stg.l (ZdI ZcQ ZrC s),())
 let x2:=runF false Zj2 (λa_1=>Int.toNat (a_1.2.1+a_1.2.2.1)+1) x1
 let x3:QT9:=(getO (false,x1) x2).2
 let x4:=x3.2
 let x5:=x4.2.2.1
 let x6:=x3.1
 let x7:=x4.1
 let x8:=i64.wrap (x6-x7)
 .br (okB x2) (.br (ZhO x5 x8 x6 x7) (Ls (Zyx x5 (Int.toNat x8) (Int.toNat x6) (Int.toNat x7))) Ln) Ln
def uRot (s:List (Int×Int)) (a:Int) (m:Int) (b:Int):List (Int×Int):=getO [] (ZIO s a m b).val
def ZXD (s:List (Int×Int)) (a:Int) (m:Int) (b:Int):Bool:=okB (ZIO s a m b).val
def uRotE:En:=stE ZcQ ZrC 221 Zyp (λa=>some (ZXD a.1 a.2.1 a.2.2.1 a.2.2.2)) (λa=>uRot a.1 a.2.1 a.2.2.1 a.2.2.2)
theorem ZUv:Za Tryz.prog 267 uRotE:=
 ZmF (P:=Tryz.prog) (n:=4095) (k:=8) (l:=[(268,Zyq),(221,ZbR)]) (ol:=[(0,ZIQ)]) ⟨Zvi,Zav,Tv⟩ Tryz.func267 rfl (by kernel_rfl) Tryz.call267 ⟨ZIP,Tv⟩ (r:=ZcQ) (T:=ZrC) (g0:=221) (ts:=Zyp) (t:=λa=>ZIO a.1 a.2.1 a.2.2.1 a.2.2.2) (λa=>by kernel_rfl)
theorem ZJb (l:List Cell) (a b n:Nat) (h1:a+n<=b) (h2:b+n<=l.length):ZhO l a b n=true:=by simp only[ZhO,Yb,Yf];omega
theorem Zyw (A U M V B:List Cell) (a b n:Nat) (h:V.length=U.length) (ha:a=A.length) (hb:b=A.length+U.length+M.length) (hn:n=U.length):
  ZhO (A++U++M++V++B) a b n=true/\Zyx (A++U++M++V++B) a b n=A++V++M++U++B:=by subst ha hb hn;exact⟨ZJb _ _ _ _ (by omega) (by simp;omega),ZCK A U M V B h⟩
theorem mst:most=1073741824:=rfl
theorem ZUU (X U V Y:List Cell) (hU:0<U.length) (hV:0<V.length) (hm:(X++U++V++Y).length<=most):
  (ZIO (X++U++V++Y) X.length (X.length+U.length:Nat) (X.length+U.length+V.length:Nat)).val=some (X++V++U++Y):=by
 have hms:=mst;simp only[Yd] at hm;obtain⟨r,hr,hR⟩:=ZK (fl:=false) (t:=Zj2) (fuel:=λa=>Int.toNat (a.2.1+a.2.2.1)+1)
  (I:=λa=>∃A U' V' B:List Cell,0<U'.length/\0<V'.length/\A.length+U'.length=X.length+U.length/\U'.length+V'.length<=U.length+V.length/\(A++U'++V'++B).length<=most/\A++V'++U'++B=X++V++U++Y/\a=(((X.length+U.length:Nat):Int),(U'.length:Int),(V'.length:Int),A++U'++V'++B,()))
  (m:=λa=>Int.toNat (a.2.1+a.2.2.1)) (R:=λr=>∃A U' V' B:List Cell,0<U'.length/\V'.length=U'.length/\A.length+U'.length=X.length+U.length/\(A++U'++V'++B).length<=most/\A++V'++U'++B=X++V++U++Y/\r.2=(((X.length+U.length:Nat):Int),(U'.length:Int),(V'.length:Int),A++U'++V'++B,()))
  (λa hi=>by
   obtain⟨A,U',V',B,h1,h2,h3,h4,h5,h6,rfl⟩:=hi;have h5':=h5;simp only[Yd] at h5';have w1:wrap .i64 (((X.length+U.length:Nat):Int)-(U'.length:Int))=((A.length:Nat):Int):=by rw[wrap_i64 _ (by omega) (by omega)];omega
   by_cases he:U'.length=V'.length
   ·right;left;refine⟨_,?_,A,U',V',B,h1,he.symm,h3,h5,h6,rfl⟩;have d:(((U'.length:Nat):Int) !=(V'.length:Int))=false:=by simp[he]
    simp only[Zj2,RT.val,d,Yc]
   ·left;have d:(((U'.length:Nat):Int) !=(V'.length:Int))=true:=by simp;omega
    by_cases hlt:V'.length<U'.length
    ·obtain⟨U1,U2,rfl,hl⟩:=Zb6 U' V'.length (by omega);simp only[Yd] at*;obtain⟨q1,q2⟩:=Zyw A U1 U2 V' B A.length (X.length+U.length) V'.length (by omega) rfl (by omega) (by omega);have e0:A++(U1++U2)++V'++B=A++U1++U2++V'++B:=by simp
     have g:decide (((U1.length+U2.length:Nat):Int)>(V'.length:Int))=true:=by simp;omega
     have w2:wrap .i64 (((U1.length+U2.length:Nat):Int)-(V'.length:Int))=(U2.length:Int):=by rw[wrap_i64 _ (by omega) (by omega)];omega
     refine⟨(((X.length+U.length:Nat):Int),(U2.length:Int),(V'.length:Int),(A++V')++U2++U1++B,()),?_,⟨A++V',U2,U1,B,by omega,by omega,by simp;omega,by omega,by simp;omega,by rw[<-h6];simp,by rw[hl]⟩,by simp;omega⟩;rw[e0];simp only[Zj2,RT.val,d,Ya,w1,g,q1,q2,Yh,Yj,Yw,w2,Int.toNat_natCast]
    ·obtain⟨V1,V2,rfl,hl⟩:=Zb6 V' (V'.length-U'.length) (by omega);simp only[Yd] at*;obtain⟨q1,q2⟩:=Zyw A U' V1 V2 B A.length (X.length+U.length+V1.length) U'.length (by omega) rfl (by omega) rfl;have e0:A++U'++(V1++V2)++B=A++U'++V1++V2++B:=by simp
     have g:decide (((U'.length:Nat):Int)>((V1.length+V2.length:Nat):Int))=false:=by simp;omega
     have w2:wrap .i64 (((V1.length+V2.length:Nat):Int)-(U'.length:Int))=(V1.length:Int):=by rw[wrap_i64 _ (by omega) (by omega)];omega
     have w3:wrap .i64 (wrap .i64 (((X.length+U.length:Nat):Int)+((V1.length+V2.length:Nat):Int))-(U'.length:Int))=((X.length+U.length+V1.length:Nat):Int):=by rw[wrap_i64 (((X.length+U.length:Nat):Int)+_) (by omega) (by omega),wrap_i64 _ (by omega) (by omega)];omega
     have hl2:U'.length=V2.length:=by omega
     refine⟨(((X.length+U.length:Nat):Int),(U'.length:Int),(V1.length:Int),A++V2++V1++U'++B,()),?_,⟨A,V2,V1,U'++B,by omega,by omega,by omega,by omega,by simp;omega,by rw[<-h6];simp,by rw[hl2];simp⟩,by simp;omega⟩;rw[e0];simp only[Zj2,RT.val,d,Ya,w1,g,q1,q2,Yh,Ym,Yj,Yw,Yc,w2,w3,Int.toNat_natCast]
     )
  (((X.length+U.length:Nat):Int),(U.length:Int),(V.length:Int),X++U++V++Y,()) ⟨X,U,V,Y,hU,hV,rfl,by omega,by simp;omega,rfl,rfl⟩ (YaD _)
 obtain⟨A,U',V',B,h1,h2,h3,h5,h6,hr2⟩:=hR;have h5':=h5;simp only[Yd] at h5';have w0:wrap .i64 (((X.length+U.length:Nat):Int)-(X.length:Int))=(U.length:Int):=by rw[wrap_i64 _ (by omega) (by omega)];omega
 have w0':wrap .i64 (((X.length+U.length+V.length:Nat):Int)-((X.length+U.length:Nat):Int))=(V.length:Int):=by rw[wrap_i64 _ (by omega) (by omega)];omega
 have w1:wrap .i64 (((X.length+U.length:Nat):Int)-(U'.length:Int))=((A.length:Nat):Int):=by rw[wrap_i64 _ (by omega) (by omega)];omega
 obtain⟨q1,q2⟩:=Zyw A U' [] V' B A.length (X.length+U.length) U'.length h2 rfl (by simp;omega) rfl;rw[YG] at q1 q2;simp only[ZIO,ZdI,RT.val,w0,w0',hr,okB,getO,Ya,hr2,w1,q1,q2,Int.toNat_natCast,YG,h6]
def rotX (l:List Cell) (a m b:Nat):List Cell:=l.take a++(l.drop m).take (b-m)++(l.drop a).take (m-a)++l.drop b
theorem ZJG (X U V Y:List Cell):rotX (X++U++V++Y) X.length (X.length+U.length) (X.length+U.length+V.length)=X++V++U++Y:=by
 unfold rotX;have e1:(X++U++V++Y).take X.length=X:=by simp[Yo]
 have e2:((X++U++V++Y).drop (X.length+U.length)).take (X.length+U.length+V.length-(X.length+U.length))=V:=by
  have:X++U++V++Y=(X++U)++(V++Y):=by simp
  rw[this,Yah (by simp),Yav (by omega)]
 have e3:((X++U++V++Y).drop X.length).take (X.length+U.length-X.length)=U:=by
  have:X++U++V++Y=X++(U++(V++Y)):=by simp
  rw[this,Yah rfl,Yav (by omega)]
 have e4:(X++U++V++Y).drop (X.length+U.length+V.length)=Y:=Yah (by simp;omega);rw[e1,e2,e3,e4]
theorem ZTe (l:List α) (a m b:Nat) (h1:a<=m) (h2:m<=b) (h3:b<=l.length):∃X U V Y:List α,l=X++U++V++Y/\X.length=a/\X.length+U.length=m/\X.length+U.length+V.length=b:=by obtain⟨X,l1,rfl,hX⟩:=Zb6 l a (by omega);simp only[Yd] at h3;obtain⟨U,l2,rfl,hU⟩:=Zb6 l1 (m-a) (by omega);simp only[Yd] at h3;obtain⟨V,Y,rfl,hV⟩:=Zb6 l2 (b-m) (by omega);exact⟨X,U,V,Y,by simp,hX,by omega,by omega⟩
def ZiJ (l:List Cell) (a m b:Int):Bool:=decide (0<=a)&&decide (a<m)&&decide (m<b)&&decide (b<=l.length)&&Nat.ble l.length most
def Zmv:En:=stE ZcQ ZrC 221 Zyp (λa=>some (ZiJ a.1 a.2.1 a.2.2.1 a.2.2.2)) (λa=>rotX a.1 a.2.1.toNat a.2.2.1.toNat a.2.2.2.toNat)
theorem Zhd:Za Tryz.prog 267 Zmv:=Zgv ZUv λa h1 h2 hp=>by
 obtain⟨l,a,m,b⟩:=a;have hp:ZiJ l a m b=true:=by cases h:ZiJ l a m b<;>simp_all
 simp only[ZiJ,Yb,Yf,Yy] at hp;obtain⟨⟨⟨⟨p1,p2⟩,p3⟩,p4⟩,p5⟩:=hp;obtain⟨a,rfl⟩:=Y4 p1;obtain⟨m,rfl⟩:=Y4 (show (0:Int)<=m by omega);obtain⟨b,rfl⟩:=Y4 (show (0:Int)<=b by omega);obtain⟨X,U,V,Y,rfl,rfl,rfl,rfl⟩:=ZTe l a m b (by omega) (by omega) (by omega);have:=ZUU X U V Y (by omega) (by omega) p5;simp only[ZXD,uRot,Int.toNat_natCast];rw[this,ZJG];simp[okB,getO]
def srtB:List Cell->Bool
 |[]=>true
 |x::r=>(match r with
  |[]=>true
  |y::_=>decide (x.1<=y.1))&&srtB r
theorem ZfJ:∀{l:List Cell},srtB l=true↔Srt l
 |[]=>by simp[srtB,Srt]
 |[x]=>by simp[srtB,Srt]
 |x::y::r=>by
  have ih:=ZfJ (l:=y::r);rw[srtB];simp only[Yb,Yf,ih];constructor
  ·rintro⟨h1,h2⟩;refine YC.2 ⟨λz hz=> ?_,h2⟩;rcases Ys.1 hz with rfl|hz
   ·exact h1
   ·have:=(YC.1 h2).1 z hz;omega
  ·intro h;have:=YC.1 h;exact⟨this.1 y (by simp),this.2⟩
def ZiE (k:Int) (l:List Cell) (a m b:Int):Bool:=ZiJ l a m b&&decide (b-a<=k)&&srtB ((l.drop a.toNat).take (m.toNat-a.toNat))&&srtB ((l.drop m.toNat).take (b.toNat-m.toNat))
def ZUH (k:Int):En:=stE ZcQ ZrC 221 Zyp (λa=>some (ZiE k a.1 a.2.1 a.2.2.1 a.2.2.2)) (λa=>ZdV a.1 a.2.1.toNat a.2.2.2.toNat)
def ZUu:LS:={n:=220,Sl:=[(0,.tip 0),(1,.code (So Kc)),(4,.fix (A.clo 221 [])),(10,.code (So Kc)),(11,.code (So Kc))],Bx:=[],Sg:=[⟨Pq Kb Ka,97,false⟩],keep:=[0]}
def Zj1 (a:QT9):RT (Option (Go1 (QT9))):=
 let x1:=i64.wrap (shrI IntKind.u64 (IntKind.u64.wrap (i64.wrap (a.2.1+a.2.2.1))) 1)
 let x2:=Zh x1 (Le a.2.2.2.1)
 let x3:= !x2||Zh a.1 (Le a.2.2.2.1)
 let x4:=decide (ZpM (R.get (Pq Kb Ka) a.2.2.2.1 x1) (R.get (Pq Kb Ka) a.2.2.2.1 a.1)<0)
 .br (decide (a.2.1<a.2.2.1)) (.br (!x3||x2) (.br (x3) (Ls (Go1.cont (a.1,bif x4 then i64.wrap (x1+1) else a.2.1,bif x4 then a.2.2.1 else x1,a.2.2.2.1,PUnit.unit))) Ln) Ln) (Ls (Go1.brk (a.1,a.2.1,a.2.2.1,a.2.2.2.1,PUnit.unit)))
def ZIJ:Ora:=Zbq false ZUu Zj1 (λa=>(a.2.2.1-a.2.1).toNat+1)
theorem ZII:Za1 (envX prog [(267,Zmv),(221,ZbR)] [] 33554431 8) (.block 0 (.loop (Z5 Tryz.f265.body 0))) ZIJ:=
 loopP ⟨Zhd,Zav,Tv⟩
def ZUt:LS:={n:=220,Sl:=[(0,.tip 0),(10,.code (So Kc)),(13,.code (So Kc))],Bx:=[],Sg:=[⟨Pq Kb Ka,97,false⟩],keep:=[0]}
def Zj0 (a:QT10):RT (Option (Go1 (QT10))):=
 let x1:= !Zh (i64.wrap (a.2.1+1)) (Le a.2.2.1)
 let x2:=setI a.2.2.1 a.2.1 (R.get (Pq Kb Ka) a.2.2.1 (i64.wrap (a.2.1+1)))
 let x3:=x1||(!Zh a.2.1 (Le a.2.2.1)||(!Zh a.2.1 (Le a.2.2.1)||Zh (i64.wrap (a.2.1+1)) (Le x2)))
 let x4:= !x3
 let x5:=x1||(!Zh a.2.1 (Le a.2.2.1)||Zh a.2.1 (Le a.2.2.1))
 let x6:= !x5
 let x7:=x1||Zh a.2.1 (Le a.2.2.1)
 .br (decide (a.2.1<i64.wrap (a.1-1))) (.br (x4||(x6||(!x7||Zh (i64.wrap (a.2.1+1)) (Le a.2.2.1)))) (.br (x4||(x6||x7)) (.br (x4||x5) (.br (x3) (Ls (Go1.cont (a.1,i64.wrap (a.2.1+1),setI x2 (i64.wrap (a.2.1+1)) (R.get (Pq Kb Ka) a.2.2.1 a.2.1),PUnit.unit))) Ln) Ln) Ln) Ln) (Ls (Go1.brk (a.1,a.2.1,a.2.2.1,PUnit.unit)))
def ZIH:Ora:=Zbq false ZUt Zj0 (λa=>(a.1-a.2.1).toNat+1)
theorem ZIG:Za1 (envX prog [(267,Zmv),(221,ZbR)] [] 33554431 8) (.block 2 (.loop (Z5 Tryz.f265.body 2))) ZIH:=
 loopP ⟨Zhd,Zav,Tv⟩
def ZUs:LS:={n:=220,Sl:=[(0,.tip 0),(2,.code (So Kc)),(4,.fix (A.clo 221 [])),(14,.code (So Kc)),(15,.code (So Kc))],Bx:=[],Sg:=[⟨Pq Kb Ka,97,false⟩],keep:=[0]}
def ZjZ (a:QT9):RT (Option (Go1 (QT9))):=
 let x1:=i64.wrap (shrI IntKind.u64 (IntKind.u64.wrap (i64.wrap (a.2.1+a.2.2.1))) 1)
 let x2:= !Zh a.1 (Le a.2.2.2.1)||Zh x1 (Le a.2.2.2.1)
 let x3:= !decide (ZpM (R.get (Pq Kb Ka) a.2.2.2.1 a.1) (R.get (Pq Kb Ka) a.2.2.2.1 x1)<0)
 .br (decide (a.2.1<a.2.2.1)) (.br (!x2||Zh a.1 (Le a.2.2.2.1)) (.br (x2) (Ls (Go1.cont (a.1,bif x3 then i64.wrap (x1+1) else a.2.1,bif x3 then a.2.2.1 else x1,a.2.2.2.1,PUnit.unit))) Ln) Ln) (Ls (Go1.brk (a.1,a.2.1,a.2.2.1,a.2.2.2.1,PUnit.unit)))
def ZIF:Ora:=Zbq false ZUs ZjZ (λa=>(a.2.2.1-a.2.1).toNat+1)
theorem ZIE:Za1 (envX prog [(267,Zmv),(221,ZbR)] [] 33554431 8) (.block 4 (.loop (Z5 Tryz.f265.body 4))) ZIF:=
 loopP ⟨Zhd,Zav,Tv⟩
def ZUr:LS:={n:=220,Sl:=[(0,.tip 0),(14,.code (So Kc)),(17,.code (So Kc))],Bx:=[],Sg:=[⟨Pq Kb Ka,97,false⟩],keep:=[0]}
def ZjY (a:QT10):RT (Option (Go1 (QT10))):=
 let x1:= !Zh (i64.wrap (a.2.1-1)) (Le a.2.2.1)
 let x2:=setI a.2.2.1 a.2.1 (R.get (Pq Kb Ka) a.2.2.1 (i64.wrap (a.2.1-1)))
 let x3:=x1||(!Zh a.2.1 (Le a.2.2.1)||(!Zh a.2.1 (Le a.2.2.1)||Zh (i64.wrap (a.2.1-1)) (Le x2)))
 let x4:= !x3
 let x5:=x1||(!Zh a.2.1 (Le a.2.2.1)||Zh a.2.1 (Le a.2.2.1))
 let x6:= !x5
 let x7:=x1||Zh a.2.1 (Le a.2.2.1)
 .br (decide (a.2.1>a.1)) (.br (x4||(x6||(!x7||Zh (i64.wrap (a.2.1-1)) (Le a.2.2.1)))) (.br (x4||(x6||x7)) (.br (x4||x5) (.br (x3) (Ls (Go1.cont (a.1,i64.wrap (a.2.1-1),setI x2 (i64.wrap (a.2.1-1)) (R.get (Pq Kb Ka) a.2.2.1 a.2.1),PUnit.unit))) Ln) Ln) Ln) Ln) (Ls (Go1.brk (a.1,a.2.1,a.2.2.1,PUnit.unit)))
def ZID:Ora:=Zbq false ZUr ZjY (λa=>(a.2.1-a.1).toNat+1)
theorem ZIC:Za1 (envX prog [(267,Zmv),(221,ZbR)] [] 33554431 8) (.block 6 (.loop (Z5 Tryz.f265.body 6))) ZID:=
 loopP ⟨Zhd,Zav,Tv⟩
def ZUq:LS:={n:=220,Sl:=[(0,.tip 0),(1,.code (So Kc)),(2,.code (So Kc)),(3,.code (So Kc)),(4,.fix (A.clo 221 [])),(18,.code (So Kc)),(19,.code (So Kc)),(20,.code (So Kc)),(21,.code (So Kc)),(22,.code (So Kc))],Bx:=[],Sg:=[⟨Pq Kb Ka,97,false⟩],keep:=[0]}
def ZjX (a:QT12):RT (Option (Go1 (QT12))):=
 let x1:=i64.wrap (shrI IntKind.u64 (IntKind.u64.wrap (i64.wrap (a.2.2.2.2.2.1+a.2.2.2.2.2.2.1))) 1)
 let x2:=i64.wrap (a.2.2.2.2.2.2.2.1-x1)
 let x3:=Zh x2 (Le a.2.2.2.2.2.2.2.2.1)
 let x4:= !x3||Zh x1 (Le a.2.2.2.2.2.2.2.2.1)
 let x5:= !decide (ZpM (R.get (Pq Kb Ka) a.2.2.2.2.2.2.2.2.1 x2) (R.get (Pq Kb Ka) a.2.2.2.2.2.2.2.2.1 x1)<0)
 let x6:Int×List (Int×Int)×PUnit:=(a.2.2.2.2.2.2.2.1,a.2.2.2.2.2.2.2.2.1,PUnit.unit)
 .br (decide (a.2.2.2.2.2.1<a.2.2.2.2.2.2.1)) (.br (!x4||x3) (.br (x4) (Ls (Go1.cont (a.1,a.2.1,a.2.2.1,a.2.2.2.1,a.2.2.2.2.1,bif x5 then i64.wrap (x1+1) else a.2.2.2.2.2.1,bif x5 then a.2.2.2.2.2.2.1 else x1,x6))) Ln) Ln) (Ls (Go1.brk (a.1,a.2.1,a.2.2.1,a.2.2.2.1,a.2.2.2.2.1,a.2.2.2.2.2.1,a.2.2.2.2.2.2.1,x6)))
def ZIB:Ora:=Zbq false ZUq ZjX (λa=>(a.2.2.2.2.2.2.1-a.2.2.2.2.2.1).toNat+1)
theorem ZIA:Za1 (envX prog [(267,Zmv),(221,ZbR)] [] 33554431 8) (.block 8 (.loop (Z5 Tryz.f265.body 8))) ZIB:=
 loopP ⟨Zhd,Zav,Tv⟩
def ZrA (k:Int) (s:List (Int×Int)) (a:Int) (m:Int) (b:Int):RT (Option (List (Int×Int))):=
 let x1:=runF false Zj1 (λa_1=>Int.toNat (a_1.2.2.1-a_1.2.1)+1) (a,m,b,Stg.l (ZdI ZcQ ZrC s),())
 let x2:QT9:=(getO (false,a,m,b,Stg.l (ZdI ZcQ ZrC s),()) x1).2
 let x3:=x2.2
 let x4:QT10:=(x3.1,x2.1,x3.2.2.1,())
 let x5:=runF false Zj0 (λa_1=>Int.toNat (a_1.1-a_1.2.1)+1) x4
 let x6:=runF false ZjZ (λa_1=>Int.toNat (a_1.2.2.1-a_1.2.1)+1) (m,a,m,Stg.l (ZdI ZcQ ZrC s),())
 let x7:QT9:=(getO (false,m,a,m,Stg.l (ZdI ZcQ ZrC s),()) x6).2
 let x8:=x7.2
 let x9:QT10:=(x8.1,x7.1,x8.2.2.1,())
 let x10:=runF false ZjY (λa_1=>Int.toNat (a_1.2.1-a_1.1)+1) x9
 let x11:=i64.wrap (i64.wrap (shrI IntKind.u64 (IntKind.u64.wrap (i64.wrap (a+b))) 1)+m)
 let x12:=decide (m>i64.wrap (shrI IntKind.u64 (IntKind.u64.wrap (i64.wrap (a+b))) 1))
 let x13:QT12:=(a,m,b,i64.wrap (shrI IntKind.u64 (IntKind.u64.wrap (i64.wrap (a+b))) 1),x11,bif x12 then i64.wrap (x11-b) else a,bif x12 then i64.wrap (shrI IntKind.u64 (IntKind.u64.wrap (i64.wrap (a+b))) 1) else m,i64.wrap (x11-1),Stg.l (ZdI ZcQ ZrC s),())
 let x14:=runF false ZjX (λa_1=>Int.toNat (a_1.2.2.2.2.2.2.1-a_1.2.2.2.2.2.1)+1) x13
 let x15:QT12:=(getO (false,x13) x14).2
 let x16:=x15.2
 let x17:=x16.2
 let x18:=x17.2
 let x19:=x18.2
 let x20:=x19.2
 let x21:=x20.1
 let x22:=x16.1
 let x23:=i64.wrap (x19.1-x21)
 let x24:=decide (x21<x22)&&decide (x22<x23)
 let x25:=x20.2.2.2.1
 let x26:=x15.1
 let x27:=x18.1
 let x28:=decide (x26<x21)&&decide (x21<x27)
 let x29:List (Int×Int):=bif x24 then rotX x25 (Int.toNat x21) (Int.toNat x22) (Int.toNat x23) else x25
 let x30:=x17.1
 let x31:=decide (x27<x23)&&decide (x23<x30)
 let x32:Nat:=Int.toNat x27
 let x33:List (Int×Int):=bif x28 then ZdV x29 (Int.toNat x26) x32 else x29
 .br (!i64.wrap (m-a)==1||okB x1) (.br (!i64.wrap (m-a)==1||okB x5) (.br (i64.wrap (m-a)==1) (Ls (getO (false,x4) x5).2.2.2.1) (.br (!i64.wrap (b-m)==1||okB x6) (.br (!i64.wrap (b-m)==1||okB x10) (.br (i64.wrap (b-m)==1) (Ls (getO (false,x9) x10).2.2.2.1) (.br (okB x14) (.br (!x24||ZiJ x25 x21 x22 x23) (.br (!x28||ZiE k x29 x26 x21 x27) (.br (!x31||ZiE k x33 x27 x23 x30) (Ls (bif x31 then ZdV x33 x32 (Int.toNat x30) else x33)) Ln) Ln) Ln) Ln)) Ln) Ln)) Ln) Ln
theorem ZPx (k:Int) (h:Za prog 265 (ZUH k)) {pre:List ZcQ.den×HL Zyp->Option Bool} {F:List ZcQ.den×HL Zyp->List ZcQ.den} (hF:∀a,(R.sl ZcQ).ok a.1->okHL Zyp a.2->pre a≠some false->(ZrA k a.1 a.2.1 a.2.2.1 a.2.2.2).val=some (F a)):Za prog 265 (stE ZcQ ZrC 221 Zyp pre F):=
 ZXK (P:=prog) (n:=33554431) (k:=8) (l:=[(267,Zmv),(221,ZbR),(265,ZUH k)]) (ol:=[(0,ZIJ),(2,ZIH),(4,ZIF),(6,ZID),(8,ZIB)]) ⟨Zhd,Zav,h,Tv⟩ Tryz.func265 rfl (by kernel_rfl) Tryz.call265 ⟨ZII,ZIG,ZIE,ZIC,ZIA,Tv⟩ (r:=ZcQ) (T:=ZrC) (g0:=221) (ts:=Zyp) (t:=λa=>ZrA k a.1 a.2.1 a.2.2.1 a.2.2.2) (λa=>by kernel_rfl) hF
theorem Zo8 (i j:Nat) (h:i+j<=4611686018427387904):wrap .i64 (shrI .u64 (wrap .u64 (wrap .i64 ((i:Int)+(j:Int)))) 1)=(((i+j)/2:Nat):Int):=by
 rw[wrap_i64 ((i:Int)+(j:Int)) (by omega) (by omega)];have e:wrap .u64 ((i:Int)+(j:Int))=((i+j:Nat):Int):=by rw[Zrq ⟨by simp[IntKind.min,IntKind.signed];omega,by simp[IntKind.max,IntKind.signed,IntKind.bits];omega⟩];simp
 rw[e];have:shrI .u64 ((i+j:Nat):Int) 1=(((i+j)/2:Nat):Int):=by simp only[shrI,IntKind.bits];rw[show (2:Int)^(min (1:Int).toNat 64)=2 from rfl,Int.fdiv_eq_ediv_of_nonneg _ (by decide)];simp
 rw[this,wrap_i64 _ (by omega) (by omega)]
theorem ZO2 {D:Type} {T:D->RT (Option (Go1 D))} {fuel:D->Nat} (mk:Nat->Nat->D) (q:Nat->Bool) (lo hi:Nat) (hlo:lo<=hi) (hf:hi-lo<fuel (mk lo hi))
  (hstep:∀i j,lo<=i->i<j->j<=hi->(T (mk i j)).val=some (.cont (bif q ((i+j)/2) then mk ((i+j)/2+1) j else mk i ((i+j)/2))))
  (hend:∀i,lo<=i->i<=hi->(T (mk i i)).val=some (.brk (mk i i))):
  ∃i,lo<=i/\i<=hi/\runF false T fuel (mk lo hi)=some (false,mk i i)/\(i=lo\/q (i-1)=true)/\(i=hi\/q i=false):=by
 have key:∀(n i j:Nat),lo<=i->i<=j->j<=hi->j-i<n->(i=lo\/q (i-1)=true)->(j=hi\/q j=false)->
   ∃r,runL (λa=>(T a).val) n (mk i j)=some (false,mk r r)/\lo<=r/\r<=hi/\(r=lo\/q (r-1)=true)/\(r=hi\/q r=false):=by
  intro n
  induction n with
  |zero=>intro i j _ _ _ h;omega
  |succ n ih=>
   intro i j h1 h2 h3 h4 h5 h6;by_cases he:i=j
   ·subst he;exact⟨i,by simp only[runL,hend i h1 h3],h1,h3,h5,h6⟩
   ·have hs:=hstep i j h1 (by omega) h3;cases hq:q ((i+j)/2) with
    |true=>
     rw[hq] at hs;obtain⟨r,hr,hr2⟩:=ih ((i+j)/2+1) j (by omega) (by omega) h3 (by omega) (.inr (by simpa using hq)) h6;exact⟨r,by simp only[runL,hs,Ya];exact hr,hr2⟩
    |false=>
     rw[hq] at hs;obtain⟨r,hr,hr2⟩:=ih i ((i+j)/2) h1 (by omega) (by omega) (by omega) h5 (.inr hq);exact⟨r,by simp only[runL,hs,Yc];exact hr,hr2⟩
 obtain⟨r,hr,h1,h2,h3,h4⟩:=key (fuel (mk lo hi)) lo hi (Ye _) hlo (Ye _) hf (.inl rfl) (.inl rfl);exact⟨r,h1,h2,by unfold runF;rw[hr];rfl,h3,h4⟩
def el (l:List Cell) (i:Nat):Cell:=l.getD i (0,0)
theorem ZcX (l:List Cell) (i:Nat):R.get CR l (i:Int)=el l i:=by simp[R.get,el,R.Df]
theorem ZE8 (X V Y:List Cell) (i:Nat) (h:i<V.length):el (X++V++Y) (X.length+i)=el V i:=by simp only[el,Yl];rw[Yo,YT (by omega),Nat.add_sub_cancel_left,Yp h]
theorem Zc8 (V:List Cell) (i:Nat) (h:i<V.length):V[i]? =some (el V i):=by simp[el,Yl,Yg h]
variable {V:List Cell}
theorem ZkX (h:Srt V) {i j:Nat} (hij:i<=j) (hj:j<V.length):(el V i).1<=(el V j).1:=by
 by_cases e:i=j
 ·subst e;exact Int.le_refl _
 ·have h1:=Zc8 V i (by omega);have h2:=Zc8 V j hj;have:=YaG.1 h i j (by omega) hj (by omega);rw[Yg (by omega)] at h1 h2;simp only[oinj] at h1 h2;rw[<-h1,<-h2];exact this
variable {p:Nat} {y:Cell}
theorem ZlY (h:y∈V.take p):∃i,i<p/\i<V.length/\y=el V i:=by obtain⟨i,hi,rfl⟩:=YaP.1 h;simp only[YH] at hi;refine⟨i,by omega,by omega,?_⟩;have:=Zc8 V i (by omega);rw[Yg (by omega)] at this;simp only[oinj] at this;rw[<-this];simp
theorem Zjm (h:y∈V.drop p):∃i,p<=i/\i<V.length/\y=el V i:=by obtain⟨i,hi,rfl⟩:=YaP.1 h;simp only[YO] at hi;refine⟨p+i,by omega,by omega,?_⟩;have:=Zc8 V (p+i) (by omega);rw[Yg (by omega)] at this;simp only[oinj] at this;rw[<-this];simp
theorem ZXM (X P Rr:List Cell) (x:Cell) (hm:(X++x::(P++Rr)).length<=most):
  ∃r,runF false Zj0 (λa=>Int.toNat (a.1-a.2.1)+1) (((X.length+P.length+1:Nat):Int),(X.length:Int),X++x::(P++Rr),())=some r/\r.2.2.2.1=X++P++x::Rr:=by
 have hms:=mst;simp only[Yd,List.length_cons] at hm;refine ZK (fl:=false) (t:=Zj0) (fuel:=λa=>Int.toNat (a.1-a.2.1)+1)
  (I:=λa=>∃P1 P2:List Cell,P=P1++P2/\a=(((X.length+P.length+1:Nat):Int),((X.length+P1.length:Nat):Int),X++P1++x::(P2++Rr),()))
  (m:=λa=>Int.toNat (a.1-a.2.1)) (R:=λr=>r.2.2.2.1=X++P++x::Rr)
  (λa hi=> ?_) _ ⟨[],P,rfl,by simp⟩ (YaD _)
 obtain⟨P1,P2,rfl,rfl⟩:=hi;simp only[Yd] at hm|-;have w0:wrap .i64 (((X.length+(P1.length+P2.length)+1:Nat):Int)-1)=((X.length+P1.length+P2.length:Nat):Int):=by rw[wrap_i64 _ (by omega) (by omega)];omega
 cases P2 with
 |nil=>
  right;left;refine⟨(((X.length+(P1.length+([]:List Cell).length)+1:Nat):Int),((X.length+P1.length:Nat):Int),X++P1++x::([]++Rr),()),?_,by simp⟩;have d:decide (((X.length+P1.length:Nat):Int)<((X.length+P1.length+([]:List Cell).length:Nat):Int))=false:=by simp
  simp only[Zj0,RT.val,w0,d,Yc]
 |cons y P2=>
  left;have d:decide (((X.length+P1.length:Nat):Int)<((X.length+P1.length+(y::P2).length:Nat):Int))=true:=by simp;omega
  have w1:wrap .i64 (((X.length+P1.length:Nat):Int)+1)=((X++P1).length:Int)+1+(([]:List Cell).length:Int):=by rw[wrap_i64 _ (by simp only[List.length_cons] at hm;omega) (by simp only[List.length_cons] at hm;omega)];simp
  have w2:((X.length+P1.length:Nat):Int)=((X++P1).length:Int):=by simp
  have e0:X++P1++x::(y::P2++Rr)=(X++P1)++x::([]++y::(P2++Rr)):=by simp
  have g1:R.get CR ((X++P1)++x::([]++y::(P2++Rr))) ((X++P1).length:Int)=x:=Zpa (r:=CR) _ _ _ _ rfl;have g2:=Zl0 (X++P1) x y [] (P2++Rr) _ rfl;have r1:=Zr0 (X++P1) x ([]++y::(P2++Rr)) _ rfl;have r2:=ZlA (X++P1) x y [] (P2++Rr) _ rfl;have s1:=ZCJ (X++P1) x y [] (P2++Rr) _ _ rfl rfl;refine⟨(((X.length+(P1.length+(y::P2).length)+1:Nat):Int),((X++P1).length:Int)+1+(([]:List Cell).length:Int),(X++P1)++y::([]++x::(P2++Rr)),()),?_,⟨P1++[y],P2,by simp,by simp;omega⟩,by simp;omega⟩;rw[e0];rw[w2] at w1 d|-;simp only[Zj0,RT.val,w0,d,w1,g1,g2,r1,r2,s1,ZoY,Ya,Yh,Yk,Yj,Yx]
theorem ZXN (X Q Rr:List Cell) (y:Cell) (hm:(X++(Q++y::Rr)).length<=most):
  ∃r,runF false ZjY (λa=>Int.toNat (a.2.1-a.1)+1) ((X.length:Int),((X.length+Q.length:Nat):Int),X++(Q++y::Rr),())=some r/\r.2.2.2.1=X++y::(Q++Rr):=by
 have hms:=mst;simp only[Yd,List.length_cons] at hm;refine ZK (fl:=false) (t:=ZjY) (fuel:=λa=>Int.toNat (a.2.1-a.1)+1)
  (I:=λa=>∃Q1 Q2:List Cell,Q=Q1++Q2/\a=((X.length:Int),((X.length+Q1.length:Nat):Int),X++Q1++y::(Q2++Rr),()))
  (m:=λa=>Int.toNat (a.2.1-a.1)) (R:=λr=>r.2.2.2.1=X++y::(Q++Rr))
  (λa hi=> ?_) _ ⟨Q,[],by simp,by simp⟩ (YaD _)
 obtain⟨Q1,Q2,rfl,rfl⟩:=hi;simp only[Yd] at hm;rcases Yag Q1 with rfl|⟨Q',z,hc⟩
 ·right;left;refine⟨((X.length:Int),((X.length+([]:List Cell).length:Nat):Int),X++[]++y::(Q2++Rr),()),?_,by simp⟩;have d:decide (((X.length+([]:List Cell).length:Nat):Int)>(X.length:Int))=false:=by simp
  simp only[ZjY,RT.val,d,Yc]
 ·rw[Yac] at hc;subst hc;left;have hl1:(Q'++[z]).length=Q'.length+1:=by simp
  have d:decide (((X.length+(Q'++[z]).length:Nat):Int)>(X.length:Int))=true:=by simp;omega
  have w1:wrap .i64 (((X.length+(Q'++[z]).length:Nat):Int)-1)=((X++Q').length:Int):=by rw[wrap_i64 _ (by omega) (by omega)];simp;omega
  have w2:((X.length+(Q'++[z]).length:Nat):Int)=((X++Q').length:Int)+1+(([]:List Cell).length:Int):=by simp;omega
  have e0:X++(Q'++[z])++y::(Q2++Rr)=(X++Q')++z::([]++y::(Q2++Rr)):=by simp
  have g1:R.get CR ((X++Q')++z::([]++y::(Q2++Rr))) ((X++Q').length:Int)=z:=Zpa (r:=CR) _ _ _ _ rfl;have g2:=Zl0 (X++Q') z y [] (Q2++Rr) _ rfl;have r1:=Zr0 (X++Q') z ([]++y::(Q2++Rr)) _ rfl;have r2:=ZlA (X++Q') z y [] (Q2++Rr) _ rfl;have s1:=Zvr (X++Q') z y [] (Q2++Rr) _ _ rfl rfl;refine⟨((X.length:Int),((X++Q').length:Int),(X++Q')++y::([]++z::(Q2++Rr)),()),?_,⟨Q',z::Q2,by simp,by simp⟩,by simp;omega⟩;rw[e0];rw[w2] at w1 d|-;simp only[ZjY,RT.val,d,w1,g1,g2,r1,r2,s1,ZoY,Ya,Yh,Yk,Yj,Yx]
