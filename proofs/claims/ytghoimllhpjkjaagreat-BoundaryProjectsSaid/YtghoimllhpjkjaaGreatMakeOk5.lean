import Derived.Test.YtghoimllhpjkjaaGreatFinRX
import Derived.Test.YtghoimllhpjkjaaGreatFin1
import Derived.Test.YtghoimllhpjkjaaGreatFin2
import Derived.Test.YtghoimllhpjkjaaGreatFin3
import Derived.Test.YtghoimllhpjkjaaGreatFin4
import Derived.Test.YtghoimllhpjkjaaGreatKind47
import Derived.Test.YtghoimllhpjkjaaGreatPinsEq
import Derived.Test.YtghoimllhpjkjaaGreatS3D
import Derived.Test.YtghoimllhpjkjaaGreatProg
open Go Go.S3 Go.Proofs
set_option linter.unusedVariables false
set_option linter.unusedSimpArgs false
set_option maxRecDepth 100000
namespace Go.Proofs.YtghoimllhpjkjaaGreat
noncomputable section
theorem fr_1 (c) (s:Int) (g:List Int) (l) (hb:∀j:Nat,inR .u8 (g[j]?.getD 0)) (n:Int) (hk:(Zb c.1 (g.getD 0 0)).1=n):(n=1->(ZBQ c s g l).val=some (finX c s g l))/\(n=6->(ZBL c s g l).val=some (finX c s g l))/\(n=10->(Zt6 c s g l).val=some (finX c s g l))/\(n=17->(ZtZ c s g l).val=some (finX c s g l))/\(n=21->(ZtV c s g l).val=some (finX c s g l))/\(n=28->(ZtO c s g l).val=some (finX c s g l))/\(n=33->(ZtJ c s g l).val=some (finX c s g l))/\(n=37->(ZtF c s g l).val=some (finX c s g l))/\(n=43->(Ztz c s g l).val=some (finX c s g l)):=by
 refine⟨?_,?_,?_,?_,?_,?_,?_,?_,?_⟩
 all_goals intro e;subst e
 all_goals simp only[ZBQ,ZBL,Zt6,ZtZ,ZtV,ZtO,ZtJ,ZtF,Ztz,RT.val,rgx]
 all_goals simp only[qat0,mat0,qat1,mat1,rg0,hk,Zw,ZZ,Zaf,ZJ,ZK,Zz,ZA,ZaS,ZaV,Zcs,Zcr,Zv,ZaU,finX,spOf]
 all_goals generalize Zc s=bi
 all_goals cases bi with
 |true=>simp[wPC,wSP]
 |false=>
  generalize (s==5)=bs
  simp only[finI,hk,finR,wPC,wSP,wA,wF,fCY,fVCY,ZcX,flOf,ZL,pcOf,Zbd]
  generalize Zb c.1 (g.getD 0 0)=i at hk|-
  simp (config:={implicitDefEqProofs:=false}) [ZbZ,Zbt,ZbI,hk,Zgb,Zgd,Zgc,ZkL,ZkM,Zew,Zev,ZkQ,hb]
theorem fr_2 (c) (s:Int) (g:List Int) (l) (hb:∀j:Nat,inR .u8 (g[j]?.getD 0)) (n:Int) (hk:(Zb c.1 (g.getD 0 0)).1=n):(n=3->(ZBO c s g l).val=some (finX c s g l))/\(n=7->(ZBK c s g l).val=some (finX c s g l))/\(n=11->(Zt5 c s g l).val=some (finX c s g l))/\(n=18->(ZtY c s g l).val=some (finX c s g l))/\(n=22->(ZtU c s g l).val=some (finX c s g l))/\(n=29->(ZtN c s g l).val=some (finX c s g l))/\(n=34->(ZtI c s g l).val=some (finX c s g l))/\(n=40->(ZtC c s g l).val=some (finX c s g l))/\(n=44->(Zty c s g l).val=some (finX c s g l)):=by
 refine⟨?_,?_,?_,?_,?_,?_,?_,?_,?_⟩
 all_goals intro e;subst e
 all_goals simp only[ZBO,ZBK,Zt5,ZtY,ZtU,ZtN,ZtI,ZtC,Zty,RT.val,rgx]
 all_goals simp only[qat0,mat0,qat1,mat1,rg0,hk,Zw,ZZ,Zaf,ZJ,ZK,Zz,ZA,ZaS,ZaV,Zcs,Zcr,Zv,ZaU,finX,spOf]
 all_goals generalize Zc s=bi
 all_goals cases bi with
 |true=>simp[wPC,wSP]
 |false=>
  generalize (s==5)=bs
  simp only[finI,hk,finR,wPC,wSP,wA,wF,fCY,fVCY,ZcX,flOf,ZL,pcOf,Zbd]
  generalize Zb c.1 (g.getD 0 0)=i at hk|-
  simp (config:={implicitDefEqProofs:=false}) [ZbZ,Zbt,ZbI,hk,Zgb,Zgd,Zgc,ZkL,ZkM,Zew,Zev,ZkQ,hb]
theorem fr_3 (c) (s:Int) (g:List Int) (l) (hb:∀j:Nat,inR .u8 (g[j]?.getD 0)) (n:Int) (hk:(Zb c.1 (g.getD 0 0)).1=n):(n=4->(ZBN c s g l).val=some (finX c s g l))/\(n=8->(ZBJ c s g l).val=some (finX c s g l))/\(n=13->(Zt3 c s g l).val=some (finX c s g l))/\(n=19->(ZtX c s g l).val=some (finX c s g l))/\(n=23->(ZtT c s g l).val=some (finX c s g l))/\(n=30->(ZtM c s g l).val=some (finX c s g l))/\(n=35->(ZtH c s g l).val=some (finX c s g l))/\(n=41->(ZtB c s g l).val=some (finX c s g l))/\(n=46->(Ztw c s g l).val=some (finX c s g l)):=by
 refine⟨?_,?_,?_,?_,?_,?_,?_,?_,?_⟩
 all_goals intro e;subst e
 all_goals simp only[ZBN,ZBJ,Zt3,ZtX,ZtT,ZtM,ZtH,ZtB,Ztw,RT.val,rgx]
 all_goals simp only[qat0,mat0,qat1,mat1,rg0,hk,Zw,ZZ,Zaf,ZJ,ZK,Zz,ZA,ZaS,ZaV,Zcs,Zcr,Zv,ZaU,finX,spOf]
 all_goals generalize Zc s=bi
 all_goals cases bi with
 |true=>simp[wPC,wSP]
 |false=>
  generalize (s==5)=bs
  simp only[finI,hk,finR,wPC,wSP,wA,wF,fCY,fVCY,ZcX,flOf,ZL,pcOf,Zbd]
  generalize Zb c.1 (g.getD 0 0)=i at hk|-
  simp (config:={implicitDefEqProofs:=false}) [ZbZ,Zbt,ZbI,hk,Zgb,Zgd,Zgc,ZkL,ZkM,Zew,Zev,ZkQ,hb]
theorem fr_4 (c) (s:Int) (g:List Int) (l) (hb:∀j:Nat,inR .u8 (g[j]?.getD 0)) (n:Int) (hk:(Zb c.1 (g.getD 0 0)).1=n):(n=5->(ZBM c s g l).val=some (finX c s g l))/\(n=9->(ZBI c s g l).val=some (finX c s g l))/\(n=16->(Zt0 c s g l).val=some (finX c s g l))/\(n=20->(ZtW c s g l).val=some (finX c s g l))/\(n=27->(ZtP c s g l).val=some (finX c s g l))/\(n=32->(ZtK c s g l).val=some (finX c s g l))/\(n=36->(ZtG c s g l).val=some (finX c s g l))/\(n=42->(ZtA c s g l).val=some (finX c s g l))/\(n=47->(Ztv c s g l).val=some (finX c s g l)):=by
 refine⟨?_,?_,?_,?_,?_,?_,?_,?_,?_⟩
 all_goals intro e;subst e
 all_goals simp only[ZBM,ZBI,Zt0,ZtW,ZtP,ZtK,ZtG,ZtA,Ztv,RT.val,rgx]
 all_goals simp only[qat0,mat0,qat1,mat1,rg0,hk,Zw,ZZ,Zaf,ZJ,ZK,Zz,ZA,ZaS,ZaV,Zcs,Zcr,Zv,ZaU,finX,spOf]
 all_goals generalize Zc s=bi
 all_goals cases bi with
 |true=>simp[wPC,wSP]
 |false=>
  generalize (s==5)=bs
  simp only[finI,hk,finR,wPC,wSP,wA,wF,fCY,fVCY,ZcX,flOf,ZL,pcOf,Zbd]
  generalize Zb c.1 (g.getD 0 0)=i at hk|-
  simp (config:={implicitDefEqProofs:=false}) [ZbZ,Zbt,ZbI,hk,Zgb,Zgd,Zgc,ZkL,ZkM,Zew,Zev,ZkQ,hb]
theorem fr_5 (c) (s:Int) (g:List Int) (l) (hb:∀j:Nat,inR .u8 (g[j]?.getD 0)) (n:Int) (hk:(Zb c.1 (g.getD 0 0)).1=n):(n=2->(ZBP c s g l).val=some (finX c s g l))/\(n=12->(Zt4 c s g l).val=some (finX c s g l)):=by
 refine⟨?_,?_⟩
 all_goals intro e;subst e
 all_goals simp only[ZBP,Zt4,RT.val,rgx]
 all_goals simp only[qat0,mat0,qat1,mat1,rg0,hk,Zw,ZZ,Zaf,ZJ,ZK,Zz,ZA,ZaS,ZaV,Zcs,Zcr,Zv,ZaU,finX,spOf]
 all_goals generalize Zc s=bi
 all_goals cases bi with
 |true=>simp[wPC,wSP]
 |false=>
  generalize (s==5)=bs
  simp only[finI,hk,finR,wPC,wSP,wA,wF,fCY,fVCY,ZcX,flOf,ZL,pcOf,Zbd]
  generalize Zb c.1 (g.getD 0 0)=i at hk|-
  generalize (i.2.2.2.1==6)=b0
  cases b0<;>simp (config:={implicitDefEqProofs:=false}) [ZbZ,Zbt,ZbI,hk,Zgb,Zgd,Zgc,ZkL,ZkM,Zew,Zev,ZkQ,hb]
theorem fr_6 (c) (s:Int) (g:List Int) (l) (hb:∀j:Nat,inR .u8 (g[j]?.getD 0)) (n:Int) (hk:(Zb c.1 (g.getD 0 0)).1=n):(n=14->(Zt2 c s g l).val=some (finX c s g l))/\(n=15->(Zt1 c s g l).val=some (finX c s g l)):=by
 refine⟨?_,?_⟩
 all_goals intro e;subst e
 all_goals simp only[Zt2,Zt1,RT.val,rgx]
 all_goals simp only[qat0,mat0,qat1,mat1,rg0,hk,Zw,ZZ,Zaf,ZJ,ZK,Zz,ZA,ZaS,ZaV,Zcs,Zcr,Zv,ZaU,finX,spOf]
 all_goals generalize Zc s=bi
 all_goals cases bi with
 |true=>simp[wPC,wSP]
 |false=>
  generalize (s==5)=bs
  simp only[finI,hk,finR,wPC,wSP,wA,wF,fCY,fVCY,ZcX,flOf,ZL,pcOf,Zbd]
  generalize Zb c.1 (g.getD 0 0)=i at hk|-
  generalize (i.2.2.1==6)=b0
  cases b0<;>simp (config:={implicitDefEqProofs:=false}) [ZbZ,Zbt,ZbI,hk,Zgb,Zgd,Zgc,ZkL,ZkM,Zew,Zev,ZkQ,hb]
theorem fr_7 (c) (s:Int) (g:List Int) (l) (hb:∀j:Nat,inR .u8 (g[j]?.getD 0)) (n:Int) (hk:(Zb c.1 (g.getD 0 0)).1=n):(n=24->(ZtS c s g l).val=some (finX c s g l))/\(n=25->(ZtR c s g l).val=some (finX c s g l))/\(n=26->(ZtQ c s g l).val=some (finX c s g l))/\(n=45->(Ztx c s g l).val=some (finX c s g l)):=by
 refine⟨?_,?_,?_,?_⟩
 all_goals intro e;subst e
 all_goals simp only[ZtS,ZtR,ZtQ,Ztx,RT.val,rgx]
 all_goals simp only[qat0,mat0,qat1,mat1,rg0,hk,Zw,ZZ,Zaf,ZJ,ZK,Zz,ZA,ZaS,ZaV,Zcs,Zcr,Zv,ZaU,finX,spOf]
 all_goals generalize Zc s=bi
 all_goals cases bi with
 |true=>simp[wPC,wSP]
 |false=>
  generalize (s==5)=bs
  simp only[finI,hk,finR,wPC,wSP,wA,wF,fCY,fVCY,ZcX,flOf,ZL,pcOf,Zbd]
  generalize Zb c.1 (g.getD 0 0)=i at hk|-
  generalize Zey _ _=b0
  cases b0<;>simp (config:={implicitDefEqProofs:=false}) [ZbZ,Zbt,ZbI,hk,Zgb,Zgd,Zgc,ZkL,ZkM,Zew,Zev,ZkQ,hb]
theorem fr_8 (c) (s:Int) (g:List Int) (l) (hb:∀j:Nat,inR .u8 (g[j]?.getD 0)) (n:Int) (hk:(Zb c.1 (g.getD 0 0)).1=n):(n=31->(ZtL c s g l).val=some (finX c s g l)):=by
 skip
 all_goals intro e;subst e
 all_goals simp only[ZtL,RT.val,rgx]
 all_goals simp only[qat0,mat0,qat1,mat1,rg0,hk,Zw,ZZ,Zaf,ZJ,ZK,Zz,ZA,ZaS,ZaV,Zcs,Zcr,Zv,ZaU,finX,spOf]
 all_goals generalize Zc s=bi
 all_goals cases bi with
 |true=>simp[wPC,wSP]
 |false=>
  generalize (s==5)=bs
  simp only[finI,hk,finR,wPC,wSP,wA,wF,fCY,fVCY,ZcX,flOf,ZL,pcOf,Zbd]
  generalize Zb c.1 (g.getD 0 0)=i at hk|-
  generalize (i.2.2.2.2.1==3)=b0
  cases b0<;>simp (config:={implicitDefEqProofs:=false}) [ZbZ,Zbt,ZbI,hk,Zgb,Zgd,Zgc,ZkL,ZkM,Zew,Zev,ZkQ,hb,Zgi,Zlu,RT.val]
theorem fr_9 (c) (s:Int) (g:List Int) (l) (hb:∀j:Nat,inR .u8 (g[j]?.getD 0)) (n:Int) (hk:(Zb c.1 (g.getD 0 0)).1=n):(n=38->(ZtE c s g l).val=some (finX c s g l)):=by
 skip
 all_goals intro e;subst e
 all_goals simp only[ZtE,RT.val,rgx]
 all_goals simp only[qat0,mat0,qat1,mat1,rg0,hk,Zw,ZZ,Zaf,ZJ,ZK,Zz,ZA,ZaS,ZaV,Zcs,Zcr,Zv,ZaU,finX,spOf]
 all_goals generalize Zc s=bi
 all_goals cases bi with
 |true=>simp[wPC,wSP]
 |false=>
  generalize (s==5)=bs
  simp only[finI,hk,finR,wPC,wSP,wA,wF,fCY,fVCY,ZcX,flOf,ZL,pcOf,Zbd]
  generalize Zb c.1 (g.getD 0 0)=i at hk|-
  simp[ZbZ,Zbt,ZbI,hk,ZVQ]
  rfl
theorem fr_10 (c) (s:Int) (g:List Int) (l) (hb:∀j:Nat,inR .u8 (g[j]?.getD 0)) (n:Int) (hk:(Zb c.1 (g.getD 0 0)).1=n):(n=39->(ZtD c s g l).val=some (finX c s g l)):=by
 skip
 all_goals intro e;subst e
 all_goals simp only[ZtD,RT.val,rgx]
 all_goals simp only[qat0,mat0,qat1,mat1,rg0,hk,Zw,ZZ,Zaf,ZJ,ZK,Zz,ZA,ZaS,ZaV,Zcs,Zcr,Zv,ZaU,finX,spOf]
 all_goals generalize Zc s=bi
 all_goals cases bi with
 |true=>simp[wPC,wSP]
 |false=>
  generalize (s==5)=bs
  simp only[finI,hk,finR,wPC,wSP,wA,wF,fCY,fVCY,ZcX,flOf,ZL,pcOf,Zbd]
  generalize Zb c.1 (g.getD 0 0)=i at hk|-
  simp[ZbZ,Zbt,ZbI,hk,rSim,ZNA,RT.val]
theorem ZYl (a:HL Zn) (h:okHL Zn a):∃l,Zde Tryz.prog l/\(Zh (envX Tryz.prog l [] 79250227772808467515411824639 8) Tryz.f98 Zn Z2 a).val=some (finX a.1 a.2.1 a.2.2.1 a.2.2.2):=by
 have hk:=ZvW a.1.1 _ (Zv1 h.2.2.1)
 have hb:∀j:Nat,inR .u8 (a.2.2.1[j]?.getD 0):=λj=>by
  cases hj:a.2.2.1[j]? with
  |none=>rw[ZgF];simp
  |some x=>exact h.2.2.1.2 x (List.mem_of_getElem? hj)
 refine⟨ZaK (Zb a.1.1 (a.2.2.1.getD 0 0)).1,ZTL _,?_⟩
 rcases ZvV hk.1 hk.2 with e|e|e|e|e|e|e|e|e|e|e|e|e|e|e|e|e|e|e|e|e|e|e|e|e|e|e|e|e|e|e|e|e|e|e|e|e|e|e|e|e|e|e|e|e|e|e
 ·rw[e,ZOC a,((fr_1 a.1 a.2.1 a.2.2.1 a.2.2.2 hb _ e).1 rfl)]
 ·rw[e,ZOB a,((fr_5 a.1 a.2.1 a.2.2.1 a.2.2.2 hb _ e).1 rfl)]
 ·rw[e,ZOA a,((fr_2 a.1 a.2.1 a.2.2.1 a.2.2.2 hb _ e).1 rfl)]
 ·rw[e,ZOz a,((fr_3 a.1 a.2.1 a.2.2.1 a.2.2.2 hb _ e).1 rfl)]
 ·rw[e,ZOy a,((fr_4 a.1 a.2.1 a.2.2.1 a.2.2.2 hb _ e).1 rfl)]
 ·rw[e,ZOx a,((fr_1 a.1 a.2.1 a.2.2.1 a.2.2.2 hb _ e).2.1 rfl)]
 ·rw[e,ZOw a,((fr_2 a.1 a.2.1 a.2.2.1 a.2.2.2 hb _ e).2.1 rfl)]
 ·rw[e,ZOv a,((fr_3 a.1 a.2.1 a.2.2.1 a.2.2.2 hb _ e).2.1 rfl)]
 ·rw[e,ZOu a,((fr_4 a.1 a.2.1 a.2.2.1 a.2.2.2 hb _ e).2.1 rfl)]
 ·rw[e,ZJi a,((fr_1 a.1 a.2.1 a.2.2.1 a.2.2.2 hb _ e).2.2.1 rfl)]
 ·rw[e,ZJh a,((fr_2 a.1 a.2.1 a.2.2.1 a.2.2.2 hb _ e).2.2.1 rfl)]
 ·rw[e,ZJg a,((fr_5 a.1 a.2.1 a.2.2.1 a.2.2.2 hb _ e).2 rfl)]
 ·rw[e,ZJf a,((fr_3 a.1 a.2.1 a.2.2.1 a.2.2.2 hb _ e).2.2.1 rfl)]
 ·rw[e,ZJe a,((fr_6 a.1 a.2.1 a.2.2.1 a.2.2.2 hb _ e).1 rfl)]
 ·rw[e,ZJd a,((fr_6 a.1 a.2.1 a.2.2.1 a.2.2.2 hb _ e).2 rfl)]
 ·rw[e,ZJc a,((fr_4 a.1 a.2.1 a.2.2.1 a.2.2.2 hb _ e).2.2.1 rfl)]
 ·rw[e,ZJb a,((fr_1 a.1 a.2.1 a.2.2.1 a.2.2.2 hb _ e).2.2.2.1 rfl)]
 ·rw[e,ZJa a,((fr_2 a.1 a.2.1 a.2.2.1 a.2.2.2 hb _ e).2.2.2.1 rfl)]
 ·rw[e,ZI9 a,((fr_3 a.1 a.2.1 a.2.2.1 a.2.2.2 hb _ e).2.2.2.1 rfl)]
 ·rw[e,ZI8 a,((fr_4 a.1 a.2.1 a.2.2.1 a.2.2.2 hb _ e).2.2.2.1 rfl)]
 ·rw[e,ZI7 a,((fr_1 a.1 a.2.1 a.2.2.1 a.2.2.2 hb _ e).2.2.2.2.1 rfl)]
 ·rw[e,ZI6 a,((fr_2 a.1 a.2.1 a.2.2.1 a.2.2.2 hb _ e).2.2.2.2.1 rfl)]
 ·rw[e,ZI5 a,((fr_3 a.1 a.2.1 a.2.2.1 a.2.2.2 hb _ e).2.2.2.2.1 rfl)]
 ·rw[e,ZI4 a,((fr_7 a.1 a.2.1 a.2.2.1 a.2.2.2 hb _ e).1 rfl)]
 ·rw[e,ZI3 a,((fr_7 a.1 a.2.1 a.2.2.1 a.2.2.2 hb _ e).2.1 rfl)]
 ·rw[e,ZI2 a,((fr_7 a.1 a.2.1 a.2.2.1 a.2.2.2 hb _ e).2.2.1 rfl)]
 ·rw[e,ZI1 a,((fr_4 a.1 a.2.1 a.2.2.1 a.2.2.2 hb _ e).2.2.2.2.1 rfl)]
 ·rw[e,ZI0 a,((fr_1 a.1 a.2.1 a.2.2.1 a.2.2.2 hb _ e).2.2.2.2.2.1 rfl)]
 ·rw[e,ZIZ a,((fr_2 a.1 a.2.1 a.2.2.1 a.2.2.2 hb _ e).2.2.2.2.2.1 rfl)]
 ·rw[e,ZIY a,((fr_3 a.1 a.2.1 a.2.2.1 a.2.2.2 hb _ e).2.2.2.2.2.1 rfl)]
 ·rw[e,ZIX a,((fr_8 a.1 a.2.1 a.2.2.1 a.2.2.2 hb _ e) rfl)]
 ·rw[e,ZIW a,((fr_4 a.1 a.2.1 a.2.2.1 a.2.2.2 hb _ e).2.2.2.2.2.1 rfl)]
 ·rw[e,ZIV a,((fr_1 a.1 a.2.1 a.2.2.1 a.2.2.2 hb _ e).2.2.2.2.2.2.1 rfl)]
 ·rw[e,ZIU a,((fr_2 a.1 a.2.1 a.2.2.1 a.2.2.2 hb _ e).2.2.2.2.2.2.1 rfl)]
 ·rw[e,ZIT a,((fr_3 a.1 a.2.1 a.2.2.1 a.2.2.2 hb _ e).2.2.2.2.2.2.1 rfl)]
 ·rw[e,ZIS a,((fr_4 a.1 a.2.1 a.2.2.1 a.2.2.2 hb _ e).2.2.2.2.2.2.1 rfl)]
 ·rw[e,ZIR a,((fr_1 a.1 a.2.1 a.2.2.1 a.2.2.2 hb _ e).2.2.2.2.2.2.2.1 rfl)]
 ·rw[e,ZIQ a,((fr_9 a.1 a.2.1 a.2.2.1 a.2.2.2 hb _ e) rfl)]
 ·rw[e,ZIP a,((fr_10 a.1 a.2.1 a.2.2.1 a.2.2.2 hb _ e) rfl)]
 ·rw[e,ZIO a,((fr_2 a.1 a.2.1 a.2.2.1 a.2.2.2 hb _ e).2.2.2.2.2.2.2.1 rfl)]
 ·rw[e,ZIN a,((fr_3 a.1 a.2.1 a.2.2.1 a.2.2.2 hb _ e).2.2.2.2.2.2.2.1 rfl)]
 ·rw[e,ZIM a,((fr_4 a.1 a.2.1 a.2.2.1 a.2.2.2 hb _ e).2.2.2.2.2.2.2.1 rfl)]
 ·rw[e,ZIL a,((fr_1 a.1 a.2.1 a.2.2.1 a.2.2.2 hb _ e).2.2.2.2.2.2.2.2 rfl)]
 ·rw[e,ZIK a,((fr_2 a.1 a.2.1 a.2.2.1 a.2.2.2 hb _ e).2.2.2.2.2.2.2.2 rfl)]
 ·rw[e,ZIJ a,((fr_7 a.1 a.2.1 a.2.2.1 a.2.2.2 hb _ e).2.2.2 rfl)]
 ·rw[e,ZII a,((fr_3 a.1 a.2.1 a.2.2.1 a.2.2.2 hb _ e).2.2.2.2.2.2.2.2 rfl)]
 ·rw[e,ZIH a,((fr_4 a.1 a.2.1 a.2.2.1 a.2.2.2 hb _ e).2.2.2.2.2.2.2.2 rfl)]
def ZYm:Entry:=Zg Zn Z2 (λ_=>none) (λa=>finX a.1 a.2.1 a.2.2.1 a.2.2.2)
theorem ZOt:Za Tryz.prog 98 ZYm:=ZlC Tryz.func98 rfl (by kernel_rfl) Tryz.call98 λa h _=>ZYl a h
theorem fp_1 (c) (s:Int) (g:List Int) (l) (n:Int) (hk:(Zb c.1 (g.getD 0 0)).1=n):(n=1->(ZDb c s g l).val=some (finX c s g l))/\(n=6->(ZC6 c s g l).val=some (finX c s g l))/\(n=10->(Zvw c s g l).val=some (finX c s g l))/\(n=17->(Zvp c s g l).val=some (finX c s g l))/\(n=21->(Zvl c s g l).val=some (finX c s g l))/\(n=28->(Zve c s g l).val=some (finX c s g l))/\(n=33->(Zu9 c s g l).val=some (finX c s g l))/\(n=37->(Zu5 c s g l).val=some (finX c s g l))/\(n=43->(ZuZ c s g l).val=some (finX c s g l)):=by
 refine⟨?_,?_,?_,?_,?_,?_,?_,?_,?_⟩
 all_goals intro e;subst e
 all_goals simp only[ZDb,ZC6,Zvw,Zvp,Zvl,Zve,Zu9,Zu5,ZuZ,RT.val,rgx]
 all_goals simp only[qat0,mat0,qat1,mat1,rg0,hk,Zw,ZZ,Zaf,ZJ,ZK,Zz,ZA,ZaS,ZaV,Zcs,Zcr,Zv,ZaU,finX,spOf]
 all_goals generalize Zc s=bi
 all_goals cases bi with
 |true=>simp[wPC,wSP]
 |false=>
  generalize (s==5)=bs
  simp only[finI,hk,finR,wPC,wSP,wA,wF,fCY,fVCY,ZcX,flOf,ZL,pcOf,Zbd]
  generalize Zb c.1 (g.getD 0 0)=i at hk|-
  simp (config:={implicitDefEqProofs:=false}) [ZbZ,Zbt,ZbI,hk]
theorem fp_2 (c) (s:Int) (g:List Int) (l) (n:Int) (hk:(Zb c.1 (g.getD 0 0)).1=n):(n=3->(ZC9 c s g l).val=some (finX c s g l))/\(n=7->(ZC5 c s g l).val=some (finX c s g l))/\(n=11->(Zvv c s g l).val=some (finX c s g l))/\(n=18->(Zvo c s g l).val=some (finX c s g l))/\(n=22->(Zvk c s g l).val=some (finX c s g l))/\(n=29->(Zvd c s g l).val=some (finX c s g l))/\(n=34->(Zu8 c s g l).val=some (finX c s g l))/\(n=40->(Zu2 c s g l).val=some (finX c s g l))/\(n=44->(ZuY c s g l).val=some (finX c s g l)):=by
 refine⟨?_,?_,?_,?_,?_,?_,?_,?_,?_⟩
 all_goals intro e;subst e
 all_goals simp only[ZC9,ZC5,Zvv,Zvo,Zvk,Zvd,Zu8,Zu2,ZuY,RT.val,rgx]
 all_goals simp only[qat0,mat0,qat1,mat1,rg0,hk,Zw,ZZ,Zaf,ZJ,ZK,Zz,ZA,ZaS,ZaV,Zcs,Zcr,Zv,ZaU,finX,spOf]
 all_goals generalize Zc s=bi
 all_goals cases bi with
 |true=>simp[wPC,wSP]
 |false=>
  generalize (s==5)=bs
  simp only[finI,hk,finR,wPC,wSP,wA,wF,fCY,fVCY,ZcX,flOf,ZL,pcOf,Zbd]
  generalize Zb c.1 (g.getD 0 0)=i at hk|-
  simp (config:={implicitDefEqProofs:=false}) [ZbZ,Zbt,ZbI,hk]
theorem fp_3 (c) (s:Int) (g:List Int) (l) (n:Int) (hk:(Zb c.1 (g.getD 0 0)).1=n):(n=4->(ZC8 c s g l).val=some (finX c s g l))/\(n=8->(ZC4 c s g l).val=some (finX c s g l))/\(n=13->(Zvt c s g l).val=some (finX c s g l))/\(n=19->(Zvn c s g l).val=some (finX c s g l))/\(n=23->(Zvj c s g l).val=some (finX c s g l))/\(n=30->(Zvc c s g l).val=some (finX c s g l))/\(n=35->(Zu7 c s g l).val=some (finX c s g l))/\(n=41->(Zu1 c s g l).val=some (finX c s g l))/\(n=46->(ZuW c s g l).val=some (finX c s g l)):=by
 refine⟨?_,?_,?_,?_,?_,?_,?_,?_,?_⟩
 all_goals intro e;subst e
 all_goals simp only[ZC8,ZC4,Zvt,Zvn,Zvj,Zvc,Zu7,Zu1,ZuW,RT.val,rgx]
 all_goals simp only[qat0,mat0,qat1,mat1,rg0,hk,Zw,ZZ,Zaf,ZJ,ZK,Zz,ZA,ZaS,ZaV,Zcs,Zcr,Zv,ZaU,finX,spOf]
 all_goals generalize Zc s=bi
 all_goals cases bi with
 |true=>simp[wPC,wSP]
 |false=>
  generalize (s==5)=bs
  simp only[finI,hk,finR,wPC,wSP,wA,wF,fCY,fVCY,ZcX,flOf,ZL,pcOf,Zbd]
  generalize Zb c.1 (g.getD 0 0)=i at hk|-
  simp (config:={implicitDefEqProofs:=false}) [ZbZ,Zbt,ZbI,hk]
theorem fp_4 (c) (s:Int) (g:List Int) (l) (n:Int) (hk:(Zb c.1 (g.getD 0 0)).1=n):(n=5->(ZC7 c s g l).val=some (finX c s g l))/\(n=9->(ZC3 c s g l).val=some (finX c s g l))/\(n=16->(Zvq c s g l).val=some (finX c s g l))/\(n=20->(Zvm c s g l).val=some (finX c s g l))/\(n=27->(Zvf c s g l).val=some (finX c s g l))/\(n=32->(Zva c s g l).val=some (finX c s g l))/\(n=36->(Zu6 c s g l).val=some (finX c s g l))/\(n=42->(Zu0 c s g l).val=some (finX c s g l))/\(n=47->(ZuV c s g l).val=some (finX c s g l)):=by
 refine⟨?_,?_,?_,?_,?_,?_,?_,?_,?_⟩
 all_goals intro e;subst e
 all_goals simp only[ZC7,ZC3,Zvq,Zvm,Zvf,Zva,Zu6,Zu0,ZuV,RT.val,rgx]
 all_goals simp only[qat0,mat0,qat1,mat1,rg0,hk,Zw,ZZ,Zaf,ZJ,ZK,Zz,ZA,ZaS,ZaV,Zcs,Zcr,Zv,ZaU,finX,spOf]
 all_goals generalize Zc s=bi
 all_goals cases bi with
 |true=>simp[wPC,wSP]
 |false=>
  generalize (s==5)=bs
  simp only[finI,hk,finR,wPC,wSP,wA,wF,fCY,fVCY,ZcX,flOf,ZL,pcOf,Zbd]
  generalize Zb c.1 (g.getD 0 0)=i at hk|-
  simp (config:={implicitDefEqProofs:=false}) [ZbZ,Zbt,ZbI,hk]
theorem fp_5 (c) (s:Int) (g:List Int) (l) (n:Int) (hk:(Zb c.1 (g.getD 0 0)).1=n):(n=2->(ZDa c s g l).val=some (finX c s g l))/\(n=12->(Zvu c s g l).val=some (finX c s g l)):=by
 refine⟨?_,?_⟩
 all_goals intro e;subst e
 all_goals simp only[ZDa,Zvu,RT.val,rgx]
 all_goals simp only[qat0,mat0,qat1,mat1,rg0,hk,Zw,ZZ,Zaf,ZJ,ZK,Zz,ZA,ZaS,ZaV,Zcs,Zcr,Zv,ZaU,finX,spOf]
 all_goals generalize Zc s=bi
 all_goals cases bi with
 |true=>simp[wPC,wSP]
 |false=>
  generalize (s==5)=bs
  simp only[finI,hk,finR,wPC,wSP,wA,wF,fCY,fVCY,ZcX,flOf,ZL,pcOf,Zbd]
  generalize Zb c.1 (g.getD 0 0)=i at hk|-
  generalize (i.2.2.2.1==6)=b0
  cases b0<;>simp (config:={implicitDefEqProofs:=false}) [ZbZ,Zbt,ZbI,hk]
theorem fp_6 (c) (s:Int) (g:List Int) (l) (n:Int) (hk:(Zb c.1 (g.getD 0 0)).1=n):(n=14->(Zvs c s g l).val=some (finX c s g l))/\(n=15->(Zvr c s g l).val=some (finX c s g l)):=by
 refine⟨?_,?_⟩
 all_goals intro e;subst e
 all_goals simp only[Zvs,Zvr,RT.val,rgx]
 all_goals simp only[qat0,mat0,qat1,mat1,rg0,hk,Zw,ZZ,Zaf,ZJ,ZK,Zz,ZA,ZaS,ZaV,Zcs,Zcr,Zv,ZaU,finX,spOf]
 all_goals generalize Zc s=bi
 all_goals cases bi with
 |true=>simp[wPC,wSP]
 |false=>
  generalize (s==5)=bs
  simp only[finI,hk,finR,wPC,wSP,wA,wF,fCY,fVCY,ZcX,flOf,ZL,pcOf,Zbd]
  generalize Zb c.1 (g.getD 0 0)=i at hk|-
  generalize (i.2.2.1==6)=b0
  cases b0<;>simp (config:={implicitDefEqProofs:=false}) [ZbZ,Zbt,ZbI,hk]
theorem fp_7 (c) (s:Int) (g:List Int) (l) (n:Int) (hk:(Zb c.1 (g.getD 0 0)).1=n):(n=24->(Zvi c s g l).val=some (finX c s g l))/\(n=25->(Zvh c s g l).val=some (finX c s g l))/\(n=26->(Zvg c s g l).val=some (finX c s g l))/\(n=45->(ZuX c s g l).val=some (finX c s g l)):=by
 refine⟨?_,?_,?_,?_⟩
 all_goals intro e;subst e
 all_goals simp only[Zvi,Zvh,Zvg,ZuX,RT.val,rgx]
 all_goals simp only[qat0,mat0,qat1,mat1,rg0,hk,Zw,ZZ,Zaf,ZJ,ZK,Zz,ZA,ZaS,ZaV,Zcs,Zcr,Zv,ZaU,finX,spOf]
 all_goals generalize Zc s=bi
 all_goals cases bi with
 |true=>simp[wPC,wSP]
 |false=>
  generalize (s==5)=bs
  simp only[finI,hk,finR,wPC,wSP,wA,wF,fCY,fVCY,ZcX,flOf,ZL,pcOf,Zbd]
  generalize Zb c.1 (g.getD 0 0)=i at hk|-
  generalize Zey _ _=b0
  cases b0<;>simp (config:={implicitDefEqProofs:=false}) [ZbZ,Zbt,ZbI,hk]
theorem fp_8 (c) (s:Int) (g:List Int) (l) (n:Int) (hk:(Zb c.1 (g.getD 0 0)).1=n):(n=31->(Zvb c s g l).val=some (finX c s g l)):=by
 skip
 all_goals intro e;subst e
 all_goals simp only[Zvb,RT.val,rgx]
 all_goals simp only[qat0,mat0,qat1,mat1,rg0,hk,Zw,ZZ,Zaf,ZJ,ZK,Zz,ZA,ZaS,ZaV,Zcs,Zcr,Zv,ZaU,finX,spOf]
 all_goals generalize Zc s=bi
 all_goals cases bi with
 |true=>simp[wPC,wSP]
 |false=>
  generalize (s==5)=bs
  simp only[finI,hk,finR,wPC,wSP,wA,wF,fCY,fVCY,ZcX,flOf,ZL,pcOf,Zbd]
  generalize Zb c.1 (g.getD 0 0)=i at hk|-
  generalize (i.2.2.2.2.1==3)=b0
  cases b0<;>simp (config:={implicitDefEqProofs:=false}) [ZbZ,Zbt,ZbI,hk]
theorem fp_9 (c) (s:Int) (g:List Int) (l) (n:Int) (hk:(Zb c.1 (g.getD 0 0)).1=n):(n=38->(Zu4 c s g l).val=some (finX c s g l)):=by
 skip
 all_goals intro e;subst e
 all_goals simp only[Zu4,RT.val,rgx]
 all_goals simp only[qat0,mat0,qat1,mat1,rg0,hk,Zw,ZZ,Zaf,ZJ,ZK,Zz,ZA,ZaS,ZaV,Zcs,Zcr,Zv,ZaU,finX,spOf]
 all_goals generalize Zc s=bi
 all_goals cases bi with
 |true=>simp[wPC,wSP]
 |false=>
  generalize (s==5)=bs
  simp only[finI,hk,finR,wPC,wSP,wA,wF,fCY,fVCY,ZcX,flOf,ZL,pcOf,Zbd]
  generalize Zb c.1 (g.getD 0 0)=i at hk|-
  simp[ZbZ,Zbt,ZbI,hk,ZVQ]
theorem fp_10 (c) (s:Int) (g:List Int) (l) (n:Int) (hk:(Zb c.1 (g.getD 0 0)).1=n):(n=39->(Zu3 c s g l).val=some (finX c s g l)):=by
 skip
 all_goals intro e;subst e
 all_goals simp only[Zu3,RT.val,rgx]
 all_goals simp only[qat0,mat0,qat1,mat1,rg0,hk,Zw,ZZ,Zaf,ZJ,ZK,Zz,ZA,ZaS,ZaV,Zcs,Zcr,Zv,ZaU,finX,spOf]
 all_goals generalize Zc s=bi
 all_goals cases bi with
 |true=>simp[wPC,wSP]
 |false=>
  generalize (s==5)=bs
  simp only[finI,hk,finR,wPC,wSP,wA,wF,fCY,fVCY,ZcX,flOf,ZL,pcOf,Zbd]
  generalize Zb c.1 (g.getD 0 0)=i at hk|-
  simp[ZbZ,Zbt,ZbI,hk,rSim,ZNA,RT.val]
theorem ZY7 (a:HL Zo) (h:okHL Zo a):∃l,Zde Tryz.prog l/\(Zh (envX Tryz.prog l [] 1023 8) Tryz.f111 Zo Z4 a).val=some (finX a.1 a.2.1 a.2.2.1 a.2.2.2):=by
 have hk:=ZvW a.1.1 _ (Zv1 h.2.2.1)
 refine⟨ZaL (Zb a.1.1 (a.2.2.1.getD 0 0)).1,ZUk _,?_⟩
 rcases ZvV hk.1 hk.2 with e|e|e|e|e|e|e|e|e|e|e|e|e|e|e|e|e|e|e|e|e|e|e|e|e|e|e|e|e|e|e|e|e|e|e|e|e|e|e|e|e|e|e|e|e|e|e
 ·rw[e,ZQl a,((fp_1 a.1 a.2.1 a.2.2.1 a.2.2.2 _ e).1 rfl)]
 ·rw[e,ZQk a,((fp_5 a.1 a.2.1 a.2.2.1 a.2.2.2 _ e).1 rfl)]
 ·rw[e,ZQj a,((fp_2 a.1 a.2.1 a.2.2.1 a.2.2.2 _ e).1 rfl)]
 ·rw[e,ZQi a,((fp_3 a.1 a.2.1 a.2.2.1 a.2.2.2 _ e).1 rfl)]
 ·rw[e,ZQh a,((fp_4 a.1 a.2.1 a.2.2.1 a.2.2.2 _ e).1 rfl)]
 ·rw[e,ZQg a,((fp_1 a.1 a.2.1 a.2.2.1 a.2.2.2 _ e).2.1 rfl)]
 ·rw[e,ZQf a,((fp_2 a.1 a.2.1 a.2.2.1 a.2.2.2 _ e).2.1 rfl)]
 ·rw[e,ZQe a,((fp_3 a.1 a.2.1 a.2.2.1 a.2.2.2 _ e).2.1 rfl)]
 ·rw[e,ZQd a,((fp_4 a.1 a.2.1 a.2.2.1 a.2.2.2 _ e).2.1 rfl)]
 ·rw[e,ZKq a,((fp_1 a.1 a.2.1 a.2.2.1 a.2.2.2 _ e).2.2.1 rfl)]
 ·rw[e,ZKp a,((fp_2 a.1 a.2.1 a.2.2.1 a.2.2.2 _ e).2.2.1 rfl)]
 ·rw[e,ZKo a,((fp_5 a.1 a.2.1 a.2.2.1 a.2.2.2 _ e).2 rfl)]
 ·rw[e,ZKn a,((fp_3 a.1 a.2.1 a.2.2.1 a.2.2.2 _ e).2.2.1 rfl)]
 ·rw[e,ZKm a,((fp_6 a.1 a.2.1 a.2.2.1 a.2.2.2 _ e).1 rfl)]
 ·rw[e,ZKl a,((fp_6 a.1 a.2.1 a.2.2.1 a.2.2.2 _ e).2 rfl)]
 ·rw[e,ZKk a,((fp_4 a.1 a.2.1 a.2.2.1 a.2.2.2 _ e).2.2.1 rfl)]
 ·rw[e,ZKj a,((fp_1 a.1 a.2.1 a.2.2.1 a.2.2.2 _ e).2.2.2.1 rfl)]
 ·rw[e,ZKi a,((fp_2 a.1 a.2.1 a.2.2.1 a.2.2.2 _ e).2.2.2.1 rfl)]
 ·rw[e,ZKh a,((fp_3 a.1 a.2.1 a.2.2.1 a.2.2.2 _ e).2.2.2.1 rfl)]
 ·rw[e,ZKg a,((fp_4 a.1 a.2.1 a.2.2.1 a.2.2.2 _ e).2.2.2.1 rfl)]
 ·rw[e,ZKf a,((fp_1 a.1 a.2.1 a.2.2.1 a.2.2.2 _ e).2.2.2.2.1 rfl)]
 ·rw[e,ZKe a,((fp_2 a.1 a.2.1 a.2.2.1 a.2.2.2 _ e).2.2.2.2.1 rfl)]
 ·rw[e,ZKd a,((fp_3 a.1 a.2.1 a.2.2.1 a.2.2.2 _ e).2.2.2.2.1 rfl)]
 ·rw[e,ZKc a,((fp_7 a.1 a.2.1 a.2.2.1 a.2.2.2 _ e).1 rfl)]
 ·rw[e,ZKb a,((fp_7 a.1 a.2.1 a.2.2.1 a.2.2.2 _ e).2.1 rfl)]
 ·rw[e,ZKa a,((fp_7 a.1 a.2.1 a.2.2.1 a.2.2.2 _ e).2.2.1 rfl)]
 ·rw[e,ZJ9 a,((fp_4 a.1 a.2.1 a.2.2.1 a.2.2.2 _ e).2.2.2.2.1 rfl)]
 ·rw[e,ZJ8 a,((fp_1 a.1 a.2.1 a.2.2.1 a.2.2.2 _ e).2.2.2.2.2.1 rfl)]
 ·rw[e,ZJ7 a,((fp_2 a.1 a.2.1 a.2.2.1 a.2.2.2 _ e).2.2.2.2.2.1 rfl)]
 ·rw[e,ZJ6 a,((fp_3 a.1 a.2.1 a.2.2.1 a.2.2.2 _ e).2.2.2.2.2.1 rfl)]
 ·rw[e,ZJ5 a,((fp_8 a.1 a.2.1 a.2.2.1 a.2.2.2 _ e) rfl)]
 ·rw[e,ZJ4 a,((fp_4 a.1 a.2.1 a.2.2.1 a.2.2.2 _ e).2.2.2.2.2.1 rfl)]
 ·rw[e,ZJ3 a,((fp_1 a.1 a.2.1 a.2.2.1 a.2.2.2 _ e).2.2.2.2.2.2.1 rfl)]
 ·rw[e,ZJ2 a,((fp_2 a.1 a.2.1 a.2.2.1 a.2.2.2 _ e).2.2.2.2.2.2.1 rfl)]
 ·rw[e,ZJ1 a,((fp_3 a.1 a.2.1 a.2.2.1 a.2.2.2 _ e).2.2.2.2.2.2.1 rfl)]
 ·rw[e,ZJ0 a,((fp_4 a.1 a.2.1 a.2.2.1 a.2.2.2 _ e).2.2.2.2.2.2.1 rfl)]
 ·rw[e,ZJZ a,((fp_1 a.1 a.2.1 a.2.2.1 a.2.2.2 _ e).2.2.2.2.2.2.2.1 rfl)]
 ·rw[e,ZJY a,((fp_9 a.1 a.2.1 a.2.2.1 a.2.2.2 _ e) rfl)]
 ·rw[e,ZJX a,((fp_10 a.1 a.2.1 a.2.2.1 a.2.2.2 _ e) rfl)]
 ·rw[e,ZJW a,((fp_2 a.1 a.2.1 a.2.2.1 a.2.2.2 _ e).2.2.2.2.2.2.2.1 rfl)]
 ·rw[e,ZJV a,((fp_3 a.1 a.2.1 a.2.2.1 a.2.2.2 _ e).2.2.2.2.2.2.2.1 rfl)]
 ·rw[e,ZJU a,((fp_4 a.1 a.2.1 a.2.2.1 a.2.2.2 _ e).2.2.2.2.2.2.2.1 rfl)]
 ·rw[e,ZJT a,((fp_1 a.1 a.2.1 a.2.2.1 a.2.2.2 _ e).2.2.2.2.2.2.2.2 rfl)]
 ·rw[e,ZJS a,((fp_2 a.1 a.2.1 a.2.2.1 a.2.2.2 _ e).2.2.2.2.2.2.2.2 rfl)]
 ·rw[e,ZJR a,((fp_7 a.1 a.2.1 a.2.2.1 a.2.2.2 _ e).2.2.2 rfl)]
 ·rw[e,ZJQ a,((fp_3 a.1 a.2.1 a.2.2.1 a.2.2.2 _ e).2.2.2.2.2.2.2.2 rfl)]
 ·rw[e,ZJP a,((fp_4 a.1 a.2.1 a.2.2.1 a.2.2.2 _ e).2.2.2.2.2.2.2.2 rfl)]
def Z0Z:Entry:=Zg Zo Z4 (λ_=>none) (λa=>finX a.1 a.2.1 a.2.2.1 a.2.2.2)
theorem ZY6:Za Tryz.prog 111 Z0Z:=ZlC Tryz.func111 rfl (by kernel_rfl) Tryz.call111 λa h _=>ZY7 a h
theorem ZqV (c op:Int) (h:c≠2):Zb c op=Zb 0 op:=by unfold Zb;rw[ZmB c op h]
theorem ZB0 (c op:Int) (h:c≠2):Zrw c op=Zrw 0 op:=by
 have h1:(c==2)=false:=by simpa using h
 have h0:((0:Int)==2)=false:=rfl
 simp only[Zrw,ZC1,RT.val,ZqV c op h,h1,h0]
theorem ZAn (c op:Int) (h:c≠2):ZfO c op=ZfO 0 op:=by
 have h1:rOn c=false:=by simpa [ZaU] using h
 have h0:rOn 0=false:=rfl
 simp only[ZfO,ZBF,RT.val,ZqV c op h,h1,h0]
def firT (c op:Int):Bool:=Zrw c op==ZfO c op
theorem ZUW (c op:Int) (h:inR .u8 op):Zrw c op=ZfO c op:=by
 by_cases hc:c=2
 ·subst hc;exact eq_of_beq (ZfI (firT 2) (by kernel_rfl) op h)
 ·rw[ZB0 c op hc,ZAn c op hc];exact eq_of_beq (ZfI (firT 0) (by kernel_rfl) op h)
def ZuU:Entry:=Zg ZuS ZuT (λ_=>none) (λa=>ZfO a.1 a.2)
theorem Zrv:Za Tryz.prog 115 ZuU:=ZQa.tot (λa h=>by simp) (λa h=>ZUW _ _ h.2)
end
end Go.Proofs.YtghoimllhpjkjaaGreat
open Go.Proofs.Tryz (prog)
open Go.IntKind (u8 u16 i64)
namespace Go.Proofs.YtghoimllhpjkjaaGreat
noncomputable section
abbrev ZFo:List Sh:=[Sh.agg (R.pair Zx (R.pair (R.int i64) (R.pair (R.sl (R.int u8)) (R.pair (RY) (R.pair (R.int i64) R.bool)))))]
abbrev ZFp:Rs:=Rs.one (Sh.one (R.int i64))
def ZAz (c:QT5):RT (Int):=
 .br (decide (c.2.2.2.2.1<1)||decide (c.2.2.2.2.1>9)) (.leaf (1)) (.leaf c.2.2.2.2.1)
def Zae (c:QT5):Int:=(ZAz c).val
def Zfr:Entry:=Zg ZFo ZFp (λ_=>none) (λa=>Zae a)
theorem Zd7:Za prog 79 Zfr:=
 pureQ 7 [] [] ZFo ZFp trivial Tryz.func79 Tryz.call79 trivial (t:=λa=>ZAz a)
abbrev ZGf:List Sh:=[Sh.agg Zx,Sh.one (R.int i64)]
abbrev ZGg:Rs:=Rs.one (Sh.agg (RY))
def ZOU (c:TC) (s:Int):RT TY:=
 .leaf (Zl c s []).1
def ZWs (c:TC) (s:Int):QT11:=(ZOU c s).val
def Zub:Entry:=Zg ZGf ZGg (λ_=>none) (λa=>ZWs a.1 a.2)
theorem ZnI:Za prog 82 Zub:=
 pureQ 127 [(42,ZFS)] [] ZGf ZGg ⟨Ztg,Tv⟩ Tryz.func82 Tryz.call82 trivial (t:=λa=>ZOU a.1 a.2)
abbrev ZFq:List Sh:=[Sh.agg (R.pair Zx (R.pair (R.int i64) (R.pair (R.sl (R.int u8)) (R.pair (RY) (R.pair (R.int i64) R.bool))))),Sh.one (R.int i64)]
abbrev ZFr:Rs:=Rs.one (Sh.agg (R.pair Zx (R.pair (R.int i64) (R.pair (R.sl (R.int u8)) (R.pair (RY) (R.pair (R.int i64) R.bool))))))
def ZNB (c:QT5) (s:Int):RT (QT5):=
 .leaf ((Zu c.1 s,s,[],ZWs (Zu c.1 s) s,c.2.2.2.2))
def ZFs (c:QT5) (s:Int):QT5:=(ZNB c s).val
def ZAC:Entry:=Zg ZFq ZFr (λ_=>none) (λa=>ZFs a.1 a.2)
theorem ZxE:Za prog 88 ZAC:=
 pureQ 31 [(82,Zub),(97,ZGh)] [] ZFq ZFr ⟨ZnI,ZJl,Tv⟩ Tryz.func88 Tryz.call88 trivial (t:=λa=>ZNB a.1 a.2)
abbrev ZNK:List Sh:=[Sh.agg (R.pair Zx (R.pair (R.int i64) (R.pair (R.sl (R.int u8)) (R.pair (RY) (R.pair (R.int i64) R.bool))))),Sh.one (R.int i64),Sh.one (R.int u8)]
abbrev ZAG:Rs:=Rs.tup [Sh.agg (RY),Sh.one (R.sl (R.int u8))]
def ZiJ (c:QT5) (t:Int) (d:Int):RT (Option (TY×List Int)):=
 let x1:Int:=bif ZcQ c.2.2.2.1.1 then d else c.2.2.2.1.2.2.1
 let x2:List Int:=[]++c.2.2.1++[x1]
 .br (t !=3) (.leaf (some ((c.2.2.2.1,c.2.2.1)))) (.br (!Nat.ble (List.length ([]++c.2.2.1)) most||Nat.ble (List.length x2) most) (.br (Nat.ble (List.length ([]++c.2.2.1)) most) (.leaf (some (((c.2.2.2.1.1,c.2.2.2.1.2.1,x1,bif c.2.2.2.1.1==1||c.2.2.2.1.1==8 then ZfO c.1.1 x1 else c.2.2.2.1.2.2.2),x2)))) (.leaf none)) (.leaf none))
def ZhT (c:QT5) (t:Int) (d:Int):TY×List Int:=getO ZAG.dflt (ZiJ c t d).val
def ZeW (c:QT5) (t:Int) (d:Int):Bool:=okB (ZiJ c t d).val
def ZNN:Entry:=Zg ZNK ZAG (λa=>some (ZeW a.1 a.2.1 a.2.2)) (λa=>ZhT a.1 a.2.1 a.2.2)
theorem ZFA:Za prog 89 ZNN:=
 pureP 1023 [(103,ZmO),(116,ZBG)] [] ZNK ZAG ⟨ZiI,ZxU,Tv⟩ Tryz.func89 Tryz.call89 trivial (t:=λa=>ZiJ a.1 a.2.1 a.2.2)
abbrev ZOD:List Sh:=[Sh.one (R.int i64),Sh.agg (RY)]
abbrev ZOE:Rs:=Rs.one (Sh.one R.bool)
def ZnG (t:Int) (x:QT11):RT (Bool):=
 .br (t==3) (.leaf (decide (x.2.2.2<=3))) (.br (bif t==4 then t==4 else t==5) (.leaf (decide (x.2.2.2<=t))) (.leaf (t==6)))
def Zj1 (t:Int) (x:QT11):Bool:=(ZnG t x).val
def ZOF:Entry:=Zg ZOD ZOE (λ_=>none) (λa=>Zj1 a.1 a.2)
theorem ZF8:Za prog 90 ZOF:=
 pureQ 2143 [] [] ZOD ZOE trivial Tryz.func90 Tryz.call90 trivial (t:=λa=>ZnG a.1 a.2)
abbrev Zq6:List Sh:=[Sh.agg (R.pair Zx (R.pair (R.int i64) (R.pair (R.sl (R.int u8)) (R.pair (RY) (R.pair (R.int i64) R.bool)))))]
abbrev Zq7:Rs:=Rs.one (Sh.one R.bool)
def ZiG (c:QT5):RT (Bool):=
 .leaf (c.1.2.2.2.2.1&&c.2.1==0)
def ZiH (c:QT5):Bool:=(ZiG c).val
def ZmM:Entry:=Zg Zq6 Zq7 (λ_=>none) (λa=>ZiH a)
theorem ZmL:Za prog 86 ZmM:=
 pureQ 7 [] [] Zq6 Zq7 trivial Tryz.func86 Tryz.call86 trivial (t:=λa=>ZiG a)
abbrev ZWg:List Sh:=[Sh.agg (R.pair Zx (R.pair (R.int i64) (R.pair (R.sl (R.int u8)) (R.pair (RY) (R.pair (R.int i64) R.bool))))),Sh.agg (R.pair R.bool (R.pair R.bool rcF7))]
abbrev ZWh:Rs:=Rs.one (Sh.agg (R.pair Zx (R.pair (R.int i64) (R.pair (R.sl (R.int u8)) (R.pair (RY) (R.pair (R.int i64) R.bool))))))
def ZYo (c:QT5) (l:QT0):RT (QT5):=
 let x1:=ZFs (finX c.1 c.2.1 c.2.2.1 l,c.2) (ZfU (finX c.1 c.2.1 c.2.2.1 l) l)
 let x2:=x1.1
 let x3:=x2.2
 let x4:=x3.1
 let x5:=x4.2
 let x6:=x5.2
 let x7:=x6.2
 let x8:=x7.2
 let x9:=x8.2
 let x10:=x9.2
 let x11:=x10.2
 let x12:=x11.1
 let x13:=x12.2
 let x14:=c.1.2.1.2.2.2.2.2.2.2.1.2.2
 let x15:=x13.2
 let x16:=x14.2
 let x17:=x15.2
 let x18:=x16.2
 let x19:=x17.2
 let x20:=x18.2
 let x21:=x19.2
 let x22:=x11.2
 let x23:=x3.2
 let x24:=x23.2
 let x25:=x24.2
 let x26:=x25.2
 let x27:=x26.2
 let x28:=x27.2
 let x29:=x28.2
 let x30:=x29.2
 let x31:=x30.2
 let x32:=x31.2
 let x33:TC:=(bif (Zl c.1 c.2.1 c.2.2.1).2 then c.1.1 else x2.1,(bif (Zl c.1 c.2.1 c.2.2.1).2 then c.1.2.1.1 else x4.1,bif (Zl c.1 c.2.1 c.2.2.1).2 then c.1.2.1.2.1 else x5.1,bif (Zl c.1 c.2.1 c.2.2.1).2 then c.1.2.1.2.2.1 else x6.1,bif (Zl c.1 c.2.1 c.2.2.1).2 then c.1.2.1.2.2.2.1 else x7.1,bif (Zl c.1 c.2.1 c.2.2.1).2 then c.1.2.1.2.2.2.2.1 else x8.1,bif (Zl c.1 c.2.1 c.2.2.1).2 then c.1.2.1.2.2.2.2.2.1 else x9.1,bif (Zl c.1 c.2.1 c.2.2.1).2 then c.1.2.1.2.2.2.2.2.2.1 else x10.1,(bif (Zl c.1 c.2.1 c.2.2.1).2 then c.1.2.1.2.2.2.2.2.2.2.1.1 else x12.1,bif (Zl c.1 c.2.1 c.2.2.1).2 then c.1.2.1.2.2.2.2.2.2.2.1.2.1 else x13.1,bif (Zl c.1 c.2.1 c.2.2.1).2 then x14.1 else x15.1,bif (Zl c.1 c.2.1 c.2.2.1).2 then x16.1 else x17.1,bif (Zl c.1 c.2.1 c.2.2.1).2 then x18.1 else x19.1,bif (Zl c.1 c.2.1 c.2.2.1).2 then x20.1 else x21.1,bif (Zl c.1 c.2.1 c.2.2.1).2 then x20.2 else x21.2),bif (Zl c.1 c.2.1 c.2.2.1).2 then c.1.2.1.2.2.2.2.2.2.2.2.1 else x22.1,bif (Zl c.1 c.2.1 c.2.2.1).2 then c.1.2.1.2.2.2.2.2.2.2.2.2 else x22.2),bif (Zl c.1 c.2.1 c.2.2.1).2 then c.1.2.2.1 else x23.1,bif (Zl c.1 c.2.1 c.2.2.1).2 then c.1.2.2.2.1 else x24.1,bif (Zl c.1 c.2.1 c.2.2.1).2 then c.1.2.2.2.2.1 else x25.1,bif (Zl c.1 c.2.1 c.2.2.1).2 then c.1.2.2.2.2.2.1 else x26.1,bif (Zl c.1 c.2.1 c.2.2.1).2 then c.1.2.2.2.2.2.2.1 else x27.1,bif (Zl c.1 c.2.1 c.2.2.1).2 then c.1.2.2.2.2.2.2.2.1 else x28.1,bif (Zl c.1 c.2.1 c.2.2.1).2 then c.1.2.2.2.2.2.2.2.2.1 else x29.1,bif (Zl c.1 c.2.1 c.2.2.1).2 then c.1.2.2.2.2.2.2.2.2.2.1 else x30.1,bif (Zl c.1 c.2.1 c.2.2.1).2 then c.1.2.2.2.2.2.2.2.2.2.2.1 else x31.1,bif (Zl c.1 c.2.1 c.2.2.1).2 then c.1.2.2.2.2.2.2.2.2.2.2.2.1 else x32.1,bif (Zl c.1 c.2.1 c.2.2.1).2 then c.1.2.2.2.2.2.2.2.2.2.2.2.2 else x32.2)
 let x34:=x1.2
 let x35:Int:=bif (Zl c.1 c.2.1 c.2.2.1).2 then c.2.1 else x34.1
 let x36:=x34.2
 let x37:List Int:=bif (Zl c.1 c.2.1 c.2.2.1).2 then c.2.2.1 else x36.1
 let x38:=x36.2
 let x39:=x38.1
 let x40:=x39.2
 let x41:=x40.2
 let x42:QT11:=(bif (Zl c.1 c.2.1 c.2.2.1).2 then (Zl c.1 c.2.1 c.2.2.1).1.1 else x39.1,bif (Zl c.1 c.2.1 c.2.2.1).2 then (Zl c.1 c.2.1 c.2.2.1).1.2.1 else x40.1,bif (Zl c.1 c.2.1 c.2.2.1).2 then (Zl c.1 c.2.1 c.2.2.1).1.2.2.1 else x41.1,bif (Zl c.1 c.2.1 c.2.2.1).2 then (Zl c.1 c.2.1 c.2.2.1).1.2.2.2 else x41.2)
 let x43:=x38.2
 let x44:=bif (Zl c.1 c.2.1 c.2.2.1).2 then c.2.2.2.2.2 else x43.2
 .leaf ((x33,x35,x37,x42,bif x44 then 8 else bif ZiH (x33,x35,x37,x42,bif (Zl c.1 c.2.1 c.2.2.1).2 then c.2.2.2.2.1 else x43.1,x44) then 9 else 1,false))
def rEnd (c:QT5) (l:QT0):QT5:=(ZYo c l).val
def Z0H:Entry:=Zg ZWg ZWh (λ_=>none) (λa=>rEnd a.1 a.2)
theorem ZYn:Za prog 91 Z0H:=
 pureQ 1168231104639 [(42,ZFS),(86,ZmM),(87,ZNY),(88,ZAC),(98,ZYm)] [] ZWg ZWh ⟨Ztg,ZmL,ZFL,ZxE,ZOt,Tv⟩ Tryz.func91 Tryz.call91 trivial (t:=λa=>ZYo a.1 a.2)
abbrev ZOf:List Sh:=[Sh.one (R.int i64)]
abbrev ZOg:Rs:=Rs.one (Sh.agg (R.pair Zx (R.pair (R.int i64) (R.pair (R.sl (R.int u8)) (R.pair (RY) (R.pair (R.int i64) R.bool))))))
def ZYf (chip:Int):RT (QT5):=
 let x1:TR:=(0,0,0,0,0,0,0,(false,false,false,false,false,false,false),0,0)
 let x2:=ZO (chip,x1,false,false,false,0,false,false,false,false,false,false,false)
 .leaf (((x2.1,x1,false,false,false,x2.2.2.2.2.2.1,false,false,false,false,false,false,false),0,[],(1,0,0,4),1,false))
def rNew (chip:Int):QT5:=(ZYf chip).val
def Z0D:Entry:=Zg ZOf ZOg (λ_=>none) (λa=>rNew a)
theorem ZOe:Za prog 80 Z0D:=
 pureQ 15 [(81,Zs3),(82,Zub)] [] ZOf ZOg ⟨ZmN,ZnI,Tv⟩ Tryz.func80 Tryz.call80 trivial (t:=λa=>ZYf a)
abbrev Zt8:List Sh:=[Sh.agg (R.pair Zx (R.pair (R.int i64) (R.pair (R.sl (R.int u8)) (R.pair (RY) (R.pair (R.int i64) R.bool))))),Sh.agg (R.pair R.bool (R.pair R.bool rcF7)),Sh.one (R.int u8)]
abbrev ZlB:Rs:=Rs.tup [Sh.agg (R.pair Zx (R.pair (R.int i64) (R.pair (R.sl (R.int u8)) (R.pair (RY) (R.pair (R.int i64) R.bool))))),Sh.agg (R.pair (R.int i64) (R.pair (R.int u16) (R.pair (R.int u8) (R.pair R.bool (R.pair R.bool (R.pair R.bool (R.pair R.bool (R.pair R.bool (R.pair R.bool (R.pair R.bool rcF7))))))))))]
def Zj2 (c:QT5) (l:QT0) (d:Int):RT (Option ((QT5)×Int×Int×Int×Bool×Bool×Bool×Bool×Bool×Bool×Bool×Bool×Bool×Bool×Bool×Bool×Bool×Bool)):=
 let x1:QT11:=(bif Zae c==9 then 0 else c.2.2.2.1.1,bif Zae c==9 then c.1.2.1.2.2.2.2.2.2.2.2.2 else c.2.2.2.1.2.1,bif Zae c==9 then 0 else c.2.2.2.1.2.2.1,bif Zae c==9 then 0 else c.2.2.2.1.2.2.2)
 let x2:=c.1.2.2.2.2.2.2.2.2.2.2.2.2
 let x3:QT22:=(ZmQ c.1.1 10 x1 0 c.1.2.2.1 x2).2.2.2.2.2.2
 let x4:=x3.2.2.2.2.2.2.2
 let x5:=ZmQ c.1.1 (Zae c) x1 d c.1.2.2.1 x2
 let x6:QT5:=(Zm c.1 l,c.2.1,[]++c.2.2.1,c.2.2.2)
 let x7:=ZFs x6 (ZfU (Zm c.1 l) l)
 let x8:=x7.2
 let x9:=x8.2.2
 let x10:Int:=bif l.2.1 then 8 else bif ZfU (Zm c.1 l) l !=0 then 1 else 9
 let x11:=ZhT x6 (Zae c) d
 let x12:=x11.1
 let x13:=Zj1 (Zae c) x12
 let x14:=x11.2
 let x15:=rEnd (Zm c.1 l,c.2.1,x14,x12,c.2.2.2.2) l
 let x16:=x15.1
 let x17:=x16.2
 let x18:=x17.1
 let x19:=x18.2
 let x20:=x19.2
 let x21:=x20.2
 let x22:=x21.2
 let x23:=x22.2
 let x24:=x23.2
 let x25:=x24.2
 let x26:=x25.1
 let x27:TF:=(Zm c.1 l).2.1.2.2.2.2.2.2.2.1
 let x28:=x26.2
 let x29:=x27.2
 let x30:=x28.2
 let x31:=x29.2
 let x32:=x30.2
 let x33:=x31.2
 let x34:=x32.2
 let x35:=x33.2
 let x36:=x34.2
 let x37:=x35.2
 let x38:=x25.2
 let x39:Int×Int:=(Zm c.1 l).2.1.2.2.2.2.2.2.2.2
 let x40:=x17.2
 let x41:=x40.2
 let x42:=x41.2
 let x43:=x42.2
 let x44:=x43.2
 let x45:=x44.2
 let x46:=x45.2
 let x47:=x46.2
 let x48:=x47.2
 let x49:Bool×Bool×Bool:=(Zm c.1 l).2.2.2.2.2.2.2.2.2.2
 let x50:=x48.2
 let x51:=x49.2
 let x52:=x15.2
 let x53:=x52.2
 let x54:=x53.2
 let x55:=x54.1
 let x56:=x55.2
 let x57:=x12.2
 let x58:=x56.2
 let x59:=x57.2
 let x60:=x54.2
 .br l.2.2.1 (.leaf (some (((((ZO c.1).1,((ZO c.1).2.1.1,(ZO c.1).2.1.2.1,(ZO c.1).2.1.2.2.1,(ZO c.1).2.1.2.2.2.1,(ZO c.1).2.1.2.2.2.2.1,(ZO c.1).2.1.2.2.2.2.2.1,(ZO c.1).2.1.2.2.2.2.2.2.1,(ZO c.1).2.1.2.2.2.2.2.2.2.1,(ZO c.1).2.1.2.2.2.2.2.2.2.2.1,0),false,false,false,(ZO c.1).2.2.2.2.2.1,false,false,false,false,false,false,false),0,[],(1,0,0,4),1,false),10,0,0,false,false,false,x3.1,false,false,false,false,false,false,x4.1,false,false,x4.2.2.2)))) (.br (Nat.ble (List.length ([]++c.2.2.1)) most) (.br (Zae c==1) (.leaf (some (((Zm c.1 l,c.2.1,[]++c.2.2.1,c.2.2.2.1,2,c.2.2.2.2.2),x5)))) (.br (bif Zae c==2 then Zae c==2 else Zae c==7) (.leaf (some (((Zm c.1 l,c.2.1,[]++c.2.2.1,c.2.2.2.1,bif l.1|| !Zam c.2.2.2.1.1 then 3 else 7,bif l.1|| !Zam c.2.2.2.1.1 then l.2.1 else c.2.2.2.2.2),x5)))) (.br (Zae c==8) (.leaf (some (((Zm c.1 l,c.2.1,bif l.2.1 then []++c.2.2.1 else []++c.2.2.1,c.2.2.2.1,bif l.2.1 then 8 else bif ZiH x6 then 9 else 1,c.2.2.2.2.2),x5)))) (.br (Zae c==9) (.br (ZfU (Zm c.1 l) l !=0) (.leaf (some (((x7.1,x8.1,[],x9.1,x10,x9.2.2),x5)))) (.leaf (some (((Zm c.1 l,c.2.1,[]++c.2.2.1,c.2.2.2.1,x10,c.2.2.2.2.2),x5))))) (.br (ZeW x6 (Zae c) d) (.leaf (some ((((bif x13 then x16.1 else (Zm c.1 l).1,(bif x13 then x18.1 else (Zm c.1 l).2.1.1,bif x13 then x19.1 else (Zm c.1 l).2.1.2.1,bif x13 then x20.1 else (Zm c.1 l).2.1.2.2.1,bif x13 then x21.1 else (Zm c.1 l).2.1.2.2.2.1,bif x13 then x22.1 else (Zm c.1 l).2.1.2.2.2.2.1,bif x13 then x23.1 else (Zm c.1 l).2.1.2.2.2.2.2.1,bif x13 then x24.1 else (Zm c.1 l).2.1.2.2.2.2.2.2.1,(bif x13 then x26.1 else x27.1,bif x13 then x28.1 else x29.1,bif x13 then x30.1 else x31.1,bif x13 then x32.1 else x33.1,bif x13 then x34.1 else x35.1,bif x13 then x36.1 else x37.1,bif x13 then x36.2 else x37.2),bif x13 then x38.1 else x39.1,bif x13 then x38.2 else x39.2),bif x13 then x40.1 else (Zm c.1 l).2.2.1,bif x13 then x41.1 else (Zm c.1 l).2.2.2.1,bif x13 then x42.1 else (Zm c.1 l).2.2.2.2.1,bif x13 then x43.1 else (Zm c.1 l).2.2.2.2.2.1,bif x13 then x44.1 else (Zm c.1 l).2.2.2.2.2.2.1,bif x13 then x45.1 else (Zm c.1 l).2.2.2.2.2.2.2.1,bif x13 then x46.1 else (Zm c.1 l).2.2.2.2.2.2.2.2.1,bif x13 then x47.1 else (Zm c.1 l).2.2.2.2.2.2.2.2.2.1,bif x13 then x48.1 else x49.1,bif x13 then x50.1 else x51.1,bif x13 then x50.2 else x51.2),bif x13 then x52.1 else c.2.1,bif x13 then x53.1 else x14,(bif x13 then x55.1 else x12.1,bif x13 then x56.1 else x57.1,bif x13 then x58.1 else x59.1,bif x13 then x58.2 else x59.2),bif x13 then x60.1 else i64.wrap (Zae c+1),bif x13 then x60.2 else c.2.2.2.2.2),x5)))) (.leaf none)))))) (.leaf none))
def ZWq (c:QT5) (l:QT0) (d:Int):(QT5)×Int×Int×Int×Bool×Bool×Bool×Bool×Bool×Bool×Bool×Bool×Bool×Bool×Bool×Bool×Bool×Bool:=getO ZlB.dflt (Zj2 c l d).val
def ZOO (c:QT5) (l:QT0) (d:Int):Bool:=okB (Zj2 c l d).val
def ZYA:Entry:=Zg Zt8 ZlB (λa=>some (ZOO a.1 a.2.1 a.2.2)) (λa=>ZWq a.1 a.2.1 a.2.2)
theorem ZON:Za Tryz.prog 27 ZYA:=
 pureP 740465775588642560936085758595903342518271 [(79,Zfr),(80,Z0D),(81,Zs3),(82,Zub),(83,ZVZ),(84,Znz),(85,ZxZ),(86,ZmM),(87,ZNY),(88,ZAC),(89,ZNN),(90,ZOF),(91,Z0H)] [] Zt8 ZlB ⟨Zd7,ZOe,ZmN,ZnI,ZTx,Zny,ZBT,ZmL,ZFL,ZxE,ZFA,ZF8,ZYn,Tv⟩ Tryz.func27 Tryz.call27 trivial (t:=λa=>Zj2 a.1 a.2.1 a.2.2)
abbrev LnT:=QT0
abbrev Zht:=CpuT×Int×List Int×Cyc×Int×Bool
def ZaD (n:Int):Int:=bif decide (n<1)||decide (n>9) then 1 else n
def Zzu (c:CpuT) (s:Int):Zht:=(c,s,[],(Zl c s []).1,1,false)
def idlX (c:CpuT) (s:Int) (h:Bool):Int:=bif h then 8 else bif c.2.2.2.2.1&&s==0 then 9 else 1
def endX (c:CpuT) (s:Int) (g:List Int) (h:Bool) (l:LnT):Zht:=
 bif (Zl c s g).2 then (c,s,g,(Zl c s g).1,idlX c s h,false) else
 let q:=finX c s g l
 let k:=ZfU q l
 let d:=Zu q k
 (d,k,[],(Zl d k []).1,idlX d k h,false)
def Zdo (c:CpuT) (x:Cyc) (d:Int):Cyc:=
 let v:=bif ZcQ x.1 then d else x.2.2.1
 (x.1,x.2.1,v,bif x.1==1||x.1==8 then ZfO c.1 v else x.2.2.2)
def le3 (x:Int):Bool:=decide (x<=3)
def Zaa (c:Zht) (l:LnT) (d:Int):Zht:=
 let t:=ZaD c.2.2.2.2.1
 let p:=Zm c.1 l
 let s:=c.2.1
 let g:=c.2.2.1
 let x:=c.2.2.2.1
 let h:=c.2.2.2.2.2
 bif l.2.2.1 then Zzu (ZO c.1) 0 else
 bif t==1 then (p,s,g,x,2,h) else
 bif t==2||t==7 then (bif l.1|| !Zam x.1 then (p,s,g,x,3,l.2.1) else (p,s,g,x,7,h)) else
 bif t==8 then (p,s,g,x,idlX p s l.2.1,h) else
 bif t==9 then
  (let k:=ZfU p l
   bif k==0 then (p,s,g,x,bif l.2.1 then 8 else 9,h) else
   (Zu p k,k,[],(Zl (Zu p k) k []).1,bif l.2.1 then 8 else 1,h)) else
 bif t==3 then
  (let y:=Zdo p x d
   bif le3 y.2.2.2 then endX p s (g++[y.2.2.1]) h l else (p,s,g++[y.2.2.1],y,4,h)) else
 bif decide (t<x.2.2.2)&& !(t==6) then (p,s,g,x,t+1,h) else endX p s g h l
abbrev PinT:=QT12
def ZZI (c:Zht) (t:Int):Cyc:=bif t==9 then (0,c.1.2.1.2.2.2.2.2.2.2.2.2,0,0) else c.2.2.2.1
def Zum (c:Zht) (l:LnT) (d:Int):PinT:=
 let t:=ZaD c.2.2.2.2.1
 ZmQ c.1.1 (bif l.2.2.1 then 10 else t) (ZZI c t) (bif l.2.2.1 then 0 else d) c.1.2.2.1 c.1.2.2.2.2.2.2.2.2.2.2.2.2
theorem ZMX (n:Int):1<=ZaD n/\ZaD n<=9:=by
 unfold ZaD
 by_cases h:n<1\/n>9
 ·have:(decide (n<1)||decide (n>9))=true:=by simpa using h
  rw[this];simp
 ·have:(decide (n<1)||decide (n>9))=false:=by simpa using h
  rw[this];simp only[cond_false];omega
theorem Zxe (c):Zae c=ZaD c.2.2.2.2.1:=rfl
theorem Zxf (c:Zht) (s):ZFs c s=(Zu c.1 s,s,[],(Zl (Zu c.1 s) s []).1,c.2.2.2.2):=rfl
theorem ZX0 (c:Zht) (l:LnT):rEnd c l=endX c.1 c.2.1 c.2.2.1 c.2.2.2.2.2 l:=by
 cases h:(Zl c.1 c.2.1 c.2.2.1).2<;>simp only[rEnd,ZYo,RT.val,h,cond_true,cond_false,Zxf,endX,ZiH,ZiG,idlX]
theorem ZYE (chip:Int) (x:Cyc) (i o:Bool):ZmQ chip 10 x 0 i o=(10,0,0,false,false,false,(ZmQ chip 10 x 0 i o).2.2.2.2.2.2.1,false,false,false,false,false,false,(ZmQ chip 10 x 0 i o).2.2.2.2.2.2.2.2.2.2.2.2.2.1,false,false,(ZmQ chip 10 x 0 i o).2.2.2.2.2.2.2.2.2.2.2.2.2.2.2.2):=by
 simp only[ZmQ,ZFK,RT.val,ZaU]
 generalize (chip==2)=b
 cases b<;>simp
theorem Zxk (c:CpuT):ZO c=((ZO c).1,((ZO c).2.1.1,(ZO c).2.1.2.1,(ZO c).2.1.2.2.1,(ZO c).2.1.2.2.2.1,(ZO c).2.1.2.2.2.2.1,(ZO c).2.1.2.2.2.2.2.1,(ZO c).2.1.2.2.2.2.2.2.1,(ZO c).2.1.2.2.2.2.2.2.2.1,(ZO c).2.1.2.2.2.2.2.2.2.2.1,0),false,false,false,(ZO c).2.2.2.2.2.1,false,false,false,false,false,false,false):=by
 simp only[ZO,ZjX,RT.val,ZaU]
theorem ZW8 (c:CpuT):Zzu (ZO c) 0=(ZO c,0,[],(1,0,0,4),1,false):=by
 simp only[Zzu]
 have:(Zl (ZO c) 0 []).1=(1,0,0,4):=by
  have hp:pcOf (ZO c)=0:=by rw[Zxk];rfl
  simp[Zl,Zgs,Zc,ZjZ,RT.val,hp];rfl
 rw[this]
theorem len1 {α:Type} (l:List α) (x:α) (h:l.length+1<=most):Nat.ble l.length most=true/\Nat.ble (l++[x]).length most=true:=by
 rw[Nat.ble_eq,Nat.ble_eq];simp only[List.length_append,List.length_cons,List.length_nil];omega
theorem ZTb (c:Zht) (d:Int) (hg:c.2.2.1.length+1<=most):(ZiJ c 3 d).val=some (Zdo c.1 c.2.2.2.1 d,c.2.2.1++[(Zdo c.1 c.2.2.2.1 d).2.2.1]):=by
 have h:=len1 c.2.2.1 (bif ZcQ c.2.2.2.1.1 then d else c.2.2.2.1.2.2.1) hg
 simp only[ZiJ,RT.val,List.nil_append,h.1,h.2,Bool.not_true,Bool.false_or,cond_true,Zdo,bne_self_eq_false,cond_false]
theorem Zmw (c:Zht) (t d:Int) (ht:t≠3):(ZiJ c t d).val=some (c.2.2.2.1,c.2.2.1):=by
 have:(t !=3)=true:=by simpa using ht
 simp only[ZiJ,RT.val,this,cond_true]
theorem Z1d (t x:Int):decide (t<x)= !decide (x<=t):=by by_cases h:x<=t<;>simp[h]<;>omega
theorem Zxl (c:Zht) (l:LnT) (d:Int) (hg:c.2.2.1.length+1<=most):(Zj2 c l d).val=some (Zaa c l d,Zum c l d):=by
 obtain⟨t1,t2⟩:=ZMX c.2.2.2.2.1
 have hx:ZZI c (ZaD c.2.2.2.2.1)=(bif ZaD c.2.2.2.2.1==9 then 0 else c.2.2.2.1.1,bif ZaD c.2.2.2.2.1==9 then c.1.2.1.2.2.2.2.2.2.2.2.2 else c.2.2.2.1.2.1,bif ZaD c.2.2.2.2.1==9 then 0 else c.2.2.2.1.2.2.1,bif ZaD c.2.2.2.2.1==9 then 0 else c.2.2.2.1.2.2.2):=by
  unfold ZZI;cases ZaD c.2.2.2.2.1==9<;>simp only[cond_true,cond_false,Bool.not_true,Bool.not_false,Bool.and_true,Bool.and_false,Bool.false_and,Bool.true_and,Bool.or_true,Bool.or_false,Bool.true_or,Bool.false_or]
 have hl:Nat.ble c.2.2.1.length most=true:=(len1 c.2.2.1 0 hg).1
 cases hr:l.2.2.1 with
 |true=>
  simp only[Zj2,RT.val,hr,cond_true,Zaa,Zum,ZW8,Zxe,<-hx]
  rw[<-ZYE,<-Zxk]
 |false=>
  simp only[Zj2,RT.val,hr,cond_false,List.nil_append,hl,cond_true,Zxe,Zxf,ZX0,<-hx,Zum]
  have:ZaD c.2.2.2.2.1=1\/ZaD c.2.2.2.2.1=2\/ZaD c.2.2.2.2.1=7\/ZaD c.2.2.2.2.1=3\/ZaD c.2.2.2.2.1=4\/ZaD c.2.2.2.2.1=5\/ZaD c.2.2.2.2.1=6\/ZaD c.2.2.2.2.1=8\/ZaD c.2.2.2.2.1=9:=by omega
  have q3:=ZTb (Zm c.1 l,c.2.1,c.2.2.1,c.2.2.2) d hg
  rcases this with h|h|h|h|h|h|h|h|h
  ·simp only[Zaa,hr,h,Int.reduceBEq,cond_true,cond_false]
  ·simp only[Zaa,hr,h,Int.reduceBEq,cond_true,cond_false,Bool.true_or]
   cases l.1|| !Zam c.2.2.2.1.1<;>simp only[cond_true,cond_false,Bool.not_true,Bool.not_false,Bool.and_true,Bool.and_false,Bool.false_and,Bool.true_and,Bool.or_true,Bool.or_false,Bool.true_or,Bool.false_or]
  ·simp only[Zaa,hr,h,Int.reduceBEq,cond_true,cond_false,Bool.or_true]
   cases l.1|| !Zam c.2.2.2.1.1<;>simp only[cond_true,cond_false,Bool.not_true,Bool.not_false,Bool.and_true,Bool.and_false,Bool.false_and,Bool.true_and,Bool.or_true,Bool.or_false,Bool.true_or,Bool.false_or]
  ·have e1:ZeW (Zm c.1 l,c.2.1,c.2.2.1,c.2.2.2) 3 d=true:=by simp only[ZeW,q3,okB]
   have e2:ZhT (Zm c.1 l,c.2.1,c.2.2.1,c.2.2.2) 3 d=(Zdo (Zm c.1 l) c.2.2.2.1 d,c.2.2.1++[(Zdo (Zm c.1 l) c.2.2.2.1 d).2.2.1]):=by simp only[ZhT,q3,getO]
   simp only[Zaa,hr,h,Int.reduceBEq,cond_true,cond_false,Bool.or_self,e1,e2,Zj1,ZnG,RT.val]
   rw[show decide ((Zdo (Zm c.1 l) c.2.2.2.1 d).2.2.2<=3)=le3 (Zdo (Zm c.1 l) c.2.2.2.1 d).2.2.2 from rfl]
   cases le3 (Zdo (Zm c.1 l) c.2.2.2.1 d).2.2.2<;>rfl
  ·have q:=Zmw (Zm c.1 l,c.2.1,c.2.2.1,c.2.2.2) 4 d (by decide)
   have e1:ZeW (Zm c.1 l,c.2.1,c.2.2.1,c.2.2.2) 4 d=true:=by simp only[ZeW,q,okB]
   have e2:ZhT (Zm c.1 l,c.2.1,c.2.2.1,c.2.2.2) 4 d=(c.2.2.2.1,c.2.2.1):=by simp only[ZhT,q,getO]
   simp only[Zaa,hr,h,Int.reduceBEq,cond_true,cond_false,Bool.or_self,Bool.not_false,Bool.and_true,e1,e2,Zj1,ZnG,RT.val,show IntKind.wrap .i64 (4+1)=4+1 from rfl,Z1d]
   cases decide (c.2.2.2.1.2.2.2<=4)<;>rfl
  ·have q:=Zmw (Zm c.1 l,c.2.1,c.2.2.1,c.2.2.2) 5 d (by decide)
   have e1:ZeW (Zm c.1 l,c.2.1,c.2.2.1,c.2.2.2) 5 d=true:=by simp only[ZeW,q,okB]
   have e2:ZhT (Zm c.1 l,c.2.1,c.2.2.1,c.2.2.2) 5 d=(c.2.2.2.1,c.2.2.1):=by simp only[ZhT,q,getO]
   simp only[Zaa,hr,h,Int.reduceBEq,cond_true,cond_false,Bool.or_self,Bool.not_false,Bool.and_true,e1,e2,Zj1,ZnG,RT.val,show IntKind.wrap .i64 (5+1)=5+1 from rfl,Z1d]
   cases decide (c.2.2.2.1.2.2.2<=5)<;>rfl
  ·have q:=Zmw (Zm c.1 l,c.2.1,c.2.2.1,c.2.2.2) 6 d (by decide)
   have e1:ZeW (Zm c.1 l,c.2.1,c.2.2.1,c.2.2.2) 6 d=true:=by simp only[ZeW,q,okB]
   have e2:ZhT (Zm c.1 l,c.2.1,c.2.2.1,c.2.2.2) 6 d=(c.2.2.2.1,c.2.2.1):=by simp only[ZhT,q,getO]
   simp only[Zaa,hr,h,Int.reduceBEq,cond_true,cond_false,Bool.or_self,Bool.not_true,Bool.and_false,e1,e2,Zj1,ZnG,RT.val]
  ·simp only[Zaa,hr,h,Int.reduceBEq,cond_true,cond_false,Bool.or_self,ZiH,ZiG,RT.val,idlX]
   cases l.2.1<;>rfl
  ·have hb:(ZfU (Zm c.1 l) l !=0)= !(ZfU (Zm c.1 l) l==0):=rfl
   simp only[Zaa,hr,h,Int.reduceBEq,cond_true,cond_false,Bool.or_self,hb]
   cases hk:(ZfU (Zm c.1 l) l==0)<;>rfl
def ZNp (c:Zht):Bool:=Nat.ble (c.2.2.1.length+1) most
theorem Zmz {c:Zht}:ZNp c=true↔c.2.2.1.length+1<=most:=by simp[ZNp]
def clkX (c:Zht) (l:LnT) (d:Int):Zht×PinT:=(Zaa c l d,Zum c l d)
def ZGc:Entry:=Zg Zt8 ZlB (λa=>some (ZNp a.1)) (λa=>clkX a.1 a.2.1 a.2.2)
theorem ZJk:Za Tryz.prog 27 ZGc:=ZON.pure_congr
 (λa h hp=>by have h1:=Zxl a.1 a.2.1 a.2.2 (Zmz.1 (by simpa using hp));simp[ZOO,h1,okB])
 (λa h hp=>by have h1:=Zxl a.1 a.2.1 a.2.2 (Zmz.1 (by simpa using hp));simp only[ZWq,h1,getO,clkX])
def newX (chip:Int):Zht:=Zzu (ZO (chip,(0,0,0,0,0,0,0,(false,false,false,false,false,false,false),0,0),false,false,false,0,false,false,false,false,false,false,false)) 0
theorem ZXX (chip:Int):rNew chip=newX chip:=by
 unfold newX
 rw[ZW8]
 simp only[rNew,ZYf,RT.val,ZO,ZjX,ZaU]
def ZV7:Entry:=Zg ZOf ZOg (λ_=>none) (λa=>newX a)
theorem ZTG:Za Tryz.prog 80 ZV7:=ZOe.tot (λa h=>by simp) (λa h=>ZXX _)
abbrev ZHg:List Sh:=[Sh.one (R.int i64),Sh.one (R.int i64)]
abbrev ZvP:Rs:=Rs.one (Sh.one (R.int i64))
def Zpf (x:Int) (n:Int):RT (Option (Int)):=
 .br (IntKind.u64.wrap n !=0) (.leaf (some (i64.wrap (Int.tmod (IntKind.u64.wrap x) (IntKind.u64.wrap n))))) (.leaf none)
def ZHh (x:Int) (n:Int):Int:=getO ZvP.dflt (Zpf x n).val
def ZvQ (x:Int) (n:Int):Bool:=okB (Zpf x n).val
def ZRf:Entry:=Zg ZHg ZvP (λa=>some (ZvQ a.1 a.2)) (λa=>ZHh a.1 a.2)
theorem ZRd:Za prog 24 ZRf:=
 pureP 31 [] [] ZHg ZvP trivial Tryz.func24 Tryz.call24 trivial (t:=λa=>Zpf a.1 a.2)
abbrev ZDv:R:=R.pair (R.sl (R.int i64)) (R.int i64)
abbrev ZQN:List Sh:=[Sh.one (R.int i64)]
abbrev ZDu:Rs:=Rs.one (Sh.one (R.int i64))
def ZoX (s:List Int×Int) (n:Int):RT (Option (QT20)):=
 let x1:=Zf (i64.wrap (i64.wrap (s.2+1)-1)) (List.length s.1)
 let x2:Int:=R.get (R.int i64) s.1 (i64.wrap (i64.wrap (s.2+1)-1))
 .br (decide (s.2>=iN (List.length s.1))) (.leaf (some ((0,s.1,i64.wrap (s.2+1))))) (.br (!x1||ZvQ x2 n) (.br (x1) (.leaf (some ((ZHh x2 n,s.1,i64.wrap (s.2+1))))) (.leaf none)) (.leaf none))
def Zd (s:List Int×Int) (n:Int):QT20:=getO (ZDu.dflt,ZDv.dflt) (ZoX s n).val
def Zp (s:List Int×Int) (n:Int):Bool:=okB (ZoX s n).val
def ZcE:Entry:=boxE ZDv ZQN ZDu (λa=>some (Zp a.1 a.2)) (λa=>Zd a.1 a.2)
theorem Zbc:Za prog 46 ZcE:=
 Zck (P:=prog) (n:=31) (k:=8) (l:=[(24,ZRf)]) (ol:=[]) ⟨ZRd,Tv⟩ Tryz.func46 rfl (by kernel_rfl) Tryz.call46 trivial (rb:=ZDv) (ts:=ZQN) (rs:=ZDu) (t:=λa=>ZoX a.1 a.2) (λa=>by kernel_rfl)
abbrev ZDB:R:=R.pair (R.sl (R.int i64)) (R.int i64)
abbrev ZQX:List Sh:=[]
abbrev ZDA:Rs:=Rs.one (Sh.one (R.int u8))
def Zo4 (s:List Int×Int):RT (Option (QT20)):=
 let x1:List Int:=[0,1,127,128,255,15,16,153,154,9,102,254,129,85,170,64]
 .br (Zp s 512) (.br (!decide ((Zd s 512).1>=256)||Zf (Int.tmod (Zd s 512).1 16) (List.length x1)) (.br (decide ((Zd s 512).1>=256)) (.leaf (some ((R.get (R.int u8) x1 (Int.tmod (Zd s 512).1 16),(Zd s 512).2)))) (.leaf (some ((u8.wrap (Zd s 512).1,(Zd s 512).2))))) (.leaf none)) (.leaf none)
def ZcO (s:List Int×Int):QT20:=getO (ZDA.dflt,ZDB.dflt) (Zo4 s).val
def Zgz (s:List Int×Int):Bool:=okB (Zo4 s).val
def ZyE:Entry:=boxE ZDB ZQX ZDA (λa=>some (Zgz a.1)) (λa=>ZcO a.1)
theorem ZlL:Za prog 108 ZyE:=
 Zck (P:=prog) (n:=15) (k:=8) (l:=[(46,ZcE)]) (ol:=[]) ⟨Zbc,Tv⟩ Tryz.func108 rfl (by kernel_rfl) Tryz.call108 trivial (rb:=ZDB) (ts:=ZQX) (rs:=ZDA) (t:=λa=>Zo4 a.1) (λa=>by kernel_rfl)
abbrev ZDo:R:=R.pair (R.sl (R.int i64)) (R.int i64)
abbrev ZQL:List Sh:=[]
abbrev ZDn:Rs:=Rs.one (Sh.one (R.int u16))
def Zi7 (s:List Int×Int):RT (Option (QT20)):=
 let x1:List Int:=[0,1,65535,65534,32767,32768,255,256]
 let x2:= !(Zd s 5).1==0||(!Zp (Zd s 5).2 8||Zf (Zd (Zd s 5).2 8).1 (List.length x1))
 let x3:= !x2
 let x4:= !(Zd s 5).1==0||Zp (Zd s 5).2 8
 .br (Zp s 5) (.br (x3||(!x4||((Zd s 5).1==0||(!(Zd s 5).1==1||Zp (Zd s 5).2 65536)))) (.br (x3||x4) (.br (x2) (.br ((Zd s 5).1==0) (.leaf (some ((R.get (R.int u16) x1 (Zd (Zd s 5).2 8).1,(Zd (Zd s 5).2 8).2)))) (.br ((Zd s 5).1==1) (.leaf (some ((u16.wrap (Zd (Zd s 5).2 65536).1,(Zd (Zd s 5).2 65536).2)))) (.br (Zp (Zd s 5).2 64) (.leaf (some ((u16.wrap (Zd (Zd s 5).2 64).1,(Zd (Zd s 5).2 64).2)))) (.leaf none)))) (.leaf none)) (.leaf none)) (.leaf none)) (.leaf none)
def ZbK (s:List Int×Int):QT20:=getO (ZDn.dflt,ZDo.dflt) (Zi7 s).val
def ZfP (s:List Int×Int):Bool:=okB (Zi7 s).val
def ZQM:Entry:=boxE ZDo ZQL ZDn (λa=>some (ZfP a.1)) (λa=>ZbK a.1)
theorem ZG2:Za prog 137 ZQM:=
 Zck (P:=prog) (n:=4135) (k:=8) (l:=[(46,ZcE)]) (ol:=[]) ⟨Zbc,Tv⟩ Tryz.func137 rfl (by kernel_rfl) Tryz.call137 trivial (rb:=ZDo) (ts:=ZQL) (rs:=ZDn) (t:=λa=>Zi7 a.1) (λa=>by kernel_rfl)
abbrev ZDz:R:=R.pair (R.sl (R.int i64)) (R.int i64)
abbrev ZQV:List Sh:=[]
abbrev ZDy:Rs:=Rs.one (Sh.one (R.int i64))
def ZyD (s:List Int×Int):RT (Option (QT20)):=
 .br (Zp s 2) (.leaf (some ((i64.wrap (1+(Zd s 2).1),(Zd s 2).2)))) (.leaf none)
def Za2 (s:List Int×Int):QT20:=getO (ZDy.dflt,ZDz.dflt) (ZyD s).val
def Zo3 (s:List Int×Int):Bool:=okB (ZyD s).val
def ZQW:Entry:=boxE ZDz ZQV ZDy (λa=>some (Zo3 a.1)) (λa=>Za2 a.1)
theorem ZG7:Za prog 72 ZQW:=
 Zck (P:=prog) (n:=7) (k:=8) (l:=[(46,ZcE)]) (ol:=[]) ⟨Zbc,Tv⟩ Tryz.func72 rfl (by kernel_rfl) Tryz.call72 trivial (rb:=ZDz) (ts:=ZQV) (rs:=ZDy) (t:=λa=>ZyD a.1) (λa=>by kernel_rfl)
abbrev ZoW:R:=R.pair (R.sl (R.int i64)) (R.int i64)
abbrev ZyA:List Sh:=[]
abbrev ZoV:Rs:=Rs.one (Sh.one (R.int u8))
def Zfw (s:List Int×Int):RT (Option (QT20)):=
 let x1:List Int:=[251,243,118,205,201,197,227,211,219,54,52,32,48,194,202,255,62,49]
 .br (Zp s 3) (.br (!decide ((Zd s 3).1>0)||Zp (Zd s 3).2 256) (.br (decide ((Zd s 3).1>0)) (.leaf (some ((u8.wrap (Zd (Zd s 3).2 256).1,(Zd (Zd s 3).2 256).2)))) (.br (!Zp (Zd s 3).2 18||Zf (Zd (Zd s 3).2 18).1 (List.length x1)) (.br (Zp (Zd s 3).2 18) (.leaf (some ((R.get (R.int u8) x1 (Zd (Zd s 3).2 18).1,(Zd (Zd s 3).2 18).2)))) (.leaf none)) (.leaf none))) (.leaf none)) (.leaf none)
def Zas (s:List Int×Int):QT20:=getO (ZoV.dflt,ZoW.dflt) (Zfw s).val
def Zb7 (s:List Int×Int):Bool:=okB (Zfw s).val
def Zhb:Entry:=boxE ZoW ZyA ZoV (λa=>some (Zb7 a.1)) (λa=>Zas a.1)
theorem Ze1:Za prog 109 Zhb:=
 Zck (P:=prog) (n:=7) (k:=8) (l:=[(46,ZcE)]) (ol:=[]) ⟨Zbc,Tv⟩ Tryz.func109 rfl (by kernel_rfl) Tryz.call109 trivial (rb:=ZoW) (ts:=ZyA) (rs:=ZoV) (t:=λa=>Zfw a.1) (λa=>by kernel_rfl)
def NB (s:List Int×Int) (k:Int):Prop:=0<=s.2/\s.2<=k
theorem ZRe (x n:Int) (h0:0<n) (h1:n<=4611686018427387904):ZvQ x n=true/\ZHh x n=(x%18446744073709551616)%n:=by
 have e:IntKind.wrap .u64 n=n:=ZlW ⟨by simp[IntKind.min,IntKind.signed];omega,by simp[IntKind.max,IntKind.signed,IntKind.bits];omega⟩
 have e2:IntKind.wrap .u64 x=x%18446744073709551616:=by simp[IntKind.wrap,IntKind.signed,IntKind.bits]
 have hn:(n !=0)=true:=by simp;omega
 have h2:0<=x%18446744073709551616:=Int.emod_nonneg _ (by decide)
 have h3:=Int.emod_nonneg (x%18446744073709551616) (b:=n) (by omega)
 have h4:=Int.emod_lt_of_pos (x%18446744073709551616) (b:=n) h0
 have hv:(Zpf x n).val=some ((x%18446744073709551616)%n):=by
  simp only[Zpf,RT.val,e,e2,hn,cond_true,Int.tmod_eq_emod_of_nonneg h2]
  rw[wrap_i64 _ (by omega) (by omega)]
 exact⟨by simp only[ZvQ,hv];rfl,by simp only[ZHh,hv,getO]⟩
theorem ZH {s:List Int×Int} {k:Int} (h:NB s k) (hk:k<=1000000) (n:Int) (h0:0<n) (h1:n<=4611686018427387904):
  Zp s n=true/\NB (Zd s n).2 (k+1)/\0<=(Zd s n).1/\(Zd s n).1<n:=by
 obtain⟨ha,hb⟩:=h
 have e1:IntKind.wrap .i64 (s.2+1)=s.2+1:=wrap_i64 _ (by omega) (by omega)
 have e2:IntKind.wrap .i64 s.2=s.2:=wrap_i64 _ (by omega) (by omega)
 by_cases hl:(s.1.length:Int)<=s.2
 ·have hv:(ZoX s n).val=some (0,s.1,s.2+1):=by simp[ZoX,RT.val,iN,hl,e1]
  simp only[Zp,Zd,hv,okB,getO,NB]
  exact⟨trivial,⟨by omega,by omega⟩,by omega,h0⟩
 ·have hr:Zf s.2 s.1.length=true:=ZI.2 ⟨ha,by omega⟩
  obtain⟨p1,p2⟩:=ZRe (R.get (R.int i64) s.1 s.2) n h0 h1
  have h3:=Int.emod_nonneg (R.get (R.int i64) s.1 s.2%18446744073709551616) (b:=n) (by omega)
  have h4:=Int.emod_lt_of_pos (R.get (R.int i64) s.1 s.2%18446744073709551616) (b:=n) h0
  have hv:(ZoX s n).val=some ((R.get (R.int i64) s.1 s.2%18446744073709551616)%n,s.1,s.2+1):=by simp[ZoX,RT.val,iN,hl,e1,e2,hr,p1,p2]
  simp only[Zp,Zd,hv,okB,getO,NB]
  exact⟨trivial,⟨by omega,by omega⟩,h3,h4⟩
theorem ZlM {s:List Int×Int} {k:Int} (h:NB s k) (hk:k<=1000000):Zgz s=true/\NB (ZcO s).2 (k+1)/\inR .u8 (ZcO s).1:=by
 obtain⟨c,b,d0,d1⟩:=ZH h hk 512 (by decide) (by decide)
 have m0:0<=(Zd s 512).1%16:=Int.emod_nonneg _ (by decide)
 have m1:(Zd s 512).1%16<16:=Int.emod_lt_of_pos _ (by decide)
 have ht:Int.tmod (Zd s 512).1 16=(Zd s 512).1%16:=Int.tmod_eq_emod_of_nonneg d0
 by_cases hn:256<=(Zd s 512).1
 ·have hv:(Zo4 s).val=some (R.get (R.int u8) [0,1,127,128,255,15,16,153,154,9,102,254,129,85,170,64] ((Zd s 512).1%16),(Zd s 512).2):=by
   simp[Zo4,RT.val,c,hn,ht,Zf,m0,m1]
  simp only[Zgz,ZcO,hv,okB,getO]
  refine⟨trivial,b,?_⟩
  have hall:∀i:Nat,i<16->inR .u8 (([0,1,127,128,255,15,16,153,154,9,102,254,129,85,170,64]:List Int).getD i 0):=by
   intro i hi
   have:∀i:Fin 16,decide (0<=([0,1,127,128,255,15,16,153,154,9,102,254,129,85,170,64]:List Int).getD i 0)&&decide (([0,1,127,128,255,15,16,153,154,9,102,254,129,85,170,64]:List Int).getD i 0<=255):=by decide
   have:=this ⟨i,hi⟩
   rw[ZgF];simpa using this
  exact hall ((Zd s 512).1%16).toNat (by omega)
 ·have hv:(Zo4 s).val=some (IntKind.wrap .u8 (Zd s 512).1,(Zd s 512).2):=by simp[Zo4,RT.val,c,hn]
  simp only[Zgz,ZcO,hv,okB,getO]
  exact⟨trivial,b,Zbe _ _⟩
theorem ZUz {s:List Int×Int} {k:Int} (h:NB s k) (hk:k<=900000):ZfP s=true/\NB (ZbK s).2 (k+2)/\inR .u16 (ZbK s).1:=by
 obtain⟨c,b,d0,d1⟩:=ZH h (by omega) 5 (by decide) (by decide)
 obtain⟨c8,b8,e0,e1⟩:=ZH b (by omega) 8 (by decide) (by decide)
 obtain⟨c6,b6,_⟩:=ZH b (by omega) 65536 (by decide) (by decide)
 obtain⟨c4,b4,_⟩:=ZH b (by omega) 64 (by decide) (by decide)
 have w:∀{t:List Int×Int},NB t (k+1+1)->NB t (k+2):=λh=>⟨h.1,by have:=h.2;omega⟩
 have hr:Zf (Zd (Zd s 5).2 8).1 8=true:=ZI.2 ⟨e0,by omega⟩
 by_cases h0:(Zd s 5).1=0
 ·have hv:(Zi7 s).val=some (R.get (R.int u16) [0,1,65535,65534,32767,32768,255,256] (Zd (Zd s 5).2 8).1,(Zd (Zd s 5).2 8).2):=by
   simp[Zi7,RT.val,c,h0,c8,hr]
  simp only[ZfP,ZbK,hv,okB,getO]
  refine⟨trivial,w b8,?_⟩
  have hall:∀i:Nat,i<8->inR .u16 (([0,1,65535,65534,32767,32768,255,256]:List Int).getD i 0):=by
   intro i hi
   have:∀i:Fin 8,decide (0<=([0,1,65535,65534,32767,32768,255,256]:List Int).getD i 0)&&decide (([0,1,65535,65534,32767,32768,255,256]:List Int).getD i 0<=65535):=by decide
   have:=this ⟨i,hi⟩
   simp only[Bool.and_eq_true,decide_eq_true_eq] at this
   exact⟨by simpa [IntKind.min,IntKind.signed] using this.1,by simpa [IntKind.max,IntKind.signed,IntKind.bits] using this.2⟩
  exact hall (Zd (Zd s 5).2 8).1.toNat (by omega)
 ·by_cases h1:(Zd s 5).1=1
  ·have hv:(Zi7 s).val=some (IntKind.wrap .u16 (Zd (Zd s 5).2 65536).1,(Zd (Zd s 5).2 65536).2):=by simp[Zi7,RT.val,c,h1,c6]
   simp only[ZfP,ZbK,hv,okB,getO]
   exact⟨trivial,w b6,Zbe _ _⟩
  ·have hv:(Zi7 s).val=some (IntKind.wrap .u16 (Zd (Zd s 5).2 64).1,(Zd (Zd s 5).2 64).2):=by
    have g0:((Zd s 5).1==0)=false:=by simpa using h0
    have g1:((Zd s 5).1==1)=false:=by simpa using h1
    simp[Zi7,RT.val,c,g0,g1,c4]
   simp only[ZfP,ZbK,hv,okB,getO]
   exact⟨trivial,w b4,Zbe _ _⟩
theorem ZUB {s:List Int×Int} {k:Int} (h:NB s k) (hk:k<=1000000):Zo3 s=true/\NB (Za2 s).2 (k+1)/\((Za2 s).1=1\/(Za2 s).1=2):=by
 obtain⟨c,b,d0,d1⟩:=ZH h hk 2 (by decide) (by decide)
 have hv:(ZyD s).val=some (1+(Zd s 2).1,(Zd s 2).2):=by simp[ZyD,RT.val,c];rw[wrap_i64 _ (by omega) (by omega)]
 simp only[Zo3,Za2,hv,okB,getO]
 exact⟨trivial,b,by omega⟩
theorem Zkg {s:List Int×Int} {k:Int} (h:NB s k) (hk:k<=900000):Zb7 s=true/\NB (Zas s).2 (k+2)/\inR .u8 (Zas s).1:=by
 obtain⟨c,b,d0,d1⟩:=ZH h (by omega) 3 (by decide) (by decide)
 have w:∀{t:List Int×Int},NB t (k+1+1)->NB t (k+2):=λh=>⟨h.1,by have:=h.2;omega⟩
 by_cases hn:0<(Zd s 3).1
 ·have hk':k+1<=1000001:=by omega
  obtain⟨c2,b2,_⟩:=ZH b (by omega) 256 (by decide) (by decide)
  have hv:(Zfw s).val=some (IntKind.wrap .u8 (Zd (Zd s 3).2 256).1,(Zd (Zd s 3).2 256).2):=by simp[Zfw,RT.val,c,hn,c2]
  simp only[Zb7,Zas,hv,okB,getO]
  exact⟨trivial,w b2,Zbe _ _⟩
 ·obtain⟨c2,b2,e0,e1⟩:=ZH b (by omega) 18 (by decide) (by decide)
  have hr:Zf (Zd (Zd s 3).2 18).1 18=true:=ZI.2 ⟨e0,by omega⟩
  have hv:(Zfw s).val=some (R.get (R.int u8) [251,243,118,205,201,197,227,211,219,54,52,32,48,194,202,255,62,49] (Zd (Zd s 3).2 18).1,(Zd (Zd s 3).2 18).2):=by
   simp[Zfw,RT.val,c,hn,c2,hr]
  simp only[Zb7,Zas,hv,okB,getO]
  refine⟨trivial,w b2,?_⟩
  have hall:∀i:Nat,i<18->inR .u8 (([251,243,118,205,201,197,227,211,219,54,52,32,48,194,202,255,62,49]:List Int).getD i 0):=by
   intro i hi
   have:∀i:Fin 18,decide (0<=([251,243,118,205,201,197,227,211,219,54,52,32,48,194,202,255,62,49]:List Int).getD i 0)&&decide (([251,243,118,205,201,197,227,211,219,54,52,32,48,194,202,255,62,49]:List Int).getD i 0<=255):=by decide
   have:=this ⟨i,hi⟩
   rw[ZgF];simpa using this
  exact hall (Zd (Zd s 3).2 18).1.toNat (by omega)
theorem ZZO (l:List Int):NB (l,0) 0:=⟨by simp,by simp⟩
end
end Go.Proofs.YtghoimllhpjkjaaGreat
