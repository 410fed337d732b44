import Derived.Test.YtpnjbfjomebppaaGreatFinRX
import Derived.Test.YtpnjbfjomebppaaGreatFin1
import Derived.Test.YtpnjbfjomebppaaGreatFin2
import Derived.Test.YtpnjbfjomebppaaGreatFin3
import Derived.Test.YtpnjbfjomebppaaGreatFin4
open Go Go.S3 Go.Proofs
set_option linter.unusedVariables false
set_option linter.unusedSimpArgs false
set_option maxRecDepth 100000
namespace Go.Proofs.YtpnjbfjomebppaaGreat
noncomputable section
theorem fp_1 (c) (s:Int) (g:List Int) (l) (n:Int) (hk:(Zc c.1 (g.getD 0 0)).1=n):(n=1->(ZBu c s g l).val=some (finX c s g l))/\(n=6->(ZBp c s g l).val=some (finX c s g l))/\(n=10->(Zub c s g l).val=some (finX c s g l))/\(n=17->(Zt4 c s g l).val=some (finX c s g l))/\(n=21->(Zt0 c s g l).val=some (finX c s g l))/\(n=28->(ZtT c s g l).val=some (finX c s g l))/\(n=33->(ZtO c s g l).val=some (finX c s g l))/\(n=37->(ZtK c s g l).val=some (finX c s g l))/\(n=43->(ZtE c s g l).val=some (finX c s g l)):=by
 refine⟨?_,?_,?_,?_,?_,?_,?_,?_,?_⟩;all_goals intro e;subst e
 all_goals simp only[ZBu,ZBp,Zub,Zt4,Zt0,ZtT,ZtO,ZtK,ZtE,RT.val,rgx]
 all_goals simp only[qat0,mat0,qat1,mat1,rg0,hk,ZH,Zaq,Za4,Z9,Zaa,ZV,ZW,Zct,Zcv,ZhG,ZhF,ZG,Zbw,finX,spOf]
 all_goals generalize Zd s=bi
 all_goals cases bi with
 |true=>simp[wPC,wSP]
 |false=>
  generalize (s==5)=bs;simp only[finI,hk,finR,wPC,wSP,wA,wF,fCY,fVCY,Zgg,flOf,ZX,pcOf,Zci];generalize Zc c.1 (g.getD 0 0)=i at hk|-;simp (config:={implicitDefEqProofs:=false}) [ZdN,ZdG,ZeL,hk]
theorem fp_2 (c) (s:Int) (g:List Int) (l) (n:Int) (hk:(Zc c.1 (g.getD 0 0)).1=n):(n=3->(ZBs c s g l).val=some (finX c s g l))/\(n=7->(ZBo c s g l).val=some (finX c s g l))/\(n=11->(Zua c s g l).val=some (finX c s g l))/\(n=18->(Zt3 c s g l).val=some (finX c s g l))/\(n=22->(ZtZ c s g l).val=some (finX c s g l))/\(n=29->(ZtS c s g l).val=some (finX c s g l))/\(n=34->(ZtN c s g l).val=some (finX c s g l))/\(n=40->(ZtH c s g l).val=some (finX c s g l))/\(n=44->(ZtD c s g l).val=some (finX c s g l)):=by
 refine⟨?_,?_,?_,?_,?_,?_,?_,?_,?_⟩;all_goals intro e;subst e
 all_goals simp only[ZBs,ZBo,Zua,Zt3,ZtZ,ZtS,ZtN,ZtH,ZtD,RT.val,rgx]
 all_goals simp only[qat0,mat0,qat1,mat1,rg0,hk,ZH,Zaq,Za4,Z9,Zaa,ZV,ZW,Zct,Zcv,ZhG,ZhF,ZG,Zbw,finX,spOf]
 all_goals generalize Zd s=bi
 all_goals cases bi with
 |true=>simp[wPC,wSP]
 |false=>
  generalize (s==5)=bs;simp only[finI,hk,finR,wPC,wSP,wA,wF,fCY,fVCY,Zgg,flOf,ZX,pcOf,Zci];generalize Zc c.1 (g.getD 0 0)=i at hk|-;simp (config:={implicitDefEqProofs:=false}) [ZdN,ZdG,ZeL,hk]
theorem fp_3 (c) (s:Int) (g:List Int) (l) (n:Int) (hk:(Zc c.1 (g.getD 0 0)).1=n):(n=4->(ZBr c s g l).val=some (finX c s g l))/\(n=8->(ZBn c s g l).val=some (finX c s g l))/\(n=13->(Zt8 c s g l).val=some (finX c s g l))/\(n=19->(Zt2 c s g l).val=some (finX c s g l))/\(n=23->(ZtY c s g l).val=some (finX c s g l))/\(n=30->(ZtR c s g l).val=some (finX c s g l))/\(n=35->(ZtM c s g l).val=some (finX c s g l))/\(n=41->(ZtG c s g l).val=some (finX c s g l))/\(n=46->(ZtB c s g l).val=some (finX c s g l)):=by
 refine⟨?_,?_,?_,?_,?_,?_,?_,?_,?_⟩;all_goals intro e;subst e
 all_goals simp only[ZBr,ZBn,Zt8,Zt2,ZtY,ZtR,ZtM,ZtG,ZtB,RT.val,rgx]
 all_goals simp only[qat0,mat0,qat1,mat1,rg0,hk,ZH,Zaq,Za4,Z9,Zaa,ZV,ZW,Zct,Zcv,ZhG,ZhF,ZG,Zbw,finX,spOf]
 all_goals generalize Zd s=bi
 all_goals cases bi with
 |true=>simp[wPC,wSP]
 |false=>
  generalize (s==5)=bs;simp only[finI,hk,finR,wPC,wSP,wA,wF,fCY,fVCY,Zgg,flOf,ZX,pcOf,Zci];generalize Zc c.1 (g.getD 0 0)=i at hk|-;simp (config:={implicitDefEqProofs:=false}) [ZdN,ZdG,ZeL,hk]
theorem fp_4 (c) (s:Int) (g:List Int) (l) (n:Int) (hk:(Zc c.1 (g.getD 0 0)).1=n):(n=5->(ZBq c s g l).val=some (finX c s g l))/\(n=9->(ZBm c s g l).val=some (finX c s g l))/\(n=16->(Zt5 c s g l).val=some (finX c s g l))/\(n=20->(Zt1 c s g l).val=some (finX c s g l))/\(n=27->(ZtU c s g l).val=some (finX c s g l))/\(n=32->(ZtP c s g l).val=some (finX c s g l))/\(n=36->(ZtL c s g l).val=some (finX c s g l))/\(n=42->(ZtF c s g l).val=some (finX c s g l))/\(n=47->(ZtA c s g l).val=some (finX c s g l)):=by
 refine⟨?_,?_,?_,?_,?_,?_,?_,?_,?_⟩;all_goals intro e;subst e
 all_goals simp only[ZBq,ZBm,Zt5,Zt1,ZtU,ZtP,ZtL,ZtF,ZtA,RT.val,rgx]
 all_goals simp only[qat0,mat0,qat1,mat1,rg0,hk,ZH,Zaq,Za4,Z9,Zaa,ZV,ZW,Zct,Zcv,ZhG,ZhF,ZG,Zbw,finX,spOf]
 all_goals generalize Zd s=bi
 all_goals cases bi with
 |true=>simp[wPC,wSP]
 |false=>
  generalize (s==5)=bs;simp only[finI,hk,finR,wPC,wSP,wA,wF,fCY,fVCY,Zgg,flOf,ZX,pcOf,Zci];generalize Zc c.1 (g.getD 0 0)=i at hk|-;simp (config:={implicitDefEqProofs:=false}) [ZdN,ZdG,ZeL,hk]
theorem fp_5 (c) (s:Int) (g:List Int) (l) (n:Int) (hk:(Zc c.1 (g.getD 0 0)).1=n):(n=2->(ZBt c s g l).val=some (finX c s g l))/\(n=12->(Zt9 c s g l).val=some (finX c s g l)):=by
 refine⟨?_,?_⟩;all_goals intro e;subst e
 all_goals simp only[ZBt,Zt9,RT.val,rgx]
 all_goals simp only[qat0,mat0,qat1,mat1,rg0,hk,ZH,Zaq,Za4,Z9,Zaa,ZV,ZW,Zct,Zcv,ZhG,ZhF,ZG,Zbw,finX,spOf]
 all_goals generalize Zd s=bi
 all_goals cases bi with
 |true=>simp[wPC,wSP]
 |false=>
  generalize (s==5)=bs;simp only[finI,hk,finR,wPC,wSP,wA,wF,fCY,fVCY,Zgg,flOf,ZX,pcOf,Zci];generalize Zc c.1 (g.getD 0 0)=i at hk|-;generalize (i.2.2.2.1==6)=b0;cases b0<;>simp (config:={implicitDefEqProofs:=false}) [ZdN,ZdG,ZeL,hk]
theorem fp_6 (c) (s:Int) (g:List Int) (l) (n:Int) (hk:(Zc c.1 (g.getD 0 0)).1=n):(n=14->(Zt7 c s g l).val=some (finX c s g l))/\(n=15->(Zt6 c s g l).val=some (finX c s g l)):=by
 refine⟨?_,?_⟩;all_goals intro e;subst e
 all_goals simp only[Zt7,Zt6,RT.val,rgx]
 all_goals simp only[qat0,mat0,qat1,mat1,rg0,hk,ZH,Zaq,Za4,Z9,Zaa,ZV,ZW,Zct,Zcv,ZhG,ZhF,ZG,Zbw,finX,spOf]
 all_goals generalize Zd s=bi
 all_goals cases bi with
 |true=>simp[wPC,wSP]
 |false=>
  generalize (s==5)=bs;simp only[finI,hk,finR,wPC,wSP,wA,wF,fCY,fVCY,Zgg,flOf,ZX,pcOf,Zci];generalize Zc c.1 (g.getD 0 0)=i at hk|-;generalize (i.2.2.1==6)=b0;cases b0<;>simp (config:={implicitDefEqProofs:=false}) [ZdN,ZdG,ZeL,hk]
theorem fp_7 (c) (s:Int) (g:List Int) (l) (n:Int) (hk:(Zc c.1 (g.getD 0 0)).1=n):(n=24->(ZtX c s g l).val=some (finX c s g l))/\(n=25->(ZtW c s g l).val=some (finX c s g l))/\(n=26->(ZtV c s g l).val=some (finX c s g l))/\(n=45->(ZtC c s g l).val=some (finX c s g l)):=by
 refine⟨?_,?_,?_,?_⟩;all_goals intro e;subst e
 all_goals simp only[ZtX,ZtW,ZtV,ZtC,RT.val,rgx]
 all_goals simp only[qat0,mat0,qat1,mat1,rg0,hk,ZH,Zaq,Za4,Z9,Zaa,ZV,ZW,Zct,Zcv,ZhG,ZhF,ZG,Zbw,finX,spOf]
 all_goals generalize Zd s=bi
 all_goals cases bi with
 |true=>simp[wPC,wSP]
 |false=>
  generalize (s==5)=bs;simp only[finI,hk,finR,wPC,wSP,wA,wF,fCY,fVCY,Zgg,flOf,ZX,pcOf,Zci];generalize Zc c.1 (g.getD 0 0)=i at hk|-;generalize ZfX _ _=b0;cases b0<;>simp (config:={implicitDefEqProofs:=false}) [ZdN,ZdG,ZeL,hk]
theorem fp_8 (c) (s:Int) (g:List Int) (l) (n:Int) (hk:(Zc c.1 (g.getD 0 0)).1=n):(n=31->(ZtQ c s g l).val=some (finX c s g l)):=by
 skip
 all_goals intro e;subst e
 all_goals simp only[ZtQ,RT.val,rgx]
 all_goals simp only[qat0,mat0,qat1,mat1,rg0,hk,ZH,Zaq,Za4,Z9,Zaa,ZV,ZW,Zct,Zcv,ZhG,ZhF,ZG,Zbw,finX,spOf]
 all_goals generalize Zd s=bi
 all_goals cases bi with
 |true=>simp[wPC,wSP]
 |false=>
  generalize (s==5)=bs;simp only[finI,hk,finR,wPC,wSP,wA,wF,fCY,fVCY,Zgg,flOf,ZX,pcOf,Zci];generalize Zc c.1 (g.getD 0 0)=i at hk|-;generalize (i.2.2.2.2.1==3)=b0;cases b0<;>simp (config:={implicitDefEqProofs:=false}) [ZdN,ZdG,ZeL,hk]
theorem fp_9 (c) (s:Int) (g:List Int) (l) (n:Int) (hk:(Zc c.1 (g.getD 0 0)).1=n):(n=38->(ZtJ c s g l).val=some (finX c s g l)):=by
 skip
 all_goals intro e;subst e
 all_goals simp only[ZtJ,RT.val,rgx]
 all_goals simp only[qat0,mat0,qat1,mat1,rg0,hk,ZH,Zaq,Za4,Z9,Zaa,ZV,ZW,Zct,Zcv,ZhG,ZhF,ZG,Zbw,finX,spOf]
 all_goals generalize Zd s=bi
 all_goals cases bi with
 |true=>simp[wPC,wSP]
 |false=>
  generalize (s==5)=bs;simp only[finI,hk,finR,wPC,wSP,wA,wF,fCY,fVCY,Zgg,flOf,ZX,pcOf,Zci];generalize Zc c.1 (g.getD 0 0)=i at hk|-;simp[ZdN,ZdG,ZeL,hk,ZSU]
theorem fp_10 (c) (s:Int) (g:List Int) (l) (n:Int) (hk:(Zc c.1 (g.getD 0 0)).1=n):(n=39->(ZtI c s g l).val=some (finX c s g l)):=by
 skip
 all_goals intro e;subst e
 all_goals simp only[ZtI,RT.val,rgx]
 all_goals simp only[qat0,mat0,qat1,mat1,rg0,hk,ZH,Zaq,Za4,Z9,Zaa,ZV,ZW,Zct,Zcv,ZhG,ZhF,ZG,Zbw,finX,spOf]
 all_goals generalize Zd s=bi
 all_goals cases bi with
 |true=>simp[wPC,wSP]
 |false=>
  generalize (s==5)=bs;simp only[finI,hk,finR,wPC,wSP,wA,wF,fCY,fVCY,Zgg,flOf,ZX,pcOf,Zci];generalize Zc c.1 (g.getD 0 0)=i at hk|-;simp[ZdN,ZdG,ZeL,hk,rSim,ZUQ,RT.val]
theorem ZVJ (a:HL ZQ) (h:okHL ZQ a):∃l,ZdW Tryz.prog l/\(ZgM (envX Tryz.prog l [] 1023 8) Tryz.f85 ZQ ZLt a).val=some (finX a.1 a.2.1 a.2.2.1 a.2.2.2):=by
 have hk:=ZNR a.1.1 _ (ZN9 h.2.2.1);refine⟨ZVK (Zc a.1.1 (a.2.2.1.getD 0 0)).1,ZRd _,?_⟩;show (EV0 _ a).val=_;rcases ZNQ hk.1 hk.2 with e|e|e|e|e|e|e|e|e|e|e|e|e|e|e|e|e|e|e|e|e|e|e|e|e|e|e|e|e|e|e|e|e|e|e|e|e|e|e|e|e|e|e|e|e|e|e
 ·rw[e,ZMF a,((fp_1 a.1 a.2.1 a.2.2.1 a.2.2.2 _ e).1 rfl)]
 ·rw[e,ZME a,((fp_5 a.1 a.2.1 a.2.2.1 a.2.2.2 _ e).1 rfl)]
 ·rw[e,ZMD a,((fp_2 a.1 a.2.1 a.2.2.1 a.2.2.2 _ e).1 rfl)]
 ·rw[e,ZMC a,((fp_3 a.1 a.2.1 a.2.2.1 a.2.2.2 _ e).1 rfl)]
 ·rw[e,ZMB a,((fp_4 a.1 a.2.1 a.2.2.1 a.2.2.2 _ e).1 rfl)]
 ·rw[e,ZMA a,((fp_1 a.1 a.2.1 a.2.2.1 a.2.2.2 _ e).2.1 rfl)]
 ·rw[e,ZMz a,((fp_2 a.1 a.2.1 a.2.2.1 a.2.2.2 _ e).2.1 rfl)]
 ·rw[e,ZMy a,((fp_3 a.1 a.2.1 a.2.2.1 a.2.2.2 _ e).2.1 rfl)]
 ·rw[e,ZMx a,((fp_4 a.1 a.2.1 a.2.2.1 a.2.2.2 _ e).2.1 rfl)]
 ·rw[e,ZHD a,((fp_1 a.1 a.2.1 a.2.2.1 a.2.2.2 _ e).2.2.1 rfl)]
 ·rw[e,ZHC a,((fp_2 a.1 a.2.1 a.2.2.1 a.2.2.2 _ e).2.2.1 rfl)]
 ·rw[e,ZHB a,((fp_5 a.1 a.2.1 a.2.2.1 a.2.2.2 _ e).2 rfl)]
 ·rw[e,ZHA a,((fp_3 a.1 a.2.1 a.2.2.1 a.2.2.2 _ e).2.2.1 rfl)]
 ·rw[e,ZHz a,((fp_6 a.1 a.2.1 a.2.2.1 a.2.2.2 _ e).1 rfl)]
 ·rw[e,ZHy a,((fp_6 a.1 a.2.1 a.2.2.1 a.2.2.2 _ e).2 rfl)]
 ·rw[e,ZHx a,((fp_4 a.1 a.2.1 a.2.2.1 a.2.2.2 _ e).2.2.1 rfl)]
 ·rw[e,ZHw a,((fp_1 a.1 a.2.1 a.2.2.1 a.2.2.2 _ e).2.2.2.1 rfl)]
 ·rw[e,ZHv a,((fp_2 a.1 a.2.1 a.2.2.1 a.2.2.2 _ e).2.2.2.1 rfl)]
 ·rw[e,ZHu a,((fp_3 a.1 a.2.1 a.2.2.1 a.2.2.2 _ e).2.2.2.1 rfl)]
 ·rw[e,ZHt a,((fp_4 a.1 a.2.1 a.2.2.1 a.2.2.2 _ e).2.2.2.1 rfl)]
 ·rw[e,ZHs a,((fp_1 a.1 a.2.1 a.2.2.1 a.2.2.2 _ e).2.2.2.2.1 rfl)]
 ·rw[e,ZHr a,((fp_2 a.1 a.2.1 a.2.2.1 a.2.2.2 _ e).2.2.2.2.1 rfl)]
 ·rw[e,ZHq a,((fp_3 a.1 a.2.1 a.2.2.1 a.2.2.2 _ e).2.2.2.2.1 rfl)]
 ·rw[e,ZHp a,((fp_7 a.1 a.2.1 a.2.2.1 a.2.2.2 _ e).1 rfl)]
 ·rw[e,ZHo a,((fp_7 a.1 a.2.1 a.2.2.1 a.2.2.2 _ e).2.1 rfl)]
 ·rw[e,ZHn a,((fp_7 a.1 a.2.1 a.2.2.1 a.2.2.2 _ e).2.2.1 rfl)]
 ·rw[e,ZHm a,((fp_4 a.1 a.2.1 a.2.2.1 a.2.2.2 _ e).2.2.2.2.1 rfl)]
 ·rw[e,ZHl a,((fp_1 a.1 a.2.1 a.2.2.1 a.2.2.2 _ e).2.2.2.2.2.1 rfl)]
 ·rw[e,ZHk a,((fp_2 a.1 a.2.1 a.2.2.1 a.2.2.2 _ e).2.2.2.2.2.1 rfl)]
 ·rw[e,ZHj a,((fp_3 a.1 a.2.1 a.2.2.1 a.2.2.2 _ e).2.2.2.2.2.1 rfl)]
 ·rw[e,ZHi a,((fp_8 a.1 a.2.1 a.2.2.1 a.2.2.2 _ e) rfl)]
 ·rw[e,ZHh a,((fp_4 a.1 a.2.1 a.2.2.1 a.2.2.2 _ e).2.2.2.2.2.1 rfl)]
 ·rw[e,ZHg a,((fp_1 a.1 a.2.1 a.2.2.1 a.2.2.2 _ e).2.2.2.2.2.2.1 rfl)]
 ·rw[e,ZHf a,((fp_2 a.1 a.2.1 a.2.2.1 a.2.2.2 _ e).2.2.2.2.2.2.1 rfl)]
 ·rw[e,ZHe a,((fp_3 a.1 a.2.1 a.2.2.1 a.2.2.2 _ e).2.2.2.2.2.2.1 rfl)]
 ·rw[e,ZHd a,((fp_4 a.1 a.2.1 a.2.2.1 a.2.2.2 _ e).2.2.2.2.2.2.1 rfl)]
 ·rw[e,ZHc a,((fp_1 a.1 a.2.1 a.2.2.1 a.2.2.2 _ e).2.2.2.2.2.2.2.1 rfl)]
 ·rw[e,ZHb a,((fp_9 a.1 a.2.1 a.2.2.1 a.2.2.2 _ e) rfl)]
 ·rw[e,ZHa a,((fp_10 a.1 a.2.1 a.2.2.1 a.2.2.2 _ e) rfl)]
 ·rw[e,ZG9 a,((fp_2 a.1 a.2.1 a.2.2.1 a.2.2.2 _ e).2.2.2.2.2.2.2.1 rfl)]
 ·rw[e,ZG8 a,((fp_3 a.1 a.2.1 a.2.2.1 a.2.2.2 _ e).2.2.2.2.2.2.2.1 rfl)]
 ·rw[e,ZG7 a,((fp_4 a.1 a.2.1 a.2.2.1 a.2.2.2 _ e).2.2.2.2.2.2.2.1 rfl)]
 ·rw[e,ZG6 a,((fp_1 a.1 a.2.1 a.2.2.1 a.2.2.2 _ e).2.2.2.2.2.2.2.2 rfl)]
 ·rw[e,ZG5 a,((fp_2 a.1 a.2.1 a.2.2.1 a.2.2.2 _ e).2.2.2.2.2.2.2.2 rfl)]
 ·rw[e,ZG4 a,((fp_7 a.1 a.2.1 a.2.2.1 a.2.2.2 _ e).2.2.2 rfl)]
 ·rw[e,ZG3 a,((fp_3 a.1 a.2.1 a.2.2.1 a.2.2.2 _ e).2.2.2.2.2.2.2.2 rfl)]
 ·rw[e,ZG2 a,((fp_4 a.1 a.2.1 a.2.2.1 a.2.2.2 _ e).2.2.2.2.2.2.2.2 rfl)]
def ZRe:En:=Zh ZQ ZLt (λ_=>none) (λa=>finX a.1 a.2.1 a.2.2.1 a.2.2.2)
theorem ZMw:Zb Tryz.prog 85 ZRe:=ZDX Tryz.func85 rfl (by kernel_rfl) Tryz.call85 λa h _=>ZVJ a h
theorem ZqE (c op:Int) (h:c≠2):Zc c op=Zc 0 op:=by unfold Zc;rw[ZmX c op h]
theorem Zz4 (c op:Int) (h:c≠2):Zq4 c op=Zq4 0 op:=by
 have h1:(c==2)=false:=by simpa using h
 have h0:((0:Int)==2)=false:=rfl;simp only[Zq4,ZBk,RT.val,ZqE c op h,h1,h0]
theorem Zzo (c op:Int) (h:c≠2):Zee c op=Zee 0 op:=by
 have h1:rOn c=false:=by simpa [Zbw] using h
 have h0:rOn 0=false:=rfl;simp only[Zee,ZzH,RT.val,ZqE c op h,h1,h0]
def firT (c op:Int):Bool:=Zq4 c op==Zee c op
theorem ZR1 (c op:Int) (h:inR .u8 op):Zq4 c op=Zee c op:=by
 by_cases hc:c=2
 ·subst hc;exact eq_of_beq (ZfS (firT 2) (by kernel_rfl) op h)
 ·rw[Zz4 c op hc,Zzo c op hc];exact eq_of_beq (ZfS (firT 0) (by kernel_rfl) op h)
def ZlV:En:=Zh Zw6 ZTf (λ_=>none) (λa=>Zee a.1 a.2)
theorem Zkh:Zb Tryz.prog 84 ZlV:=ZMu.tot (λa h=>by simp) (λa h=>ZR1 _ _ h.2)
end
end Go.Proofs.YtpnjbfjomebppaaGreat
open Go.Proofs.Tryz (prog)
open Go.IntKind (u8 u16 i64)
namespace Go.Proofs.YtpnjbfjomebppaaGreat
noncomputable section
def ZLr (c:QT4):RT (Int):=
 .br (decide (c.2.2.2.2.1<1)||decide (c.2.2.2.2.1>9))
 (.Lf (1))
 (.Lf c.2.2.2.2.1)
def ZbH (c:QT4):Int:=(ZLr c).val
def ZnC:En:=Zh ZMX ZTf (λ_=>none) (λa=>ZbH a)
theorem ZnB:Zb prog 136 ZnC:=
 pureQ 7 [] [] _ _ trivial Tryz.func136 Tryz.call136 trivial
abbrev ZMm:List Sh:=[Sh.agg (R.Pq Zat (R.Pq Kc (R.Pq (R.sl Ka) (R.Pq (RY) (R.Pq Kc R.bool))))),So R.bool]
def ZMn (c:QT4) (h:Bool):RT (Int):=
 .br (h)
 (.Lf (8))
 (.br (c.1.2.2.2.2.1&&c.2.1==0)
  (.Lf (9))
  (.Lf (1)))
def Zxk (c:QT4) (h:Bool):Int:=(ZMn c h).val
def ZEJ:En:=Zh ZMm ZTf (λ_=>none) (λa=>Zxk a.1 a.2)
theorem ZEI:Zb prog 193 ZEJ:=
 pureQ 191 [] [] _ _ trivial Tryz.func193 Tryz.call193 trivial
abbrev ZqX:List Sh:=[So Kc,So R.bool]
def Znu (s:Int) (h:Bool):RT (Int):=
 .br (h)
 (.Lf (8))
 (.br (s==0)
  (.Lf (9))
  (.Lf (1)))
def ZlO (s:Int) (h:Bool):Int:=(Znu s h).val
def Zw2:En:=Zh ZqX ZTf (λ_=>none) (λa=>ZlO a.1 a.2)
theorem ZAb:Zb prog 196 Zw2:=
 pureQ 191 [] [] _ _ trivial Tryz.func196 Tryz.call196 trivial
abbrev ZEo:List Sh:=[Sh.agg (R.Pq Zat (R.Pq Kc (R.Pq (R.sl Ka) (R.Pq (RY) (R.Pq Kc R.bool))))),So Kc]
abbrev ZEp:Rs:=Rs.one (Sh.agg (R.Pq Zat (R.Pq Kc (R.Pq (R.sl Ka) (R.Pq (RY) (R.Pq Kc R.bool))))))
def ZLz (c:QT4) (s:Int):RT (QT4):=
 .Lf ((Zo c.1 s,s,[],(Zi (Zo c.1 s) s []).1,c.2.2.2.2))
def Zxc (c:QT4) (s:Int):QT4:=(ZLz c s).val
def Zs4:En:=Zh ZEo ZEp (λ_=>none) (λa=>Zxc a.1 a.2)
theorem Zxb:Zb prog 195 Zs4:=
 pureQ 31 [(81,Zgv),(82,Zoo)] [] _ _ ⟨ZfF,Zi4,Tv⟩ Tryz.func195 Tryz.call195 trivial
def ZM0 (c:TC) (s:Int):RT (QT4):=
 .Lf ((c,s,[],(Zi c s []).1,1,false))
def Ze8 (c:TC) (s:Int):QT4:=(ZM0 c s).val
def ZBy:En:=Zh Zoy ZEp (λ_=>none) (λa=>Ze8 a.1 a.2)
theorem Zxr:Zb prog 172 ZBy:=
 pureQ 127 [(82,Zoo)] [] _ _ ⟨Zi4,Tv⟩ Tryz.func172 Tryz.call172 trivial
def Zzw (c:QT4):RT (Int):=
 .br (decide (c.2.2.2.2.1<1)||decide (c.2.2.2.2.1>9))
 (.Lf (1))
 (.Lf c.2.2.2.2.1)
def Zq (c:QT4):Int:=(Zzw c).val
def ZSY (t:Int) (x:QT15):RT (Bool):=
 .br (t==3)
 (.Lf (decide (x.2.2.2<=3)))
 (.br (bif t==4 then t==4 else t==5)
  (.Lf (decide (x.2.2.2<=t)))
  (.Lf (t==6)))
def Zp3 (t:Int) (x:QT15):Bool:=(ZSY t x).val
def ZVA (chip:Int):RT (QT4):=
 let x1:TR:=(0,0,0,0,0,0,0,(false,false,false,false,false,false,false),0,0)
 let x2:TC:=(Ze8 (ZB (chip,x1,false,false,false,0,false,false,false,false,false,false,false)) 0).1
 .Lf (((x2.1,x1,false,false,false,x2.2.2.2.2.2.1,false,false,false,false,false,false,false),0,[],(1,0,0,4),1,false))
def pNew (chip:Int):QT4:=(ZVA chip).val
def pNewE:En:=Zh Zw8 ZEp (λ_=>none) (λa=>pNew a)
theorem ZVz:Zb prog 97 pNewE:=
 pureQ 7 [(80,Zi3),(172,ZBy)] [] _ _ ⟨Zg9,Zxr,Tv⟩ Tryz.func97 Tryz.call97 trivial
def Zlj:En:=.tree (Zz (envX prog [(82,Zoo),(85,ZRe),(193,ZEJ),(194,Ztc),(195,Zs4)] [] 1023 8) Tryz.f192)
theorem Zqb:Zb prog 192 Zlj:=Z6 ⟨Zi4,ZMw,ZEI,Zxf,Zxb,Tv⟩ Tryz.func192 rfl (by kernel_rfl) Tryz.call192 trivial
abbrev ZM3:List Sh:=[Sh.agg (R.Pq Zat (R.Pq Kc (R.Pq (R.sl Ka) (R.Pq (RY) (R.Pq Kc R.bool))))),Sh.agg (R.Pq R.bool (R.Pq R.bool rcF7)),So Ka]
abbrev ZEZ:Rs:=Rs.tup [Sh.agg (R.Pq Zat (R.Pq Kc (R.Pq (R.sl Ka) (R.Pq (RY) (R.Pq Kc R.bool))))),Sh.agg (R.Pq R.bool (R.Pq Zat (R.Pq (R.sl Ka) (R.Pq (RY) Zat))))]
def ZM4 (c:QT4) (l:QT1) (d:Int):RT (Option ((QT4)×Bool×TC×List Int×TY×TC)):=
 let x1:Int:=bif Za2 c.2.2.2.1.1 then d else c.2.2.2.1.2.2.1
 let x2:List Int:=c.2.2.1++[x1]
 let x3:TC:=(0,(0,0,0,0,0,0,0,(false,false,false,false,false,false,false),0,0),false,false,false,0,false,false,false,false,false,false,false)
 let x4:Bool×TC×List Int×TY×TC:=(false,x3,[],c.2.2.2.1,Zg c.1 l)
 let x5:Int:=bif c.2.2.2.1.1==1||c.2.2.2.1.1==8 then Zee (Zg c.1 l).1 x1 else c.2.2.2.1.2.2.2
 let x6:QT15:=(c.2.2.2.1.1,c.2.2.2.1.2.1,x1,x5)
 let x7:TY×TC:=(x6,Zg c.1 l)
 let x8:Bool×TC×List Int×TY×TC:=(false,x3,[],x7)
 let x9:=Zi (Zg c.1 l) c.2.1 x2
 let x10:=x9.1
 let x11:=finX (Zg c.1 l) c.2.1 x2 l
 let x12:=Zxc (x11,c.2.1,x2,x6,c.2.2.2.2) (ZbQ x11 l)
 let x13:=x12.2
 let x14:=x13.2.2
 let x15:=Zxc (finX (Zg c.1 l) c.2.1 c.2.2.1 l,c.2) (ZbQ (finX (Zg c.1 l) c.2.1 c.2.2.1 l) l)
 let x16:=x15.2
 let x17:=x16.2.2
 let x18:=Zxc (Zg c.1 l,c.2) (ZbQ (Zg c.1 l) l)
 let x19:=x18.2
 let x20:=x19.2.2
 .br (Nat.ble (Le c.2.2.1) most) (.br (ZbH c==1||((bif ZbH c==2 then ZbH c==2 else ZbH c==7)||(!ZbH c==3||Nat.ble (Le x2) most))) (.br (ZbH c==1) (Ls (((Zg c.1 l,c.2.1,c.2.2.1,c.2.2.2.1,2,c.2.2.2.2.2),x4))) (.br (bif ZbH c==2 then ZbH c==2 else ZbH c==7) (Ls (((Zg c.1 l,c.2.1,c.2.2.1,c.2.2.2.1,bif Zj c.2.2.2.1.1&& !l.1 then 7 else 3,bif Zj c.2.2.2.1.1&& !l.1 then c.2.2.2.2.2 else l.2.1),x4))) (.br (ZbH c==3) (.br (decide (x5>3)) (Ls (((Zg c.1 l,c.2.1,x2,x6,4,c.2.2.2.2.2),x8))) (.br x9.2 (Ls (((Zg c.1 l,c.2.1,x2,x10,Zxk (Zg c.1 l,c.2.1,x2,x10,c.2.2.2.2) c.2.2.2.2.2,false),x8))) (Ls (((x12.1,x13.1,[],x14.1,Zxk x12 x14.2.2,false),true,x11,x2,x7))))) (.br (bif ZbH c==4 then ZbH c==4 else bif ZbH c==5 then ZbH c==5 else ZbH c==6) (.br (decide (c.2.2.2.1.2.2.2>ZbH c)&&ZbH c !=6) (Ls (((Zg c.1 l,c.2.1,c.2.2.1,c.2.2.2.1,i64.wrap (ZbH c+1),c.2.2.2.2.2),x4))) (.br (Zi (Zg c.1 l) c.2.1 c.2.2.1).2 (Ls (((Zg c.1 l,c.2.1,c.2.2.1,(Zi (Zg c.1 l) c.2.1 c.2.2.1).1,Zxk (Zg c.1 l,c.2.1,c.2.2.1,(Zi (Zg c.1 l) c.2.1 c.2.2.1).1,c.2.2.2.2) c.2.2.2.2.2,false),x4))) (Ls (((x15.1,x16.1,[],x17.1,Zxk x15 x17.2.2,false),true,finX (Zg c.1 l) c.2.1 c.2.2.1 l,c.2.2.1,c.2.2.2.1,Zg c.1 l))))) (.br (ZbH c==8) (Ls (((Zg c.1 l,c.2.1,c.2.2.1,c.2.2.2.1,Zxk (Zg c.1 l,c.2) l.2.1,c.2.2.2.2.2),x4))) (.br (ZbH c==9) (.br (ZbQ (Zg c.1 l) l !=0) (Ls (((x18.1,x19.1,[],x20.1,ZlO (ZbQ (Zg c.1 l) l) l.2.1,x20.2.2),x4))) (Ls (((Zg c.1 l,c.2.1,c.2.2.1,c.2.2.2.1,ZlO (ZbQ (Zg c.1 l) l) l.2.1,c.2.2.2.2.2),x4)))) (Ls (((Zg c.1 l,c.2),x4))))))))) Ln) Ln
def pAdv (c:QT4) (l:QT1) (d:Int):(QT4)×Bool×TC×List Int×TY×TC:=getO ZEZ.Df (ZM4 c l d).val
def ZM5 (c:QT4) (l:QT1) (d:Int):Bool:=okB (ZM4 c l d).val
def ZYg:En:=Zh ZM3 ZEZ (λa=>some (ZM5 a.1 a.2.1 a.2.2)) (λa=>pAdv a.1 a.2.1 a.2.2)
theorem ZM2:Zb prog 130 ZYg:=
 pureP 2679225218618052313454186380042176511 [(83,ZcP),(84,ZlV),(120,ZkQ),(136,ZnC),(189,Zkl),(191,ZED),(192,Zlj),(193,ZEJ),(194,Ztc),(195,Zs4),(196,Zw2)] [] _ _ ⟨Zdc,Zkh,ZpK,ZnB,Zk4,ZGZ,Zqb,ZEI,Zxf,Zxb,ZAb,Tv⟩ Tryz.func130 Tryz.call130 trivial
abbrev ZlX:Rs:=Rs.tup [Sh.agg (R.Pq Zat (R.Pq Kc (R.Pq (R.sl Ka) (R.Pq (RY) (R.Pq Kc R.bool))))),Sh.agg (R.Pq Kc (R.Pq Kb (R.Pq Ka (R.Pq R.bool (R.Pq R.bool (R.Pq R.bool (R.Pq R.bool (R.Pq R.bool (R.Pq R.bool (R.Pq R.bool rcF7))))))))))]
def Zki (c:QT4) (l:QT1) (d:Int):RT (Option ((QT4)×Int×Int×Int×Bool×Bool×Bool×Bool×Bool×Bool×Bool×Bool×Bool×Bool×Bool×Bool×Bool×Bool)):=
 let x1:Int×TF×Int×Int:=(Ze8 (ZB c.1) 0).1.2.1.2.2.2.2.2.2
 let x2:=x1.2
 let x3:TY×Int×Int×Bool×Bool:=(c.2.2.2.1,d,c.1.2.1.2.2.2.2.2.2.2.2.2,c.1.2.2.1,c.1.2.2.2.2.2.2.2.2.2.2.2.2)
 .br l.2.2.1 (Ls (((((Ze8 (ZB c.1) 0).1.1,((Ze8 (ZB c.1) 0).1.2.1.1,(Ze8 (ZB c.1) 0).1.2.1.2.1,(Ze8 (ZB c.1) 0).1.2.1.2.2.1,(Ze8 (ZB c.1) 0).1.2.1.2.2.2.1,(Ze8 (ZB c.1) 0).1.2.1.2.2.2.2.1,(Ze8 (ZB c.1) 0).1.2.1.2.2.2.2.2.1,x1.1,x2.1,x2.2.1,0),false,false,false,(Ze8 (ZB c.1) 0).1.2.2.2.2.2.1,false,false,false,false,false,false,false),0,[],(1,0,0,4),1,false),ZGL c.1.1 (10,x3)))) (.br (ZM5 c l d) (Ls (((pAdv c l d).1,ZGL c.1.1 (ZbH c,x3)))) Ln)
def ZTn (c:QT4) (l:QT1) (d:Int):(QT4)×Int×Int×Int×Bool×Bool×Bool×Bool×Bool×Bool×Bool×Bool×Bool×Bool×Bool×Bool×Bool×Bool:=getO ZlX.Df (Zki c l d).val
def ZMW (c:QT4) (l:QT1) (d:Int):Bool:=okB (Zki c l d).val
def ZVX:En:=Zh ZM3 ZlX (λa=>some (ZMW a.1 a.2.1 a.2.2)) (λa=>ZTn a.1 a.2.1 a.2.2)
theorem ZMV:Zb prog 138 ZVX:=
 pureP 2047 [(79,ZEu),(80,Zi3),(130,ZYg),(136,ZnC),(172,ZBy)] [] _ _ ⟨ZEt,Zg9,ZM2,ZnB,Zxr,Tv⟩ Tryz.func138 Tryz.call138 trivial
abbrev LnT:=QT1
abbrev Zhx:=CpuT×Int×List Int×Cyc×Int×Bool
def Z2 (n:Int):Int:=bif decide (n<1)||decide (n>9) then 1 else n
def ZpM (c:CpuT) (s:Int):Zhx:=(c,s,[],(Zi c s []).1,1,false)
def idlX (c:CpuT) (s:Int) (h:Bool):Int:=bif h then 8 else bif c.2.2.2.2.1&&s==0 then 9 else 1
def endX (c:CpuT) (s:Int) (g:List Int) (h:Bool) (l:LnT):Zhx:=
 bif (Zi c s g).2 then (c,s,g,(Zi c s g).1,idlX c s h,false) else
 let q:=finX c s g l
 let k:=ZbQ q l
 let d:=Zo q k
 (d,k,[],(Zi d k []).1,idlX d k h,false)
def ZaF (c:CpuT) (x:Cyc) (d:Int):Cyc:=
 let v:=bif Za2 x.1 then d else x.2.2.1
 (x.1,x.2.1,v,bif x.1==1||x.1==8 then Zee c.1 v else x.2.2.2)
def le3 (x:Int):Bool:=decide (x<=3)
def Zn (c:Zhx) (l:LnT) (d:Int):Zhx:=
 let t:=Z2 c.2.2.2.2.1
 let p:=Zg c.1 l
 let s:=c.2.1
 let g:=c.2.2.1
 let x:=c.2.2.2.1
 let h:=c.2.2.2.2.2
 bif l.2.2.1 then ZpM (ZB c.1) 0 else
 bif t==1 then (p,s,g,x,2,h) else
 bif t==2||t==7 then (bif l.1|| !Zj x.1 then (p,s,g,x,3,l.2.1) else (p,s,g,x,7,h)) else
 bif t==8 then (p,s,g,x,idlX p s l.2.1,h) else
 bif t==9 then
  (let k:=ZbQ p l
   bif k==0 then (p,s,g,x,bif l.2.1 then 8 else 9,h) else
   (Zo p k,k,[],(Zi (Zo p k) k []).1,bif l.2.1 then 8 else 1,h)) else
 bif t==3 then
  (let y:=ZaF p x d
   bif le3 y.2.2.2 then endX p s (g++[y.2.2.1]) h l else (p,s,g++[y.2.2.1],y,4,h)) else
 bif decide (t<x.2.2.2)&& !(t==6) then (p,s,g,x,t+1,h) else endX p s g h l
abbrev PinT:=QT10
def Zp9 (c:Zhx) (t:Int):Cyc:=bif t==9 then (0,c.1.2.1.2.2.2.2.2.2.2.2.2,0,0) else c.2.2.2.1
def ZbM (c:Zhx) (l:LnT) (d:Int):PinT:=
 let t:=Z2 c.2.2.2.2.1
 Zba c.1.1 (bif l.2.2.1 then 10 else t) (Zp9 c t) (bif l.2.2.1 then 0 else d) c.1.2.2.1 c.1.2.2.2.2.2.2.2.2.2.2.2.2
theorem ZvF (n:Int):1<=Z2 n/\Z2 n<=9:=by
 unfold Z2;by_cases h:n<1\/n>9
 ·have:(decide (n<1)||decide (n>9))=true:=by simpa using h
  rw[this];simp
 ·have:(decide (n<1)||decide (n>9))=false:=by simpa using h
  rw[this];simp only[Yb];omega
theorem ZwQ (c):ZbH c=Z2 c.2.2.2.2.1:=rfl
theorem ZKP (c:Zhx) (s):Zxc c s=(Zo c.1 s,s,[],(Zi (Zo c.1 s) s []).1,c.2.2.2.2):=rfl
theorem ZQE (c:Zhx) (h:Bool):Zxk c h=idlX c.1 c.2.1 h:=by simp only[Zxk,ZMn,idlX,RT.val]
theorem ZXX (chip:Int) (x y:Cyc) (d:Int) (i o:Bool):Zba chip 10 x d i o=Zba chip 10 y 0 i o:=by simp only[Zba,ZiH,RT.val,Zbw];generalize (chip==2)=b;cases b<;>simp
theorem ZvX (c:CpuT):ZB c=((ZB c).1,((ZB c).2.1.1,(ZB c).2.1.2.1,(ZB c).2.1.2.2.1,(ZB c).2.1.2.2.2.1,(ZB c).2.1.2.2.2.2.1,(ZB c).2.1.2.2.2.2.2.1,(ZB c).2.1.2.2.2.2.2.2.1,(ZB c).2.1.2.2.2.2.2.2.2.1,(ZB c).2.1.2.2.2.2.2.2.2.2.1,0),false,false,false,(ZB c).2.2.2.2.2.1,false,false,false,false,false,false,false):=by simp only[ZB,Zm4,RT.val,Zbw]
theorem ZTU (c:CpuT):ZpM (ZB c) 0=(ZB c,0,[],(1,0,0,4),1,false):=by
 simp only[ZpM];have:(Zi (ZB c) 0 []).1=(1,0,0,4):=by
  have hp:pcOf (ZB c)=0:=by rw[ZvX];rfl
  simp[Zi,ZeS,Zd,ZqK,RT.val,hp];rfl
 rw[this]
theorem len1 {α:Type} (l:List α) (x:α) (h:l.length+1<=most):Nat.ble l.length most=true/\Nat.ble (l++[x]).length most=true:=by rw[YF,YF];simp only[Yd,List.length_cons,List.length_nil];omega
abbrev ChgT:=Bool×CpuT×List Int×Cyc×CpuT
abbrev cpu0:CpuT:=(0,(0,0,0,0,0,0,0,(false,false,false,false,false,false,false),0,0),false,false,false,0,false,false,false,false,false,false,false)
def ZaE (c:Zhx) (l:LnT) (d:Int):ChgT:=
 let t:=Z2 c.2.2.2.2.1
 let p:=Zg c.1 l
 let s:=c.2.1
 let g:=c.2.2.1
 let x:=c.2.2.2.1
 bif t==3 then
  (let y:=ZaF p x d
   bif le3 y.2.2.2&& !(Zi p s (g++[y.2.2.1])).2 then (true,finX p s (g++[y.2.2.1]) l,g++[y.2.2.1],y,p) else (false,cpu0,[],y,p)) else
 bif (t==4||(t==5||t==6))&&(!(decide (t<x.2.2.2)&& !(t==6))&& !(Zi p s g).2) then (true,finX p s g l,g,x,p) else (false,cpu0,[],x,p)
theorem gt3 (x:Int):decide (x>3)= !le3 x:=by unfold le3;by_cases h:x<=3<;>simp[h]<;>omega
theorem ZBC (c:Zhx) (l:LnT) (d:Int) (hg:c.2.2.1.length+1<=most) (hr:l.2.2.1=false):(ZM4 c l d).val=some (Zn c l d,ZaE c l d):=by
 have h1:=λx=>len1 c.2.2.1 x hg
 obtain⟨t1,t2⟩:=ZvF c.2.2.2.2.1;unfold ZM4 Zn ZaE;simp only[ZwQ,hr,Yb,RT.val,(h1 0).1,(h1 _).2,Ya,Yj,ZKP,ZQE,endX,ZaF,idlX,ZlO,Znu,gt3];have:Z2 c.2.2.2.2.1=1\/Z2 c.2.2.2.2.1=2\/Z2 c.2.2.2.2.1=7\/Z2 c.2.2.2.2.1=3\/Z2 c.2.2.2.2.1=4\/Z2 c.2.2.2.2.1=5\/Z2 c.2.2.2.2.1=6\/Z2 c.2.2.2.2.1=8\/Z2 c.2.2.2.2.1=9:=by omega
 rcases this with h|h|h|h|h|h|h|h|h<;>simp only[h,Int.reduceBEq,Int.reduceBNe,Ya,Yb,Yi,Yw,Yab,YP,YR,YI,Yf,Yl,gt_iff_lt,show IntKind.wrap .i64 (4+1)=4+1 from rfl,show IntKind.wrap .i64 (5+1)=5+1 from rfl]
 ·cases Zj c.2.2.2.1.1<;>cases l.1<;>rfl
 ·cases Zj c.2.2.2.1.1<;>cases l.1<;>rfl
 ·cases hA:le3 (ZaF (Zg c.1 l) c.2.2.2.1 d).2.2.2<;>cases hB:(Zi (Zg c.1 l) c.2.1 (c.2.2.1++[(ZaF (Zg c.1 l) c.2.2.2.1 d).2.2.1])).2<;>simp only[ZaF] at hA hB<;>simp only[hA,hB,Ya,Yb,Yf,Yl,YR,Yab,YP]<;>with_reducible rfl
 ·cases decide (4<c.2.2.2.1.2.2.2)<;>cases (Zi (Zg c.1 l) c.2.1 c.2.2.1).2<;>rfl
 ·cases decide (5<c.2.2.2.1.2.2.2)<;>cases (Zi (Zg c.1 l) c.2.1 c.2.2.1).2<;>rfl
 ·cases (Zi (Zg c.1 l) c.2.1 c.2.2.1).2<;>rfl
 ·have hb:(ZbQ (Zg c.1 l) l !=0)= !(ZbQ (Zg c.1 l) l==0):=rfl;rw[hb];cases hk:(ZbQ (Zg c.1 l) l==0)<;>rfl
theorem ZwZ (c:Zhx) (l:LnT) (d:Int) (hg:c.2.2.1.length+1<=most):(Zki c l d).val=some (Zn c l d,ZbM c l d):=by
 obtain⟨t1,t2⟩:=ZvF c.2.2.2.2.1;cases hr:l.2.2.1 with
 |true=>
  have hb:Ze8 (ZB c.1) 0=(ZB c.1,0,[],(Zi (ZB c.1) 0 []).1,1,false):=rfl;simp only[Zki,RT.val,hr,Ya,Zn,ZbM,ZTU,hb];rw[<-ZvX,Zz3 c.1.1 10 (by decide) (by decide) c.2.2.2.1 d 0 _ _ _ (λh=>absurd rfl h),ZXX c.1.1 _ (Zp9 c (Z2 c.2.2.2.2.1)) 0]
 |false=>
  have h:=ZBC c l d hg hr;have h1:ZM5 c l d=true:=by simp only[ZM5,h,okB]
  have h2:(pAdv c l d).1=Zn c l d:=by simp only[pAdv,h,getO]
  simp only[Zki,RT.val,hr,Yb,h1,Ya,h2,ZbM,ZwQ];rw[Zz3 c.1.1 (Z2 c.2.2.2.2.1) t1 (by omega) c.2.2.2.1 d d _ _ _ (λ_=>rfl)];simp only[Zp9]
def ZmV (c:Zhx):Bool:=Nat.ble (c.2.2.1.length+1) most
theorem Zgj {c:Zhx}:ZmV c=true↔c.2.2.1.length+1<=most:=by simp[ZmV]
def clkX (c:Zhx) (l:LnT) (d:Int):Zhx×PinT:=(Zn c l d,ZbM c l d)
def Zuf:En:=Zh ZM3 ZlX (λa=>some (ZmV a.1)) (λa=>clkX a.1 a.2.1 a.2.2)
theorem ZHF:Zb Tryz.prog 138 Zuf:=ZMV.pure_congr
 (λa h hp=>by have h1:=ZwZ a.1 a.2.1 a.2.2 (Zgj.1 (by simpa using hp));simp[ZMW,h1,okB])
 (λa h hp=>by have h1:=ZwZ a.1 a.2.1 a.2.2 (Zgj.1 (by simpa using hp));simp only[ZTn,h1,getO,clkX])
def ZM6:En:=Zh ZM3 ZEZ (λa=>some (ZmV a.1&& !a.2.1.2.2.1)) (λa=>(Zn a.1 a.2.1 a.2.2,ZaE a.1 a.2.1 a.2.2))
theorem ZRp:Zb Tryz.prog 130 ZM6:=ZM2.pure_congr
 (λa h hp=>by
  have hp:(ZmV a.1&& !a.2.1.2.2.1)=true:=by simpa using hp
  simp only[Yc,YH] at hp
  have h1:=ZBC a.1 a.2.1 a.2.2 (Zgj.1 hp.1) hp.2;simp[ZM5,h1,okB])
 (λa h hp=>by
  have hp:(ZmV a.1&& !a.2.1.2.2.1)=true:=by simpa using hp
  simp only[Yc,YH] at hp
  have h1:=ZBC a.1 a.2.1 a.2.2 (Zgj.1 hp.1) hp.2;simp only[pAdv,h1,getO])
def newX (chip:Int):Zhx:=ZpM (ZB (chip,(0,0,0,0,0,0,0,(false,false,false,false,false,false,false),0,0),false,false,false,0,false,false,false,false,false,false,false)) 0
theorem ZU4 (chip:Int):pNew chip=newX chip:=by
 have hb:∀c,Ze8 c 0=ZpM c 0:=λ_=>rfl
 unfold newX;simp only[pNew,ZVA,RT.val,hb];rw[ZTU];simp only[ZB,Zm4,RT.val,Zbw]
def ZL8:En:=Zh Zw8 ZEp (λ_=>none) (λa=>newX a)
theorem ZQ7:Zb Tryz.prog 97 ZL8:=ZVz.tot (λa h=>by simp) (λa h=>ZU4 _)
abbrev ZFf:List Sh:=[So Kc,So Kc]
def Zo0 (x:Int) (n:Int):RT (Option (Int)):=
 .br (IntKind.u64.wrap n !=0) (Ls (i64.wrap (Int.tmod (IntKind.u64.wrap x) (IntKind.u64.wrap n)))) Ln
def ZFg (x:Int) (n:Int):Int:=getO ZTf.Df (Zo0 x n).val
def Zuy (x:Int) (n:Int):Bool:=okB (Zo0 x n).val
def ZND:En:=Zh ZFf ZTf (λa=>some (Zuy a.1 a.2)) (λa=>ZFg a.1 a.2)
theorem ZNB:Zb prog 47 ZND:=
 pureP 31 [] [] _ _ trivial Tryz.func47 Tryz.call47 trivial
abbrev ZBR:R:=R.Pq (R.sl Kc) Kc
def ZoL (s:List Int×Int) (n:Int):RT (Option (QT22)):=
 let x1:=Zf (i64.wrap (i64.wrap (s.2+1)-1)) (Le s.1)
 let x2:Int:=R.get Kc s.1 (i64.wrap (i64.wrap (s.2+1)-1))
 .br (decide (s.2>=iN (Le s.1))) (Ls ((0,s.1,i64.wrap (s.2+1)))) (.br (!x1||Zuy x2 n) (.br (x1) (Ls ((ZFg x2 n,s.1,i64.wrap (s.2+1)))) Ln) Ln)
def Za (s:List Int×Int) (n:Int):QT22:=getO (ZTf.Df,ZBR.Df) (ZoL s n).val
def Zl (s:List Int×Int) (n:Int):Bool:=okB (ZoL s n).val
def ZcS:En:=boxE ZBR Zw8 ZTf (λa=>some (Zl a.1 a.2)) (λa=>Za a.1 a.2)
theorem Zbb:Zb prog 68 ZcS:=
 ZcA (P:=prog) (n:=31) (k:=8) (l:=[(47,ZND)]) (ol:=[]) ⟨ZNB,Tv⟩ Tryz.func68 rfl (by kernel_rfl) Tryz.call68 trivial (rb:=ZBR) (ts:=Zw8) (rs:=ZTf) (t:=λa=>ZoL a.1 a.2) (λa=>by kernel_rfl)
def ZoS (s:List Int×Int):RT (Option (QT22)):=
 let x1:List Int:=[0,1,127,128,255,15,16,153,154,9,102,254,129,85,170,64]
 .br (Zl s 512) (.br (!decide ((Za s 512).1>=256)||Zf (Int.tmod (Za s 512).1 16) (Le x1)) (.br (decide ((Za s 512).1>=256)) (Ls ((R.get Ka x1 (Int.tmod (Za s 512).1 16),(Za s 512).2))) (Ls ((u8.wrap (Za s 512).1,(Za s 512).2)))) Ln) Ln
def Zc3 (s:List Int×Int):QT22:=getO (ZMZ.Df,ZBR.Df) (ZoS s).val
def ZgC (s:List Int×Int):Bool:=okB (ZoS s).val
def ZxI:En:=boxE ZBR ZwN ZMZ (λa=>some (ZgC a.1)) (λa=>Zc3 a.1)
theorem Zl3:Zb prog 71 ZxI:=
 ZcA (P:=prog) (n:=15) (k:=8) (l:=[(68,ZcS)]) (ol:=[]) ⟨Zbb,Tv⟩ Tryz.func71 rfl (by kernel_rfl) Tryz.call71 trivial (rb:=ZBR) (ts:=ZwN) (rs:=ZMZ) (t:=λa=>ZoS a.1) (λa=>by kernel_rfl)
def Zjc (s:List Int×Int):RT (Option (QT22)):=
 let x1:List Int:=[0,1,65535,65534,32767,32768,255,256]
 let x2:= !(Za s 5).1==0||(!Zl (Za s 5).2 8||Zf (Za (Za s 5).2 8).1 (Le x1))
 let x3:= !x2
 let x4:= !(Za s 5).1==0||Zl (Za s 5).2 8
 .br (Zl s 5) (.br (x3||(!x4||((Za s 5).1==0||(!(Za s 5).1==1||Zl (Za s 5).2 65536)))) (.br (x3||x4) (.br (x2) (.br ((Za s 5).1==0) (Ls ((R.get Kb x1 (Za (Za s 5).2 8).1,(Za (Za s 5).2 8).2))) (.br ((Za s 5).1==1) (Ls ((u16.wrap (Za (Za s 5).2 65536).1,(Za (Za s 5).2 65536).2))) (.br (Zl (Za s 5).2 64) (Ls ((u16.wrap (Za (Za s 5).2 64).1,(Za (Za s 5).2 64).2))) Ln))) Ln) Ln) Ln) Ln
def ZaR (s:List Int×Int):QT22:=getO (ZBi.Df,ZBR.Df) (Zjc s).val
def ZfY (s:List Int×Int):Bool:=okB (Zjc s).val
def ZNi:En:=boxE ZBR ZwN ZBi (λa=>some (ZfY a.1)) (λa=>ZaR a.1)
theorem ZE4:Zb prog 70 ZNi:=
 ZcA (P:=prog) (n:=4135) (k:=8) (l:=[(68,ZcS)]) (ol:=[]) ⟨Zbb,Tv⟩ Tryz.func70 rfl (by kernel_rfl) Tryz.call70 trivial (rb:=ZBR) (ts:=ZwN) (rs:=ZBi) (t:=λa=>Zjc a.1) (λa=>by kernel_rfl)
def ZxH (s:List Int×Int):RT (Option (QT22)):=
 .br (Zl s 2) (Ls ((i64.wrap (1+(Za s 2).1),(Za s 2).2))) Ln
def Za0 (s:List Int×Int):QT22:=getO (ZTf.Df,ZBR.Df) (ZxH s).val
def ZoR (s:List Int×Int):Bool:=okB (ZxH s).val
def ZNq:En:=boxE ZBR ZwN ZTf (λa=>some (ZoR a.1)) (λa=>Za0 a.1)
theorem ZFa:Zb prog 122 ZNq:=
 ZcA (P:=prog) (n:=7) (k:=8) (l:=[(68,ZcS)]) (ol:=[]) ⟨Zbb,Tv⟩ Tryz.func122 rfl (by kernel_rfl) Tryz.call122 trivial (rb:=ZBR) (ts:=ZwN) (rs:=ZTf) (t:=λa=>ZxH a.1) (λa=>by kernel_rfl)
def ZfH (s:List Int×Int):RT (Option (QT22)):=
 let x1:List Int:=[251,243,118,205,201,197,227,211,219,54,52,32,48,194,202,255,62,49]
 .br (Zl s 3) (.br (!decide ((Za s 3).1>0)||Zl (Za s 3).2 256) (.br (decide ((Za s 3).1>0)) (Ls ((u8.wrap (Za (Za s 3).2 256).1,(Za (Za s 3).2 256).2))) (.br (!Zl (Za s 3).2 18||Zf (Za (Za s 3).2 18).1 (Le x1)) (.br (Zl (Za s 3).2 18) (Ls ((R.get Ka x1 (Za (Za s 3).2 18).1,(Za (Za s 3).2 18).2))) Ln) Ln)) Ln) Ln
def Zam (s:List Int×Int):QT22:=getO (ZMZ.Df,ZBR.Df) (ZfH s).val
def Zcg (s:List Int×Int):Bool:=okB (ZfH s).val
def Zhf:En:=boxE ZBR ZwN ZMZ (λa=>some (Zcg a.1)) (λa=>Zam a.1)
theorem Zfa:Zb prog 119 Zhf:=
 ZcA (P:=prog) (n:=7) (k:=8) (l:=[(68,ZcS)]) (ol:=[]) ⟨Zbb,Tv⟩ Tryz.func119 rfl (by kernel_rfl) Tryz.call119 trivial (rb:=ZBR) (ts:=ZwN) (rs:=ZMZ) (t:=λa=>ZfH a.1) (λa=>by kernel_rfl)
def NB (s:List Int×Int) (k:Int):Prop:=0<=s.2/\s.2<=k
theorem ZNC (x n:Int) (h0:0<n) (h1:n<=4611686018427387904):Zuy x n=true/\ZFg x n=(x%18446744073709551616)%n:=by
 have e:IntKind.wrap .u64 n=n:=Zry ⟨by simp[IntKind.min,IntKind.signed];omega,by simp[IntKind.max,IntKind.signed,IntKind.bits];omega⟩;have e2:IntKind.wrap .u64 x=x%18446744073709551616:=by simp[IntKind.wrap,IntKind.signed,IntKind.bits]
 have hn:(n !=0)=true:=by simp;omega
 have h2:0<=x%18446744073709551616:=Int.emod_nonneg _ (by decide);have h3:=Int.emod_nonneg (x%18446744073709551616) (b:=n) (by omega);have h4:=Int.emod_lt_of_pos (x%18446744073709551616) (b:=n) h0;have hv:(Zo0 x n).val=some ((x%18446744073709551616)%n):=by simp only[Zo0,RT.val,e,e2,hn,Ya,Int.tmod_eq_emod_of_nonneg h2];rw[wrap_i64 _ (by omega) (by omega)]
 exact⟨by simp only[Zuy,hv];rfl,by simp only[ZFg,hv,getO]⟩
variable {s:List Int×Int} {k:Int}
theorem Zs (h:NB s k) (hk:k<=1000000) (n:Int) (h0:0<n) (h1:n<=4611686018427387904):
  Zl s n=true/\NB (Za s n).2 (k+1)/\0<=(Za s n).1/\(Za s n).1<n:=by
 obtain⟨ha,hb⟩:=h;have e1:IntKind.wrap .i64 (s.2+1)=s.2+1:=wrap_i64 _ (by omega) (by omega);have e2:IntKind.wrap .i64 s.2=s.2:=wrap_i64 _ (by omega) (by omega);by_cases hl:(s.1.length:Int)<=s.2
 ·have hv:(ZoL s n).val=some (0,s.1,s.2+1):=by simp[ZoL,RT.val,iN,Le,hl,e1]
  simp only[Zl,Za,hv,okB,getO,NB];exact⟨trivial,⟨by omega,by omega⟩,by omega,h0⟩
 ·have hr:Zf s.2 s.1.length=true:=ZF.2 ⟨ha,by omega⟩;obtain⟨p1,p2⟩:=ZNC (R.get (R.int i64) s.1 s.2) n h0 h1;have h3:=Int.emod_nonneg (R.get (R.int i64) s.1 s.2%18446744073709551616) (b:=n) (by omega);have h4:=Int.emod_lt_of_pos (R.get (R.int i64) s.1 s.2%18446744073709551616) (b:=n) h0;have hv:(ZoL s n).val=some ((R.get (R.int i64) s.1 s.2%18446744073709551616)%n,s.1,s.2+1):=by simp[ZoL,RT.val,iN,Le,hl,e1,e2,hr,p1,p2]
  simp only[Zl,Za,hv,okB,getO,NB];exact⟨trivial,⟨by omega,by omega⟩,h3,h4⟩
theorem Zl4 (h:NB s k) (hk:k<=1000000):ZgC s=true/\NB (Zc3 s).2 (k+1)/\inR .u8 (Zc3 s).1:=by
 obtain⟨c,b,d0,d1⟩:=Zs h hk 512 (by decide) (by decide);have m0:0<=(Za s 512).1%16:=Int.emod_nonneg _ (by decide);have m1:(Za s 512).1%16<16:=Int.emod_lt_of_pos _ (by decide);have ht:Int.tmod (Za s 512).1 16=(Za s 512).1%16:=Int.tmod_eq_emod_of_nonneg d0;by_cases hn:256<=(Za s 512).1
 ·have hv:(ZoS s).val=some (R.get (R.int u8) [0,1,127,128,255,15,16,153,154,9,102,254,129,85,170,64] ((Za s 512).1%16),(Za s 512).2):=by simp[ZoS,RT.val,c,hn,ht,Zf,m0,m1]
  simp only[ZgC,Zc3,hv,okB,getO];refine⟨trivial,b,?_⟩;have hall:∀i:Nat,i<16->inR .u8 (([0,1,127,128,255,15,16,153,154,9,102,254,129,85,170,64]:List Int).getD i 0):=by
   intro i hi;have:∀i:Fin 16,decide (0<=([0,1,127,128,255,15,16,153,154,9,102,254,129,85,170,64]:List Int).getD i 0)&&decide (([0,1,127,128,255,15,16,153,154,9,102,254,129,85,170,64]:List Int).getD i 0<=255):=by decide
   have:=this ⟨i,hi⟩;rw[ZhI];simpa using this
  exact hall ((Za s 512).1%16).toNat (by omega)
 ·have hv:(ZoS s).val=some (IntKind.wrap .u8 (Za s 512).1,(Za s 512).2):=by simp[ZoS,RT.val,c,hn]
  simp only[ZgC,Zc3,hv,okB,getO];exact⟨trivial,b,Zar _ _⟩
theorem ZE5 (h:NB s k) (hk:k<=900000):ZfY s=true/\NB (ZaR s).2 (k+2)/\inR .u16 (ZaR s).1:=by
 obtain⟨c,b,d0,d1⟩:=Zs h (by omega) 5 (by decide) (by decide);obtain⟨c8,b8,e0,e1⟩:=Zs b (by omega) 8 (by decide) (by decide);obtain⟨c6,b6,_⟩:=Zs b (by omega) 65536 (by decide) (by decide);obtain⟨c4,b4,_⟩:=Zs b (by omega) 64 (by decide) (by decide);have w:∀{t:List Int×Int},NB t (k+1+1)->NB t (k+2):=λh=>⟨h.1,by have:=h.2;omega⟩
 have hr:Zf (Za (Za s 5).2 8).1 8=true:=ZF.2 ⟨e0,by omega⟩;by_cases h0:(Za s 5).1=0
 ·have hv:(Zjc s).val=some (R.get (R.int u16) [0,1,65535,65534,32767,32768,255,256] (Za (Za s 5).2 8).1,(Za (Za s 5).2 8).2):=by simp[Zjc,RT.val,c,h0,c8,hr]
  simp only[ZfY,ZaR,hv,okB,getO];refine⟨trivial,w b8,?_⟩;have hall:∀i:Nat,i<8->inR .u16 (([0,1,65535,65534,32767,32768,255,256]:List Int).getD i 0):=by
   intro i hi;have:∀i:Fin 8,decide (0<=([0,1,65535,65534,32767,32768,255,256]:List Int).getD i 0)&&decide (([0,1,65535,65534,32767,32768,255,256]:List Int).getD i 0<=65535):=by decide
   have:=this ⟨i,hi⟩;simp only[Yc,Yk] at this;exact⟨by simpa [IntKind.min,IntKind.signed] using this.1,by simpa [IntKind.max,IntKind.signed,IntKind.bits] using this.2⟩
  exact hall (Za (Za s 5).2 8).1.toNat (by omega)
 ·by_cases h1:(Za s 5).1=1
  ·have hv:(Zjc s).val=some (IntKind.wrap .u16 (Za (Za s 5).2 65536).1,(Za (Za s 5).2 65536).2):=by simp[Zjc,RT.val,c,h1,c6]
   simp only[ZfY,ZaR,hv,okB,getO];exact⟨trivial,w b6,Zar _ _⟩
  ·have hv:(Zjc s).val=some (IntKind.wrap .u16 (Za (Za s 5).2 64).1,(Za (Za s 5).2 64).2):=by
    have g0:((Za s 5).1==0)=false:=by simpa using h0
    have g1:((Za s 5).1==1)=false:=by simpa using h1
    simp[Zjc,RT.val,c,g0,g1,c4]
   simp only[ZfY,ZaR,hv,okB,getO];exact⟨trivial,w b4,Zar _ _⟩
theorem ZRx (h:NB s k) (hk:k<=1000000):ZoR s=true/\NB (Za0 s).2 (k+1)/\((Za0 s).1=1\/(Za0 s).1=2):=by
 obtain⟨c,b,d0,d1⟩:=Zs h hk 2 (by decide) (by decide);have hv:(ZxH s).val=some (1+(Za s 2).1,(Za s 2).2):=by simp[ZxH,RT.val,c];rw[wrap_i64 _ (by omega) (by omega)]
 simp only[ZoR,Za0,hv,okB,getO];exact⟨trivial,b,by omega⟩
theorem Zkv (h:NB s k) (hk:k<=900000):Zcg s=true/\NB (Zam s).2 (k+2)/\inR .u8 (Zam s).1:=by
 obtain⟨c,b,d0,d1⟩:=Zs h (by omega) 3 (by decide) (by decide);have w:∀{t:List Int×Int},NB t (k+1+1)->NB t (k+2):=λh=>⟨h.1,by have:=h.2;omega⟩
 by_cases hn:0<(Za s 3).1
 ·have hk':k+1<=1000001:=by omega
  obtain⟨c2,b2,_⟩:=Zs b (by omega) 256 (by decide) (by decide);have hv:(ZfH s).val=some (IntKind.wrap .u8 (Za (Za s 3).2 256).1,(Za (Za s 3).2 256).2):=by simp[ZfH,RT.val,c,hn,c2]
  simp only[Zcg,Zam,hv,okB,getO];exact⟨trivial,w b2,Zar _ _⟩
 ·obtain⟨c2,b2,e0,e1⟩:=Zs b (by omega) 18 (by decide) (by decide);have hr:Zf (Za (Za s 3).2 18).1 18=true:=ZF.2 ⟨e0,by omega⟩;have hv:(ZfH s).val=some (R.get (R.int u8) [251,243,118,205,201,197,227,211,219,54,52,32,48,194,202,255,62,49] (Za (Za s 3).2 18).1,(Za (Za s 3).2 18).2):=by simp[ZfH,RT.val,c,hn,c2,hr]
  simp only[Zcg,Zam,hv,okB,getO];refine⟨trivial,w b2,?_⟩;have hall:∀i:Nat,i<18->inR .u8 (([251,243,118,205,201,197,227,211,219,54,52,32,48,194,202,255,62,49]:List Int).getD i 0):=by
   intro i hi;have:∀i:Fin 18,decide (0<=([251,243,118,205,201,197,227,211,219,54,52,32,48,194,202,255,62,49]:List Int).getD i 0)&&decide (([251,243,118,205,201,197,227,211,219,54,52,32,48,194,202,255,62,49]:List Int).getD i 0<=255):=by decide
   have:=this ⟨i,hi⟩;rw[ZhI];simpa using this
  exact hall (Za (Za s 3).2 18).1.toNat (by omega)
theorem ZOo (l:List Int):NB (l,0) 0:=⟨by simp,by simp⟩
