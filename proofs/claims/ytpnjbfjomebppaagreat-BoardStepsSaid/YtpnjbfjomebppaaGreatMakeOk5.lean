import Derived.Test.YtpnjbfjomebppaaGreatFinRX
import Derived.Test.YtpnjbfjomebppaaGreatFin1
import Derived.Test.YtpnjbfjomebppaaGreatFin2
import Derived.Test.YtpnjbfjomebppaaGreatFin3
import Derived.Test.YtpnjbfjomebppaaGreatFin4
open Go Go.S3 Go.Proofs
set_option linter.unusedVariables false
set_option linter.unusedSimpArgs false
set_option maxRecDepth 100000
namespace Go.Proofs.YtpnjbfjomebppaaGreat
noncomputable section
theorem fp_1 (c) (s:Int) (g:List Int) (l) (n:Int) (hk:(Zc c.1 (g.getD 0 0)).1=n):(n=1->(ZBy c s g l).val=some (finX c s g l))/\(n=6->(ZBt c s g l).val=some (finX c s g l))/\(n=10->(Zuf c s g l).val=some (finX c s g l))/\(n=17->(Zt8 c s g l).val=some (finX c s g l))/\(n=21->(Zt4 c s g l).val=some (finX c s g l))/\(n=28->(ZtX c s g l).val=some (finX c s g l))/\(n=33->(ZtS c s g l).val=some (finX c s g l))/\(n=37->(ZtO c s g l).val=some (finX c s g l))/\(n=43->(ZtI c s g l).val=some (finX c s g l)):=by
 refine⟨?_,?_,?_,?_,?_,?_,?_,?_,?_⟩;all_goals intro e;subst e
 all_goals simp only[ZBy,ZBt,Zuf,Zt8,Zt4,ZtX,ZtS,ZtO,ZtI,RT.val,rgx]
 all_goals simp only[qat0,mat0,qat1,mat1,rg0,hk,ZF,Zas,Za6,Z5,Z6,ZR,ZS,Zcx,ZcB,ZhT,ZhS,ZE,ZbC,finX,spOf]
 all_goals generalize Zd s=bi
 all_goals cases bi with
 |true=>simp[wPC,wSP]
 |false=>
  generalize (s==5)=bs;simp only[finI,hk,finR,wPC,wSP,wA,wF,fCY,fVCY,Zgt,flOf,ZW,pcOf,Zcn];generalize Zc c.1 (g.getD 0 0)=i at hk|-;simp (config:={implicitDefEqProofs:=false}) [ZdR,ZdJ,ZeW,hk]
theorem fp_2 (c) (s:Int) (g:List Int) (l) (n:Int) (hk:(Zc c.1 (g.getD 0 0)).1=n):(n=3->(ZBw c s g l).val=some (finX c s g l))/\(n=7->(ZBs c s g l).val=some (finX c s g l))/\(n=11->(Zue c s g l).val=some (finX c s g l))/\(n=18->(Zt7 c s g l).val=some (finX c s g l))/\(n=22->(Zt3 c s g l).val=some (finX c s g l))/\(n=29->(ZtW c s g l).val=some (finX c s g l))/\(n=34->(ZtR c s g l).val=some (finX c s g l))/\(n=40->(ZtL c s g l).val=some (finX c s g l))/\(n=44->(ZtH c s g l).val=some (finX c s g l)):=by
 refine⟨?_,?_,?_,?_,?_,?_,?_,?_,?_⟩;all_goals intro e;subst e
 all_goals simp only[ZBw,ZBs,Zue,Zt7,Zt3,ZtW,ZtR,ZtL,ZtH,RT.val,rgx]
 all_goals simp only[qat0,mat0,qat1,mat1,rg0,hk,ZF,Zas,Za6,Z5,Z6,ZR,ZS,Zcx,ZcB,ZhT,ZhS,ZE,ZbC,finX,spOf]
 all_goals generalize Zd s=bi
 all_goals cases bi with
 |true=>simp[wPC,wSP]
 |false=>
  generalize (s==5)=bs;simp only[finI,hk,finR,wPC,wSP,wA,wF,fCY,fVCY,Zgt,flOf,ZW,pcOf,Zcn];generalize Zc c.1 (g.getD 0 0)=i at hk|-;simp (config:={implicitDefEqProofs:=false}) [ZdR,ZdJ,ZeW,hk]
theorem fp_3 (c) (s:Int) (g:List Int) (l) (n:Int) (hk:(Zc c.1 (g.getD 0 0)).1=n):(n=4->(ZBv c s g l).val=some (finX c s g l))/\(n=8->(ZBr c s g l).val=some (finX c s g l))/\(n=13->(Zuc c s g l).val=some (finX c s g l))/\(n=19->(Zt6 c s g l).val=some (finX c s g l))/\(n=23->(Zt2 c s g l).val=some (finX c s g l))/\(n=30->(ZtV c s g l).val=some (finX c s g l))/\(n=35->(ZtQ c s g l).val=some (finX c s g l))/\(n=41->(ZtK c s g l).val=some (finX c s g l))/\(n=46->(ZtF c s g l).val=some (finX c s g l)):=by
 refine⟨?_,?_,?_,?_,?_,?_,?_,?_,?_⟩;all_goals intro e;subst e
 all_goals simp only[ZBv,ZBr,Zuc,Zt6,Zt2,ZtV,ZtQ,ZtK,ZtF,RT.val,rgx]
 all_goals simp only[qat0,mat0,qat1,mat1,rg0,hk,ZF,Zas,Za6,Z5,Z6,ZR,ZS,Zcx,ZcB,ZhT,ZhS,ZE,ZbC,finX,spOf]
 all_goals generalize Zd s=bi
 all_goals cases bi with
 |true=>simp[wPC,wSP]
 |false=>
  generalize (s==5)=bs;simp only[finI,hk,finR,wPC,wSP,wA,wF,fCY,fVCY,Zgt,flOf,ZW,pcOf,Zcn];generalize Zc c.1 (g.getD 0 0)=i at hk|-;simp (config:={implicitDefEqProofs:=false}) [ZdR,ZdJ,ZeW,hk]
theorem fp_4 (c) (s:Int) (g:List Int) (l) (n:Int) (hk:(Zc c.1 (g.getD 0 0)).1=n):(n=5->(ZBu c s g l).val=some (finX c s g l))/\(n=9->(ZBq c s g l).val=some (finX c s g l))/\(n=16->(Zt9 c s g l).val=some (finX c s g l))/\(n=20->(Zt5 c s g l).val=some (finX c s g l))/\(n=27->(ZtY c s g l).val=some (finX c s g l))/\(n=32->(ZtT c s g l).val=some (finX c s g l))/\(n=36->(ZtP c s g l).val=some (finX c s g l))/\(n=42->(ZtJ c s g l).val=some (finX c s g l))/\(n=47->(ZtE c s g l).val=some (finX c s g l)):=by
 refine⟨?_,?_,?_,?_,?_,?_,?_,?_,?_⟩;all_goals intro e;subst e
 all_goals simp only[ZBu,ZBq,Zt9,Zt5,ZtY,ZtT,ZtP,ZtJ,ZtE,RT.val,rgx]
 all_goals simp only[qat0,mat0,qat1,mat1,rg0,hk,ZF,Zas,Za6,Z5,Z6,ZR,ZS,Zcx,ZcB,ZhT,ZhS,ZE,ZbC,finX,spOf]
 all_goals generalize Zd s=bi
 all_goals cases bi with
 |true=>simp[wPC,wSP]
 |false=>
  generalize (s==5)=bs;simp only[finI,hk,finR,wPC,wSP,wA,wF,fCY,fVCY,Zgt,flOf,ZW,pcOf,Zcn];generalize Zc c.1 (g.getD 0 0)=i at hk|-;simp (config:={implicitDefEqProofs:=false}) [ZdR,ZdJ,ZeW,hk]
theorem fp_5 (c) (s:Int) (g:List Int) (l) (n:Int) (hk:(Zc c.1 (g.getD 0 0)).1=n):(n=2->(ZBx c s g l).val=some (finX c s g l))/\(n=12->(Zud c s g l).val=some (finX c s g l)):=by
 refine⟨?_,?_⟩;all_goals intro e;subst e
 all_goals simp only[ZBx,Zud,RT.val,rgx]
 all_goals simp only[qat0,mat0,qat1,mat1,rg0,hk,ZF,Zas,Za6,Z5,Z6,ZR,ZS,Zcx,ZcB,ZhT,ZhS,ZE,ZbC,finX,spOf]
 all_goals generalize Zd s=bi
 all_goals cases bi with
 |true=>simp[wPC,wSP]
 |false=>
  generalize (s==5)=bs;simp only[finI,hk,finR,wPC,wSP,wA,wF,fCY,fVCY,Zgt,flOf,ZW,pcOf,Zcn];generalize Zc c.1 (g.getD 0 0)=i at hk|-;generalize (i.2.2.2.1==6)=b0;cases b0<;>simp (config:={implicitDefEqProofs:=false}) [ZdR,ZdJ,ZeW,hk]
theorem fp_6 (c) (s:Int) (g:List Int) (l) (n:Int) (hk:(Zc c.1 (g.getD 0 0)).1=n):(n=14->(Zub c s g l).val=some (finX c s g l))/\(n=15->(Zua c s g l).val=some (finX c s g l)):=by
 refine⟨?_,?_⟩;all_goals intro e;subst e
 all_goals simp only[Zub,Zua,RT.val,rgx]
 all_goals simp only[qat0,mat0,qat1,mat1,rg0,hk,ZF,Zas,Za6,Z5,Z6,ZR,ZS,Zcx,ZcB,ZhT,ZhS,ZE,ZbC,finX,spOf]
 all_goals generalize Zd s=bi
 all_goals cases bi with
 |true=>simp[wPC,wSP]
 |false=>
  generalize (s==5)=bs;simp only[finI,hk,finR,wPC,wSP,wA,wF,fCY,fVCY,Zgt,flOf,ZW,pcOf,Zcn];generalize Zc c.1 (g.getD 0 0)=i at hk|-;generalize (i.2.2.1==6)=b0;cases b0<;>simp (config:={implicitDefEqProofs:=false}) [ZdR,ZdJ,ZeW,hk]
theorem fp_7 (c) (s:Int) (g:List Int) (l) (n:Int) (hk:(Zc c.1 (g.getD 0 0)).1=n):(n=24->(Zt1 c s g l).val=some (finX c s g l))/\(n=25->(Zt0 c s g l).val=some (finX c s g l))/\(n=26->(ZtZ c s g l).val=some (finX c s g l))/\(n=45->(ZtG c s g l).val=some (finX c s g l)):=by
 refine⟨?_,?_,?_,?_⟩;all_goals intro e;subst e
 all_goals simp only[Zt1,Zt0,ZtZ,ZtG,RT.val,rgx]
 all_goals simp only[qat0,mat0,qat1,mat1,rg0,hk,ZF,Zas,Za6,Z5,Z6,ZR,ZS,Zcx,ZcB,ZhT,ZhS,ZE,ZbC,finX,spOf]
 all_goals generalize Zd s=bi
 all_goals cases bi with
 |true=>simp[wPC,wSP]
 |false=>
  generalize (s==5)=bs;simp only[finI,hk,finR,wPC,wSP,wA,wF,fCY,fVCY,Zgt,flOf,ZW,pcOf,Zcn];generalize Zc c.1 (g.getD 0 0)=i at hk|-;generalize Zf8 _ _=b0;cases b0<;>simp (config:={implicitDefEqProofs:=false}) [ZdR,ZdJ,ZeW,hk]
theorem fp_8 (c) (s:Int) (g:List Int) (l) (n:Int) (hk:(Zc c.1 (g.getD 0 0)).1=n):(n=31->(ZtU c s g l).val=some (finX c s g l)):=by
 skip
 all_goals intro e;subst e
 all_goals simp only[ZtU,RT.val,rgx]
 all_goals simp only[qat0,mat0,qat1,mat1,rg0,hk,ZF,Zas,Za6,Z5,Z6,ZR,ZS,Zcx,ZcB,ZhT,ZhS,ZE,ZbC,finX,spOf]
 all_goals generalize Zd s=bi
 all_goals cases bi with
 |true=>simp[wPC,wSP]
 |false=>
  generalize (s==5)=bs;simp only[finI,hk,finR,wPC,wSP,wA,wF,fCY,fVCY,Zgt,flOf,ZW,pcOf,Zcn];generalize Zc c.1 (g.getD 0 0)=i at hk|-;generalize (i.2.2.2.2.1==3)=b0;cases b0<;>simp (config:={implicitDefEqProofs:=false}) [ZdR,ZdJ,ZeW,hk]
theorem fp_9 (c) (s:Int) (g:List Int) (l) (n:Int) (hk:(Zc c.1 (g.getD 0 0)).1=n):(n=38->(ZtN c s g l).val=some (finX c s g l)):=by
 skip
 all_goals intro e;subst e
 all_goals simp only[ZtN,RT.val,rgx]
 all_goals simp only[qat0,mat0,qat1,mat1,rg0,hk,ZF,Zas,Za6,Z5,Z6,ZR,ZS,Zcx,ZcB,ZhT,ZhS,ZE,ZbC,finX,spOf]
 all_goals generalize Zd s=bi
 all_goals cases bi with
 |true=>simp[wPC,wSP]
 |false=>
  generalize (s==5)=bs;simp only[finI,hk,finR,wPC,wSP,wA,wF,fCY,fVCY,Zgt,flOf,ZW,pcOf,Zcn];generalize Zc c.1 (g.getD 0 0)=i at hk|-;simp[ZdR,ZdJ,ZeW,hk,ZWB]
theorem fp_10 (c) (s:Int) (g:List Int) (l) (n:Int) (hk:(Zc c.1 (g.getD 0 0)).1=n):(n=39->(ZtM c s g l).val=some (finX c s g l)):=by
 skip
 all_goals intro e;subst e
 all_goals simp only[ZtM,RT.val,rgx]
 all_goals simp only[qat0,mat0,qat1,mat1,rg0,hk,ZF,Zas,Za6,Z5,Z6,ZR,ZS,Zcx,ZcB,ZhT,ZhS,ZE,ZbC,finX,spOf]
 all_goals generalize Zd s=bi
 all_goals cases bi with
 |true=>simp[wPC,wSP]
 |false=>
  generalize (s==5)=bs;simp only[finI,hk,finR,wPC,wSP,wA,wF,fCY,fVCY,Zgt,flOf,ZW,pcOf,Zcn];generalize Zc c.1 (g.getD 0 0)=i at hk|-;simp[ZdR,ZdJ,ZeW,hk,rSim,ZT9,RT.val]
theorem ZU3 (a:HL ZK) (h:okHL ZK a):∃l,Zd1 Tryz.prog l/\(Zg1 (envX Tryz.prog l [] 1023 8) Tryz.f85 ZK ZMB a).val=some (finX a.1 a.2.1 a.2.2.1 a.2.2.2):=by
 have hk:=ZNN a.1.1 _ (ZN8 h.2.2.1);refine⟨ZU4 (Zc a.1.1 (a.2.2.1.getD 0 0)).1,ZQQ _,?_⟩;show (EV0 _ a).val=_;rcases ZNM hk.1 hk.2 with e|e|e|e|e|e|e|e|e|e|e|e|e|e|e|e|e|e|e|e|e|e|e|e|e|e|e|e|e|e|e|e|e|e|e|e|e|e|e|e|e|e|e|e|e|e|e
 ·rw[e,ZMA a,((fp_1 a.1 a.2.1 a.2.2.1 a.2.2.2 _ e).1 rfl)]
 ·rw[e,ZMz a,((fp_5 a.1 a.2.1 a.2.2.1 a.2.2.2 _ e).1 rfl)]
 ·rw[e,ZMy a,((fp_2 a.1 a.2.1 a.2.2.1 a.2.2.2 _ e).1 rfl)]
 ·rw[e,ZMx a,((fp_3 a.1 a.2.1 a.2.2.1 a.2.2.2 _ e).1 rfl)]
 ·rw[e,ZMw a,((fp_4 a.1 a.2.1 a.2.2.1 a.2.2.2 _ e).1 rfl)]
 ·rw[e,ZMv a,((fp_1 a.1 a.2.1 a.2.2.1 a.2.2.2 _ e).2.1 rfl)]
 ·rw[e,ZMu a,((fp_2 a.1 a.2.1 a.2.2.1 a.2.2.2 _ e).2.1 rfl)]
 ·rw[e,ZMt a,((fp_3 a.1 a.2.1 a.2.2.1 a.2.2.2 _ e).2.1 rfl)]
 ·rw[e,ZMs a,((fp_4 a.1 a.2.1 a.2.2.1 a.2.2.2 _ e).2.1 rfl)]
 ·rw[e,ZHz a,((fp_1 a.1 a.2.1 a.2.2.1 a.2.2.2 _ e).2.2.1 rfl)]
 ·rw[e,ZHy a,((fp_2 a.1 a.2.1 a.2.2.1 a.2.2.2 _ e).2.2.1 rfl)]
 ·rw[e,ZHx a,((fp_5 a.1 a.2.1 a.2.2.1 a.2.2.2 _ e).2 rfl)]
 ·rw[e,ZHw a,((fp_3 a.1 a.2.1 a.2.2.1 a.2.2.2 _ e).2.2.1 rfl)]
 ·rw[e,ZHv a,((fp_6 a.1 a.2.1 a.2.2.1 a.2.2.2 _ e).1 rfl)]
 ·rw[e,ZHu a,((fp_6 a.1 a.2.1 a.2.2.1 a.2.2.2 _ e).2 rfl)]
 ·rw[e,ZHt a,((fp_4 a.1 a.2.1 a.2.2.1 a.2.2.2 _ e).2.2.1 rfl)]
 ·rw[e,ZHs a,((fp_1 a.1 a.2.1 a.2.2.1 a.2.2.2 _ e).2.2.2.1 rfl)]
 ·rw[e,ZHr a,((fp_2 a.1 a.2.1 a.2.2.1 a.2.2.2 _ e).2.2.2.1 rfl)]
 ·rw[e,ZHq a,((fp_3 a.1 a.2.1 a.2.2.1 a.2.2.2 _ e).2.2.2.1 rfl)]
 ·rw[e,ZHp a,((fp_4 a.1 a.2.1 a.2.2.1 a.2.2.2 _ e).2.2.2.1 rfl)]
 ·rw[e,ZHo a,((fp_1 a.1 a.2.1 a.2.2.1 a.2.2.2 _ e).2.2.2.2.1 rfl)]
 ·rw[e,ZHn a,((fp_2 a.1 a.2.1 a.2.2.1 a.2.2.2 _ e).2.2.2.2.1 rfl)]
 ·rw[e,ZHm a,((fp_3 a.1 a.2.1 a.2.2.1 a.2.2.2 _ e).2.2.2.2.1 rfl)]
 ·rw[e,ZHl a,((fp_7 a.1 a.2.1 a.2.2.1 a.2.2.2 _ e).1 rfl)]
 ·rw[e,ZHk a,((fp_7 a.1 a.2.1 a.2.2.1 a.2.2.2 _ e).2.1 rfl)]
 ·rw[e,ZHj a,((fp_7 a.1 a.2.1 a.2.2.1 a.2.2.2 _ e).2.2.1 rfl)]
 ·rw[e,ZHi a,((fp_4 a.1 a.2.1 a.2.2.1 a.2.2.2 _ e).2.2.2.2.1 rfl)]
 ·rw[e,ZHh a,((fp_1 a.1 a.2.1 a.2.2.1 a.2.2.2 _ e).2.2.2.2.2.1 rfl)]
 ·rw[e,ZHg a,((fp_2 a.1 a.2.1 a.2.2.1 a.2.2.2 _ e).2.2.2.2.2.1 rfl)]
 ·rw[e,ZHf a,((fp_3 a.1 a.2.1 a.2.2.1 a.2.2.2 _ e).2.2.2.2.2.1 rfl)]
 ·rw[e,ZHe a,((fp_8 a.1 a.2.1 a.2.2.1 a.2.2.2 _ e) rfl)]
 ·rw[e,ZHd a,((fp_4 a.1 a.2.1 a.2.2.1 a.2.2.2 _ e).2.2.2.2.2.1 rfl)]
 ·rw[e,ZHc a,((fp_1 a.1 a.2.1 a.2.2.1 a.2.2.2 _ e).2.2.2.2.2.2.1 rfl)]
 ·rw[e,ZHb a,((fp_2 a.1 a.2.1 a.2.2.1 a.2.2.2 _ e).2.2.2.2.2.2.1 rfl)]
 ·rw[e,ZHa a,((fp_3 a.1 a.2.1 a.2.2.1 a.2.2.2 _ e).2.2.2.2.2.2.1 rfl)]
 ·rw[e,ZG9 a,((fp_4 a.1 a.2.1 a.2.2.1 a.2.2.2 _ e).2.2.2.2.2.2.1 rfl)]
 ·rw[e,ZG8 a,((fp_1 a.1 a.2.1 a.2.2.1 a.2.2.2 _ e).2.2.2.2.2.2.2.1 rfl)]
 ·rw[e,ZG7 a,((fp_9 a.1 a.2.1 a.2.2.1 a.2.2.2 _ e) rfl)]
 ·rw[e,ZG6 a,((fp_10 a.1 a.2.1 a.2.2.1 a.2.2.2 _ e) rfl)]
 ·rw[e,ZG5 a,((fp_2 a.1 a.2.1 a.2.2.1 a.2.2.2 _ e).2.2.2.2.2.2.2.1 rfl)]
 ·rw[e,ZG4 a,((fp_3 a.1 a.2.1 a.2.2.1 a.2.2.2 _ e).2.2.2.2.2.2.2.1 rfl)]
 ·rw[e,ZG3 a,((fp_4 a.1 a.2.1 a.2.2.1 a.2.2.2 _ e).2.2.2.2.2.2.2.1 rfl)]
 ·rw[e,ZG2 a,((fp_1 a.1 a.2.1 a.2.2.1 a.2.2.2 _ e).2.2.2.2.2.2.2.2 rfl)]
 ·rw[e,ZG1 a,((fp_2 a.1 a.2.1 a.2.2.1 a.2.2.2 _ e).2.2.2.2.2.2.2.2 rfl)]
 ·rw[e,ZG0 a,((fp_7 a.1 a.2.1 a.2.2.1 a.2.2.2 _ e).2.2.2 rfl)]
 ·rw[e,ZGZ a,((fp_3 a.1 a.2.1 a.2.2.1 a.2.2.2 _ e).2.2.2.2.2.2.2.2 rfl)]
 ·rw[e,ZGY a,((fp_4 a.1 a.2.1 a.2.2.1 a.2.2.2 _ e).2.2.2.2.2.2.2.2 rfl)]
def ZU5:En:=Zg ZK ZMB (λ_=>none) (λa=>finX a.1 a.2.1 a.2.2.1 a.2.2.2)
theorem ZU2:Zb Tryz.prog 85 ZU5:=ZDU Tryz.func85 rfl (by kernel_rfl) Tryz.call85 λa h _=>ZU3 a h
theorem Zqu (c op:Int) (h:c≠2):Zc c op=Zc 0 op:=by unfold Zc;rw[ZmW c op h]
theorem ZAa (c op:Int) (h:c≠2):ZqV c op=ZqV 0 op:=by
 have h1:(c==2)=false:=by simpa using h
 have h0:((0:Int)==2)=false:=rfl;simp only[ZqV,ZBo,RT.val,Zqu c op h,h1,h0]
theorem Zzx (c op:Int) (h:c≠2):ZgB c op=ZgB 0 op:=by
 have h1:rOn c=false:=by simpa [ZbC] using h
 have h0:rOn 0=false:=rfl;simp only[ZgB,ZKu,RT.val,Zqu c op h,h1,h0]
def firT (c op:Int):Bool:=ZqV c op==ZgB c op
theorem ZRE (c op:Int) (h:inR .u8 op):ZqV c op=ZgB c op:=by
 by_cases hc:c=2
 ·subst hc;exact eq_of_beq (Zf0 (firT 2) (by kernel_rfl) op h)
 ·rw[ZAa c op hc,Zzx c op hc];exact eq_of_beq (Zf0 (firT 0) (by kernel_rfl) op h)
def ZEG:En:=Zg ZtB ZtC (λ_=>none) (λa=>ZgB a.1 a.2)
theorem ZGW:Zb Tryz.prog 84 ZEG:=ZMq.tot (λa h=>by simp) (λa h=>ZRE _ _ h.2)
end
end Go.Proofs.YtpnjbfjomebppaaGreat
open Go.Proofs.Tryz (prog)
open Go.IntKind (u8 u16 i64)
namespace Go.Proofs.YtpnjbfjomebppaaGreat
noncomputable section
abbrev ZEg:List Sh:=[Sh.agg (R.Pq ZY (R.Pq (R.int i64) (R.Pq (R.sl (R.int u8)) (R.Pq (RY) (R.Pq (R.int i64) R.bool)))))]
abbrev ZEh:Rs:=Rs.one (Sh.one (R.int i64))
def ZLn (c:QT3):RT (Int):=
 .br (decide (c.2.2.2.2.1<1)||decide (c.2.2.2.2.1>9)) (.Lf (1)) (.Lf c.2.2.2.2.1)
def Zbv (c:QT3):Int:=(ZLn c).val
def Zig:En:=Zg ZEg ZEh (λ_=>none) (λa=>Zbv a)
theorem Zjc:Zb prog 136 Zig:=
 pureQ 7 [] [] ZEg ZEh trivial Tryz.func136 Tryz.call136 trivial (t:=λa=>ZLn a)
abbrev ZMi:List Sh:=[Sh.agg (R.Pq ZY (R.Pq (R.int i64) (R.Pq (R.sl (R.int u8)) (R.Pq (RY) (R.Pq (R.int i64) R.bool))))),Sh.one R.bool]
abbrev ZMk:Rs:=Rs.one (Sh.one (R.int i64))
def ZMj (c:QT3) (h:Bool):RT (Int):=
 .br (h) (.Lf (8)) (.br (c.1.2.2.2.2.1&&c.2.1==0) (.Lf (9)) (.Lf (1)))
def Zxv (c:QT3) (h:Bool):Int:=(ZMj c h).val
def ZEE:En:=Zg ZMi ZMk (λ_=>none) (λa=>Zxv a.1 a.2)
theorem ZED:Zb prog 193 ZEE:=
 pureQ 191 [] [] ZMi ZMk trivial Tryz.func193 Tryz.call193 trivial (t:=λa=>ZMj a.1 a.2)
abbrev ZqM:List Sh:=[Sh.one (R.int i64),Sh.one R.bool]
abbrev ZqN:Rs:=Rs.one (Sh.one (R.int i64))
def Znt (s:Int) (h:Bool):RT (Int):=
 .br (h) (.Lf (8)) (.br (s==0) (.Lf (9)) (.Lf (1)))
def ZlQ (s:Int) (h:Bool):Int:=(Znt s h).val
def Zxc:En:=Zg ZqM ZqN (λ_=>none) (λa=>ZlQ a.1 a.2)
theorem ZAf:Zb prog 196 Zxc:=
 pureQ 191 [] [] ZqM ZqN trivial Tryz.func196 Tryz.call196 trivial (t:=λa=>Znt a.1 a.2)
abbrev ZEj:List Sh:=[Sh.agg (R.Pq ZY (R.Pq (R.int i64) (R.Pq (R.sl (R.int u8)) (R.Pq (RY) (R.Pq (R.int i64) R.bool))))),Sh.one (R.int i64)]
abbrev ZEk:Rs:=Rs.one (Sh.agg (R.Pq ZY (R.Pq (R.int i64) (R.Pq (R.sl (R.int u8)) (R.Pq (RY) (R.Pq (R.int i64) R.bool))))))
def ZLv (c:QT3) (s:Int):RT (QT3):=
 .Lf ((Zcq c.1 s,s,[],(Zh (Zcq c.1 s) s []).1,c.2.2.2.2))
def Zxm (c:QT3) (s:Int):QT3:=(ZLv c s).val
def Zs7:En:=Zg ZEj ZEk (λ_=>none) (λa=>Zxm a.1 a.2)
theorem Zxl:Zb prog 195 Zs7:=
 pureQ 31 [(81,ZxE),(82,Zxt)] [] ZEj ZEk ⟨ZBI,Ztj,Tv⟩ Tryz.func195 Tryz.call195 trivial (t:=λa=>ZLv a.1 a.2)
abbrev ZET:List Sh:=[Sh.agg ZY,Sh.one (R.int i64)]
abbrev ZEU:Rs:=Rs.one (Sh.agg (R.Pq ZY (R.Pq (R.int i64) (R.Pq (R.sl (R.int u8)) (R.Pq (RY) (R.Pq (R.int i64) R.bool))))))
def ZMV (c:TC) (s:Int):RT (QT3):=
 .Lf ((c,s,[],(Zh c s []).1,1,false))
def Zfj (c:TC) (s:Int):QT3:=(ZMV c s).val
def ZBC:En:=Zg ZET ZEU (λ_=>none) (λa=>Zfj a.1 a.2)
theorem ZxC:Zb prog 172 ZBC:=
 pureQ 127 [(82,Zxt)] [] ZET ZEU ⟨Ztj,Tv⟩ Tryz.func172 Tryz.call172 trivial (t:=λa=>ZMV a.1 a.2)
def ZT8 (c:QT3):RT (Int):=
 .br (decide (c.2.2.2.2.1<1)||decide (c.2.2.2.2.1>9)) (.Lf (1)) (.Lf c.2.2.2.2.1)
def Zp (c:QT3):Int:=(ZT8 c).val
abbrev ZUb:Rs:=Rs.tup [Sh.agg (RY),Sh.one (R.sl (R.int u8))]
def ZDr (c:QT3) (t:Int) (d:Int):RT (Option (TY×List Int)):=
 let x1:Int:=bif ZaU c.2.2.2.1.1 then d else c.2.2.2.1.2.2.1
 let x2:List Int:=[]++c.2.2.1++[x1]
 .br (t !=3) (.Lf (some ((c.2.2.2.1,c.2.2.1)))) (.br (!Nat.ble (List.length ([]++c.2.2.1)) most||Nat.ble (List.length x2) most) (.br (Nat.ble (List.length ([]++c.2.2.1)) most) (.Lf (some (((c.2.2.2.1.1,c.2.2.2.1.2.1,x1,bif c.2.2.2.1.1==1||c.2.2.2.1.1==8 then ZgB c.1.1 x1 else c.2.2.2.1.2.2.2),x2)))) (.Lf none)) (.Lf none))
def ZKe (c:QT3) (t:Int) (d:Int):TY×List Int:=getO ZUb.Df (ZDr c t d).val
def ZKd (c:QT3) (t:Int) (d:Int):Bool:=okB (ZDr c t d).val
def ZWT (t:Int) (x:QT12):RT (Bool):=
 .br (t==3) (.Lf (decide (x.2.2.2<=3))) (.br (bif t==4 then t==4 else t==5) (.Lf (decide (x.2.2.2<=t))) (.Lf (t==6)))
def ZwQ (t:Int) (x:QT12):Bool:=(ZWT t x).val
abbrev ZL3:List Sh:=[Sh.one (R.int i64)]
abbrev ZL4:Rs:=Rs.one (Sh.agg (R.Pq ZY (R.Pq (R.int i64) (R.Pq (R.sl (R.int u8)) (R.Pq (RY) (R.Pq (R.int i64) R.bool))))))
def ZUT (chip:Int):RT (QT3):=
 let x1:TR:=(0,0,0,0,0,0,0,(false,false,false,false,false,false,false),0,0)
 let x2:TC:=(Zfj (Zaq (chip,x1,false,false,false,0,false,false,false,false,false,false,false)) 0).1
 .Lf (((x2.1,x1,false,false,false,x2.2.2.2.2.2.1,false,false,false,false,false,false,false),0,[],(1,0,0,4),1,false))
def pNew (chip:Int):QT3:=(ZUT chip).val
def pNewE:En:=Zg ZL3 ZL4 (λ_=>none) (λa=>pNew a)
theorem ZUS:Zb prog 97 pNewE:=
 pureQ 7 [(80,Ztb),(172,ZBC)] [] ZL3 ZL4 ⟨ZqS,ZxC,Tv⟩ Tryz.func97 Tryz.call97 trivial (t:=λa=>ZUT a)
def Zlk:En:=.tree (Zr (envX prog [(82,Zxt),(85,ZU5),(193,ZEE),(194,Ztf),(195,Zs7)] [] 1023 8) Tryz.f192)
theorem ZpX:Zb prog 192 Zlk:=ZL (P:=prog) (n:=1023) (k:=8) (l:=[(82,Zxt),(85,ZU5),(193,ZEE),(194,Ztf),(195,Zs7)]) (ol:=[]) ⟨Ztj,ZU2,ZED,Zxp,Zxl,Tv⟩ Tryz.func192 rfl (by kernel_rfl) Tryz.call192 trivial
abbrev ZMY:List Sh:=[Sh.agg (R.Pq ZY (R.Pq (R.int i64) (R.Pq (R.sl (R.int u8)) (R.Pq (RY) (R.Pq (R.int i64) R.bool))))),Sh.agg (R.Pq R.bool (R.Pq R.bool rcF7)),Sh.one (R.int u8)]
abbrev ZEV:Rs:=Rs.tup [Sh.agg (R.Pq ZY (R.Pq (R.int i64) (R.Pq (R.sl (R.int u8)) (R.Pq (RY) (R.Pq (R.int i64) R.bool))))),Sh.agg (R.Pq R.bool (R.Pq ZY (R.Pq (R.sl (R.int u8)) (R.Pq (RY) ZY))))]
def ZMZ (c:QT3) (l:QT1) (d:Int):RT (Option ((QT3)×Bool×TC×List Int×TY×TC)):=
 let x1:Int:=bif ZaU c.2.2.2.1.1 then d else c.2.2.2.1.2.2.1
 let x2:List Int:=c.2.2.1++[x1]
 let x3:TC:=(0,(0,0,0,0,0,0,0,(false,false,false,false,false,false,false),0,0),false,false,false,0,false,false,false,false,false,false,false)
 let x4:Bool×TC×List Int×TY×TC:=(false,x3,[],c.2.2.2.1,Zi c.1 l)
 let x5:Int:=bif c.2.2.2.1.1==1||c.2.2.2.1.1==8 then ZgB (Zi c.1 l).1 x1 else c.2.2.2.1.2.2.2
 let x6:QT12:=(c.2.2.2.1.1,c.2.2.2.1.2.1,x1,x5)
 let x7:TY×TC:=(x6,Zi c.1 l)
 let x8:Bool×TC×List Int×TY×TC:=(false,x3,[],x7)
 let x9:=Zh (Zi c.1 l) c.2.1 x2
 let x10:=x9.1
 let x11:=finX (Zi c.1 l) c.2.1 x2 l
 let x12:=Zxm (x11,c.2.1,x2,x6,c.2.2.2.2) (Zei x11 l)
 let x13:=x12.2
 let x14:=x13.2.2
 let x15:=Zxm (finX (Zi c.1 l) c.2.1 c.2.2.1 l,c.2) (Zei (finX (Zi c.1 l) c.2.1 c.2.2.1 l) l)
 let x16:=x15.2
 let x17:=x16.2.2
 let x18:=Zxm (Zi c.1 l,c.2) (Zei (Zi c.1 l) l)
 let x19:=x18.2
 let x20:=x19.2.2
 .br (Nat.ble (List.length c.2.2.1) most) (.br (Zbv c==1||((bif Zbv c==2 then Zbv c==2 else Zbv c==7)||(!Zbv c==3||Nat.ble (List.length x2) most))) (.br (Zbv c==1) (.Lf (some (((Zi c.1 l,c.2.1,c.2.2.1,c.2.2.2.1,2,c.2.2.2.2.2),x4)))) (.br (bif Zbv c==2 then Zbv c==2 else Zbv c==7) (.Lf (some (((Zi c.1 l,c.2.1,c.2.2.1,c.2.2.2.1,bif Zad c.2.2.2.1.1&& !l.1 then 7 else 3,bif Zad c.2.2.2.1.1&& !l.1 then c.2.2.2.2.2 else l.2.1),x4)))) (.br (Zbv c==3) (.br (decide (x5>3)) (.Lf (some (((Zi c.1 l,c.2.1,x2,x6,4,c.2.2.2.2.2),x8)))) (.br x9.2 (.Lf (some (((Zi c.1 l,c.2.1,x2,x10,Zxv (Zi c.1 l,c.2.1,x2,x10,c.2.2.2.2) c.2.2.2.2.2,false),x8)))) (.Lf (some (((x12.1,x13.1,[],x14.1,Zxv x12 x14.2.2,false),true,x11,x2,x7)))))) (.br (bif Zbv c==4 then Zbv c==4 else bif Zbv c==5 then Zbv c==5 else Zbv c==6) (.br (decide (c.2.2.2.1.2.2.2>Zbv c)&&Zbv c !=6) (.Lf (some (((Zi c.1 l,c.2.1,c.2.2.1,c.2.2.2.1,i64.wrap (Zbv c+1),c.2.2.2.2.2),x4)))) (.br (Zh (Zi c.1 l) c.2.1 c.2.2.1).2 (.Lf (some (((Zi c.1 l,c.2.1,c.2.2.1,(Zh (Zi c.1 l) c.2.1 c.2.2.1).1,Zxv (Zi c.1 l,c.2.1,c.2.2.1,(Zh (Zi c.1 l) c.2.1 c.2.2.1).1,c.2.2.2.2) c.2.2.2.2.2,false),x4)))) (.Lf (some (((x15.1,x16.1,[],x17.1,Zxv x15 x17.2.2,false),true,finX (Zi c.1 l) c.2.1 c.2.2.1 l,c.2.2.1,c.2.2.2.1,Zi c.1 l)))))) (.br (Zbv c==8) (.Lf (some (((Zi c.1 l,c.2.1,c.2.2.1,c.2.2.2.1,Zxv (Zi c.1 l,c.2) l.2.1,c.2.2.2.2.2),x4)))) (.br (Zbv c==9) (.br (Zei (Zi c.1 l) l !=0) (.Lf (some (((x18.1,x19.1,[],x20.1,ZlQ (Zei (Zi c.1 l) l) l.2.1,x20.2.2),x4)))) (.Lf (some (((Zi c.1 l,c.2.1,c.2.2.1,c.2.2.2.1,ZlQ (Zei (Zi c.1 l) l) l.2.1,c.2.2.2.2.2),x4))))) (.Lf (some (((Zi c.1 l,c.2),x4)))))))))) (.Lf none)) (.Lf none)
def pAdv (c:QT3) (l:QT1) (d:Int):(QT3)×Bool×TC×List Int×TY×TC:=getO ZEV.Df (ZMZ c l d).val
def ZM0 (c:QT3) (l:QT1) (d:Int):Bool:=okB (ZMZ c l d).val
def ZXp:En:=Zg ZMY ZEV (λa=>some (ZM0 a.1 a.2.1 a.2.2)) (λa=>pAdv a.1 a.2.1 a.2.2)
theorem ZMX:Zb prog 130 ZXp:=
 pureP 2679225218618052313454186380042176511 [(83,ZcV),(84,ZEG),(120,Ziu),(136,Zig),(189,ZqZ),(191,ZEy),(192,Zlk),(193,ZEE),(194,Ztf),(195,Zs7),(196,Zxc)] [] ZMY ZEV ⟨Zd2,ZGW,ZjN,Zjc,ZxD,ZGU,ZpX,ZED,Zxp,Zxl,ZAf,Tv⟩ Tryz.func130 Tryz.call130 trivial (t:=λa=>ZMZ a.1 a.2.1 a.2.2)
abbrev Zui:List Sh:=[Sh.agg (R.Pq ZY (R.Pq (R.int i64) (R.Pq (R.sl (R.int u8)) (R.Pq (RY) (R.Pq (R.int i64) R.bool))))),Sh.agg (R.Pq R.bool (R.Pq R.bool rcF7)),Sh.one (R.int u8)]
abbrev ZlY:Rs:=Rs.tup [Sh.agg (R.Pq ZY (R.Pq (R.int i64) (R.Pq (R.sl (R.int u8)) (R.Pq (RY) (R.Pq (R.int i64) R.bool))))),Sh.agg (R.Pq (R.int i64) (R.Pq (R.int u16) (R.Pq (R.int u8) (R.Pq R.bool (R.Pq R.bool (R.Pq R.bool (R.Pq R.bool (R.Pq R.bool (R.Pq R.bool (R.Pq R.bool rcF7))))))))))]
def Zkq (c:QT3) (l:QT1) (d:Int):RT (Option ((QT3)×Int×Int×Int×Bool×Bool×Bool×Bool×Bool×Bool×Bool×Bool×Bool×Bool×Bool×Bool×Bool×Bool)):=
 let x1:Int×TF×Int×Int:=(Zfj (Zaq c.1) 0).1.2.1.2.2.2.2.2.2
 let x2:=x1.2
 let x3:TY×Int×Int×Bool×Bool:=(c.2.2.2.1,d,c.1.2.1.2.2.2.2.2.2.2.2.2,c.1.2.2.1,c.1.2.2.2.2.2.2.2.2.2.2.2.2)
 .br l.2.2.1 (.Lf (some (((((Zfj (Zaq c.1) 0).1.1,((Zfj (Zaq c.1) 0).1.2.1.1,(Zfj (Zaq c.1) 0).1.2.1.2.1,(Zfj (Zaq c.1) 0).1.2.1.2.2.1,(Zfj (Zaq c.1) 0).1.2.1.2.2.2.1,(Zfj (Zaq c.1) 0).1.2.1.2.2.2.2.1,(Zfj (Zaq c.1) 0).1.2.1.2.2.2.2.2.1,x1.1,x2.1,x2.2.1,0),false,false,false,(Zfj (Zaq c.1) 0).1.2.2.2.2.2.1,false,false,false,false,false,false,false),0,[],(1,0,0,4),1,false),ZLM c.1.1 (10,x3))))) (.br (ZM0 c l d) (.Lf (some (((pAdv c l d).1,ZLM c.1.1 (Zbv c,x3))))) (.Lf none))
def ZSM (c:QT3) (l:QT1) (d:Int):(QT3)×Int×Int×Int×Bool×Bool×Bool×Bool×Bool×Bool×Bool×Bool×Bool×Bool×Bool×Bool×Bool×Bool:=getO ZlY.Df (Zkq c l d).val
def ZMR (c:QT3) (l:QT1) (d:Int):Bool:=okB (Zkq c l d).val
def ZVi:En:=Zg Zui ZlY (λa=>some (ZMR a.1 a.2.1 a.2.2)) (λa=>ZSM a.1 a.2.1 a.2.2)
theorem ZMQ:Zb prog 138 ZVi:=
 pureP 2047 [(79,ZSB),(80,Ztb),(130,ZXp),(136,Zig),(172,ZBC)] [] Zui ZlY ⟨ZQC,ZqS,ZMX,Zjc,ZxC,Tv⟩ Tryz.func138 Tryz.call138 trivial (t:=λa=>Zkq a.1 a.2.1 a.2.2)
abbrev LnT:=QT1
abbrev ZhK:=CpuT×Int×List Int×Cyc×Int×Bool
def Zaf (n:Int):Int:=bif decide (n<1)||decide (n>9) then 1 else n
def ZyO (c:CpuT) (s:Int):ZhK:=(c,s,[],(Zh c s []).1,1,false)
def idlX (c:CpuT) (s:Int) (h:Bool):Int:=bif h then 8 else bif c.2.2.2.2.1&&s==0 then 9 else 1
def endX (c:CpuT) (s:Int) (g:List Int) (h:Bool) (l:LnT):ZhK:=
 bif (Zh c s g).2 then (c,s,g,(Zh c s g).1,idlX c s h,false) else
 let q:=finX c s g l
 let k:=Zei q l
 let d:=Zcq q k
 (d,k,[],(Zh d k []).1,idlX d k h,false)
def ZdV (c:CpuT) (x:Cyc) (d:Int):Cyc:=
 let v:=bif ZaU x.1 then d else x.2.2.1
 (x.1,x.2.1,v,bif x.1==1||x.1==8 then ZgB c.1 v else x.2.2.2)
def le3 (x:Int):Bool:=decide (x<=3)
def Z2 (c:ZhK) (l:LnT) (d:Int):ZhK:=
 let t:=Zaf c.2.2.2.2.1
 let p:=Zi c.1 l
 let s:=c.2.1
 let g:=c.2.2.1
 let x:=c.2.2.2.1
 let h:=c.2.2.2.2.2
 bif l.2.2.1 then ZyO (Zaq c.1) 0 else
 bif t==1 then (p,s,g,x,2,h) else
 bif t==2||t==7 then (bif l.1|| !Zad x.1 then (p,s,g,x,3,l.2.1) else (p,s,g,x,7,h)) else
 bif t==8 then (p,s,g,x,idlX p s l.2.1,h) else
 bif t==9 then
  (let k:=Zei p l
   bif k==0 then (p,s,g,x,bif l.2.1 then 8 else 9,h) else
   (Zcq p k,k,[],(Zh (Zcq p k) k []).1,bif l.2.1 then 8 else 1,h)) else
 bif t==3 then
  (let y:=ZdV p x d
   bif le3 y.2.2.2 then endX p s (g++[y.2.2.1]) h l else (p,s,g++[y.2.2.1],y,4,h)) else
 bif decide (t<x.2.2.2)&& !(t==6) then (p,s,g,x,t+1,h) else endX p s g h l
abbrev PinT:=QT10
def ZVM (c:ZhK) (t:Int):Cyc:=bif t==9 then (0,c.1.2.1.2.2.2.2.2.2.2.2.2,0,0) else c.2.2.2.1
def Zcr (c:ZhK) (l:LnT) (d:Int):PinT:=
 let t:=Zaf c.2.2.2.2.1
 ZpP c.1.1 (bif l.2.2.1 then 10 else t) (ZVM c t) (bif l.2.2.1 then 0 else d) c.1.2.2.1 c.1.2.2.2.2.2.2.2.2.2.2.2.2
theorem ZvK (n:Int):1<=Zaf n/\Zaf n<=9:=by
 unfold Zaf;by_cases h:n<1\/n>9
 ·have:(decide (n<1)||decide (n>9))=true:=by simpa using h
  rw[this];simp
 ·have:(decide (n<1)||decide (n>9))=false:=by simpa using h
  rw[this];simp only[Yc];omega
theorem ZwX (c):Zbv c=Zaf c.2.2.2.2.1:=rfl
theorem ZKM (c:ZhK) (s):Zxm c s=(Zcq c.1 s,s,[],(Zh (Zcq c.1 s) s []).1,c.2.2.2.2):=rfl
theorem ZQi (c:ZhK) (h:Bool):Zxv c h=idlX c.1 c.2.1 h:=by simp only[Zxv,ZMj,idlX,RT.val]
theorem ZW6 (chip:Int) (x y:Cyc) (d:Int) (i o:Bool):ZpP chip 10 x d i o=ZpP chip 10 y 0 i o:=by simp only[ZpP,Zv7,RT.val,ZbC];generalize (chip==2)=b;cases b<;>simp
theorem Zv2 (c:CpuT):Zaq c=((Zaq c).1,((Zaq c).2.1.1,(Zaq c).2.1.2.1,(Zaq c).2.1.2.2.1,(Zaq c).2.1.2.2.2.1,(Zaq c).2.1.2.2.2.2.1,(Zaq c).2.1.2.2.2.2.2.1,(Zaq c).2.1.2.2.2.2.2.2.1,(Zaq c).2.1.2.2.2.2.2.2.2.1,(Zaq c).2.1.2.2.2.2.2.2.2.2.1,0),false,false,false,(Zaq c).2.2.2.2.2.1,false,false,false,false,false,false,false):=by simp only[Zaq,Zso,RT.val,ZbC]
theorem ZTc (c:CpuT):ZyO (Zaq c) 0=(Zaq c,0,[],(1,0,0,4),1,false):=by
 simp only[ZyO];have:(Zh (Zaq c) 0 []).1=(1,0,0,4):=by
  have hp:pcOf (Zaq c)=0:=by rw[Zv2];rfl
  simp[Zh,Zkk,Zd,ZqA,RT.val,hp];rfl
 rw[this]
theorem len1 {α:Type} (l:List α) (x:α) (h:l.length+1<=most):Nat.ble l.length most=true/\Nat.ble (l++[x]).length most=true:=by rw[YB,YB];simp only[Yd,List.length_cons,List.length_nil];omega
abbrev ChgT:=Bool×CpuT×List Int×Cyc×CpuT
abbrev cpu0:CpuT:=(0,(0,0,0,0,0,0,0,(false,false,false,false,false,false,false),0,0),false,false,false,0,false,false,false,false,false,false,false)
def ZaG (c:ZhK) (l:LnT) (d:Int):ChgT:=
 let t:=Zaf c.2.2.2.2.1
 let p:=Zi c.1 l
 let s:=c.2.1
 let g:=c.2.2.1
 let x:=c.2.2.2.1
 bif t==3 then
  (let y:=ZdV p x d
   bif le3 y.2.2.2&& !(Zh p s (g++[y.2.2.1])).2 then (true,finX p s (g++[y.2.2.1]) l,g++[y.2.2.1],y,p) else (false,cpu0,[],y,p)) else
 bif (t==4||(t==5||t==6))&&(!(decide (t<x.2.2.2)&& !(t==6))&& !(Zh p s g).2) then (true,finX p s g l,g,x,p) else (false,cpu0,[],x,p)
theorem gt3 (x:Int):decide (x>3)= !le3 x:=by unfold le3;by_cases h:x<=3<;>simp[h]<;>omega
theorem ZBG (c:ZhK) (l:LnT) (d:Int) (hg:c.2.2.1.length+1<=most) (hr:l.2.2.1=false):(ZMZ c l d).val=some (Z2 c l d,ZaG c l d):=by
 have h1:=λx=>len1 c.2.2.1 x hg
 obtain⟨t1,t2⟩:=ZvK c.2.2.2.2.1;unfold ZMZ Z2 ZaG;simp only[ZwX,hr,Yc,RT.val,(h1 0).1,(h1 _).2,Ya,Yh,ZKM,ZQi,endX,ZdV,idlX,ZlQ,Znt,gt3];have:Zaf c.2.2.2.2.1=1\/Zaf c.2.2.2.2.1=2\/Zaf c.2.2.2.2.1=7\/Zaf c.2.2.2.2.1=3\/Zaf c.2.2.2.2.1=4\/Zaf c.2.2.2.2.1=5\/Zaf c.2.2.2.2.1=6\/Zaf c.2.2.2.2.1=8\/Zaf c.2.2.2.2.1=9:=by omega
 rcases this with h|h|h|h|h|h|h|h|h<;>simp only[h,Int.reduceBEq,Int.reduceBNe,Ya,Yc,Yi,Yt,Yab,YT,YY,YK,Yf,Ym,gt_iff_lt,show IntKind.wrap .i64 (4+1)=4+1 from rfl,show IntKind.wrap .i64 (5+1)=5+1 from rfl]
 ·cases Zad c.2.2.2.1.1<;>cases l.1<;>rfl
 ·cases Zad c.2.2.2.1.1<;>cases l.1<;>rfl
 ·cases hA:le3 (ZdV (Zi c.1 l) c.2.2.2.1 d).2.2.2<;>cases hB:(Zh (Zi c.1 l) c.2.1 (c.2.2.1++[(ZdV (Zi c.1 l) c.2.2.2.1 d).2.2.1])).2<;>simp only[ZdV] at hA hB<;>simp only[hA,hB,Ya,Yc,Yf,Ym,YY,Yab,YT]<;>with_reducible rfl
 ·cases decide (4<c.2.2.2.1.2.2.2)<;>cases (Zh (Zi c.1 l) c.2.1 c.2.2.1).2<;>rfl
 ·cases decide (5<c.2.2.2.1.2.2.2)<;>cases (Zh (Zi c.1 l) c.2.1 c.2.2.1).2<;>rfl
 ·cases (Zh (Zi c.1 l) c.2.1 c.2.2.1).2<;>rfl
 ·have hb:(Zei (Zi c.1 l) l !=0)= !(Zei (Zi c.1 l) l==0):=rfl;rw[hb];cases hk:(Zei (Zi c.1 l) l==0)<;>rfl
theorem Zw9 (c:ZhK) (l:LnT) (d:Int) (hg:c.2.2.1.length+1<=most):(Zkq c l d).val=some (Z2 c l d,Zcr c l d):=by
 obtain⟨t1,t2⟩:=ZvK c.2.2.2.2.1;cases hr:l.2.2.1 with
 |true=>
  have hb:Zfj (Zaq c.1) 0=(Zaq c.1,0,[],(Zh (Zaq c.1) 0 []).1,1,false):=rfl;simp only[Zkq,RT.val,hr,Ya,Z2,Zcr,ZTc,hb];rw[<-Zv2,ZLc c.1.1 10 (by decide) (by decide) c.2.2.2.1 d 0 _ _ _ (λh=>absurd rfl h),ZW6 c.1.1 _ (ZVM c (Zaf c.2.2.2.2.1)) 0]
 |false=>
  have h:=ZBG c l d hg hr;have h1:ZM0 c l d=true:=by simp only[ZM0,h,okB]
  have h2:(pAdv c l d).1=Z2 c l d:=by simp only[pAdv,h,getO]
  simp only[Zkq,RT.val,hr,Yc,h1,Ya,h2,Zcr,ZwX];rw[ZLc c.1.1 (Zaf c.2.2.2.2.1) t1 (by omega) c.2.2.2.1 d d _ _ _ (λ_=>rfl)];simp only[ZVM]
def Zh8 (c:ZhK):Bool:=Nat.ble (c.2.2.1.length+1) most
theorem Zef {c:ZhK}:Zh8 c=true↔c.2.2.1.length+1<=most:=by simp[Zh8]
def clkX (c:ZhK) (l:LnT) (d:Int):ZhK×PinT:=(Z2 c l d,Zcr c l d)
def Zji:En:=Zg Zui ZlY (λa=>some (Zh8 a.1)) (λa=>clkX a.1 a.2.1 a.2.2)
theorem ZqY:Zb Tryz.prog 138 Zji:=ZMQ.pure_congr
 (λa h hp=>by have h1:=Zw9 a.1 a.2.1 a.2.2 (Zef.1 (by simpa using hp));simp[ZMR,h1,okB])
 (λa h hp=>by have h1:=Zw9 a.1 a.2.1 a.2.2 (Zef.1 (by simpa using hp));simp only[ZSM,h1,getO,clkX])
def ZM1:En:=Zg ZMY ZEV (λa=>some (Zh8 a.1&& !a.2.1.2.2.1)) (λa=>(Z2 a.1 a.2.1 a.2.2,ZaG a.1 a.2.1 a.2.2))
theorem ZQ1:Zb Tryz.prog 130 ZM1:=ZMX.pure_congr
 (λa h hp=>by
  have hp:(Zh8 a.1&& !a.2.1.2.2.1)=true:=by simpa using hp
  simp only[Yb,YE] at hp
  have h1:=ZBG a.1 a.2.1 a.2.2 (Zef.1 hp.1) hp.2;simp[ZM0,h1,okB])
 (λa h hp=>by
  have hp:(Zh8 a.1&& !a.2.1.2.2.1)=true:=by simpa using hp
  simp only[Yb,YE] at hp
  have h1:=ZBG a.1 a.2.1 a.2.2 (Zef.1 hp.1) hp.2;simp only[pAdv,h1,getO])
def newX (chip:Int):ZhK:=ZyO (Zaq (chip,(0,0,0,0,0,0,0,(false,false,false,false,false,false,false),0,0),false,false,false,0,false,false,false,false,false,false,false)) 0
theorem ZUo (chip:Int):pNew chip=newX chip:=by
 have hb:∀c,Zfj c 0=ZyO c 0:=λ_=>rfl
 unfold newX;simp only[pNew,ZUT,RT.val,hb];rw[ZTc];simp only[Zaq,Zso,RT.val,ZbC]
def ZEt:En:=Zg ZL3 ZL4 (λ_=>none) (λa=>newX a)
theorem ZEs:Zb Tryz.prog 97 ZEt:=ZUS.tot (λa h=>by simp) (λa h=>ZUo _)
abbrev ZE9:List Sh:=[Sh.one (R.int i64),Sh.one (R.int i64)]
abbrev ZuB:Rs:=Rs.one (Sh.one (R.int i64))
def ZoX (x:Int) (n:Int):RT (Option (Int)):=
 .br (IntKind.u64.wrap n !=0) (.Lf (some (i64.wrap (Int.tmod (IntKind.u64.wrap x) (IntKind.u64.wrap n))))) (.Lf none)
def ZFa (x:Int) (n:Int):Int:=getO ZuB.Df (ZoX x n).val
def ZuC (x:Int) (n:Int):Bool:=okB (ZoX x n).val
def ZNA:En:=Zg ZE9 ZuB (λa=>some (ZuC a.1 a.2)) (λa=>ZFa a.1 a.2)
theorem ZNy:Zb prog 47 ZNA:=
 pureP 31 [] [] ZE9 ZuB trivial Tryz.func47 Tryz.call47 trivial (t:=λa=>ZoX a.1 a.2)
abbrev ZBV:R:=R.Pq (R.sl (R.int i64)) (R.int i64)
abbrev ZNf:List Sh:=[Sh.one (R.int i64)]
abbrev ZBU:Rs:=Rs.one (Sh.one (R.int i64))
def ZoI (s:List Int×Int) (n:Int):RT (Option (QT22)):=
 let x1:=Zf (i64.wrap (i64.wrap (s.2+1)-1)) (List.length s.1)
 let x2:Int:=R.get (R.int i64) s.1 (i64.wrap (i64.wrap (s.2+1)-1))
 .br (decide (s.2>=iN (List.length s.1))) (.Lf (some ((0,s.1,i64.wrap (s.2+1))))) (.br (!x1||ZuC x2 n) (.br (x1) (.Lf (some ((ZFa x2 n,s.1,i64.wrap (s.2+1))))) (.Lf none)) (.Lf none))
def Za (s:List Int×Int) (n:Int):QT22:=getO (ZBU.Df,ZBV.Df) (ZoI s n).val
def Zj (s:List Int×Int) (n:Int):Bool:=okB (ZoI s n).val
def ZcW:En:=boxE ZBV ZNf ZBU (λa=>some (Zj a.1 a.2)) (λa=>Za a.1 a.2)
theorem Zbf:Zb prog 68 ZcW:=
 ZcJ (P:=prog) (n:=31) (k:=8) (l:=[(47,ZNA)]) (ol:=[]) ⟨ZNy,Tv⟩ Tryz.func68 rfl (by kernel_rfl) Tryz.call68 trivial (rb:=ZBV) (ts:=ZNf) (rs:=ZBU) (t:=λa=>ZoI a.1 a.2) (λa=>by kernel_rfl)
abbrev ZB3:R:=R.Pq (R.sl (R.int i64)) (R.int i64)
abbrev ZNn:List Sh:=[]
abbrev ZB2:Rs:=Rs.one (Sh.one (R.int u8))
def ZoP (s:List Int×Int):RT (Option (QT22)):=
 let x1:List Int:=[0,1,127,128,255,15,16,153,154,9,102,254,129,85,170,64]
 .br (Zj s 512) (.br (!decide ((Za s 512).1>=256)||Zf (Int.tmod (Za s 512).1 16) (List.length x1)) (.br (decide ((Za s 512).1>=256)) (.Lf (some ((R.get (R.int u8) x1 (Int.tmod (Za s 512).1 16),(Za s 512).2)))) (.Lf (some ((u8.wrap (Za s 512).1,(Za s 512).2))))) (.Lf none)) (.Lf none)
def Zc7 (s:List Int×Int):QT22:=getO (ZB2.Df,ZB3.Df) (ZoP s).val
def ZgR (s:List Int×Int):Bool:=okB (ZoP s).val
def ZxV:En:=boxE ZB3 ZNn ZB2 (λa=>some (ZgR a.1)) (λa=>Zc7 a.1)
theorem Zl2:Zb prog 71 ZxV:=
 ZcJ (P:=prog) (n:=15) (k:=8) (l:=[(68,ZcW)]) (ol:=[]) ⟨Zbf,Tv⟩ Tryz.func71 rfl (by kernel_rfl) Tryz.call71 trivial (rb:=ZB3) (ts:=ZNn) (rs:=ZB2) (t:=λa=>ZoP a.1) (λa=>by kernel_rfl)
abbrev ZBO:R:=R.Pq (R.sl (R.int i64)) (R.int i64)
abbrev ZNd:List Sh:=[]
abbrev ZBN:Rs:=Rs.one (Sh.one (R.int u16))
def Zjl (s:List Int×Int):RT (Option (QT22)):=
 let x1:List Int:=[0,1,65535,65534,32767,32768,255,256]
 let x2:= !(Za s 5).1==0||(!Zj (Za s 5).2 8||Zf (Za (Za s 5).2 8).1 (List.length x1))
 let x3:= !x2
 let x4:= !(Za s 5).1==0||Zj (Za s 5).2 8
 .br (Zj s 5) (.br (x3||(!x4||((Za s 5).1==0||(!(Za s 5).1==1||Zj (Za s 5).2 65536)))) (.br (x3||x4) (.br (x2) (.br ((Za s 5).1==0) (.Lf (some ((R.get (R.int u16) x1 (Za (Za s 5).2 8).1,(Za (Za s 5).2 8).2)))) (.br ((Za s 5).1==1) (.Lf (some ((u16.wrap (Za (Za s 5).2 65536).1,(Za (Za s 5).2 65536).2)))) (.br (Zj (Za s 5).2 64) (.Lf (some ((u16.wrap (Za (Za s 5).2 64).1,(Za (Za s 5).2 64).2)))) (.Lf none)))) (.Lf none)) (.Lf none)) (.Lf none)) (.Lf none)
def ZaW (s:List Int×Int):QT22:=getO (ZBN.Df,ZBO.Df) (Zjl s).val
def Zf9 (s:List Int×Int):Bool:=okB (Zjl s).val
def ZNe:En:=boxE ZBO ZNd ZBN (λa=>some (Zf9 a.1)) (λa=>ZaW a.1)
theorem ZEY:Zb prog 70 ZNe:=
 ZcJ (P:=prog) (n:=4135) (k:=8) (l:=[(68,ZcW)]) (ol:=[]) ⟨Zbf,Tv⟩ Tryz.func70 rfl (by kernel_rfl) Tryz.call70 trivial (rb:=ZBO) (ts:=ZNd) (rs:=ZBN) (t:=λa=>Zjl a.1) (λa=>by kernel_rfl)
abbrev ZB1:R:=R.Pq (R.sl (R.int i64)) (R.int i64)
abbrev ZNl:List Sh:=[]
abbrev ZB0:Rs:=Rs.one (Sh.one (R.int i64))
def ZxU (s:List Int×Int):RT (Option (QT22)):=
 .br (Zj s 2) (.Lf (some ((i64.wrap (1+(Za s 2).1),(Za s 2).2)))) (.Lf none)
def Za4 (s:List Int×Int):QT22:=getO (ZB0.Df,ZB1.Df) (ZxU s).val
def ZoO (s:List Int×Int):Bool:=okB (ZxU s).val
def ZNm:En:=boxE ZB1 ZNl ZB0 (λa=>some (ZoO a.1)) (λa=>Za4 a.1)
theorem ZE4:Zb prog 122 ZNm:=
 ZcJ (P:=prog) (n:=7) (k:=8) (l:=[(68,ZcW)]) (ol:=[]) ⟨Zbf,Tv⟩ Tryz.func122 rfl (by kernel_rfl) Tryz.call122 trivial (rb:=ZB1) (ts:=ZNl) (rs:=ZB0) (t:=λa=>ZxU a.1) (λa=>by kernel_rfl)
abbrev ZoH:R:=R.Pq (R.sl (R.int i64)) (R.int i64)
abbrev ZxQ:List Sh:=[]
abbrev ZoG:Rs:=Rs.one (Sh.one (R.int u8))
def ZfN (s:List Int×Int):RT (Option (QT22)):=
 let x1:List Int:=[251,243,118,205,201,197,227,211,219,54,52,32,48,194,202,255,62,49]
 .br (Zj s 3) (.br (!decide ((Za s 3).1>0)||Zj (Za s 3).2 256) (.br (decide ((Za s 3).1>0)) (.Lf (some ((u8.wrap (Za (Za s 3).2 256).1,(Za (Za s 3).2 256).2)))) (.br (!Zj (Za s 3).2 18||Zf (Za (Za s 3).2 18).1 (List.length x1)) (.br (Zj (Za s 3).2 18) (.Lf (some ((R.get (R.int u8) x1 (Za (Za s 3).2 18).1,(Za (Za s 3).2 18).2)))) (.Lf none)) (.Lf none))) (.Lf none)) (.Lf none)
def Zan (s:List Int×Int):QT22:=getO (ZoG.Df,ZoH.Df) (ZfN s).val
def Zcl (s:List Int×Int):Bool:=okB (ZfN s).val
def Zhw:En:=boxE ZoH ZxQ ZoG (λa=>some (Zcl a.1)) (λa=>Zan a.1)
theorem Zfm:Zb prog 119 Zhw:=
 ZcJ (P:=prog) (n:=7) (k:=8) (l:=[(68,ZcW)]) (ol:=[]) ⟨Zbf,Tv⟩ Tryz.func119 rfl (by kernel_rfl) Tryz.call119 trivial (rb:=ZoH) (ts:=ZxQ) (rs:=ZoG) (t:=λa=>ZfN a.1) (λa=>by kernel_rfl)
def NB (s:List Int×Int) (k:Int):Prop:=0<=s.2/\s.2<=k
theorem ZNz (x n:Int) (h0:0<n) (h1:n<=4611686018427387904):ZuC x n=true/\ZFa x n=(x%18446744073709551616)%n:=by
 have e:IntKind.wrap .u64 n=n:=Zrv ⟨by simp[IntKind.min,IntKind.signed];omega,by simp[IntKind.max,IntKind.signed,IntKind.bits];omega⟩;have e2:IntKind.wrap .u64 x=x%18446744073709551616:=by simp[IntKind.wrap,IntKind.signed,IntKind.bits]
 have hn:(n !=0)=true:=by simp;omega
 have h2:0<=x%18446744073709551616:=Int.emod_nonneg _ (by decide);have h3:=Int.emod_nonneg (x%18446744073709551616) (b:=n) (by omega);have h4:=Int.emod_lt_of_pos (x%18446744073709551616) (b:=n) h0;have hv:(ZoX x n).val=some ((x%18446744073709551616)%n):=by simp only[ZoX,RT.val,e,e2,hn,Ya,Int.tmod_eq_emod_of_nonneg h2];rw[wrap_i64 _ (by omega) (by omega)]
 exact⟨by simp only[ZuC,hv];rfl,by simp only[ZFa,hv,getO]⟩
variable {s:List Int×Int} {k:Int}
theorem Zq (h:NB s k) (hk:k<=1000000) (n:Int) (h0:0<n) (h1:n<=4611686018427387904):
  Zj s n=true/\NB (Za s n).2 (k+1)/\0<=(Za s n).1/\(Za s n).1<n:=by
 obtain⟨ha,hb⟩:=h;have e1:IntKind.wrap .i64 (s.2+1)=s.2+1:=wrap_i64 _ (by omega) (by omega);have e2:IntKind.wrap .i64 s.2=s.2:=wrap_i64 _ (by omega) (by omega);by_cases hl:(s.1.length:Int)<=s.2
 ·have hv:(ZoI s n).val=some (0,s.1,s.2+1):=by simp[ZoI,RT.val,iN,hl,e1]
  simp only[Zj,Za,hv,okB,getO,NB];exact⟨trivial,⟨by omega,by omega⟩,by omega,h0⟩
 ·have hr:Zf s.2 s.1.length=true:=Zx.2 ⟨ha,by omega⟩;obtain⟨p1,p2⟩:=ZNz (R.get (R.int i64) s.1 s.2) n h0 h1;have h3:=Int.emod_nonneg (R.get (R.int i64) s.1 s.2%18446744073709551616) (b:=n) (by omega);have h4:=Int.emod_lt_of_pos (R.get (R.int i64) s.1 s.2%18446744073709551616) (b:=n) h0;have hv:(ZoI s n).val=some ((R.get (R.int i64) s.1 s.2%18446744073709551616)%n,s.1,s.2+1):=by simp[ZoI,RT.val,iN,hl,e1,e2,hr,p1,p2]
  simp only[Zj,Za,hv,okB,getO,NB];exact⟨trivial,⟨by omega,by omega⟩,h3,h4⟩
theorem Zl3 (h:NB s k) (hk:k<=1000000):ZgR s=true/\NB (Zc7 s).2 (k+1)/\inR .u8 (Zc7 s).1:=by
 obtain⟨c,b,d0,d1⟩:=Zq h hk 512 (by decide) (by decide);have m0:0<=(Za s 512).1%16:=Int.emod_nonneg _ (by decide);have m1:(Za s 512).1%16<16:=Int.emod_lt_of_pos _ (by decide);have ht:Int.tmod (Za s 512).1 16=(Za s 512).1%16:=Int.tmod_eq_emod_of_nonneg d0;by_cases hn:256<=(Za s 512).1
 ·have hv:(ZoP s).val=some (R.get (R.int u8) [0,1,127,128,255,15,16,153,154,9,102,254,129,85,170,64] ((Za s 512).1%16),(Za s 512).2):=by simp[ZoP,RT.val,c,hn,ht,Zf,m0,m1]
  simp only[ZgR,Zc7,hv,okB,getO];refine⟨trivial,b,?_⟩;have hall:∀i:Nat,i<16->inR .u8 (([0,1,127,128,255,15,16,153,154,9,102,254,129,85,170,64]:List Int).getD i 0):=by
   intro i hi;have:∀i:Fin 16,decide (0<=([0,1,127,128,255,15,16,153,154,9,102,254,129,85,170,64]:List Int).getD i 0)&&decide (([0,1,127,128,255,15,16,153,154,9,102,254,129,85,170,64]:List Int).getD i 0<=255):=by decide
   have:=this ⟨i,hi⟩;rw[ZhV];simpa using this
  exact hall ((Za s 512).1%16).toNat (by omega)
 ·have hv:(ZoP s).val=some (IntKind.wrap .u8 (Za s 512).1,(Za s 512).2):=by simp[ZoP,RT.val,c,hn]
  simp only[ZgR,Zc7,hv,okB,getO];exact⟨trivial,b,Zao _ _⟩
theorem ZEZ (h:NB s k) (hk:k<=900000):Zf9 s=true/\NB (ZaW s).2 (k+2)/\inR .u16 (ZaW s).1:=by
 obtain⟨c,b,d0,d1⟩:=Zq h (by omega) 5 (by decide) (by decide);obtain⟨c8,b8,e0,e1⟩:=Zq b (by omega) 8 (by decide) (by decide);obtain⟨c6,b6,_⟩:=Zq b (by omega) 65536 (by decide) (by decide);obtain⟨c4,b4,_⟩:=Zq b (by omega) 64 (by decide) (by decide);have w:∀{t:List Int×Int},NB t (k+1+1)->NB t (k+2):=λh=>⟨h.1,by have:=h.2;omega⟩
 have hr:Zf (Za (Za s 5).2 8).1 8=true:=Zx.2 ⟨e0,by omega⟩;by_cases h0:(Za s 5).1=0
 ·have hv:(Zjl s).val=some (R.get (R.int u16) [0,1,65535,65534,32767,32768,255,256] (Za (Za s 5).2 8).1,(Za (Za s 5).2 8).2):=by simp[Zjl,RT.val,c,h0,c8,hr]
  simp only[Zf9,ZaW,hv,okB,getO];refine⟨trivial,w b8,?_⟩;have hall:∀i:Nat,i<8->inR .u16 (([0,1,65535,65534,32767,32768,255,256]:List Int).getD i 0):=by
   intro i hi;have:∀i:Fin 8,decide (0<=([0,1,65535,65534,32767,32768,255,256]:List Int).getD i 0)&&decide (([0,1,65535,65534,32767,32768,255,256]:List Int).getD i 0<=65535):=by decide
   have:=this ⟨i,hi⟩;simp only[Yb,Yj] at this;exact⟨by simpa [IntKind.min,IntKind.signed] using this.1,by simpa [IntKind.max,IntKind.signed,IntKind.bits] using this.2⟩
  exact hall (Za (Za s 5).2 8).1.toNat (by omega)
 ·by_cases h1:(Za s 5).1=1
  ·have hv:(Zjl s).val=some (IntKind.wrap .u16 (Za (Za s 5).2 65536).1,(Za (Za s 5).2 65536).2):=by simp[Zjl,RT.val,c,h1,c6]
   simp only[Zf9,ZaW,hv,okB,getO];exact⟨trivial,w b6,Zao _ _⟩
  ·have hv:(Zjl s).val=some (IntKind.wrap .u16 (Za (Za s 5).2 64).1,(Za (Za s 5).2 64).2):=by
    have g0:((Za s 5).1==0)=false:=by simpa using h0
    have g1:((Za s 5).1==1)=false:=by simpa using h1
    simp[Zjl,RT.val,c,g0,g1,c4]
   simp only[Zf9,ZaW,hv,okB,getO];exact⟨trivial,w b4,Zao _ _⟩
theorem ZQ9 (h:NB s k) (hk:k<=1000000):ZoO s=true/\NB (Za4 s).2 (k+1)/\((Za4 s).1=1\/(Za4 s).1=2):=by
 obtain⟨c,b,d0,d1⟩:=Zq h hk 2 (by decide) (by decide);have hv:(ZxU s).val=some (1+(Za s 2).1,(Za s 2).2):=by simp[ZxU,RT.val,c];rw[wrap_i64 _ (by omega) (by omega)]
 simp only[ZoO,Za4,hv,okB,getO];exact⟨trivial,b,by omega⟩
theorem ZkB (h:NB s k) (hk:k<=900000):Zcl s=true/\NB (Zan s).2 (k+2)/\inR .u8 (Zan s).1:=by
 obtain⟨c,b,d0,d1⟩:=Zq h (by omega) 3 (by decide) (by decide);have w:∀{t:List Int×Int},NB t (k+1+1)->NB t (k+2):=λh=>⟨h.1,by have:=h.2;omega⟩
 by_cases hn:0<(Za s 3).1
 ·have hk':k+1<=1000001:=by omega
  obtain⟨c2,b2,_⟩:=Zq b (by omega) 256 (by decide) (by decide);have hv:(ZfN s).val=some (IntKind.wrap .u8 (Za (Za s 3).2 256).1,(Za (Za s 3).2 256).2):=by simp[ZfN,RT.val,c,hn,c2]
  simp only[Zcl,Zan,hv,okB,getO];exact⟨trivial,w b2,Zao _ _⟩
 ·obtain⟨c2,b2,e0,e1⟩:=Zq b (by omega) 18 (by decide) (by decide);have hr:Zf (Za (Za s 3).2 18).1 18=true:=Zx.2 ⟨e0,by omega⟩;have hv:(ZfN s).val=some (R.get (R.int u8) [251,243,118,205,201,197,227,211,219,54,52,32,48,194,202,255,62,49] (Za (Za s 3).2 18).1,(Za (Za s 3).2 18).2):=by simp[ZfN,RT.val,c,hn,c2,hr]
  simp only[Zcl,Zan,hv,okB,getO];refine⟨trivial,w b2,?_⟩;have hall:∀i:Nat,i<18->inR .u8 (([251,243,118,205,201,197,227,211,219,54,52,32,48,194,202,255,62,49]:List Int).getD i 0):=by
   intro i hi;have:∀i:Fin 18,decide (0<=([251,243,118,205,201,197,227,211,219,54,52,32,48,194,202,255,62,49]:List Int).getD i 0)&&decide (([251,243,118,205,201,197,227,211,219,54,52,32,48,194,202,255,62,49]:List Int).getD i 0<=255):=by decide
   have:=this ⟨i,hi⟩;rw[ZhV];simpa using this
  exact hall (Za (Za s 3).2 18).1.toNat (by omega)
theorem ZOe (l:List Int):NB (l,0) 0:=⟨by simp,by simp⟩
end
end Go.Proofs.YtpnjbfjomebppaaGreat
