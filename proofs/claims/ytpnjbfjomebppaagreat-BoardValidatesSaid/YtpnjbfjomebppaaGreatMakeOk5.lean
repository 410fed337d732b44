import Derived.Test.YtpnjbfjomebppaaGreatFinRX
import Derived.Test.YtpnjbfjomebppaaGreatFin1
import Derived.Test.YtpnjbfjomebppaaGreatFin2
import Derived.Test.YtpnjbfjomebppaaGreatFin3
import Derived.Test.YtpnjbfjomebppaaGreatFin4
open Go Go.S3 Go.Proofs
set_option linter.unusedVariables false
set_option linter.unusedSimpArgs false
set_option maxRecDepth 100000
namespace Go.Proofs.YtpnjbfjomebppaaGreat
noncomputable section
theorem fp_1 (c) (s:Int) (g:List Int) (l) (n:Int) (hk:(Zc c.1 (g.getD 0 0)).1=n):(n=1->(ZAO c s g l).val=some (finX c s g l))/\(n=6->(ZAJ c s g l).val=some (finX c s g l))/\(n=10->(Ztu c s g l).val=some (finX c s g l))/\(n=17->(Ztn c s g l).val=some (finX c s g l))/\(n=21->(Ztj c s g l).val=some (finX c s g l))/\(n=28->(Ztc c s g l).val=some (finX c s g l))/\(n=33->(Zs7 c s g l).val=some (finX c s g l))/\(n=37->(Zs3 c s g l).val=some (finX c s g l))/\(n=43->(ZsX c s g l).val=some (finX c s g l)):=by
 refine⟨?_,?_,?_,?_,?_,?_,?_,?_,?_⟩;all_goals intro e;subst e
 all_goals simp only[ZAO,ZAJ,Ztu,Ztn,Ztj,Ztc,Zs7,Zs3,ZsX,RT.val,rgx]
 all_goals simp only[qat0,mat0,qat1,mat1,rg0,hk,ZB,Zag,ZaL,ZX,ZY,ZL,ZM,Zb2,Zb3,ZgZ,ZgY,ZA,Za8,finX,spOf]
 all_goals generalize Zd s=bi
 all_goals cases bi with
 |true=>simp[wPC,wSP]
 |false=>
  generalize (s==5)=bs;simp only[finI,hk,finR,wPC,wSP,wA,wF,fCY,fVCY,ZfL,flOf,ZR,pcOf,ZbV];generalize Zc c.1 (g.getD 0 0)=i at hk|-;simp (config:={implicitDefEqProofs:=false}) [Zdm,Zdf,Zej,hk]
theorem fp_2 (c) (s:Int) (g:List Int) (l) (n:Int) (hk:(Zc c.1 (g.getD 0 0)).1=n):(n=3->(ZAM c s g l).val=some (finX c s g l))/\(n=7->(ZAI c s g l).val=some (finX c s g l))/\(n=11->(Ztt c s g l).val=some (finX c s g l))/\(n=18->(Ztm c s g l).val=some (finX c s g l))/\(n=22->(Zti c s g l).val=some (finX c s g l))/\(n=29->(Ztb c s g l).val=some (finX c s g l))/\(n=34->(Zs6 c s g l).val=some (finX c s g l))/\(n=40->(Zs0 c s g l).val=some (finX c s g l))/\(n=44->(ZsW c s g l).val=some (finX c s g l)):=by
 refine⟨?_,?_,?_,?_,?_,?_,?_,?_,?_⟩;all_goals intro e;subst e
 all_goals simp only[ZAM,ZAI,Ztt,Ztm,Zti,Ztb,Zs6,Zs0,ZsW,RT.val,rgx]
 all_goals simp only[qat0,mat0,qat1,mat1,rg0,hk,ZB,Zag,ZaL,ZX,ZY,ZL,ZM,Zb2,Zb3,ZgZ,ZgY,ZA,Za8,finX,spOf]
 all_goals generalize Zd s=bi
 all_goals cases bi with
 |true=>simp[wPC,wSP]
 |false=>
  generalize (s==5)=bs;simp only[finI,hk,finR,wPC,wSP,wA,wF,fCY,fVCY,ZfL,flOf,ZR,pcOf,ZbV];generalize Zc c.1 (g.getD 0 0)=i at hk|-;simp (config:={implicitDefEqProofs:=false}) [Zdm,Zdf,Zej,hk]
theorem fp_3 (c) (s:Int) (g:List Int) (l) (n:Int) (hk:(Zc c.1 (g.getD 0 0)).1=n):(n=4->(ZAL c s g l).val=some (finX c s g l))/\(n=8->(ZAH c s g l).val=some (finX c s g l))/\(n=13->(Ztr c s g l).val=some (finX c s g l))/\(n=19->(Ztl c s g l).val=some (finX c s g l))/\(n=23->(Zth c s g l).val=some (finX c s g l))/\(n=30->(Zta c s g l).val=some (finX c s g l))/\(n=35->(Zs5 c s g l).val=some (finX c s g l))/\(n=41->(ZsZ c s g l).val=some (finX c s g l))/\(n=46->(ZsU c s g l).val=some (finX c s g l)):=by
 refine⟨?_,?_,?_,?_,?_,?_,?_,?_,?_⟩;all_goals intro e;subst e
 all_goals simp only[ZAL,ZAH,Ztr,Ztl,Zth,Zta,Zs5,ZsZ,ZsU,RT.val,rgx]
 all_goals simp only[qat0,mat0,qat1,mat1,rg0,hk,ZB,Zag,ZaL,ZX,ZY,ZL,ZM,Zb2,Zb3,ZgZ,ZgY,ZA,Za8,finX,spOf]
 all_goals generalize Zd s=bi
 all_goals cases bi with
 |true=>simp[wPC,wSP]
 |false=>
  generalize (s==5)=bs;simp only[finI,hk,finR,wPC,wSP,wA,wF,fCY,fVCY,ZfL,flOf,ZR,pcOf,ZbV];generalize Zc c.1 (g.getD 0 0)=i at hk|-;simp (config:={implicitDefEqProofs:=false}) [Zdm,Zdf,Zej,hk]
theorem fp_4 (c) (s:Int) (g:List Int) (l) (n:Int) (hk:(Zc c.1 (g.getD 0 0)).1=n):(n=5->(ZAK c s g l).val=some (finX c s g l))/\(n=9->(ZAG c s g l).val=some (finX c s g l))/\(n=16->(Zto c s g l).val=some (finX c s g l))/\(n=20->(Ztk c s g l).val=some (finX c s g l))/\(n=27->(Ztd c s g l).val=some (finX c s g l))/\(n=32->(Zs8 c s g l).val=some (finX c s g l))/\(n=36->(Zs4 c s g l).val=some (finX c s g l))/\(n=42->(ZsY c s g l).val=some (finX c s g l))/\(n=47->(ZsT c s g l).val=some (finX c s g l)):=by
 refine⟨?_,?_,?_,?_,?_,?_,?_,?_,?_⟩;all_goals intro e;subst e
 all_goals simp only[ZAK,ZAG,Zto,Ztk,Ztd,Zs8,Zs4,ZsY,ZsT,RT.val,rgx]
 all_goals simp only[qat0,mat0,qat1,mat1,rg0,hk,ZB,Zag,ZaL,ZX,ZY,ZL,ZM,Zb2,Zb3,ZgZ,ZgY,ZA,Za8,finX,spOf]
 all_goals generalize Zd s=bi
 all_goals cases bi with
 |true=>simp[wPC,wSP]
 |false=>
  generalize (s==5)=bs;simp only[finI,hk,finR,wPC,wSP,wA,wF,fCY,fVCY,ZfL,flOf,ZR,pcOf,ZbV];generalize Zc c.1 (g.getD 0 0)=i at hk|-;simp (config:={implicitDefEqProofs:=false}) [Zdm,Zdf,Zej,hk]
theorem fp_5 (c) (s:Int) (g:List Int) (l) (n:Int) (hk:(Zc c.1 (g.getD 0 0)).1=n):(n=2->(ZAN c s g l).val=some (finX c s g l))/\(n=12->(Zts c s g l).val=some (finX c s g l)):=by
 refine⟨?_,?_⟩;all_goals intro e;subst e
 all_goals simp only[ZAN,Zts,RT.val,rgx]
 all_goals simp only[qat0,mat0,qat1,mat1,rg0,hk,ZB,Zag,ZaL,ZX,ZY,ZL,ZM,Zb2,Zb3,ZgZ,ZgY,ZA,Za8,finX,spOf]
 all_goals generalize Zd s=bi
 all_goals cases bi with
 |true=>simp[wPC,wSP]
 |false=>
  generalize (s==5)=bs;simp only[finI,hk,finR,wPC,wSP,wA,wF,fCY,fVCY,ZfL,flOf,ZR,pcOf,ZbV];generalize Zc c.1 (g.getD 0 0)=i at hk|-;generalize (i.2.2.2.1==6)=b0;cases b0<;>simp (config:={implicitDefEqProofs:=false}) [Zdm,Zdf,Zej,hk]
theorem fp_6 (c) (s:Int) (g:List Int) (l) (n:Int) (hk:(Zc c.1 (g.getD 0 0)).1=n):(n=14->(Ztq c s g l).val=some (finX c s g l))/\(n=15->(Ztp c s g l).val=some (finX c s g l)):=by
 refine⟨?_,?_⟩;all_goals intro e;subst e
 all_goals simp only[Ztq,Ztp,RT.val,rgx]
 all_goals simp only[qat0,mat0,qat1,mat1,rg0,hk,ZB,Zag,ZaL,ZX,ZY,ZL,ZM,Zb2,Zb3,ZgZ,ZgY,ZA,Za8,finX,spOf]
 all_goals generalize Zd s=bi
 all_goals cases bi with
 |true=>simp[wPC,wSP]
 |false=>
  generalize (s==5)=bs;simp only[finI,hk,finR,wPC,wSP,wA,wF,fCY,fVCY,ZfL,flOf,ZR,pcOf,ZbV];generalize Zc c.1 (g.getD 0 0)=i at hk|-;generalize (i.2.2.1==6)=b0;cases b0<;>simp (config:={implicitDefEqProofs:=false}) [Zdm,Zdf,Zej,hk]
theorem fp_7 (c) (s:Int) (g:List Int) (l) (n:Int) (hk:(Zc c.1 (g.getD 0 0)).1=n):(n=24->(Ztg c s g l).val=some (finX c s g l))/\(n=25->(Ztf c s g l).val=some (finX c s g l))/\(n=26->(Zte c s g l).val=some (finX c s g l))/\(n=45->(ZsV c s g l).val=some (finX c s g l)):=by
 refine⟨?_,?_,?_,?_⟩;all_goals intro e;subst e
 all_goals simp only[Ztg,Ztf,Zte,ZsV,RT.val,rgx]
 all_goals simp only[qat0,mat0,qat1,mat1,rg0,hk,ZB,Zag,ZaL,ZX,ZY,ZL,ZM,Zb2,Zb3,ZgZ,ZgY,ZA,Za8,finX,spOf]
 all_goals generalize Zd s=bi
 all_goals cases bi with
 |true=>simp[wPC,wSP]
 |false=>
  generalize (s==5)=bs;simp only[finI,hk,finR,wPC,wSP,wA,wF,fCY,fVCY,ZfL,flOf,ZR,pcOf,ZbV];generalize Zc c.1 (g.getD 0 0)=i at hk|-;generalize ZeD _ _=b0;cases b0<;>simp (config:={implicitDefEqProofs:=false}) [Zdm,Zdf,Zej,hk]
theorem fp_8 (c) (s:Int) (g:List Int) (l) (n:Int) (hk:(Zc c.1 (g.getD 0 0)).1=n):(n=31->(Zs9 c s g l).val=some (finX c s g l)):=by
 skip
 all_goals intro e;subst e
 all_goals simp only[Zs9,RT.val,rgx]
 all_goals simp only[qat0,mat0,qat1,mat1,rg0,hk,ZB,Zag,ZaL,ZX,ZY,ZL,ZM,Zb2,Zb3,ZgZ,ZgY,ZA,Za8,finX,spOf]
 all_goals generalize Zd s=bi
 all_goals cases bi with
 |true=>simp[wPC,wSP]
 |false=>
  generalize (s==5)=bs;simp only[finI,hk,finR,wPC,wSP,wA,wF,fCY,fVCY,ZfL,flOf,ZR,pcOf,ZbV];generalize Zc c.1 (g.getD 0 0)=i at hk|-;generalize (i.2.2.2.2.1==3)=b0;cases b0<;>simp (config:={implicitDefEqProofs:=false}) [Zdm,Zdf,Zej,hk]
theorem fp_9 (c) (s:Int) (g:List Int) (l) (n:Int) (hk:(Zc c.1 (g.getD 0 0)).1=n):(n=38->(Zs2 c s g l).val=some (finX c s g l)):=by
 skip
 all_goals intro e;subst e
 all_goals simp only[Zs2,RT.val,rgx]
 all_goals simp only[qat0,mat0,qat1,mat1,rg0,hk,ZB,Zag,ZaL,ZX,ZY,ZL,ZM,Zb2,Zb3,ZgZ,ZgY,ZA,Za8,finX,spOf]
 all_goals generalize Zd s=bi
 all_goals cases bi with
 |true=>simp[wPC,wSP]
 |false=>
  generalize (s==5)=bs;simp only[finI,hk,finR,wPC,wSP,wA,wF,fCY,fVCY,ZfL,flOf,ZR,pcOf,ZbV];generalize Zc c.1 (g.getD 0 0)=i at hk|-;simp[Zdm,Zdf,Zej,hk,ZV8]
theorem fp_10 (c) (s:Int) (g:List Int) (l) (n:Int) (hk:(Zc c.1 (g.getD 0 0)).1=n):(n=39->(Zs1 c s g l).val=some (finX c s g l)):=by
 skip
 all_goals intro e;subst e
 all_goals simp only[Zs1,RT.val,rgx]
 all_goals simp only[qat0,mat0,qat1,mat1,rg0,hk,ZB,Zag,ZaL,ZX,ZY,ZL,ZM,Zb2,Zb3,ZgZ,ZgY,ZA,Za8,finX,spOf]
 all_goals generalize Zd s=bi
 all_goals cases bi with
 |true=>simp[wPC,wSP]
 |false=>
  generalize (s==5)=bs;simp only[finI,hk,finR,wPC,wSP,wA,wF,fCY,fVCY,ZfL,flOf,ZR,pcOf,ZbV];generalize Zc c.1 (g.getD 0 0)=i at hk|-;simp[Zdm,Zdf,Zej,hk,rSim,ZTJ,RT.val]
theorem ZUF (a:HL ZH) (h:okHL ZH a):∃l,Zc7 Tryz.prog l/\(Zfi (envX Tryz.prog l [] 1023 8) Tryz.f85 ZH ZL8 a).val=some (finX a.1 a.2.1 a.2.2.1 a.2.2.2):=by
 have hk:=ZBr a.1.1 _ (ZBz h.2.2.1);refine⟨ZUG (Zc a.1.1 (a.2.2.1.getD 0 0)).1,ZQf _,?_⟩;show (EV0 _ a).val=_;rcases ZBq hk.1 hk.2 with e|e|e|e|e|e|e|e|e|e|e|e|e|e|e|e|e|e|e|e|e|e|e|e|e|e|e|e|e|e|e|e|e|e|e|e|e|e|e|e|e|e|e|e|e|e|e
 ·rw[e,ZL7 a,((fp_1 a.1 a.2.1 a.2.2.1 a.2.2.2 _ e).1 rfl)]
 ·rw[e,ZL6 a,((fp_5 a.1 a.2.1 a.2.2.1 a.2.2.2 _ e).1 rfl)]
 ·rw[e,ZL5 a,((fp_2 a.1 a.2.1 a.2.2.1 a.2.2.2 _ e).1 rfl)]
 ·rw[e,ZL4 a,((fp_3 a.1 a.2.1 a.2.2.1 a.2.2.2 _ e).1 rfl)]
 ·rw[e,ZL3 a,((fp_4 a.1 a.2.1 a.2.2.1 a.2.2.2 _ e).1 rfl)]
 ·rw[e,ZL2 a,((fp_1 a.1 a.2.1 a.2.2.1 a.2.2.2 _ e).2.1 rfl)]
 ·rw[e,ZL1 a,((fp_2 a.1 a.2.1 a.2.2.1 a.2.2.2 _ e).2.1 rfl)]
 ·rw[e,ZL0 a,((fp_3 a.1 a.2.1 a.2.2.1 a.2.2.2 _ e).2.1 rfl)]
 ·rw[e,ZLZ a,((fp_4 a.1 a.2.1 a.2.2.1 a.2.2.2 _ e).2.1 rfl)]
 ·rw[e,ZGY a,((fp_1 a.1 a.2.1 a.2.2.1 a.2.2.2 _ e).2.2.1 rfl)]
 ·rw[e,ZGX a,((fp_2 a.1 a.2.1 a.2.2.1 a.2.2.2 _ e).2.2.1 rfl)]
 ·rw[e,ZGW a,((fp_5 a.1 a.2.1 a.2.2.1 a.2.2.2 _ e).2 rfl)]
 ·rw[e,ZGV a,((fp_3 a.1 a.2.1 a.2.2.1 a.2.2.2 _ e).2.2.1 rfl)]
 ·rw[e,ZGU a,((fp_6 a.1 a.2.1 a.2.2.1 a.2.2.2 _ e).1 rfl)]
 ·rw[e,ZGT a,((fp_6 a.1 a.2.1 a.2.2.1 a.2.2.2 _ e).2 rfl)]
 ·rw[e,ZGS a,((fp_4 a.1 a.2.1 a.2.2.1 a.2.2.2 _ e).2.2.1 rfl)]
 ·rw[e,ZGR a,((fp_1 a.1 a.2.1 a.2.2.1 a.2.2.2 _ e).2.2.2.1 rfl)]
 ·rw[e,ZGQ a,((fp_2 a.1 a.2.1 a.2.2.1 a.2.2.2 _ e).2.2.2.1 rfl)]
 ·rw[e,ZGP a,((fp_3 a.1 a.2.1 a.2.2.1 a.2.2.2 _ e).2.2.2.1 rfl)]
 ·rw[e,ZGO a,((fp_4 a.1 a.2.1 a.2.2.1 a.2.2.2 _ e).2.2.2.1 rfl)]
 ·rw[e,ZGN a,((fp_1 a.1 a.2.1 a.2.2.1 a.2.2.2 _ e).2.2.2.2.1 rfl)]
 ·rw[e,ZGM a,((fp_2 a.1 a.2.1 a.2.2.1 a.2.2.2 _ e).2.2.2.2.1 rfl)]
 ·rw[e,ZGL a,((fp_3 a.1 a.2.1 a.2.2.1 a.2.2.2 _ e).2.2.2.2.1 rfl)]
 ·rw[e,ZGK a,((fp_7 a.1 a.2.1 a.2.2.1 a.2.2.2 _ e).1 rfl)]
 ·rw[e,ZGJ a,((fp_7 a.1 a.2.1 a.2.2.1 a.2.2.2 _ e).2.1 rfl)]
 ·rw[e,ZGI a,((fp_7 a.1 a.2.1 a.2.2.1 a.2.2.2 _ e).2.2.1 rfl)]
 ·rw[e,ZGH a,((fp_4 a.1 a.2.1 a.2.2.1 a.2.2.2 _ e).2.2.2.2.1 rfl)]
 ·rw[e,ZGG a,((fp_1 a.1 a.2.1 a.2.2.1 a.2.2.2 _ e).2.2.2.2.2.1 rfl)]
 ·rw[e,ZGF a,((fp_2 a.1 a.2.1 a.2.2.1 a.2.2.2 _ e).2.2.2.2.2.1 rfl)]
 ·rw[e,ZGE a,((fp_3 a.1 a.2.1 a.2.2.1 a.2.2.2 _ e).2.2.2.2.2.1 rfl)]
 ·rw[e,ZGD a,((fp_8 a.1 a.2.1 a.2.2.1 a.2.2.2 _ e) rfl)]
 ·rw[e,ZGC a,((fp_4 a.1 a.2.1 a.2.2.1 a.2.2.2 _ e).2.2.2.2.2.1 rfl)]
 ·rw[e,ZGB a,((fp_1 a.1 a.2.1 a.2.2.1 a.2.2.2 _ e).2.2.2.2.2.2.1 rfl)]
 ·rw[e,ZGA a,((fp_2 a.1 a.2.1 a.2.2.1 a.2.2.2 _ e).2.2.2.2.2.2.1 rfl)]
 ·rw[e,ZGz a,((fp_3 a.1 a.2.1 a.2.2.1 a.2.2.2 _ e).2.2.2.2.2.2.1 rfl)]
 ·rw[e,ZGy a,((fp_4 a.1 a.2.1 a.2.2.1 a.2.2.2 _ e).2.2.2.2.2.2.1 rfl)]
 ·rw[e,ZGx a,((fp_1 a.1 a.2.1 a.2.2.1 a.2.2.2 _ e).2.2.2.2.2.2.2.1 rfl)]
 ·rw[e,ZGw a,((fp_9 a.1 a.2.1 a.2.2.1 a.2.2.2 _ e) rfl)]
 ·rw[e,ZGv a,((fp_10 a.1 a.2.1 a.2.2.1 a.2.2.2 _ e) rfl)]
 ·rw[e,ZGu a,((fp_2 a.1 a.2.1 a.2.2.1 a.2.2.2 _ e).2.2.2.2.2.2.2.1 rfl)]
 ·rw[e,ZGt a,((fp_3 a.1 a.2.1 a.2.2.1 a.2.2.2 _ e).2.2.2.2.2.2.2.1 rfl)]
 ·rw[e,ZGs a,((fp_4 a.1 a.2.1 a.2.2.1 a.2.2.2 _ e).2.2.2.2.2.2.2.1 rfl)]
 ·rw[e,ZGr a,((fp_1 a.1 a.2.1 a.2.2.1 a.2.2.2 _ e).2.2.2.2.2.2.2.2 rfl)]
 ·rw[e,ZGq a,((fp_2 a.1 a.2.1 a.2.2.1 a.2.2.2 _ e).2.2.2.2.2.2.2.2 rfl)]
 ·rw[e,ZGp a,((fp_7 a.1 a.2.1 a.2.2.1 a.2.2.2 _ e).2.2.2 rfl)]
 ·rw[e,ZGo a,((fp_3 a.1 a.2.1 a.2.2.1 a.2.2.2 _ e).2.2.2.2.2.2.2.2 rfl)]
 ·rw[e,ZGn a,((fp_4 a.1 a.2.1 a.2.2.1 a.2.2.2 _ e).2.2.2.2.2.2.2.2 rfl)]
def ZUH:En:=Zg ZH ZL8 (λ_=>none) (λa=>finX a.1 a.2.1 a.2.2.1 a.2.2.2)
theorem ZUE:Za Tryz.prog 85 ZUH:=ZrQ Tryz.func85 rfl (by kernel_rfl) Tryz.call85 λa h _=>ZUF a h
theorem ZpI (c op:Int) (h:c≠2):Zc c op=Zc 0 op:=by unfold Zc;rw[Zlx c op h]
theorem Zzp (c op:Int) (h:c≠2):Zqf c op=Zqf 0 op:=by
 have h1:(c==2)=false:=by simpa using h
 have h0:((0:Int)==2)=false:=rfl;simp only[Zqf,ZAE,RT.val,ZpI c op h,h1,h0]
theorem Zx0 (c op:Int) (h:c≠2):ZjT c op=ZjT 0 op:=by
 have h1:rOn c=false:=by simpa [Za8] using h
 have h0:rOn 0=false:=rfl;simp only[ZjT,ZJU,RT.val,ZpI c op h,h1,h0]
def firT (c op:Int):Bool:=Zqf c op==ZjT c op
theorem ZQ0 (c op:Int) (h:inR .u8 op):Zqf c op=ZjT c op:=by
 by_cases hc:c=2
 ·subst hc;exact eq_of_beq (Zfm (firT 2) (by kernel_rfl) op h)
 ·rw[Zzp c op hc,Zx0 c op hc];exact eq_of_beq (Zfm (firT 0) (by kernel_rfl) op h)
def ZDZ:En:=Zg ZsQ ZsR (λ_=>none) (λa=>ZjT a.1 a.2)
theorem ZGl:Za Tryz.prog 84 ZDZ:=ZLX.tot (λa h=>by simp) (λa h=>ZQ0 _ _ h.2)
end
end Go.Proofs.YtpnjbfjomebppaaGreat
open Go.Proofs.Tryz (prog)
open Go.IntKind (u8 u16 i64)
namespace Go.Proofs.YtpnjbfjomebppaaGreat
noncomputable section
abbrev ZDz:List Sh:=[Sh.agg (R.Pq Z5 (R.Pq (R.int i64) (R.Pq (R.sl (R.int u8)) (R.Pq (RY) (R.Pq (R.int i64) R.bool)))))]
abbrev ZDA:Rs:=Rs.one (Sh.one (R.int i64))
def ZKU (c:QT3):RT (Int):=
 .br (decide (c.2.2.2.2.1<1)||decide (c.2.2.2.2.1>9))
 (.Lf (1))
 (.Lf c.2.2.2.2.1)
def Zbv (c:QT3):Int:=(ZKU c).val
def ZmQ:En:=Zg ZDz ZDA (λ_=>none) (λa=>Zbv a)
theorem ZmP:Za prog 136 ZmQ:=
 pureQ 7 [] [] ZDz ZDA trivial Tryz.func136 Tryz.call136 trivial (t:=λa=>ZKU a)
abbrev ZLP:List Sh:=[Sh.agg (R.Pq Z5 (R.Pq (R.int i64) (R.Pq (R.sl (R.int u8)) (R.Pq (RY) (R.Pq (R.int i64) R.bool))))),Sh.one R.bool]
abbrev ZLR:Rs:=Rs.one (Sh.one (R.int i64))
def ZLQ (c:QT3) (h:Bool):RT (Int):=
 .br (h)
 (.Lf (8))
 (.br (c.1.2.2.2.2.1&&c.2.1==0)
  (.Lf (9))
  (.Lf (1)))
def Zv7 (c:QT3) (h:Bool):Int:=(ZLQ c h).val
def ZDX:En:=Zg ZLP ZLR (λ_=>none) (λa=>Zv7 a.1 a.2)
theorem ZDW:Za prog 193 ZDX:=
 pureQ 191 [] [] ZLP ZLR trivial Tryz.func193 Tryz.call193 trivial (t:=λa=>ZLQ a.1 a.2)
abbrev Zp7:List Sh:=[Sh.one (R.int i64),Sh.one R.bool]
abbrev Zp8:Rs:=Rs.one (Sh.one (R.int i64))
def ZmI (s:Int) (h:Bool):RT (Int):=
 .br (h)
 (.Lf (8))
 (.br (s==0)
  (.Lf (9))
  (.Lf (1)))
def ZkF (s:Int) (h:Bool):Int:=(ZmI s h).val
def ZvO:En:=Zg Zp7 Zp8 (λ_=>none) (λa=>ZkF a.1 a.2)
theorem Zzv:Za prog 196 ZvO:=
 pureQ 191 [] [] Zp7 Zp8 trivial Tryz.func196 Tryz.call196 trivial (t:=λa=>ZmI a.1 a.2)
abbrev ZDC:List Sh:=[Sh.agg (R.Pq Z5 (R.Pq (R.int i64) (R.Pq (R.sl (R.int u8)) (R.Pq (RY) (R.Pq (R.int i64) R.bool))))),Sh.one (R.int i64)]
abbrev ZDD:Rs:=Rs.one (Sh.agg (R.Pq Z5 (R.Pq (R.int i64) (R.Pq (R.sl (R.int u8)) (R.Pq (RY) (R.Pq (R.int i64) R.bool))))))
def ZK2 (c:QT3) (s:Int):RT (QT3):=
 .Lf ((ZdL c.1 s,s,[],(Zl (ZdL c.1 s) s []).1,c.2.2.2.2))
def ZvY (c:QT3) (s:Int):QT3:=(ZK2 c s).val
def Zsl:En:=Zg ZDC ZDD (λ_=>none) (λa=>ZvY a.1 a.2)
theorem ZvX:Za prog 195 Zsl:=
 pureQ 31 [(81,Zwg),(82,Zv5)] [] ZDC ZDD ⟨ZAY,Zsy,Tv⟩ Tryz.func195 Tryz.call195 trivial (t:=λa=>ZK2 a.1 a.2)
abbrev ZEc:List Sh:=[Sh.agg Z5,Sh.one (R.int i64)]
abbrev ZEd:Rs:=Rs.one (Sh.agg (R.Pq Z5 (R.Pq (R.int i64) (R.Pq (R.sl (R.int u8)) (R.Pq (RY) (R.Pq (R.int i64) R.bool))))))
def ZMs (c:TC) (s:Int):RT (QT3):=
 .Lf ((c,s,[],(Zl c s []).1,1,false))
def ZeF (c:TC) (s:Int):QT3:=(ZMs c s).val
def ZAS:En:=Zg ZEc ZEd (λ_=>none) (λa=>ZeF a.1 a.2)
theorem Zwe:Za prog 172 ZAS:=
 pureQ 127 [(82,Zv5)] [] ZEc ZEd ⟨Zsy,Tv⟩ Tryz.func172 Tryz.call172 trivial (t:=λa=>ZMs a.1 a.2)
def ZTI (c:QT3):RT (Int):=
 .br (decide (c.2.2.2.2.1<1)||decide (c.2.2.2.2.1>9))
 (.Lf (1))
 (.Lf c.2.2.2.2.1)
def ZWd (c:QT3):Int:=(ZTI c).val
abbrev ZC3:List Sh:=[Sh.agg Z5,Sh.one (R.int i64)]
abbrev ZC4:Rs:=Rs.one (Sh.agg (RY))
def ZJ3 (c:TC) (s:Int):RT TY:=
 .Lf (Zl c s []).1
def ZWA (c:TC) (s:Int):QT22:=(ZJ3 c s).val
def ZJ4:En:=Zg ZC3 ZC4 (λ_=>none) (λa=>ZWA a.1 a.2)
theorem ZJ2:Za prog 173 ZJ4:=
 pureQ 127 [(166,ZRU)] [] ZC3 ZC4 ⟨ZPm,Tv⟩ Tryz.func173 Tryz.call173 trivial (t:=λa=>ZJ3 a.1 a.2)
abbrev ZLA:List Sh:=[Sh.one (R.int i64)]
abbrev ZLB:Rs:=Rs.one (Sh.agg (R.Pq Z5 (R.Pq (R.int i64) (R.Pq (R.sl (R.int u8)) (R.Pq (RY) (R.Pq (R.int i64) R.bool))))))
def ZUv (chip:Int):RT (QT3):=
 let x1:TR:=(0,0,0,0,0,0,0,(false,false,false,false,false,false,false),0,0)
 let x2:TC:=(ZeF (Z7 (chip,x1,false,false,false,0,false,false,false,false,false,false,false)) 0).1
 .Lf (((x2.1,x1,false,false,false,x2.2.2.2.2.2.1,false,false,false,false,false,false,false),0,[],(1,0,0,4),1,false))
def pNew (chip:Int):QT3:=(ZUv chip).val
def pNewE:En:=Zg ZLA ZLB (λ_=>none) (λa=>pNew a)
theorem ZUu:Za prog 97 pNewE:=
 pureQ 7 [(80,Zsp),(172,ZAS)] [] ZLA ZLB ⟨Zqd,Zwe,Tv⟩ Tryz.func97 Tryz.call97 trivial (t:=λa=>ZUv a)
abbrev ZJG:List Sh:=[Sh.one (R.int i64)]
abbrev ZJH:Rs:=Rs.one (Sh.agg (R.Pq Z5 (R.Pq (R.int i64) (R.Pq (R.sl (R.int u8)) (R.Pq (RY) (R.Pq (R.int i64) R.bool))))))
def ZTR (chip:Int):RT (QT3):=
 let x1:TR:=(0,0,0,0,0,0,0,(false,false,false,false,false,false,false),0,0)
 let x2:=Z7 (chip,x1,false,false,false,0,false,false,false,false,false,false,false)
 .Lf (((x2.1,x1,false,false,false,x2.2.2.2.2.2.1,false,false,false,false,false,false,false),0,[],(1,0,0,4),1,false))
def rNew (chip:Int):QT3:=(ZTR chip).val
def rNewE:En:=Zg ZJG ZJH (λ_=>none) (λa=>rNew a)
theorem ZTQ:Za prog 100 rNewE:=
 pureQ 15 [(96,ZJe),(173,ZJ4)] [] ZJG ZJH ⟨ZJd,ZJ2,Tv⟩ Tryz.func100 Tryz.call100 trivial (t:=λa=>ZTR a)
def Zj8:En:=.tree (Zn (envX prog [(82,Zv5),(85,ZUH),(193,ZDX),(194,Zsu),(195,Zsl)] [] 1023 8) Tryz.f192)
theorem Zpf:Za prog 192 Zj8:=ZI (P:=prog) (n:=1023) (k:=8) (l:=[(82,Zv5),(85,ZUH),(193,ZDX),(194,Zsu),(195,Zsl)]) (ol:=[]) ⟨Zsy,ZUE,ZDW,Zv1,ZvX,Tv⟩ Tryz.func192 rfl (by kernel_rfl) Tryz.call192 trivial
abbrev ZMv:List Sh:=[Sh.agg (R.Pq Z5 (R.Pq (R.int i64) (R.Pq (R.sl (R.int u8)) (R.Pq (RY) (R.Pq (R.int i64) R.bool))))),Sh.agg (R.Pq R.bool (R.Pq R.bool rcF7)),Sh.one (R.int u8)]
abbrev ZEe:Rs:=Rs.tup [Sh.agg (R.Pq Z5 (R.Pq (R.int i64) (R.Pq (R.sl (R.int u8)) (R.Pq (RY) (R.Pq (R.int i64) R.bool))))),Sh.agg (R.Pq R.bool (R.Pq Z5 (R.Pq (R.sl (R.int u8)) (R.Pq (RY) Z5))))]
def ZMw (c:QT3) (l:QT1) (d:Int):RT (Option ((QT3)×Bool×TC×List Int×TY×TC)):=
 let x1:Int:=bif ZeB c.2.2.2.1.1 then d else c.2.2.2.1.2.2.1
 let x2:List Int:=c.2.2.1++[x1]
 let x3:TC:=(0,(0,0,0,0,0,0,0,(false,false,false,false,false,false,false),0,0),false,false,false,0,false,false,false,false,false,false,false)
 let x4:Bool×TC×List Int×TY×TC:=(false,x3,[],c.2.2.2.1,ZW c.1 l)
 let x5:Int:=bif c.2.2.2.1.1==1||c.2.2.2.1.1==8 then ZjT (ZW c.1 l).1 x1 else c.2.2.2.1.2.2.2
 let x6:QT22:=(c.2.2.2.1.1,c.2.2.2.1.2.1,x1,x5)
 let x7:TY×TC:=(x6,ZW c.1 l)
 let x8:Bool×TC×List Int×TY×TC:=(false,x3,[],x7)
 let x9:=Zl (ZW c.1 l) c.2.1 x2
 let x10:=x9.1
 let x11:=finX (ZW c.1 l) c.2.1 x2 l
 let x12:=ZvY (x11,c.2.1,x2,x6,c.2.2.2.2) (ZhS x11 l)
 let x13:=x12.2
 let x14:=x13.2.2
 let x15:=ZvY (finX (ZW c.1 l) c.2.1 c.2.2.1 l,c.2) (ZhS (finX (ZW c.1 l) c.2.1 c.2.2.1 l) l)
 let x16:=x15.2
 let x17:=x16.2.2
 let x18:=ZvY (ZW c.1 l,c.2) (ZhS (ZW c.1 l) l)
 let x19:=x18.2
 let x20:=x19.2.2
 .br (Nat.ble (List.length c.2.2.1) most) (.br (Zbv c==1||((bif Zbv c==2 then Zbv c==2 else Zbv c==7)||(!Zbv c==3||Nat.ble (List.length x2) most))) (.br (Zbv c==1) (.Lf (some (((ZW c.1 l,c.2.1,c.2.2.1,c.2.2.2.1,2,c.2.2.2.2.2),x4)))) (.br (bif Zbv c==2 then Zbv c==2 else Zbv c==7) (.Lf (some (((ZW c.1 l,c.2.1,c.2.2.1,c.2.2.2.1,bif Zeg c.2.2.2.1.1&& !l.1 then 7 else 3,bif Zeg c.2.2.2.1.1&& !l.1 then c.2.2.2.2.2 else l.2.1),x4)))) (.br (Zbv c==3) (.br (decide (x5>3)) (.Lf (some (((ZW c.1 l,c.2.1,x2,x6,4,c.2.2.2.2.2),x8)))) (.br x9.2 (.Lf (some (((ZW c.1 l,c.2.1,x2,x10,Zv7 (ZW c.1 l,c.2.1,x2,x10,c.2.2.2.2) c.2.2.2.2.2,false),x8)))) (.Lf (some (((x12.1,x13.1,[],x14.1,Zv7 x12 x14.2.2,false),true,x11,x2,x7)))))) (.br (bif Zbv c==4 then Zbv c==4 else bif Zbv c==5 then Zbv c==5 else Zbv c==6) (.br (decide (c.2.2.2.1.2.2.2>Zbv c)&&Zbv c !=6) (.Lf (some (((ZW c.1 l,c.2.1,c.2.2.1,c.2.2.2.1,i64.wrap (Zbv c+1),c.2.2.2.2.2),x4)))) (.br (Zl (ZW c.1 l) c.2.1 c.2.2.1).2 (.Lf (some (((ZW c.1 l,c.2.1,c.2.2.1,(Zl (ZW c.1 l) c.2.1 c.2.2.1).1,Zv7 (ZW c.1 l,c.2.1,c.2.2.1,(Zl (ZW c.1 l) c.2.1 c.2.2.1).1,c.2.2.2.2) c.2.2.2.2.2,false),x4)))) (.Lf (some (((x15.1,x16.1,[],x17.1,Zv7 x15 x17.2.2,false),true,finX (ZW c.1 l) c.2.1 c.2.2.1 l,c.2.2.1,c.2.2.2.1,ZW c.1 l)))))) (.br (Zbv c==8) (.Lf (some (((ZW c.1 l,c.2.1,c.2.2.1,c.2.2.2.1,Zv7 (ZW c.1 l,c.2) l.2.1,c.2.2.2.2.2),x4)))) (.br (Zbv c==9) (.br (ZhS (ZW c.1 l) l !=0) (.Lf (some (((x18.1,x19.1,[],x20.1,ZkF (ZhS (ZW c.1 l) l) l.2.1,x20.2.2),x4)))) (.Lf (some (((ZW c.1 l,c.2.1,c.2.2.1,c.2.2.2.1,ZkF (ZhS (ZW c.1 l) l) l.2.1,c.2.2.2.2.2),x4))))) (.Lf (some (((ZW c.1 l,c.2),x4)))))))))) (.Lf none)) (.Lf none)
def pAdv (c:QT3) (l:QT1) (d:Int):(QT3)×Bool×TC×List Int×TY×TC:=getO ZEe.Df (ZMw c l d).val
def ZMx (c:QT3) (l:QT1) (d:Int):Bool:=okB (ZMw c l d).val
def ZWZ:En:=Zg ZMv ZEe (λa=>some (ZMx a.1 a.2.1 a.2.2)) (λa=>pAdv a.1 a.2.1 a.2.2)
theorem ZMu:Za prog 130 ZWZ:=
 pureP 2679225218618052313454186380042176511 [(83,Zdr),(84,ZDZ),(120,ZjK),(136,ZmQ),(189,Zqi),(191,ZDR),(192,Zj8),(193,ZDX),(194,Zsu),(195,Zsl),(196,ZvO)] [] ZMv ZEe ⟨ZeE,ZGl,ZoU,ZmP,Zwf,ZGj,Zpf,ZDW,Zv1,ZvX,Zzv,Tv⟩ Tryz.func130 Tryz.call130 trivial (t:=λa=>ZMw a.1 a.2.1 a.2.2)
abbrev Ztx:List Sh:=[Sh.agg (R.Pq Z5 (R.Pq (R.int i64) (R.Pq (R.sl (R.int u8)) (R.Pq (RY) (R.Pq (R.int i64) R.bool))))),Sh.agg (R.Pq R.bool (R.Pq R.bool rcF7)),Sh.one (R.int u8)]
abbrev ZkN:Rs:=Rs.tup [Sh.agg (R.Pq Z5 (R.Pq (R.int i64) (R.Pq (R.sl (R.int u8)) (R.Pq (RY) (R.Pq (R.int i64) R.bool))))),Sh.agg (R.Pq (R.int i64) (R.Pq (R.int u16) (R.Pq (R.int u8) (R.Pq R.bool (R.Pq R.bool (R.Pq R.bool (R.Pq R.bool (R.Pq R.bool (R.Pq R.bool (R.Pq R.bool rcF7))))))))))]
def Zjd (c:QT3) (l:QT1) (d:Int):RT (Option ((QT3)×Int×Int×Int×Bool×Bool×Bool×Bool×Bool×Bool×Bool×Bool×Bool×Bool×Bool×Bool×Bool×Bool)):=
 let x1:Int×TF×Int×Int:=(ZeF (Z7 c.1) 0).1.2.1.2.2.2.2.2.2
 let x2:=x1.2
 let x3:TY×Int×Int×Bool×Bool:=(c.2.2.2.1,d,c.1.2.1.2.2.2.2.2.2.2.2.2,c.1.2.2.1,c.1.2.2.2.2.2.2.2.2.2.2.2.2)
 .br l.2.2.1 (.Lf (some (((((ZeF (Z7 c.1) 0).1.1,((ZeF (Z7 c.1) 0).1.2.1.1,(ZeF (Z7 c.1) 0).1.2.1.2.1,(ZeF (Z7 c.1) 0).1.2.1.2.2.1,(ZeF (Z7 c.1) 0).1.2.1.2.2.2.1,(ZeF (Z7 c.1) 0).1.2.1.2.2.2.2.1,(ZeF (Z7 c.1) 0).1.2.1.2.2.2.2.2.1,x1.1,x2.1,x2.2.1,0),false,false,false,(ZeF (Z7 c.1) 0).1.2.2.2.2.2.1,false,false,false,false,false,false,false),0,[],(1,0,0,4),1,false),ZLj c.1.1 (10,x3))))) (.br (ZMx c l d) (.Lf (some (((pAdv c l d).1,ZLj c.1.1 (Zbv c,x3))))) (.Lf none))
def ZSu (c:QT3) (l:QT1) (d:Int):(QT3)×Int×Int×Int×Bool×Bool×Bool×Bool×Bool×Bool×Bool×Bool×Bool×Bool×Bool×Bool×Bool×Bool:=getO ZkN.Df (Zjd c l d).val
def ZMo (c:QT3) (l:QT1) (d:Int):Bool:=okB (Zjd c l d).val
def ZUU:En:=Zg Ztx ZkN (λa=>some (ZMo a.1 a.2.1 a.2.2)) (λa=>ZSu a.1 a.2.1 a.2.2)
theorem ZMn:Za prog 138 ZUU:=
 pureP 2047 [(79,ZSj),(80,Zsp),(130,ZWZ),(136,ZmQ),(172,ZAS)] [] Ztx ZkN ⟨ZP1,Zqd,ZMu,ZmP,Zwe,Tv⟩ Tryz.func138 Tryz.call138 trivial (t:=λa=>Zjd a.1 a.2.1 a.2.2)
abbrev LnT:=QT1
abbrev ZgQ:=CpuT×Int×List Int×Cyc×Int×Bool
def Zcy (n:Int):Int:=bif decide (n<1)||decide (n>9) then 1 else n
def Zxo (c:CpuT) (s:Int):ZgQ:=(c,s,[],(Zl c s []).1,1,false)
def idlX (c:CpuT) (s:Int) (h:Bool):Int:=bif h then 8 else bif c.2.2.2.2.1&&s==0 then 9 else 1
def endX (c:CpuT) (s:Int) (g:List Int) (h:Bool) (l:LnT):ZgQ:=
 bif (Zl c s g).2 then (c,s,g,(Zl c s g).1,idlX c s h,false) else
 let q:=finX c s g l
 let k:=ZhS q l
 let d:=ZdL q k
 (d,k,[],(Zl d k []).1,idlX d k h,false)
def ZFm (c:CpuT) (x:Cyc) (d:Int):Cyc:=
 let v:=bif ZeB x.1 then d else x.2.2.1
 (x.1,x.2.1,v,bif x.1==1||x.1==8 then ZjT c.1 v else x.2.2.2)
def le3 (x:Int):Bool:=decide (x<=3)
def ZoV (c:ZgQ) (l:LnT) (d:Int):ZgQ:=
 let t:=Zcy c.2.2.2.2.1
 let p:=ZW c.1 l
 let s:=c.2.1
 let g:=c.2.2.1
 let x:=c.2.2.2.1
 let h:=c.2.2.2.2.2
 bif l.2.2.1 then Zxo (Z7 c.1) 0 else
 bif t==1 then (p,s,g,x,2,h) else
 bif t==2||t==7 then (bif l.1|| !Zeg x.1 then (p,s,g,x,3,l.2.1) else (p,s,g,x,7,h)) else
 bif t==8 then (p,s,g,x,idlX p s l.2.1,h) else
 bif t==9 then
  (let k:=ZhS p l
   bif k==0 then (p,s,g,x,bif l.2.1 then 8 else 9,h) else
   (ZdL p k,k,[],(Zl (ZdL p k) k []).1,bif l.2.1 then 8 else 1,h)) else
 bif t==3 then
  (let y:=ZFm p x d
   bif le3 y.2.2.2 then endX p s (g++[y.2.2.1]) h l else (p,s,g++[y.2.2.1],y,4,h)) else
 bif decide (t<x.2.2.2)&& !(t==6) then (p,s,g,x,t+1,h) else endX p s g h l
abbrev PinT:=QT10
def ZVj (c:ZgQ) (t:Int):Cyc:=bif t==9 then (0,c.1.2.1.2.2.2.2.2.2.2.2.2,0,0) else c.2.2.2.1
def ZPG (c:ZgQ) (l:LnT) (d:Int):PinT:=
 let t:=Zcy c.2.2.2.2.1
 ZFs c.1.1 (bif l.2.2.1 then 10 else t) (ZVj c t) (bif l.2.2.1 then 0 else d) c.1.2.2.1 c.1.2.2.2.2.2.2.2.2.2.2.2.2
theorem ZuT (n:Int):1<=Zcy n/\Zcy n<=9:=by
 unfold Zcy;by_cases h:n<1\/n>9
 ·have:(decide (n<1)||decide (n>9))=true:=by simpa using h
  rw[this];simp
 ·have:(decide (n<1)||decide (n>9))=false:=by simpa using h
  rw[this];simp only[Ye];omega
theorem ZvB (c):Zbv c=Zcy c.2.2.2.2.1:=rfl
theorem ZKh (c:ZgQ) (s):ZvY c s=(ZdL c.1 s,s,[],(Zl (ZdL c.1 s) s []).1,c.2.2.2.2):=rfl
theorem ZPH (c:ZgQ) (h:Bool):Zv7 c h=idlX c.1 c.2.1 h:=by simp only[Zv7,ZLQ,idlX,RT.val]
theorem ZWI (chip:Int) (x y:Cyc) (d:Int) (i o:Bool):ZFs chip 10 x d i o=ZFs chip 10 y 0 i o:=by simp only[ZFs,ZJm,RT.val,Za8];generalize (chip==2)=b;cases b<;>simp
theorem Zu9 (c:CpuT):Z7 c=((Z7 c).1,((Z7 c).2.1.1,(Z7 c).2.1.2.1,(Z7 c).2.1.2.2.1,(Z7 c).2.1.2.2.2.1,(Z7 c).2.1.2.2.2.2.1,(Z7 c).2.1.2.2.2.2.2.1,(Z7 c).2.1.2.2.2.2.2.2.1,(Z7 c).2.1.2.2.2.2.2.2.2.1,(Z7 c).2.1.2.2.2.2.2.2.2.2.1,0),false,false,false,(Z7 c).2.2.2.2.2.1,false,false,false,false,false,false,false):=by simp only[Z7,Zi1,RT.val,Za8]
theorem ZOh (c:CpuT):Zxo (Z7 c) 0=(Z7 c,0,[],(1,0,0,4),1,false):=by
 simp only[Zxo];have:(Zl (Z7 c) 0 []).1=(1,0,0,4):=by
  have hp:pcOf (Z7 c)=0:=by rw[Zu9];rfl
  simp[Zl,Zi7,Zd,Zi3,RT.val,hp];rfl
 rw[this]
theorem len1 {α:Type} (l:List α) (x:α) (h:l.length+1<=most):Nat.ble l.length most=true/\Nat.ble (l++[x]).length most=true:=by rw[YF,YF];simp only[Yc,List.length_cons,List.length_nil];omega
abbrev ChgT:=Bool×CpuT×List Int×Cyc×CpuT
abbrev cpu0:CpuT:=(0,(0,0,0,0,0,0,0,(false,false,false,false,false,false,false),0,0),false,false,false,0,false,false,false,false,false,false,false)
def Zuh (c:ZgQ) (l:LnT) (d:Int):ChgT:=
 let t:=Zcy c.2.2.2.2.1
 let p:=ZW c.1 l
 let s:=c.2.1
 let g:=c.2.2.1
 let x:=c.2.2.2.1
 bif t==3 then
  (let y:=ZFm p x d
   bif le3 y.2.2.2&& !(Zl p s (g++[y.2.2.1])).2 then (true,finX p s (g++[y.2.2.1]) l,g++[y.2.2.1],y,p) else (false,cpu0,[],y,p)) else
 bif (t==4||(t==5||t==6))&&(!(decide (t<x.2.2.2)&& !(t==6))&& !(Zl p s g).2) then (true,finX p s g l,g,x,p) else (false,cpu0,[],x,p)
theorem gt3 (x:Int):decide (x>3)= !le3 x:=by unfold le3;by_cases h:x<=3<;>simp[h]<;>omega
theorem ZAW (c:ZgQ) (l:LnT) (d:Int) (hg:c.2.2.1.length+1<=most) (hr:l.2.2.1=false):(ZMw c l d).val=some (ZoV c l d,Zuh c l d):=by
 have h1:=λx=>len1 c.2.2.1 x hg
 obtain⟨t1,t2⟩:=ZuT c.2.2.2.2.1;unfold ZMw ZoV Zuh;simp only[ZvB,hr,Ye,RT.val,(h1 0).1,(h1 _).2,Yb,Yk,ZKh,ZPH,endX,ZFm,idlX,ZkF,ZmI,gt3];have:Zcy c.2.2.2.2.1=1\/Zcy c.2.2.2.2.1=2\/Zcy c.2.2.2.2.1=7\/Zcy c.2.2.2.2.1=3\/Zcy c.2.2.2.2.1=4\/Zcy c.2.2.2.2.1=5\/Zcy c.2.2.2.2.1=6\/Zcy c.2.2.2.2.1=8\/Zcy c.2.2.2.2.1=9:=by omega
 rcases this with h|h|h|h|h|h|h|h|h<;>simp only[h,Int.reduceBEq,Int.reduceBNe,Yb,Ye,Yj,YJ,Yah,Y7,Y1,YZ,Yg,Yq,gt_iff_lt,show IntKind.wrap .i64 (4+1)=4+1 from rfl,show IntKind.wrap .i64 (5+1)=5+1 from rfl]
 ·cases Zeg c.2.2.2.1.1<;>cases l.1<;>rfl
 ·cases Zeg c.2.2.2.1.1<;>cases l.1<;>rfl
 ·cases hA:le3 (ZFm (ZW c.1 l) c.2.2.2.1 d).2.2.2<;>cases hB:(Zl (ZW c.1 l) c.2.1 (c.2.2.1++[(ZFm (ZW c.1 l) c.2.2.2.1 d).2.2.1])).2<;>simp only[ZFm] at hA hB<;>simp only[hA,hB,Yb,Ye,Yg,Yq,Y1,Yah,Y7]<;>with_reducible rfl
 ·cases decide (4<c.2.2.2.1.2.2.2)<;>cases (Zl (ZW c.1 l) c.2.1 c.2.2.1).2<;>rfl
 ·cases decide (5<c.2.2.2.1.2.2.2)<;>cases (Zl (ZW c.1 l) c.2.1 c.2.2.1).2<;>rfl
 ·cases (Zl (ZW c.1 l) c.2.1 c.2.2.1).2<;>rfl
 ·have hb:(ZhS (ZW c.1 l) l !=0)= !(ZhS (ZW c.1 l) l==0):=rfl;rw[hb];cases hk:(ZhS (ZW c.1 l) l==0)<;>rfl
theorem ZvL (c:ZgQ) (l:LnT) (d:Int) (hg:c.2.2.1.length+1<=most):(Zjd c l d).val=some (ZoV c l d,ZPG c l d):=by
 obtain⟨t1,t2⟩:=ZuT c.2.2.2.2.1;cases hr:l.2.2.1 with
 |true=>
  have hb:ZeF (Z7 c.1) 0=(Z7 c.1,0,[],(Zl (Z7 c.1) 0 []).1,1,false):=rfl;simp only[Zjd,RT.val,hr,Yb,ZoV,ZPG,ZOh,hb];rw[<-Zu9,ZKJ c.1.1 10 (by decide) (by decide) c.2.2.2.1 d 0 _ _ _ (λh=>absurd rfl h),ZWI c.1.1 _ (ZVj c (Zcy c.2.2.2.2.1)) 0]
 |false=>
  have h:=ZAW c l d hg hr;have h1:ZMx c l d=true:=by simp only[ZMx,h,okB]
  have h2:(pAdv c l d).1=ZoV c l d:=by simp only[pAdv,h,getO]
  simp only[Zjd,RT.val,hr,Ye,h1,Yb,h2,ZPG,ZvB];rw[ZKJ c.1.1 (Zcy c.2.2.2.2.1) t1 (by omega) c.2.2.2.1 d d _ _ _ (λ_=>rfl)];simp only[ZVj]
def ZxZ (c:ZgQ):Bool:=Nat.ble (c.2.2.1.length+1) most
theorem ZhM {c:ZgQ}:ZxZ c=true↔c.2.2.1.length+1<=most:=by simp[ZxZ]
def clkX (c:ZgQ) (l:LnT) (d:Int):ZgQ×PinT:=(ZoV c l d,ZPG c l d)
def Zty:En:=Zg Ztx ZkN (λa=>some (ZxZ a.1)) (λa=>clkX a.1 a.2.1 a.2.2)
theorem ZG0:Za prog 138 Zty:=ZMn.pure_congr
 (λa h hp=>by have h1:=ZvL a.1 a.2.1 a.2.2 (ZhM.1 (by simpa using hp));simp[ZMo,h1,okB])
 (λa h hp=>by have h1:=ZvL a.1 a.2.1 a.2.2 (ZhM.1 (by simpa using hp));simp only[ZSu,h1,getO,clkX])
def ZMy:En:=Zg ZMv ZEe (λa=>some (ZxZ a.1&& !a.2.1.2.2.1)) (λa=>(ZoV a.1 a.2.1 a.2.2,Zuh a.1 a.2.1 a.2.2))
theorem ZQr:Za prog 130 ZMy:=ZMu.pure_congr
 (λa h hp=>by
  have hp:(ZxZ a.1&& !a.2.1.2.2.1)=true:=by simpa using hp
  simp only[Ya,Yz] at hp
  have h1:=ZAW a.1 a.2.1 a.2.2 (ZhM.1 hp.1) hp.2;simp[ZMx,h1,okB])
 (λa h hp=>by
  have hp:(ZxZ a.1&& !a.2.1.2.2.1)=true:=by simpa using hp
  simp only[Ya,Yz] at hp
  have h1:=ZAW a.1 a.2.1 a.2.2 (ZhM.1 hp.1) hp.2;simp only[pAdv,h1,getO])
def newX (chip:Int):ZgQ:=Zxo (Z7 (chip,(0,0,0,0,0,0,0,(false,false,false,false,false,false,false),0,0),false,false,false,0,false,false,false,false,false,false,false)) 0
theorem ZTB (chip:Int):rNew chip=newX chip:=by unfold newX;rw[ZOh];simp only[rNew,ZTR,RT.val,Z7,Zi1,Za8]
theorem ZT2 (chip:Int):pNew chip=newX chip:=by
 have hb:∀c,ZeF c 0=Zxo c 0:=λ_=>rfl
 unfold newX;simp only[pNew,ZUv,RT.val,hb];rw[ZOh];simp only[Z7,Zi1,RT.val,Za8]
def ZDM:En:=Zg ZLA ZLB (λ_=>none) (λa=>newX a)
theorem ZDL:Za prog 97 ZDM:=ZUu.tot (λa h=>by simp) (λa h=>ZT2 _)
def ZRV:En:=Zg ZJG ZJH (λ_=>none) (λa=>newX a)
theorem ZPo:Za prog 100 ZRV:=ZTQ.tot (λa h=>by simp) (λa h=>ZTB _)
abbrev ZEv:List Sh:=[Sh.one (R.int i64),Sh.one (R.int i64)]
abbrev ZtR:Rs:=Rs.one (Sh.one (R.int i64))
def Zog (x:Int) (n:Int):RT (Option (Int)):=
 .br (IntKind.u64.wrap n !=0) (.Lf (some (i64.wrap (Int.tmod (IntKind.u64.wrap x) (IntKind.u64.wrap n))))) (.Lf none)
def Zbn (x:Int) (n:Int):Int:=getO ZtR.Df (Zog x n).val
def Zjq (x:Int) (n:Int):Bool:=okB (Zog x n).val
def ZBm:En:=Zg ZEv ZtR (λa=>some (Zjq a.1 a.2)) (λa=>Zbn a.1 a.2)
theorem ZwJ:Za prog 47 ZBm:=
 pureP 31 [] [] ZEv ZtR trivial Tryz.func47 Tryz.call47 trivial (t:=λa=>Zog a.1 a.2)
abbrev ZBb:R:=R.Pq (R.sl (R.int i64)) (R.int i64)
abbrev ZMN:List Sh:=[Sh.one (R.int i64)]
abbrev ZBa:Rs:=Rs.one (Sh.one (R.int i64))
def Zn0 (s:List Int×Int) (n:Int):RT (Option (QT21)):=
 let x1:=Zf (i64.wrap (i64.wrap (s.2+1)-1)) (List.length s.1)
 let x2:Int:=R.get (R.int i64) s.1 (i64.wrap (i64.wrap (s.2+1)-1))
 .br (decide (s.2>=iN (List.length s.1))) (.Lf (some ((0,s.1,i64.wrap (s.2+1))))) (.br (!x1||Zjq x2 n) (.br (x1) (.Lf (some ((Zbn x2 n,s.1,i64.wrap (s.2+1))))) (.Lf none)) (.Lf none))
def Zb (s:List Int×Int) (n:Int):QT21:=getO (ZBa.Df,ZBb.Df) (Zn0 s n).val
def Zh (s:List Int×Int) (n:Int):Bool:=okB (Zn0 s n).val
def Zcn:En:=boxE ZBb ZMN ZBa (λa=>some (Zh a.1 a.2)) (λa=>Zb a.1 a.2)
theorem ZaT:Za prog 68 Zcn:=
 Zb8 (P:=prog) (n:=31) (k:=8) (l:=[(47,ZBm)]) (ol:=[]) ⟨ZwJ,Tv⟩ Tryz.func68 rfl (by kernel_rfl) Tryz.call68 trivial (rb:=ZBb) (ts:=ZMN) (rs:=ZBa) (t:=λa=>Zn0 a.1 a.2) (λa=>by kernel_rfl)
abbrev ZBh:R:=R.Pq (R.sl (R.int i64)) (R.int i64)
abbrev ZMX:List Sh:=[]
abbrev ZBg:Rs:=Rs.one (Sh.one (R.int u8))
def Zn7 (s:List Int×Int):RT (Option (QT21)):=
 let x1:List Int:=[0,1,127,128,255,15,16,153,154,9,102,254,129,85,170,64]
 .br (Zh s 512) (.br (!decide ((Zb s 512).1>=256)||Zf (Int.tmod (Zb s 512).1 16) (List.length x1)) (.br (decide ((Zb s 512).1>=256)) (.Lf (some ((R.get (R.int u8) x1 (Int.tmod (Zb s 512).1 16),(Zb s 512).2)))) (.Lf (some ((u8.wrap (Zb s 512).1,(Zb s 512).2))))) (.Lf none)) (.Lf none)
def Zcx (s:List Int×Int):QT21:=getO (ZBg.Df,ZBh.Df) (Zn7 s).val
def Zf6 (s:List Int×Int):Bool:=okB (Zn7 s).val
def Zwv:En:=boxE ZBh ZMX ZBg (λa=>some (Zf6 a.1)) (λa=>Zcx a.1)
theorem ZkR:Za prog 71 Zwv:=
 Zb8 (P:=prog) (n:=15) (k:=8) (l:=[(68,Zcn)]) (ol:=[]) ⟨ZaT,Tv⟩ Tryz.func71 rfl (by kernel_rfl) Tryz.call71 trivial (rb:=ZBh) (ts:=ZMX) (rs:=ZBg) (t:=λa=>Zn7 a.1) (λa=>by kernel_rfl)
abbrev ZA4:R:=R.Pq (R.sl (R.int i64)) (R.int i64)
abbrev ZML:List Sh:=[]
abbrev ZA3:Rs:=Rs.one (Sh.one (R.int u16))
def Zii (s:List Int×Int):RT (Option (QT21)):=
 let x1:List Int:=[0,1,65535,65534,32767,32768,255,256]
 let x2:= !(Zb s 5).1==0||(!Zh (Zb s 5).2 8||Zf (Zb (Zb s 5).2 8).1 (List.length x1))
 let x3:= !x2
 let x4:= !(Zb s 5).1==0||Zh (Zb s 5).2 8
 .br (Zh s 5) (.br (x3||(!x4||((Zb s 5).1==0||(!(Zb s 5).1==1||Zh (Zb s 5).2 65536)))) (.br (x3||x4) (.br (x2) (.br ((Zb s 5).1==0) (.Lf (some ((R.get (R.int u16) x1 (Zb (Zb s 5).2 8).1,(Zb (Zb s 5).2 8).2)))) (.br ((Zb s 5).1==1) (.Lf (some ((u16.wrap (Zb (Zb s 5).2 65536).1,(Zb (Zb s 5).2 65536).2)))) (.br (Zh (Zb s 5).2 64) (.Lf (some ((u16.wrap (Zb (Zb s 5).2 64).1,(Zb (Zb s 5).2 64).2)))) (.Lf none)))) (.Lf none)) (.Lf none)) (.Lf none)) (.Lf none)
def Zby (s:List Int×Int):QT21:=getO (ZA3.Df,ZA4.Df) (Zii s).val
def Zfr (s:List Int×Int):Bool:=okB (Zii s).val
def ZMM:En:=boxE ZA4 ZML ZA3 (λa=>some (Zfr a.1)) (λa=>Zby a.1)
theorem ZEh:Za prog 70 ZMM:=
 Zb8 (P:=prog) (n:=4135) (k:=8) (l:=[(68,Zcn)]) (ol:=[]) ⟨ZaT,Tv⟩ Tryz.func70 rfl (by kernel_rfl) Tryz.call70 trivial (rb:=ZA4) (ts:=ZML) (rs:=ZA3) (t:=λa=>Zii a.1) (λa=>by kernel_rfl)
abbrev ZBf:R:=R.Pq (R.sl (R.int i64)) (R.int i64)
abbrev ZMV:List Sh:=[]
abbrev ZBe:Rs:=Rs.one (Sh.one (R.int i64))
def Zwu (s:List Int×Int):RT (Option (QT21)):=
 .br (Zh s 2) (.Lf (some ((i64.wrap (1+(Zb s 2).1),(Zb s 2).2)))) (.Lf none)
def ZaJ (s:List Int×Int):QT21:=getO (ZBe.Df,ZBf.Df) (Zwu s).val
def Zn6 (s:List Int×Int):Bool:=okB (Zwu s).val
def ZMW:En:=boxE ZBf ZMV ZBe (λa=>some (Zn6 a.1)) (λa=>ZaJ a.1)
theorem ZEm:Za prog 122 ZMW:=
 Zb8 (P:=prog) (n:=7) (k:=8) (l:=[(68,Zcn)]) (ol:=[]) ⟨ZaT,Tv⟩ Tryz.func122 rfl (by kernel_rfl) Tryz.call122 trivial (rb:=ZBf) (ts:=ZMV) (rs:=ZBe) (t:=λa=>Zwu a.1) (λa=>by kernel_rfl)
abbrev ZnZ:R:=R.Pq (R.sl (R.int i64)) (R.int i64)
abbrev Zwr:List Sh:=[]
abbrev ZnY:Rs:=Rs.one (Sh.one (R.int u8))
def Ze9 (s:List Int×Int):RT (Option (QT21)):=
 let x1:List Int:=[251,243,118,205,201,197,227,211,219,54,52,32,48,194,202,255,62,49]
 .br (Zh s 3) (.br (!decide ((Zb s 3).1>0)||Zh (Zb s 3).2 256) (.br (decide ((Zb s 3).1>0)) (.Lf (some ((u8.wrap (Zb (Zb s 3).2 256).1,(Zb (Zb s 3).2 256).2)))) (.br (!Zh (Zb s 3).2 18||Zf (Zb (Zb s 3).2 18).1 (List.length x1)) (.br (Zh (Zb s 3).2 18) (.Lf (some ((R.get (R.int u8) x1 (Zb (Zb s 3).2 18).1,(Zb (Zb s 3).2 18).2)))) (.Lf none)) (.Lf none))) (.Lf none)) (.Lf none)
def Zac (s:List Int×Int):QT21:=getO (ZnY.Df,ZnZ.Df) (Ze9 s).val
def ZbT (s:List Int×Int):Bool:=okB (Ze9 s).val
def ZgD:En:=boxE ZnZ Zwr ZnY (λa=>some (ZbT a.1)) (λa=>Zac a.1)
theorem ZeK:Za prog 119 ZgD:=
 Zb8 (P:=prog) (n:=7) (k:=8) (l:=[(68,Zcn)]) (ol:=[]) ⟨ZaT,Tv⟩ Tryz.func119 rfl (by kernel_rfl) Tryz.call119 trivial (rb:=ZnZ) (ts:=Zwr) (rs:=ZnY) (t:=λa=>Ze9 a.1) (λa=>by kernel_rfl)
def NB (s:List Int×Int) (k:Int):Prop:=0<=s.2/\s.2<=k
theorem ZwK (x n:Int) (h0:0<n) (h1:n<=4611686018427387904):Zjq x n=true/\Zbn x n=(x%18446744073709551616)%n:=by
 have e:IntKind.wrap .u64 n=n:=ZqI ⟨by simp[IntKind.min,IntKind.signed];omega,by simp[IntKind.max,IntKind.signed,IntKind.bits];omega⟩;have e2:IntKind.wrap .u64 x=x%18446744073709551616:=by simp[IntKind.wrap,IntKind.signed,IntKind.bits]
 have hn:(n !=0)=true:=by simp;omega
 have h2:0<=x%18446744073709551616:=Int.emod_nonneg _ (by decide);have h3:=Int.emod_nonneg (x%18446744073709551616) (b:=n) (by omega);have h4:=Int.emod_lt_of_pos (x%18446744073709551616) (b:=n) h0;have hv:(Zog x n).val=some ((x%18446744073709551616)%n):=by simp only[Zog,RT.val,e,e2,hn,Yb,Int.tmod_eq_emod_of_nonneg h2];rw[wrap_i64 _ (by omega) (by omega)]
 exact⟨by simp only[Zjq,hv];rfl,by simp only[Zbn,hv,getO]⟩
variable {s:List Int×Int} {k:Int}
theorem Zv (h:NB s k) (hk:k<=1000000) (n:Int) (h0:0<n) (h1:n<=4611686018427387904):
  Zh s n=true/\NB (Zb s n).2 (k+1)/\0<=(Zb s n).1/\(Zb s n).1<n:=by
 obtain⟨ha,hb⟩:=h;have e1:IntKind.wrap .i64 (s.2+1)=s.2+1:=wrap_i64 _ (by omega) (by omega);have e2:IntKind.wrap .i64 s.2=s.2:=wrap_i64 _ (by omega) (by omega);by_cases hl:(s.1.length:Int)<=s.2
 ·have hv:(Zn0 s n).val=some (0,s.1,s.2+1):=by simp[Zn0,RT.val,iN,hl,e1]
  simp only[Zh,Zb,hv,okB,getO,NB];exact⟨trivial,⟨by omega,by omega⟩,by omega,h0⟩
 ·have hr:Zf s.2 s.1.length=true:=Zae.2 ⟨ha,by omega⟩;obtain⟨p1,p2⟩:=ZwK (R.get (R.int i64) s.1 s.2) n h0 h1;have h3:=Int.emod_nonneg (R.get (R.int i64) s.1 s.2%18446744073709551616) (b:=n) (by omega);have h4:=Int.emod_lt_of_pos (R.get (R.int i64) s.1 s.2%18446744073709551616) (b:=n) h0;have hv:(Zn0 s n).val=some ((R.get (R.int i64) s.1 s.2%18446744073709551616)%n,s.1,s.2+1):=by simp[Zn0,RT.val,iN,hl,e1,e2,hr,p1,p2]
  simp only[Zh,Zb,hv,okB,getO,NB];exact⟨trivial,⟨by omega,by omega⟩,h3,h4⟩
theorem ZkS (h:NB s k) (hk:k<=1000000):Zf6 s=true/\NB (Zcx s).2 (k+1)/\inR .u8 (Zcx s).1:=by
 obtain⟨c,b,d0,d1⟩:=Zv h hk 512 (by decide) (by decide);have m0:0<=(Zb s 512).1%16:=Int.emod_nonneg _ (by decide);have m1:(Zb s 512).1%16<16:=Int.emod_lt_of_pos _ (by decide);have ht:Int.tmod (Zb s 512).1 16=(Zb s 512).1%16:=Int.tmod_eq_emod_of_nonneg d0;by_cases hn:256<=(Zb s 512).1
 ·have hv:(Zn7 s).val=some (R.get (R.int u8) [0,1,127,128,255,15,16,153,154,9,102,254,129,85,170,64] ((Zb s 512).1%16),(Zb s 512).2):=by simp[Zn7,RT.val,c,hn,ht,Zf,m0,m1]
  simp only[Zf6,Zcx,hv,okB,getO];refine⟨trivial,b,?_⟩;have hall:∀i:Nat,i<16->inR .u8 (([0,1,127,128,255,15,16,153,154,9,102,254,129,85,170,64]:List Int).getD i 0):=by
   intro i hi;have:∀i:Fin 16,decide (0<=([0,1,127,128,255,15,16,153,154,9,102,254,129,85,170,64]:List Int).getD i 0)&&decide (([0,1,127,128,255,15,16,153,154,9,102,254,129,85,170,64]:List Int).getD i 0<=255):=by decide
   have:=this ⟨i,hi⟩;rw[Ziu];simpa using this
  exact hall ((Zb s 512).1%16).toNat (by omega)
 ·have hv:(Zn7 s).val=some (IntKind.wrap .u8 (Zb s 512).1,(Zb s 512).2):=by simp[Zn7,RT.val,c,hn]
  simp only[Zf6,Zcx,hv,okB,getO];exact⟨trivial,b,Zan _ _⟩
theorem ZQx (h:NB s k) (hk:k<=900000):Zfr s=true/\NB (Zby s).2 (k+2)/\inR .u16 (Zby s).1:=by
 obtain⟨c,b,d0,d1⟩:=Zv h (by omega) 5 (by decide) (by decide);obtain⟨c8,b8,e0,e1⟩:=Zv b (by omega) 8 (by decide) (by decide);obtain⟨c6,b6,_⟩:=Zv b (by omega) 65536 (by decide) (by decide);obtain⟨c4,b4,_⟩:=Zv b (by omega) 64 (by decide) (by decide);have w:∀{t:List Int×Int},NB t (k+1+1)->NB t (k+2):=λh=>⟨h.1,by have:=h.2;omega⟩
 have hr:Zf (Zb (Zb s 5).2 8).1 8=true:=Zae.2 ⟨e0,by omega⟩;by_cases h0:(Zb s 5).1=0
 ·have hv:(Zii s).val=some (R.get (R.int u16) [0,1,65535,65534,32767,32768,255,256] (Zb (Zb s 5).2 8).1,(Zb (Zb s 5).2 8).2):=by simp[Zii,RT.val,c,h0,c8,hr]
  simp only[Zfr,Zby,hv,okB,getO];refine⟨trivial,w b8,?_⟩;have hall:∀i:Nat,i<8->inR .u16 (([0,1,65535,65534,32767,32768,255,256]:List Int).getD i 0):=by
   intro i hi;have:∀i:Fin 8,decide (0<=([0,1,65535,65534,32767,32768,255,256]:List Int).getD i 0)&&decide (([0,1,65535,65534,32767,32768,255,256]:List Int).getD i 0<=65535):=by decide
   have:=this ⟨i,hi⟩;simp only[Ya,Yf] at this;exact⟨by simpa [IntKind.min,IntKind.signed] using this.1,by simpa [IntKind.max,IntKind.signed,IntKind.bits] using this.2⟩
  exact hall (Zb (Zb s 5).2 8).1.toNat (by omega)
 ·by_cases h1:(Zb s 5).1=1
  ·have hv:(Zii s).val=some (IntKind.wrap .u16 (Zb (Zb s 5).2 65536).1,(Zb (Zb s 5).2 65536).2):=by simp[Zii,RT.val,c,h1,c6]
   simp only[Zfr,Zby,hv,okB,getO];exact⟨trivial,w b6,Zan _ _⟩
  ·have hv:(Zii s).val=some (IntKind.wrap .u16 (Zb (Zb s 5).2 64).1,(Zb (Zb s 5).2 64).2):=by
    have g0:((Zb s 5).1==0)=false:=by simpa using h0
    have g1:((Zb s 5).1==1)=false:=by simpa using h1
    simp[Zii,RT.val,c,g0,g1,c4]
   simp only[Zfr,Zby,hv,okB,getO];exact⟨trivial,w b4,Zan _ _⟩
theorem ZQz (h:NB s k) (hk:k<=1000000):Zn6 s=true/\NB (ZaJ s).2 (k+1)/\((ZaJ s).1=1\/(ZaJ s).1=2):=by
 obtain⟨c,b,d0,d1⟩:=Zv h hk 2 (by decide) (by decide);have hv:(Zwu s).val=some (1+(Zb s 2).1,(Zb s 2).2):=by simp[Zwu,RT.val,c];rw[wrap_i64 _ (by omega) (by omega)]
 simp only[Zn6,ZaJ,hv,okB,getO];exact⟨trivial,b,by omega⟩
theorem Zjo (h:NB s k) (hk:k<=900000):ZbT s=true/\NB (Zac s).2 (k+2)/\inR .u8 (Zac s).1:=by
 obtain⟨c,b,d0,d1⟩:=Zv h (by omega) 3 (by decide) (by decide);have w:∀{t:List Int×Int},NB t (k+1+1)->NB t (k+2):=λh=>⟨h.1,by have:=h.2;omega⟩
 by_cases hn:0<(Zb s 3).1
 ·have hk':k+1<=1000001:=by omega
  obtain⟨c2,b2,_⟩:=Zv b (by omega) 256 (by decide) (by decide);have hv:(Ze9 s).val=some (IntKind.wrap .u8 (Zb (Zb s 3).2 256).1,(Zb (Zb s 3).2 256).2):=by simp[Ze9,RT.val,c,hn,c2]
  simp only[ZbT,Zac,hv,okB,getO];exact⟨trivial,w b2,Zan _ _⟩
 ·obtain⟨c2,b2,e0,e1⟩:=Zv b (by omega) 18 (by decide) (by decide);have hr:Zf (Zb (Zb s 3).2 18).1 18=true:=Zae.2 ⟨e0,by omega⟩;have hv:(Ze9 s).val=some (R.get (R.int u8) [251,243,118,205,201,197,227,211,219,54,52,32,48,194,202,255,62,49] (Zb (Zb s 3).2 18).1,(Zb (Zb s 3).2 18).2):=by simp[Ze9,RT.val,c,hn,c2,hr]
  simp only[ZbT,Zac,hv,okB,getO];refine⟨trivial,w b2,?_⟩;have hall:∀i:Nat,i<18->inR .u8 (([251,243,118,205,201,197,227,211,219,54,52,32,48,194,202,255,62,49]:List Int).getD i 0):=by
   intro i hi;have:∀i:Fin 18,decide (0<=([251,243,118,205,201,197,227,211,219,54,52,32,48,194,202,255,62,49]:List Int).getD i 0)&&decide (([251,243,118,205,201,197,227,211,219,54,52,32,48,194,202,255,62,49]:List Int).getD i 0<=255):=by decide
   have:=this ⟨i,hi⟩;rw[Ziu];simpa using this
  exact hall (Zb (Zb s 3).2 18).1.toNat (by omega)
theorem ZVq (l:List Int):NB (l,0) 0:=⟨by simp,by simp⟩
end
end Go.Proofs.YtpnjbfjomebppaaGreat
