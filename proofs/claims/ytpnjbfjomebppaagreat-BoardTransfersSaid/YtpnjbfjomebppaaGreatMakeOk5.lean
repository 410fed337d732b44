import Derived.Test.YtpnjbfjomebppaaGreatFinRX
import Derived.Test.YtpnjbfjomebppaaGreatFin1
import Derived.Test.YtpnjbfjomebppaaGreatFin2
import Derived.Test.YtpnjbfjomebppaaGreatFin3
import Derived.Test.YtpnjbfjomebppaaGreatFin4
open Go Go.S3 Go.Proofs
set_option linter.unusedVariables false
set_option linter.unusedSimpArgs false
set_option maxRecDepth 100000
namespace Go.Proofs.YtpnjbfjomebppaaGreat
noncomputable section
theorem fp_1 (c) (s:Int) (g:List Int) (l) (n:Int) (hk:(Zc c.1 (g.getD 0 0)).1=n):(n=1->(ZBR c s g l).val=some (finX c s g l))/\(n=6->(ZBM c s g l).val=some (finX c s g l))/\(n=10->(ZuA c s g l).val=some (finX c s g l))/\(n=17->(Zut c s g l).val=some (finX c s g l))/\(n=21->(Zup c s g l).val=some (finX c s g l))/\(n=28->(Zui c s g l).val=some (finX c s g l))/\(n=33->(Zud c s g l).val=some (finX c s g l))/\(n=37->(Zt9 c s g l).val=some (finX c s g l))/\(n=43->(Zt3 c s g l).val=some (finX c s g l)):=by
 refine⟨?_,?_,?_,?_,?_,?_,?_,?_,?_⟩;all_goals intro e;subst e
 all_goals simp only[ZBR,ZBM,ZuA,Zut,Zup,Zui,Zud,Zt9,Zt3,RT.val,rgx]
 all_goals simp only[qat0,mat0,qat1,mat1,rg0,hk,ZH,Zaq,Za6,Zab,Zac,ZV,ZW,Zcx,Zcy,Zh6,Zh5,ZG,ZbC,finX,spOf]
 all_goals generalize Zd s=bi
 all_goals cases bi with
 |true=>simp[wPC,wSP]
 |false=>
  generalize (s==5)=bs;simp only[finI,hk,finR,wPC,wSP,wA,wF,fCY,fVCY,ZgJ,flOf,ZZ,pcOf,Zco];generalize Zc c.1 (g.getD 0 0)=i at hk|-;simp (config:={implicitDefEqProofs:=false}) [ZdP,ZdI,ZeW,hk]
theorem fp_2 (c) (s:Int) (g:List Int) (l) (n:Int) (hk:(Zc c.1 (g.getD 0 0)).1=n):(n=3->(ZBP c s g l).val=some (finX c s g l))/\(n=7->(ZBL c s g l).val=some (finX c s g l))/\(n=11->(Zuz c s g l).val=some (finX c s g l))/\(n=18->(Zus c s g l).val=some (finX c s g l))/\(n=22->(Zuo c s g l).val=some (finX c s g l))/\(n=29->(Zuh c s g l).val=some (finX c s g l))/\(n=34->(Zuc c s g l).val=some (finX c s g l))/\(n=40->(Zt6 c s g l).val=some (finX c s g l))/\(n=44->(Zt2 c s g l).val=some (finX c s g l)):=by
 refine⟨?_,?_,?_,?_,?_,?_,?_,?_,?_⟩;all_goals intro e;subst e
 all_goals simp only[ZBP,ZBL,Zuz,Zus,Zuo,Zuh,Zuc,Zt6,Zt2,RT.val,rgx]
 all_goals simp only[qat0,mat0,qat1,mat1,rg0,hk,ZH,Zaq,Za6,Zab,Zac,ZV,ZW,Zcx,Zcy,Zh6,Zh5,ZG,ZbC,finX,spOf]
 all_goals generalize Zd s=bi
 all_goals cases bi with
 |true=>simp[wPC,wSP]
 |false=>
  generalize (s==5)=bs;simp only[finI,hk,finR,wPC,wSP,wA,wF,fCY,fVCY,ZgJ,flOf,ZZ,pcOf,Zco];generalize Zc c.1 (g.getD 0 0)=i at hk|-;simp (config:={implicitDefEqProofs:=false}) [ZdP,ZdI,ZeW,hk]
theorem fp_3 (c) (s:Int) (g:List Int) (l) (n:Int) (hk:(Zc c.1 (g.getD 0 0)).1=n):(n=4->(ZBO c s g l).val=some (finX c s g l))/\(n=8->(ZBK c s g l).val=some (finX c s g l))/\(n=13->(Zux c s g l).val=some (finX c s g l))/\(n=19->(Zur c s g l).val=some (finX c s g l))/\(n=23->(Zun c s g l).val=some (finX c s g l))/\(n=30->(Zug c s g l).val=some (finX c s g l))/\(n=35->(Zub c s g l).val=some (finX c s g l))/\(n=41->(Zt5 c s g l).val=some (finX c s g l))/\(n=46->(Zt0 c s g l).val=some (finX c s g l)):=by
 refine⟨?_,?_,?_,?_,?_,?_,?_,?_,?_⟩;all_goals intro e;subst e
 all_goals simp only[ZBO,ZBK,Zux,Zur,Zun,Zug,Zub,Zt5,Zt0,RT.val,rgx]
 all_goals simp only[qat0,mat0,qat1,mat1,rg0,hk,ZH,Zaq,Za6,Zab,Zac,ZV,ZW,Zcx,Zcy,Zh6,Zh5,ZG,ZbC,finX,spOf]
 all_goals generalize Zd s=bi
 all_goals cases bi with
 |true=>simp[wPC,wSP]
 |false=>
  generalize (s==5)=bs;simp only[finI,hk,finR,wPC,wSP,wA,wF,fCY,fVCY,ZgJ,flOf,ZZ,pcOf,Zco];generalize Zc c.1 (g.getD 0 0)=i at hk|-;simp (config:={implicitDefEqProofs:=false}) [ZdP,ZdI,ZeW,hk]
theorem fp_4 (c) (s:Int) (g:List Int) (l) (n:Int) (hk:(Zc c.1 (g.getD 0 0)).1=n):(n=5->(ZBN c s g l).val=some (finX c s g l))/\(n=9->(ZBJ c s g l).val=some (finX c s g l))/\(n=16->(Zuu c s g l).val=some (finX c s g l))/\(n=20->(Zuq c s g l).val=some (finX c s g l))/\(n=27->(Zuj c s g l).val=some (finX c s g l))/\(n=32->(Zue c s g l).val=some (finX c s g l))/\(n=36->(Zua c s g l).val=some (finX c s g l))/\(n=42->(Zt4 c s g l).val=some (finX c s g l))/\(n=47->(ZtZ c s g l).val=some (finX c s g l)):=by
 refine⟨?_,?_,?_,?_,?_,?_,?_,?_,?_⟩;all_goals intro e;subst e
 all_goals simp only[ZBN,ZBJ,Zuu,Zuq,Zuj,Zue,Zua,Zt4,ZtZ,RT.val,rgx]
 all_goals simp only[qat0,mat0,qat1,mat1,rg0,hk,ZH,Zaq,Za6,Zab,Zac,ZV,ZW,Zcx,Zcy,Zh6,Zh5,ZG,ZbC,finX,spOf]
 all_goals generalize Zd s=bi
 all_goals cases bi with
 |true=>simp[wPC,wSP]
 |false=>
  generalize (s==5)=bs;simp only[finI,hk,finR,wPC,wSP,wA,wF,fCY,fVCY,ZgJ,flOf,ZZ,pcOf,Zco];generalize Zc c.1 (g.getD 0 0)=i at hk|-;simp (config:={implicitDefEqProofs:=false}) [ZdP,ZdI,ZeW,hk]
theorem fp_5 (c) (s:Int) (g:List Int) (l) (n:Int) (hk:(Zc c.1 (g.getD 0 0)).1=n):(n=2->(ZBQ c s g l).val=some (finX c s g l))/\(n=12->(Zuy c s g l).val=some (finX c s g l)):=by
 refine⟨?_,?_⟩;all_goals intro e;subst e
 all_goals simp only[ZBQ,Zuy,RT.val,rgx]
 all_goals simp only[qat0,mat0,qat1,mat1,rg0,hk,ZH,Zaq,Za6,Zab,Zac,ZV,ZW,Zcx,Zcy,Zh6,Zh5,ZG,ZbC,finX,spOf]
 all_goals generalize Zd s=bi
 all_goals cases bi with
 |true=>simp[wPC,wSP]
 |false=>
  generalize (s==5)=bs;simp only[finI,hk,finR,wPC,wSP,wA,wF,fCY,fVCY,ZgJ,flOf,ZZ,pcOf,Zco];generalize Zc c.1 (g.getD 0 0)=i at hk|-;generalize (i.2.2.2.1==6)=b0;cases b0<;>simp (config:={implicitDefEqProofs:=false}) [ZdP,ZdI,ZeW,hk]
theorem fp_6 (c) (s:Int) (g:List Int) (l) (n:Int) (hk:(Zc c.1 (g.getD 0 0)).1=n):(n=14->(Zuw c s g l).val=some (finX c s g l))/\(n=15->(Zuv c s g l).val=some (finX c s g l)):=by
 refine⟨?_,?_⟩;all_goals intro e;subst e
 all_goals simp only[Zuw,Zuv,RT.val,rgx]
 all_goals simp only[qat0,mat0,qat1,mat1,rg0,hk,ZH,Zaq,Za6,Zab,Zac,ZV,ZW,Zcx,Zcy,Zh6,Zh5,ZG,ZbC,finX,spOf]
 all_goals generalize Zd s=bi
 all_goals cases bi with
 |true=>simp[wPC,wSP]
 |false=>
  generalize (s==5)=bs;simp only[finI,hk,finR,wPC,wSP,wA,wF,fCY,fVCY,ZgJ,flOf,ZZ,pcOf,Zco];generalize Zc c.1 (g.getD 0 0)=i at hk|-;generalize (i.2.2.1==6)=b0;cases b0<;>simp (config:={implicitDefEqProofs:=false}) [ZdP,ZdI,ZeW,hk]
theorem fp_7 (c) (s:Int) (g:List Int) (l) (n:Int) (hk:(Zc c.1 (g.getD 0 0)).1=n):(n=24->(Zum c s g l).val=some (finX c s g l))/\(n=25->(Zul c s g l).val=some (finX c s g l))/\(n=26->(Zuk c s g l).val=some (finX c s g l))/\(n=45->(Zt1 c s g l).val=some (finX c s g l)):=by
 refine⟨?_,?_,?_,?_⟩;all_goals intro e;subst e
 all_goals simp only[Zum,Zul,Zuk,Zt1,RT.val,rgx]
 all_goals simp only[qat0,mat0,qat1,mat1,rg0,hk,ZH,Zaq,Za6,Zab,Zac,ZV,ZW,Zcx,Zcy,Zh6,Zh5,ZG,ZbC,finX,spOf]
 all_goals generalize Zd s=bi
 all_goals cases bi with
 |true=>simp[wPC,wSP]
 |false=>
  generalize (s==5)=bs;simp only[finI,hk,finR,wPC,wSP,wA,wF,fCY,fVCY,ZgJ,flOf,ZZ,pcOf,Zco];generalize Zc c.1 (g.getD 0 0)=i at hk|-;generalize Zgj _ _=b0;cases b0<;>simp (config:={implicitDefEqProofs:=false}) [ZdP,ZdI,ZeW,hk]
theorem fp_8 (c) (s:Int) (g:List Int) (l) (n:Int) (hk:(Zc c.1 (g.getD 0 0)).1=n):(n=31->(Zuf c s g l).val=some (finX c s g l)):=by
 skip
 all_goals intro e;subst e
 all_goals simp only[Zuf,RT.val,rgx]
 all_goals simp only[qat0,mat0,qat1,mat1,rg0,hk,ZH,Zaq,Za6,Zab,Zac,ZV,ZW,Zcx,Zcy,Zh6,Zh5,ZG,ZbC,finX,spOf]
 all_goals generalize Zd s=bi
 all_goals cases bi with
 |true=>simp[wPC,wSP]
 |false=>
  generalize (s==5)=bs;simp only[finI,hk,finR,wPC,wSP,wA,wF,fCY,fVCY,ZgJ,flOf,ZZ,pcOf,Zco];generalize Zc c.1 (g.getD 0 0)=i at hk|-;generalize (i.2.2.2.2.1==3)=b0;cases b0<;>simp (config:={implicitDefEqProofs:=false}) [ZdP,ZdI,ZeW,hk]
theorem fp_9 (c) (s:Int) (g:List Int) (l) (n:Int) (hk:(Zc c.1 (g.getD 0 0)).1=n):(n=38->(Zt8 c s g l).val=some (finX c s g l)):=by
 skip
 all_goals intro e;subst e
 all_goals simp only[Zt8,RT.val,rgx]
 all_goals simp only[qat0,mat0,qat1,mat1,rg0,hk,ZH,Zaq,Za6,Zab,Zac,ZV,ZW,Zcx,Zcy,Zh6,Zh5,ZG,ZbC,finX,spOf]
 all_goals generalize Zd s=bi
 all_goals cases bi with
 |true=>simp[wPC,wSP]
 |false=>
  generalize (s==5)=bs;simp only[finI,hk,finR,wPC,wSP,wA,wF,fCY,fVCY,ZgJ,flOf,ZZ,pcOf,Zco];generalize Zc c.1 (g.getD 0 0)=i at hk|-;simp[ZdP,ZdI,ZeW,hk,ZS5]
theorem fp_10 (c) (s:Int) (g:List Int) (l) (n:Int) (hk:(Zc c.1 (g.getD 0 0)).1=n):(n=39->(Zt7 c s g l).val=some (finX c s g l)):=by
 skip
 all_goals intro e;subst e
 all_goals simp only[Zt7,RT.val,rgx]
 all_goals simp only[qat0,mat0,qat1,mat1,rg0,hk,ZH,Zaq,Za6,Zab,Zac,ZV,ZW,Zcx,Zcy,Zh6,Zh5,ZG,ZbC,finX,spOf]
 all_goals generalize Zd s=bi
 all_goals cases bi with
 |true=>simp[wPC,wSP]
 |false=>
  generalize (s==5)=bs;simp only[finI,hk,finR,wPC,wSP,wA,wF,fCY,fVCY,ZgJ,flOf,ZZ,pcOf,Zco];generalize Zc c.1 (g.getD 0 0)=i at hk|-;simp[ZdP,ZdI,ZeW,hk,rSim,ZUY,RT.val]
theorem ZVT (a:HL ZP) (h:okHL ZP a):∃l,Zd1 Tryz.prog l/\(Zhg (envX Tryz.prog l [] 1023 8) Tryz.f85 ZP ZLP a).val=some (finX a.1 a.2.1 a.2.2.1 a.2.2.2):=by
 have hk:=ZOi a.1.1 _ (ZOE h.2.2.1);refine⟨ZVU (Zc a.1.1 (a.2.2.1.getD 0 0)).1,ZRr _,?_⟩;show (EV0 _ a).val=_;rcases ZOh hk.1 hk.2 with e|e|e|e|e|e|e|e|e|e|e|e|e|e|e|e|e|e|e|e|e|e|e|e|e|e|e|e|e|e|e|e|e|e|e|e|e|e|e|e|e|e|e|e|e|e|e
 ·rw[e,ZM1 a,((fp_1 a.1 a.2.1 a.2.2.1 a.2.2.2 _ e).1 rfl)]
 ·rw[e,ZM0 a,((fp_5 a.1 a.2.1 a.2.2.1 a.2.2.2 _ e).1 rfl)]
 ·rw[e,ZMZ a,((fp_2 a.1 a.2.1 a.2.2.1 a.2.2.2 _ e).1 rfl)]
 ·rw[e,ZMY a,((fp_3 a.1 a.2.1 a.2.2.1 a.2.2.2 _ e).1 rfl)]
 ·rw[e,ZMX a,((fp_4 a.1 a.2.1 a.2.2.1 a.2.2.2 _ e).1 rfl)]
 ·rw[e,ZMW a,((fp_1 a.1 a.2.1 a.2.2.1 a.2.2.2 _ e).2.1 rfl)]
 ·rw[e,ZMV a,((fp_2 a.1 a.2.1 a.2.2.1 a.2.2.2 _ e).2.1 rfl)]
 ·rw[e,ZMU a,((fp_3 a.1 a.2.1 a.2.2.1 a.2.2.2 _ e).2.1 rfl)]
 ·rw[e,ZMT a,((fp_4 a.1 a.2.1 a.2.2.1 a.2.2.2 _ e).2.1 rfl)]
 ·rw[e,ZH2 a,((fp_1 a.1 a.2.1 a.2.2.1 a.2.2.2 _ e).2.2.1 rfl)]
 ·rw[e,ZH1 a,((fp_2 a.1 a.2.1 a.2.2.1 a.2.2.2 _ e).2.2.1 rfl)]
 ·rw[e,ZH0 a,((fp_5 a.1 a.2.1 a.2.2.1 a.2.2.2 _ e).2 rfl)]
 ·rw[e,ZHZ a,((fp_3 a.1 a.2.1 a.2.2.1 a.2.2.2 _ e).2.2.1 rfl)]
 ·rw[e,ZHY a,((fp_6 a.1 a.2.1 a.2.2.1 a.2.2.2 _ e).1 rfl)]
 ·rw[e,ZHX a,((fp_6 a.1 a.2.1 a.2.2.1 a.2.2.2 _ e).2 rfl)]
 ·rw[e,ZHW a,((fp_4 a.1 a.2.1 a.2.2.1 a.2.2.2 _ e).2.2.1 rfl)]
 ·rw[e,ZHV a,((fp_1 a.1 a.2.1 a.2.2.1 a.2.2.2 _ e).2.2.2.1 rfl)]
 ·rw[e,ZHU a,((fp_2 a.1 a.2.1 a.2.2.1 a.2.2.2 _ e).2.2.2.1 rfl)]
 ·rw[e,ZHT a,((fp_3 a.1 a.2.1 a.2.2.1 a.2.2.2 _ e).2.2.2.1 rfl)]
 ·rw[e,ZHS a,((fp_4 a.1 a.2.1 a.2.2.1 a.2.2.2 _ e).2.2.2.1 rfl)]
 ·rw[e,ZHR a,((fp_1 a.1 a.2.1 a.2.2.1 a.2.2.2 _ e).2.2.2.2.1 rfl)]
 ·rw[e,ZHQ a,((fp_2 a.1 a.2.1 a.2.2.1 a.2.2.2 _ e).2.2.2.2.1 rfl)]
 ·rw[e,ZHP a,((fp_3 a.1 a.2.1 a.2.2.1 a.2.2.2 _ e).2.2.2.2.1 rfl)]
 ·rw[e,ZHO a,((fp_7 a.1 a.2.1 a.2.2.1 a.2.2.2 _ e).1 rfl)]
 ·rw[e,ZHN a,((fp_7 a.1 a.2.1 a.2.2.1 a.2.2.2 _ e).2.1 rfl)]
 ·rw[e,ZHM a,((fp_7 a.1 a.2.1 a.2.2.1 a.2.2.2 _ e).2.2.1 rfl)]
 ·rw[e,ZHL a,((fp_4 a.1 a.2.1 a.2.2.1 a.2.2.2 _ e).2.2.2.2.1 rfl)]
 ·rw[e,ZHK a,((fp_1 a.1 a.2.1 a.2.2.1 a.2.2.2 _ e).2.2.2.2.2.1 rfl)]
 ·rw[e,ZHJ a,((fp_2 a.1 a.2.1 a.2.2.1 a.2.2.2 _ e).2.2.2.2.2.1 rfl)]
 ·rw[e,ZHI a,((fp_3 a.1 a.2.1 a.2.2.1 a.2.2.2 _ e).2.2.2.2.2.1 rfl)]
 ·rw[e,ZHH a,((fp_8 a.1 a.2.1 a.2.2.1 a.2.2.2 _ e) rfl)]
 ·rw[e,ZHG a,((fp_4 a.1 a.2.1 a.2.2.1 a.2.2.2 _ e).2.2.2.2.2.1 rfl)]
 ·rw[e,ZHF a,((fp_1 a.1 a.2.1 a.2.2.1 a.2.2.2 _ e).2.2.2.2.2.2.1 rfl)]
 ·rw[e,ZHE a,((fp_2 a.1 a.2.1 a.2.2.1 a.2.2.2 _ e).2.2.2.2.2.2.1 rfl)]
 ·rw[e,ZHD a,((fp_3 a.1 a.2.1 a.2.2.1 a.2.2.2 _ e).2.2.2.2.2.2.1 rfl)]
 ·rw[e,ZHC a,((fp_4 a.1 a.2.1 a.2.2.1 a.2.2.2 _ e).2.2.2.2.2.2.1 rfl)]
 ·rw[e,ZHB a,((fp_1 a.1 a.2.1 a.2.2.1 a.2.2.2 _ e).2.2.2.2.2.2.2.1 rfl)]
 ·rw[e,ZHA a,((fp_9 a.1 a.2.1 a.2.2.1 a.2.2.2 _ e) rfl)]
 ·rw[e,ZHz a,((fp_10 a.1 a.2.1 a.2.2.1 a.2.2.2 _ e) rfl)]
 ·rw[e,ZHy a,((fp_2 a.1 a.2.1 a.2.2.1 a.2.2.2 _ e).2.2.2.2.2.2.2.1 rfl)]
 ·rw[e,ZHx a,((fp_3 a.1 a.2.1 a.2.2.1 a.2.2.2 _ e).2.2.2.2.2.2.2.1 rfl)]
 ·rw[e,ZHw a,((fp_4 a.1 a.2.1 a.2.2.1 a.2.2.2 _ e).2.2.2.2.2.2.2.1 rfl)]
 ·rw[e,ZHv a,((fp_1 a.1 a.2.1 a.2.2.1 a.2.2.2 _ e).2.2.2.2.2.2.2.2 rfl)]
 ·rw[e,ZHu a,((fp_2 a.1 a.2.1 a.2.2.1 a.2.2.2 _ e).2.2.2.2.2.2.2.2 rfl)]
 ·rw[e,ZHt a,((fp_7 a.1 a.2.1 a.2.2.1 a.2.2.2 _ e).2.2.2 rfl)]
 ·rw[e,ZHs a,((fp_3 a.1 a.2.1 a.2.2.1 a.2.2.2 _ e).2.2.2.2.2.2.2.2 rfl)]
 ·rw[e,ZHr a,((fp_4 a.1 a.2.1 a.2.2.1 a.2.2.2 _ e).2.2.2.2.2.2.2.2 rfl)]
def ZVV:En:=Zi ZP ZLP (λ_=>none) (λa=>finX a.1 a.2.1 a.2.2.1 a.2.2.2)
theorem ZVS:Zb Tryz.prog 85 ZVV:=ZEi Tryz.func85 rfl (by kernel_rfl) Tryz.call85 λa h _=>ZVT a h
theorem ZqN (c op:Int) (h:c≠2):Zc c op=Zc 0 op:=by unfold Zc;rw[Zm5 c op h]
theorem ZAs (c op:Int) (h:c≠2):Zrf c op=Zrf 0 op:=by
 have h1:(c==2)=false:=by simpa using h
 have h0:((0:Int)==2)=false:=rfl;simp only[Zrf,ZBH,RT.val,ZqN c op h,h1,h0]
theorem ZzP (c op:Int) (h:c≠2):ZeT c op=ZeT 0 op:=by
 have h1:rOn c=false:=by simpa [ZbC] using h
 have h0:rOn 0=false:=rfl;simp only[ZeT,Zz6,RT.val,ZqN c op h,h1,h0]
def firT (c op:Int):Bool:=Zrf c op==ZeT c op
theorem ZSl (c op:Int) (h:inR .u8 op):Zrf c op=ZeT c op:=by
 by_cases hc:c=2
 ·subst hc;exact eq_of_beq (Zgd (firT 2) (by kernel_rfl) op h)
 ·rw[ZAs c op hc,ZzP c op hc];exact eq_of_beq (Zgd (firT 0) (by kernel_rfl) op h)
def ZE5:En:=Zi ZxC ZTs (λ_=>none) (λa=>ZeT a.1 a.2)
theorem ZHp:Zb Tryz.prog 84 ZE5:=ZMR.tot (λa h=>by simp) (λa h=>ZSl _ _ h.2)
end
end Go.Proofs.YtpnjbfjomebppaaGreat
open Go.Proofs.Tryz (prog)
open Go.IntKind (u8 u16 i64)
namespace Go.Proofs.YtpnjbfjomebppaaGreat
noncomputable section
def ZLN (c:QT4):RT (Int):=
 .br (decide (c.2.2.2.2.1<1)||decide (c.2.2.2.2.1>9))
 (.Lf (1))
 (.Lf c.2.2.2.2.1)
def ZbN (c:QT4):Int:=(ZLN c).val
def ZnO:En:=Zi ZNj ZTs (λ_=>none) (λa=>ZbN a)
theorem ZnN:Zb prog 136 ZnO:=
 pureQ 7 [] [] _ _ trivial Tryz.func136 Tryz.call136 trivial
abbrev ZMJ:List Sh:=[Sh.agg (R.Pq Z8 (R.Pq Kc (R.Pq (R.sl Ka) (R.Pq (RY) (R.Pq Kc R.bool))))),So R.bool]
def ZMK (c:QT4) (h:Bool):RT (Int):=
 .br (h)
 (.Lf (8))
 (.br (c.1.2.2.2.2.1&&c.2.1==0)
  (.Lf (9))
  (.Lf (1)))
def ZxR (c:QT4) (h:Bool):Int:=(ZMK c h).val
def ZE3:En:=Zi ZMJ ZTs (λ_=>none) (λa=>ZxR a.1 a.2)
theorem ZE2:Zb prog 193 ZE3:=
 pureQ 191 [] [] _ _ trivial Tryz.func193 Tryz.call193 trivial
abbrev Zq7:List Sh:=[So Kc,So R.bool]
def ZnG (s:Int) (h:Bool):RT (Int):=
 .br (h)
 (.Lf (8))
 (.br (s==0)
  (.Lf (9))
  (.Lf (1)))
def Zl0 (s:Int) (h:Bool):Int:=(ZnG s h).val
def Zxy:En:=Zi Zq7 ZTs (λ_=>none) (λa=>Zl0 a.1 a.2)
theorem ZAy:Zb prog 196 Zxy:=
 pureQ 191 [] [] _ _ trivial Tryz.func196 Tryz.call196 trivial
abbrev ZEK:List Sh:=[Sh.agg (R.Pq Z8 (R.Pq Kc (R.Pq (R.sl Ka) (R.Pq (RY) (R.Pq Kc R.bool))))),So Kc]
abbrev ZEL:Rs:=Rs.one (Sh.agg (R.Pq Z8 (R.Pq Kc (R.Pq (R.sl Ka) (R.Pq (RY) (R.Pq Kc R.bool))))))
def ZLV (c:QT4) (s:Int):RT (QT4):=
 .Lf ((Zy c.1 s,s,[],(Zj (Zy c.1 s) s []).1,c.2.2.2.2))
def ZxI (c:QT4) (s:Int):QT4:=(ZLV c s).val
def Ztr:En:=Zi ZEK ZEL (λ_=>none) (λa=>ZxI a.1 a.2)
theorem ZxH:Zb prog 195 Ztr:=
 pureQ 31 [(81,Zx0),(82,ZxP)] [] _ _ ⟨ZB1,ZtE,Tv⟩ Tryz.func195 Tryz.call195 trivial
def ZNm (c:TC) (s:Int):RT (QT4):=
 .Lf ((c,s,[],(Zj c s []).1,1,false))
def Zfo (c:TC) (s:Int):QT4:=(ZNm c s).val
def ZBV:En:=Zi ZoK ZEL (λ_=>none) (λa=>Zfo a.1 a.2)
theorem ZxY:Zb prog 172 ZBV:=
 pureQ 127 [(82,ZxP)] [] _ _ ⟨ZtE,Tv⟩ Tryz.func172 Tryz.call172 trivial
def ZsE (c:QT4):RT (Int):=
 .br (decide (c.2.2.2.2.1<1)||decide (c.2.2.2.2.1>9))
 (.Lf (1))
 (.Lf c.2.2.2.2.1)
def Zm (c:QT4):Int:=(ZsE c).val
def ZS9 (t:Int) (x:QT18):RT (Bool):=
 .br (t==3)
 (.Lf (decide (x.2.2.2<=3)))
 (.br (bif t==4 then t==4 else t==5)
  (.Lf (decide (x.2.2.2<=t)))
  (.Lf (t==6)))
def Zqb (t:Int) (x:QT18):Bool:=(ZS9 t x).val
def ZVJ (chip:Int):RT (QT4):=
 let x1:TR:=(0,0,0,0,0,0,0,(false,false,false,false,false,false,false),0,0)
 let x2:TC:=(Zfo (Z1 (chip,x1,false,false,false,0,false,false,false,false,false,false,false)) 0).1
 .Lf (((x2.1,x1,false,false,false,x2.2.2.2.2.2.1,false,false,false,false,false,false,false),0,[],(1,0,0,4),1,false))
def pNew (chip:Int):QT4:=(ZVJ chip).val
def pNewE:En:=Zi ZxE ZEL (λ_=>none) (λa=>pNew a)
theorem ZVI:Zb prog 97 pNewE:=
 pureQ 7 [(80,Ztv),(172,ZBV)] [] _ _ ⟨Zrd,ZxY,Tv⟩ Tryz.func97 Tryz.call97 trivial
def Zlw:En:=.tree (ZA (envX prog [(82,ZxP),(85,ZVV),(193,ZE3),(194,ZtA),(195,Ztr)] [] 1023 8) Tryz.f192)
theorem Zqi:Zb prog 192 Zlw:=Z6 ⟨ZtE,ZVS,ZE2,ZxL,ZxH,Tv⟩ Tryz.func192 rfl (by kernel_rfl) Tryz.call192 trivial
abbrev ZNp:List Sh:=[Sh.agg (R.Pq Z8 (R.Pq Kc (R.Pq (R.sl Ka) (R.Pq (RY) (R.Pq Kc R.bool))))),Sh.agg (R.Pq R.bool (R.Pq R.bool rcF7)),So Ka]
abbrev ZFk:Rs:=Rs.tup [Sh.agg (R.Pq Z8 (R.Pq Kc (R.Pq (R.sl Ka) (R.Pq (RY) (R.Pq Kc R.bool))))),Sh.agg (R.Pq R.bool (R.Pq Z8 (R.Pq (R.sl Ka) (R.Pq (RY) Z8))))]
def ZNq (c:QT4) (l:QT1) (d:Int):RT (Option ((QT4)×Bool×TC×List Int×TY×TC)):=
 let x1:Int:=bif Zaz c.2.2.2.1.1 then d else c.2.2.2.1.2.2.1
 let x2:List Int:=c.2.2.1++[x1]
 let x3:TC:=(0,(0,0,0,0,0,0,0,(false,false,false,false,false,false,false),0,0),false,false,false,0,false,false,false,false,false,false,false)
 let x4:Bool×TC×List Int×TY×TC:=(false,x3,[],c.2.2.2.1,Zf c.1 l)
 let x5:Int:=bif c.2.2.2.1.1==1||c.2.2.2.1.1==8 then ZeT (Zf c.1 l).1 x1 else c.2.2.2.1.2.2.2
 let x6:QT18:=(c.2.2.2.1.1,c.2.2.2.1.2.1,x1,x5)
 let x7:TY×TC:=(x6,Zf c.1 l)
 let x8:Bool×TC×List Int×TY×TC:=(false,x3,[],x7)
 let x9:=Zj (Zf c.1 l) c.2.1 x2
 let x10:=x9.1
 let x11:=finX (Zf c.1 l) c.2.1 x2 l
 let x12:=ZxI (x11,c.2.1,x2,x6,c.2.2.2.2) (Zbr x11 l)
 let x13:=x12.2
 let x14:=x13.2.2
 let x15:=ZxI (finX (Zf c.1 l) c.2.1 c.2.2.1 l,c.2) (Zbr (finX (Zf c.1 l) c.2.1 c.2.2.1 l) l)
 let x16:=x15.2
 let x17:=x16.2.2
 let x18:=ZxI (Zf c.1 l,c.2) (Zbr (Zf c.1 l) l)
 let x19:=x18.2
 let x20:=x19.2.2
 .br (Nat.ble (Le c.2.2.1) most) (.br (ZbN c==1||((bif ZbN c==2 then ZbN c==2 else ZbN c==7)||(!ZbN c==3||Nat.ble (Le x2) most))) (.br (ZbN c==1) (Ls (((Zf c.1 l,c.2.1,c.2.2.1,c.2.2.2.1,2,c.2.2.2.2.2),x4))) (.br (bif ZbN c==2 then ZbN c==2 else ZbN c==7) (Ls (((Zf c.1 l,c.2.1,c.2.2.1,c.2.2.2.1,bif Zh c.2.2.2.1.1&& !l.1 then 7 else 3,bif Zh c.2.2.2.1.1&& !l.1 then c.2.2.2.2.2 else l.2.1),x4))) (.br (ZbN c==3) (.br (decide (x5>3)) (Ls (((Zf c.1 l,c.2.1,x2,x6,4,c.2.2.2.2.2),x8))) (.br x9.2 (Ls (((Zf c.1 l,c.2.1,x2,x10,ZxR (Zf c.1 l,c.2.1,x2,x10,c.2.2.2.2) c.2.2.2.2.2,false),x8))) (Ls (((x12.1,x13.1,[],x14.1,ZxR x12 x14.2.2,false),true,x11,x2,x7))))) (.br (bif ZbN c==4 then ZbN c==4 else bif ZbN c==5 then ZbN c==5 else ZbN c==6) (.br (decide (c.2.2.2.1.2.2.2>ZbN c)&&ZbN c !=6) (Ls (((Zf c.1 l,c.2.1,c.2.2.1,c.2.2.2.1,i64.wrap (ZbN c+1),c.2.2.2.2.2),x4))) (.br (Zj (Zf c.1 l) c.2.1 c.2.2.1).2 (Ls (((Zf c.1 l,c.2.1,c.2.2.1,(Zj (Zf c.1 l) c.2.1 c.2.2.1).1,ZxR (Zf c.1 l,c.2.1,c.2.2.1,(Zj (Zf c.1 l) c.2.1 c.2.2.1).1,c.2.2.2.2) c.2.2.2.2.2,false),x4))) (Ls (((x15.1,x16.1,[],x17.1,ZxR x15 x17.2.2,false),true,finX (Zf c.1 l) c.2.1 c.2.2.1 l,c.2.2.1,c.2.2.2.1,Zf c.1 l))))) (.br (ZbN c==8) (Ls (((Zf c.1 l,c.2.1,c.2.2.1,c.2.2.2.1,ZxR (Zf c.1 l,c.2) l.2.1,c.2.2.2.2.2),x4))) (.br (ZbN c==9) (.br (Zbr (Zf c.1 l) l !=0) (Ls (((x18.1,x19.1,[],x20.1,Zl0 (Zbr (Zf c.1 l) l) l.2.1,x20.2.2),x4))) (Ls (((Zf c.1 l,c.2.1,c.2.2.1,c.2.2.2.1,Zl0 (Zbr (Zf c.1 l) l) l.2.1,c.2.2.2.2.2),x4)))) (Ls (((Zf c.1 l,c.2),x4))))))))) Ln) Ln
def pAdv (c:QT4) (l:QT1) (d:Int):(QT4)×Bool×TC×List Int×TY×TC:=getO ZFk.Df (ZNq c l d).val
def ZNr (c:QT4) (l:QT1) (d:Int):Bool:=okB (ZNq c l d).val
def ZYi:En:=Zi ZNp ZFk (λa=>some (ZNr a.1 a.2.1 a.2.2)) (λa=>pAdv a.1 a.2.1 a.2.2)
theorem ZNo:Zb prog 130 ZYi:=
 pureP 2679225218618052313454186380042176511 [(83,ZdV),(84,ZE5),(120,Zk7),(136,ZnO),(189,Zri),(191,ZEX),(192,Zlw),(193,ZE3),(194,ZtA),(195,Ztr),(196,Zxy)] [] _ _ ⟨Zfn,ZHp,ZpU,ZnN,ZxZ,ZHn,Zqi,ZE2,ZxL,ZxH,ZAy,Tv⟩ Tryz.func130 Tryz.call130 trivial
abbrev Zl8:Rs:=Rs.tup [Sh.agg (R.Pq Z8 (R.Pq Kc (R.Pq (R.sl Ka) (R.Pq (RY) (R.Pq Kc R.bool))))),Sh.agg (R.Pq Kc (R.Pq Kb (R.Pq Ka (R.Pq R.bool (R.Pq R.bool (R.Pq R.bool (R.Pq R.bool (R.Pq R.bool (R.Pq R.bool (R.Pq R.bool rcF7))))))))))]
def Zkz (c:QT4) (l:QT1) (d:Int):RT (Option ((QT4)×Int×Int×Int×Bool×Bool×Bool×Bool×Bool×Bool×Bool×Bool×Bool×Bool×Bool×Bool×Bool×Bool)):=
 let x1:Int×TF×Int×Int:=(Zfo (Z1 c.1) 0).1.2.1.2.2.2.2.2.2
 let x2:=x1.2
 let x3:TY×Int×Int×Bool×Bool:=(c.2.2.2.1,d,c.1.2.1.2.2.2.2.2.2.2.2.2,c.1.2.2.1,c.1.2.2.2.2.2.2.2.2.2.2.2.2)
 .br l.2.2.1 (Ls (((((Zfo (Z1 c.1) 0).1.1,((Zfo (Z1 c.1) 0).1.2.1.1,(Zfo (Z1 c.1) 0).1.2.1.2.1,(Zfo (Z1 c.1) 0).1.2.1.2.2.1,(Zfo (Z1 c.1) 0).1.2.1.2.2.2.1,(Zfo (Z1 c.1) 0).1.2.1.2.2.2.2.1,(Zfo (Z1 c.1) 0).1.2.1.2.2.2.2.2.1,x1.1,x2.1,x2.2.1,0),false,false,false,(Zfo (Z1 c.1) 0).1.2.2.2.2.2.1,false,false,false,false,false,false,false),0,[],(1,0,0,4),1,false),ZMc c.1.1 (10,x3)))) (.br (ZNr c l d) (Ls (((pAdv c l d).1,ZMc c.1.1 (ZbN c,x3)))) Ln)
def ZTA (c:QT4) (l:QT1) (d:Int):(QT4)×Int×Int×Int×Bool×Bool×Bool×Bool×Bool×Bool×Bool×Bool×Bool×Bool×Bool×Bool×Bool×Bool:=getO Zl8.Df (Zkz c l d).val
def ZNi (c:QT4) (l:QT1) (d:Int):Bool:=okB (Zkz c l d).val
def ZV8:En:=Zi ZNp Zl8 (λa=>some (ZNi a.1 a.2.1 a.2.2)) (λa=>ZTA a.1 a.2.1 a.2.2)
theorem ZNh:Zb prog 138 ZV8:=
 pureP 2047 [(79,ZTp),(80,Ztv),(130,ZYi),(136,ZnO),(172,ZBV)] [] _ _ ⟨ZRc,Zrd,ZNo,ZnN,ZxY,Tv⟩ Tryz.func138 Tryz.call138 trivial
abbrev LnT:=QT1
abbrev ZhX:=CpuT×Int×List Int×Cyc×Int×Bool
def ZX (n:Int):Int:=bif decide (n<1)||decide (n>9) then 1 else n
def ZpW (c:CpuT) (s:Int):ZhX:=(c,s,[],(Zj c s []).1,1,false)
def idlX (c:CpuT) (s:Int) (h:Bool):Int:=bif h then 8 else bif c.2.2.2.2.1&&s==0 then 9 else 1
def endX (c:CpuT) (s:Int) (g:List Int) (h:Bool) (l:LnT):ZhX:=
 bif (Zj c s g).2 then (c,s,g,(Zj c s g).1,idlX c s h,false) else
 let q:=finX c s g l
 let k:=Zbr q l
 let d:=Zy q k
 (d,k,[],(Zj d k []).1,idlX d k h,false)
def Zax (c:CpuT) (x:Cyc) (d:Int):Cyc:=
 let v:=bif Zaz x.1 then d else x.2.2.1
 (x.1,x.2.1,v,bif x.1==1||x.1==8 then ZeT c.1 v else x.2.2.2)
def le3 (x:Int):Bool:=decide (x<=3)
def Zk (c:ZhX) (l:LnT) (d:Int):ZhX:=
 let t:=ZX c.2.2.2.2.1
 let p:=Zf c.1 l
 let s:=c.2.1
 let g:=c.2.2.1
 let x:=c.2.2.2.1
 let h:=c.2.2.2.2.2
 bif l.2.2.1 then ZpW (Z1 c.1) 0 else
 bif t==1 then (p,s,g,x,2,h) else
 bif t==2||t==7 then (bif l.1|| !Zh x.1 then (p,s,g,x,3,l.2.1) else (p,s,g,x,7,h)) else
 bif t==8 then (p,s,g,x,idlX p s l.2.1,h) else
 bif t==9 then
  (let k:=Zbr p l
   bif k==0 then (p,s,g,x,bif l.2.1 then 8 else 9,h) else
   (Zy p k,k,[],(Zj (Zy p k) k []).1,bif l.2.1 then 8 else 1,h)) else
 bif t==3 then
  (let y:=Zax p x d
   bif le3 y.2.2.2 then endX p s (g++[y.2.2.1]) h l else (p,s,g++[y.2.2.1],y,4,h)) else
 bif decide (t<x.2.2.2)&& !(t==6) then (p,s,g,x,t+1,h) else endX p s g h l
abbrev PinT:=QT11
def Zqh (c:ZhX) (t:Int):Cyc:=bif t==9 then (0,c.1.2.1.2.2.2.2.2.2.2.2.2,0,0) else c.2.2.2.1
def ZbB (c:ZhX) (l:LnT) (d:Int):PinT:=
 let t:=ZX c.2.2.2.2.1
 Zbd c.1.1 (bif l.2.2.1 then 10 else t) (Zqh c t) (bif l.2.2.1 then 0 else d) c.1.2.2.1 c.1.2.2.2.2.2.2.2.2.2.2.2.2
theorem Zwb (n:Int):1<=ZX n/\ZX n<=9:=by
 unfold ZX;by_cases h:n<1\/n>9
 ·have:(decide (n<1)||decide (n>9))=true:=by simpa using h
  rw[this];simp
 ·have:(decide (n<1)||decide (n>9))=false:=by simpa using h
  rw[this];simp only[Yb];omega
theorem Zxm (c):ZbN c=ZX c.2.2.2.2.1:=rfl
theorem ZLa (c:ZhX) (s):ZxI c s=(Zy c.1 s,s,[],(Zj (Zy c.1 s) s []).1,c.2.2.2.2):=rfl
theorem ZQR (c:ZhX) (h:Bool):ZxR c h=idlX c.1 c.2.1 h:=by simp only[ZxR,ZMK,idlX,RT.val]
theorem ZX0 (chip:Int) (x y:Cyc) (d:Int) (i o:Bool):Zbd chip 10 x d i o=Zbd chip 10 y 0 i o:=by simp only[Zbd,Zi7,RT.val,ZbC];generalize (chip==2)=b;cases b<;>simp
theorem Zws (c:CpuT):Z1 c=((Z1 c).1,((Z1 c).2.1.1,(Z1 c).2.1.2.1,(Z1 c).2.1.2.2.1,(Z1 c).2.1.2.2.2.1,(Z1 c).2.1.2.2.2.2.1,(Z1 c).2.1.2.2.2.2.2.1,(Z1 c).2.1.2.2.2.2.2.2.1,(Z1 c).2.1.2.2.2.2.2.2.2.1,(Z1 c).2.1.2.2.2.2.2.2.2.2.1,0),false,false,false,(Z1 c).2.2.2.2.2.1,false,false,false,false,false,false,false):=by simp only[Z1,Znc,RT.val,ZbC]
theorem ZT4 (c:CpuT):ZpW (Z1 c) 0=(Z1 c,0,[],(1,0,0,4),1,false):=by
 simp only[ZpW];have:(Zj (Z1 c) 0 []).1=(1,0,0,4):=by
  have hp:pcOf (Z1 c)=0:=by rw[Zws];rfl
  simp[Zj,ZdB,Zd,ZqT,RT.val,hp];rfl
 rw[this]
theorem len1 {α:Type} (l:List α) (x:α) (h:l.length+1<=most):Nat.ble l.length most=true/\Nat.ble (l++[x]).length most=true:=by rw[YD,YD];simp only[Yd,List.length_cons,List.length_nil];omega
abbrev ChgT:=Bool×CpuT×List Int×Cyc×CpuT
abbrev cpu0:CpuT:=(0,(0,0,0,0,0,0,0,(false,false,false,false,false,false,false),0,0),false,false,false,0,false,false,false,false,false,false,false)
def ZaD (c:ZhX) (l:LnT) (d:Int):ChgT:=
 let t:=ZX c.2.2.2.2.1
 let p:=Zf c.1 l
 let s:=c.2.1
 let g:=c.2.2.1
 let x:=c.2.2.2.1
 bif t==3 then
  (let y:=Zax p x d
   bif le3 y.2.2.2&& !(Zj p s (g++[y.2.2.1])).2 then (true,finX p s (g++[y.2.2.1]) l,g++[y.2.2.1],y,p) else (false,cpu0,[],y,p)) else
 bif (t==4||(t==5||t==6))&&(!(decide (t<x.2.2.2)&& !(t==6))&& !(Zj p s g).2) then (true,finX p s g l,g,x,p) else (false,cpu0,[],x,p)
theorem gt3 (x:Int):decide (x>3)= !le3 x:=by unfold le3;by_cases h:x<=3<;>simp[h]<;>omega
theorem ZBZ (c:ZhX) (l:LnT) (d:Int) (hg:c.2.2.1.length+1<=most) (hr:l.2.2.1=false):(ZNq c l d).val=some (Zk c l d,ZaD c l d):=by
 have h1:=λx=>len1 c.2.2.1 x hg
 obtain⟨t1,t2⟩:=Zwb c.2.2.2.2.1;unfold ZNq Zk ZaD;simp only[Zxm,hr,Yb,RT.val,(h1 0).1,(h1 _).2,Ya,Yk,ZLa,ZQR,endX,Zax,idlX,Zl0,ZnG,gt3];have:ZX c.2.2.2.2.1=1\/ZX c.2.2.2.2.1=2\/ZX c.2.2.2.2.1=7\/ZX c.2.2.2.2.1=3\/ZX c.2.2.2.2.1=4\/ZX c.2.2.2.2.1=5\/ZX c.2.2.2.2.1=6\/ZX c.2.2.2.2.1=8\/ZX c.2.2.2.2.1=9:=by omega
 rcases this with h|h|h|h|h|h|h|h|h<;>simp only[h,Int.reduceBEq,Int.reduceBNe,Ya,Yb,Yh,Yz,Yas,YX,YV,YN,Yf,Ym,gt_iff_lt,show IntKind.wrap .i64 (4+1)=4+1 from rfl,show IntKind.wrap .i64 (5+1)=5+1 from rfl]
 ·cases Zh c.2.2.2.1.1<;>cases l.1<;>rfl
 ·cases Zh c.2.2.2.1.1<;>cases l.1<;>rfl
 ·cases hA:le3 (Zax (Zf c.1 l) c.2.2.2.1 d).2.2.2<;>cases hB:(Zj (Zf c.1 l) c.2.1 (c.2.2.1++[(Zax (Zf c.1 l) c.2.2.2.1 d).2.2.1])).2<;>simp only[Zax] at hA hB<;>simp only[hA,hB,Ya,Yb,Yf,Ym,YV,Yas,YX]<;>with_reducible rfl
 ·cases decide (4<c.2.2.2.1.2.2.2)<;>cases (Zj (Zf c.1 l) c.2.1 c.2.2.1).2<;>rfl
 ·cases decide (5<c.2.2.2.1.2.2.2)<;>cases (Zj (Zf c.1 l) c.2.1 c.2.2.1).2<;>rfl
 ·cases (Zj (Zf c.1 l) c.2.1 c.2.2.1).2<;>rfl
 ·have hb:(Zbr (Zf c.1 l) l !=0)= !(Zbr (Zf c.1 l) l==0):=rfl;rw[hb];cases hk:(Zbr (Zf c.1 l) l==0)<;>rfl
theorem Zxv (c:ZhX) (l:LnT) (d:Int) (hg:c.2.2.1.length+1<=most):(Zkz c l d).val=some (Zk c l d,ZbB c l d):=by
 obtain⟨t1,t2⟩:=Zwb c.2.2.2.2.1;cases hr:l.2.2.1 with
 |true=>
  have hb:Zfo (Z1 c.1) 0=(Z1 c.1,0,[],(Zj (Z1 c.1) 0 []).1,1,false):=rfl;simp only[Zkz,RT.val,hr,Ya,Zk,ZbB,ZT4,hb];rw[<-Zws,ZLC c.1.1 10 (by decide) (by decide) c.2.2.2.1 d 0 _ _ _ (λh=>absurd rfl h),ZX0 c.1.1 _ (Zqh c (ZX c.2.2.2.2.1)) 0]
 |false=>
  have h:=ZBZ c l d hg hr;have h1:ZNr c l d=true:=by simp only[ZNr,h,okB]
  have h2:(pAdv c l d).1=Zk c l d:=by simp only[pAdv,h,getO]
  simp only[Zkz,RT.val,hr,Yb,h1,Ya,h2,ZbB,Zxm];rw[ZLC c.1.1 (ZX c.2.2.2.2.1) t1 (by omega) c.2.2.2.1 d d _ _ _ (λ_=>rfl)];simp only[Zqh]
def Zm2 (c:ZhX):Bool:=Nat.ble (c.2.2.1.length+1) most
theorem ZgM {c:ZhX}:Zm2 c=true↔c.2.2.1.length+1<=most:=by simp[Zm2]
def clkX (c:ZhX) (l:LnT) (d:Int):ZhX×PinT:=(Zk c l d,ZbB c l d)
def ZuE:En:=Zi ZNp Zl8 (λa=>some (Zm2 a.1)) (λa=>clkX a.1 a.2.1 a.2.2)
theorem ZH4:Zb Tryz.prog 138 ZuE:=ZNh.pure_congr
 (λa h hp=>by have h1:=Zxv a.1 a.2.1 a.2.2 (ZgM.1 (by simpa using hp));simp[ZNi,h1,okB])
 (λa h hp=>by have h1:=Zxv a.1 a.2.1 a.2.2 (ZgM.1 (by simpa using hp));simp only[ZTA,h1,getO,clkX])
def ZNs:En:=Zi ZNp ZFk (λa=>some (Zm2 a.1&& !a.2.1.2.2.1)) (λa=>(Zk a.1 a.2.1 a.2.2,ZaD a.1 a.2.1 a.2.2))
theorem ZRC:Zb Tryz.prog 130 ZNs:=ZNo.pure_congr
 (λa h hp=>by
  have hp:(Zm2 a.1&& !a.2.1.2.2.1)=true:=by simpa using hp
  simp only[Yc,YC] at hp
  have h1:=ZBZ a.1 a.2.1 a.2.2 (ZgM.1 hp.1) hp.2;simp[ZNr,h1,okB])
 (λa h hp=>by
  have hp:(Zm2 a.1&& !a.2.1.2.2.1)=true:=by simpa using hp
  simp only[Yc,YC] at hp
  have h1:=ZBZ a.1 a.2.1 a.2.2 (ZgM.1 hp.1) hp.2;simp only[pAdv,h1,getO])
def newX (chip:Int):ZhX:=ZpW (Z1 (chip,(0,0,0,0,0,0,0,(false,false,false,false,false,false,false),0,0),false,false,false,0,false,false,false,false,false,false,false)) 0
theorem ZVc (chip:Int):pNew chip=newX chip:=by
 have hb:∀c,Zfo c 0=ZpW c 0:=λ_=>rfl
 unfold newX;simp only[pNew,ZVJ,RT.val,hb];rw[ZT4];simp only[Z1,Znc,RT.val,ZbC]
def ZMv:En:=Zi ZxE ZEL (λ_=>none) (λa=>newX a)
theorem ZRl:Zb Tryz.prog 97 ZMv:=ZVI.tot (λa h=>by simp) (λa h=>ZVc _)
abbrev ZFB:List Sh:=[So Kc,So Kc]
def Zpd (x:Int) (n:Int):RT (Option (Int)):=
 .br (IntKind.u64.wrap n !=0) (Ls (i64.wrap (Int.tmod (IntKind.u64.wrap x) (IntKind.u64.wrap n)))) Ln
def Zg5 (x:Int) (n:Int):Int:=getO ZTs.Df (Zpd x n).val
def ZkM (x:Int) (n:Int):Bool:=okB (Zpd x n).val
def Zpe:En:=Zi ZFB ZTs (λa=>some (ZkM a.1 a.2)) (λa=>Zg5 a.1 a.2)
theorem ZjG:Zb prog 47 Zpe:=
 pureP 31 [] [] _ _ trivial Tryz.func47 Tryz.call47 trivial
abbrev ZCf:R:=R.Pq (R.sl Kc) Kc
def ZoX (s:List Int×Int) (n:Int):RT (Option (QT26)):=
 let x1:=Zg (i64.wrap (i64.wrap (s.2+1)-1)) (Le s.1)
 let x2:Int:=R.get Kc s.1 (i64.wrap (i64.wrap (s.2+1)-1))
 .br (decide (s.2>=iN (Le s.1))) (Ls ((0,s.1,i64.wrap (s.2+1)))) (.br (!x1||ZkM x2 n) (.br (x1) (Ls ((Zg5 x2 n,s.1,i64.wrap (s.2+1)))) Ln) Ln)
def Za (s:List Int×Int) (n:Int):QT26:=getO (ZTs.Df,ZCf.Df) (ZoX s n).val
def Zo (s:List Int×Int) (n:Int):Bool:=okB (ZoX s n).val
def ZcQ:En:=boxE ZCf ZxE ZTs (λa=>some (Zo a.1 a.2)) (λa=>Za a.1 a.2)
theorem Zbf:Zb prog 68 ZcQ:=
 ZcF (P:=prog) (n:=31) (k:=8) (l:=[(47,Zpe)]) (ol:=[]) ⟨ZjG,Tv⟩ Tryz.func68 rfl (by kernel_rfl) Tryz.call68 trivial (rb:=ZCf) (ts:=ZxE) (rs:=ZTs) (t:=λa=>ZoX a.1 a.2) (λa=>by kernel_rfl)
def Zo4 (s:List Int×Int):RT (Option (QT26)):=
 let x1:List Int:=[0,1,127,128,255,15,16,153,154,9,102,254,129,85,170,64]
 .br (Zo s 512) (.br (!decide ((Za s 512).1>=256)||Zg (Int.tmod (Za s 512).1 16) (Le x1)) (.br (decide ((Za s 512).1>=256)) (Ls ((R.get Ka x1 (Int.tmod (Za s 512).1 16),(Za s 512).2))) (Ls ((u8.wrap (Za s 512).1,(Za s 512).2)))) Ln) Ln
def Zc2 (s:List Int×Int):QT26:=getO (ZNl.Df,ZCf.Df) (Zo4 s).val
def Zg3 (s:List Int×Int):Bool:=okB (Zo4 s).val
def Zyh:En:=boxE ZCf Zxj ZNl (λa=>some (Zg3 a.1)) (λa=>Zc2 a.1)
theorem Zmc:Zb prog 71 Zyh:=
 ZcF (P:=prog) (n:=15) (k:=8) (l:=[(68,ZcQ)]) (ol:=[]) ⟨Zbf,Tv⟩ Tryz.func71 rfl (by kernel_rfl) Tryz.call71 trivial (rb:=ZCf) (ts:=Zxj) (rs:=ZNl) (t:=λa=>Zo4 a.1) (λa=>by kernel_rfl)
def Zjz (s:List Int×Int):RT (Option (QT26)):=
 let x1:List Int:=[0,1,65535,65534,32767,32768,255,256]
 let x2:= !(Za s 5).1==0||(!Zo (Za s 5).2 8||Zg (Za (Za s 5).2 8).1 (Le x1))
 let x3:= !x2
 let x4:= !(Za s 5).1==0||Zo (Za s 5).2 8
 .br (Zo s 5) (.br (x3||(!x4||((Za s 5).1==0||(!(Za s 5).1==1||Zo (Za s 5).2 65536)))) (.br (x3||x4) (.br (x2) (.br ((Za s 5).1==0) (Ls ((R.get Kb x1 (Za (Za s 5).2 8).1,(Za (Za s 5).2 8).2))) (.br ((Za s 5).1==1) (Ls ((u16.wrap (Za (Za s 5).2 65536).1,(Za (Za s 5).2 65536).2))) (.br (Zo (Za s 5).2 64) (Ls ((u16.wrap (Za (Za s 5).2 64).1,(Za (Za s 5).2 64).2))) Ln))) Ln) Ln) Ln) Ln
def ZaQ (s:List Int×Int):QT26:=getO (ZBF.Df,ZCf.Df) (Zjz s).val
def Zgk (s:List Int×Int):Bool:=okB (Zjz s).val
def ZNG:En:=boxE ZCf Zxj ZBF (λa=>some (Zgk a.1)) (λa=>ZaQ a.1)
theorem ZFo:Zb prog 70 ZNG:=
 ZcF (P:=prog) (n:=4135) (k:=8) (l:=[(68,ZcQ)]) (ol:=[]) ⟨Zbf,Tv⟩ Tryz.func70 rfl (by kernel_rfl) Tryz.call70 trivial (rb:=ZCf) (ts:=Zxj) (rs:=ZBF) (t:=λa=>Zjz a.1) (λa=>by kernel_rfl)
def Zyg (s:List Int×Int):RT (Option (QT26)):=
 .br (Zo s 2) (Ls ((i64.wrap (1+(Za s 2).1),(Za s 2).2))) Ln
def ZaZ (s:List Int×Int):QT26:=getO (ZTs.Df,ZCf.Df) (Zyg s).val
def Zo3 (s:List Int×Int):Bool:=okB (Zyg s).val
def ZNO:En:=boxE ZCf Zxj ZTs (λa=>some (Zo3 a.1)) (λa=>ZaZ a.1)
theorem ZFu:Zb prog 122 ZNO:=
 ZcF (P:=prog) (n:=7) (k:=8) (l:=[(68,ZcQ)]) (ol:=[]) ⟨Zbf,Tv⟩ Tryz.func122 rfl (by kernel_rfl) Tryz.call122 trivial (rb:=ZCf) (ts:=Zxj) (rs:=ZTs) (t:=λa=>Zyg a.1) (λa=>by kernel_rfl)
def ZfW (s:List Int×Int):RT (Option (QT26)):=
 let x1:List Int:=[251,243,118,205,201,197,227,211,219,54,52,32,48,194,202,255,62,49]
 .br (Zo s 3) (.br (!decide ((Za s 3).1>0)||Zo (Za s 3).2 256) (.br (decide ((Za s 3).1>0)) (Ls ((u8.wrap (Za (Za s 3).2 256).1,(Za (Za s 3).2 256).2))) (.br (!Zo (Za s 3).2 18||Zg (Za (Za s 3).2 18).1 (Le x1)) (.br (Zo (Za s 3).2 18) (Ls ((R.get Ka x1 (Za (Za s 3).2 18).1,(Za (Za s 3).2 18).2))) Ln) Ln)) Ln) Ln
def Zam (s:List Int×Int):QT26:=getO (ZNl.Df,ZCf.Df) (ZfW s).val
def Zcm (s:List Int×Int):Bool:=okB (ZfW s).val
def ZhF:En:=boxE ZCf Zxj ZNl (λa=>some (Zcm a.1)) (λa=>Zam a.1)
theorem Zfq:Zb prog 119 ZhF:=
 ZcF (P:=prog) (n:=7) (k:=8) (l:=[(68,ZcQ)]) (ol:=[]) ⟨Zbf,Tv⟩ Tryz.func119 rfl (by kernel_rfl) Tryz.call119 trivial (rb:=ZCf) (ts:=Zxj) (rs:=ZNl) (t:=λa=>ZfW a.1) (λa=>by kernel_rfl)
def NB (s:List Int×Int) (k:Int):Prop:=0<=s.2/\s.2<=k
theorem Zpc (x n:Int) (h0:0<n) (h1:n<=4611686018427387904):ZkM x n=true/\Zg5 x n=(x%18446744073709551616)%n:=by
 have e:IntKind.wrap .u64 n=n:=ZrN ⟨by simp[IntKind.min,IntKind.signed];omega,by simp[IntKind.max,IntKind.signed,IntKind.bits];omega⟩;have e2:IntKind.wrap .u64 x=x%18446744073709551616:=by simp[IntKind.wrap,IntKind.signed,IntKind.bits]
 have hn:(n !=0)=true:=by simp;omega
 have h2:0<=x%18446744073709551616:=Ya1 _ (by decide);have h3:=Ya1 (x%18446744073709551616) (b:=n) (by omega);have h4:=Int.emod_lt_of_pos (x%18446744073709551616) (b:=n) h0;have hv:(Zpd x n).val=some ((x%18446744073709551616)%n):=by simp only[Zpd,RT.val,e,e2,hn,Ya,Int.tmod_eq_emod_of_nonneg h2];rw[wrap_i64 _ (by omega) (by omega)]
 exact⟨by simp only[ZkM,hv];rfl,by simp only[Zg5,hv,getO]⟩
variable {s:List Int×Int} {k:Int}
theorem Zt (h:NB s k) (hk:k<=1000000) (n:Int) (h0:0<n) (h1:n<=4611686018427387904):
  Zo s n=true/\NB (Za s n).2 (k+1)/\0<=(Za s n).1/\(Za s n).1<n:=by
 obtain⟨ha,hb⟩:=h;have e1:IntKind.wrap .i64 (s.2+1)=s.2+1:=wrap_i64 _ (by omega) (by omega);have e2:IntKind.wrap .i64 s.2=s.2:=wrap_i64 _ (by omega) (by omega);by_cases hl:(s.1.length:Int)<=s.2
 ·have hv:(ZoX s n).val=some (0,s.1,s.2+1):=by simp[ZoX,RT.val,iN,Le,hl,e1]
  simp only[Zo,Za,hv,okB,getO,NB];exact⟨trivial,⟨by omega,by omega⟩,by omega,h0⟩
 ·have hr:Zg s.2 s.1.length=true:=ZS.2 ⟨ha,by omega⟩;obtain⟨p1,p2⟩:=Zpc (R.get (R.int i64) s.1 s.2) n h0 h1;have h3:=Ya1 (R.get (R.int i64) s.1 s.2%18446744073709551616) (b:=n) (by omega);have h4:=Int.emod_lt_of_pos (R.get (R.int i64) s.1 s.2%18446744073709551616) (b:=n) h0;have hv:(ZoX s n).val=some ((R.get (R.int i64) s.1 s.2%18446744073709551616)%n,s.1,s.2+1):=by simp[ZoX,RT.val,iN,Le,hl,e1,e2,hr,p1,p2]
  simp only[Zo,Za,hv,okB,getO,NB];exact⟨trivial,⟨by omega,by omega⟩,h3,h4⟩
theorem Zmd (h:NB s k) (hk:k<=1000000):Zg3 s=true/\NB (Zc2 s).2 (k+1)/\inR .u8 (Zc2 s).1:=by
 obtain⟨c,b,d0,d1⟩:=Zt h hk 512 (by decide) (by decide);have m0:0<=(Za s 512).1%16:=Ya1 _ (by decide);have m1:(Za s 512).1%16<16:=Int.emod_lt_of_pos _ (by decide);have ht:Int.tmod (Za s 512).1 16=(Za s 512).1%16:=Int.tmod_eq_emod_of_nonneg d0;by_cases hn:256<=(Za s 512).1
 ·have hv:(Zo4 s).val=some (R.get (R.int u8) [0,1,127,128,255,15,16,153,154,9,102,254,129,85,170,64] ((Za s 512).1%16),(Za s 512).2):=by simp[Zo4,RT.val,c,hn,ht,Zg,m0,m1]
  simp only[Zg3,Zc2,hv,okB,getO];refine⟨trivial,b,?_⟩;have hall:∀i:Nat,i<16->inR .u8 (([0,1,127,128,255,15,16,153,154,9,102,254,129,85,170,64]:List Int).getD i 0):=by
   intro i hi;have:∀i:Fin 16,decide (0<=([0,1,127,128,255,15,16,153,154,9,102,254,129,85,170,64]:List Int).getD i 0)&&decide (([0,1,127,128,255,15,16,153,154,9,102,254,129,85,170,64]:List Int).getD i 0<=255):=by decide
   have:=this ⟨i,hi⟩;rw[Zhb];simpa using this
  exact hall ((Za s 512).1%16).toNat (by omega)
 ·have hv:(Zo4 s).val=some (IntKind.wrap .u8 (Za s 512).1,(Za s 512).2):=by simp[Zo4,RT.val,c,hn]
  simp only[Zg3,Zc2,hv,okB,getO];exact⟨trivial,b,Zar _ _⟩
theorem ZFp (h:NB s k) (hk:k<=900000):Zgk s=true/\NB (ZaQ s).2 (k+2)/\inR .u16 (ZaQ s).1:=by
 obtain⟨c,b,d0,d1⟩:=Zt h (by omega) 5 (by decide) (by decide);obtain⟨c8,b8,e0,e1⟩:=Zt b (by omega) 8 (by decide) (by decide);obtain⟨c6,b6,_⟩:=Zt b (by omega) 65536 (by decide) (by decide);obtain⟨c4,b4,_⟩:=Zt b (by omega) 64 (by decide) (by decide);have w:∀{t:List Int×Int},NB t (k+1+1)->NB t (k+2):=λh=>⟨h.1,by have:=h.2;omega⟩
 have hr:Zg (Za (Za s 5).2 8).1 8=true:=ZS.2 ⟨e0,by omega⟩;by_cases h0:(Za s 5).1=0
 ·have hv:(Zjz s).val=some (R.get (R.int u16) [0,1,65535,65534,32767,32768,255,256] (Za (Za s 5).2 8).1,(Za (Za s 5).2 8).2):=by simp[Zjz,RT.val,c,h0,c8,hr]
  simp only[Zgk,ZaQ,hv,okB,getO];refine⟨trivial,w b8,?_⟩;have hall:∀i:Nat,i<8->inR .u16 (([0,1,65535,65534,32767,32768,255,256]:List Int).getD i 0):=by
   intro i hi;have:∀i:Fin 8,decide (0<=([0,1,65535,65534,32767,32768,255,256]:List Int).getD i 0)&&decide (([0,1,65535,65534,32767,32768,255,256]:List Int).getD i 0<=65535):=by decide
   have:=this ⟨i,hi⟩;simp only[Yc,Yi] at this;exact⟨by simpa [IntKind.min,IntKind.signed] using this.1,by simpa [IntKind.max,IntKind.signed,IntKind.bits] using this.2⟩
  exact hall (Za (Za s 5).2 8).1.toNat (by omega)
 ·by_cases h1:(Za s 5).1=1
  ·have hv:(Zjz s).val=some (IntKind.wrap .u16 (Za (Za s 5).2 65536).1,(Za (Za s 5).2 65536).2):=by simp[Zjz,RT.val,c,h1,c6]
   simp only[Zgk,ZaQ,hv,okB,getO];exact⟨trivial,w b6,Zar _ _⟩
  ·have hv:(Zjz s).val=some (IntKind.wrap .u16 (Za (Za s 5).2 64).1,(Za (Za s 5).2 64).2):=by
    have g0:((Za s 5).1==0)=false:=by simpa using h0
    have g1:((Za s 5).1==1)=false:=by simpa using h1
    simp[Zjz,RT.val,c,g0,g1,c4]
   simp only[Zgk,ZaQ,hv,okB,getO];exact⟨trivial,w b4,Zar _ _⟩
theorem ZRL (h:NB s k) (hk:k<=1000000):Zo3 s=true/\NB (ZaZ s).2 (k+1)/\((ZaZ s).1=1\/(ZaZ s).1=2):=by
 obtain⟨c,b,d0,d1⟩:=Zt h hk 2 (by decide) (by decide);have hv:(Zyg s).val=some (1+(Za s 2).1,(Za s 2).2):=by simp[Zyg,RT.val,c];rw[wrap_i64 _ (by omega) (by omega)]
 simp only[Zo3,ZaZ,hv,okB,getO];exact⟨trivial,b,by omega⟩
theorem ZkK (h:NB s k) (hk:k<=900000):Zcm s=true/\NB (Zam s).2 (k+2)/\inR .u8 (Zam s).1:=by
 obtain⟨c,b,d0,d1⟩:=Zt h (by omega) 3 (by decide) (by decide);have w:∀{t:List Int×Int},NB t (k+1+1)->NB t (k+2):=λh=>⟨h.1,by have:=h.2;omega⟩
 by_cases hn:0<(Za s 3).1
 ·have hk':k+1<=1000001:=by omega
  obtain⟨c2,b2,_⟩:=Zt b (by omega) 256 (by decide) (by decide);have hv:(ZfW s).val=some (IntKind.wrap .u8 (Za (Za s 3).2 256).1,(Za (Za s 3).2 256).2):=by simp[ZfW,RT.val,c,hn,c2]
  simp only[Zcm,Zam,hv,okB,getO];exact⟨trivial,w b2,Zar _ _⟩
 ·obtain⟨c2,b2,e0,e1⟩:=Zt b (by omega) 18 (by decide) (by decide);have hr:Zg (Za (Za s 3).2 18).1 18=true:=ZS.2 ⟨e0,by omega⟩;have hv:(ZfW s).val=some (R.get (R.int u8) [251,243,118,205,201,197,227,211,219,54,52,32,48,194,202,255,62,49] (Za (Za s 3).2 18).1,(Za (Za s 3).2 18).2):=by simp[ZfW,RT.val,c,hn,c2,hr]
  simp only[Zcm,Zam,hv,okB,getO];refine⟨trivial,w b2,?_⟩;have hall:∀i:Nat,i<18->inR .u8 (([251,243,118,205,201,197,227,211,219,54,52,32,48,194,202,255,62,49]:List Int).getD i 0):=by
   intro i hi;have:∀i:Fin 18,decide (0<=([251,243,118,205,201,197,227,211,219,54,52,32,48,194,202,255,62,49]:List Int).getD i 0)&&decide (([251,243,118,205,201,197,227,211,219,54,52,32,48,194,202,255,62,49]:List Int).getD i 0<=255):=by decide
   have:=this ⟨i,hi⟩;rw[Zhb];simpa using this
  exact hall (Za (Za s 3).2 18).1.toNat (by omega)
theorem Zpy (l:List Int):NB (l,0) 0:=⟨by simp,by simp⟩
