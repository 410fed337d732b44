import Derived.Test.YtpnjbfjomebppaaGreatFinRX
import Derived.Test.YtpnjbfjomebppaaGreatFin1
import Derived.Test.YtpnjbfjomebppaaGreatFin2
import Derived.Test.YtpnjbfjomebppaaGreatFin3
import Derived.Test.YtpnjbfjomebppaaGreatFin4
open Go Go.S3 Go.Proofs
set_option linter.unusedVariables false
set_option linter.unusedSimpArgs false
set_option maxRecDepth 100000
namespace Go.Proofs.YtpnjbfjomebppaaGreat
noncomputable section
theorem fr_1 (c) (s:Int) (g:List Int) (l) (hb:∀j:Nat,inR .u8 (g[j]?.getD 0)) (n:Int) (hk:(Zb c.1 (g.getD 0 0)).1=n):(n=1->(ZEV c s g l).val=some (finX c s g l))/\(n=6->(ZEQ c s g l).val=some (finX c s g l))/\(n=10->(Zwb c s g l).val=some (finX c s g l))/\(n=17->(Zv4 c s g l).val=some (finX c s g l))/\(n=21->(Zv0 c s g l).val=some (finX c s g l))/\(n=28->(ZvT c s g l).val=some (finX c s g l))/\(n=33->(ZvO c s g l).val=some (finX c s g l))/\(n=37->(ZvK c s g l).val=some (finX c s g l))/\(n=43->(ZvE c s g l).val=some (finX c s g l)):=by
 refine⟨?_,?_,?_,?_,?_,?_,?_,?_,?_⟩;all_goals intro e;subst e
 all_goals simp only[ZEV,ZEQ,Zwb,Zv4,Zv0,ZvT,ZvO,ZvK,ZvE,RT.val,rgx]
 all_goals simp only[qat0,mat0,qat1,mat1,rg0,hk,Zs,ZX,Zaf,ZF,ZG,Zv,Zw,ZaW,ZaY,Zc2,Zc1,Zr,ZaG,finX,spOf]
 all_goals generalize Zc s=bi
 all_goals cases bi with
 |true=>simp[wPC,wSP]
 |false=>
  generalize (s==5)=bs;simp only[finI,hk,finR,wPC,wSP,wA,wF,fCY,fVCY,ZdA,flOf,ZI,pcOf,Zbj];generalize Zb c.1 (g.getD 0 0)=i at hk|-;simp (config:={implicitDefEqProofs:=false}) [Zcr,ZbL,Zb6,hk,Zg5,Zg7,Zg6,Zl4,Zl5,Zfl,Zfk,Zl9,hb]
theorem fr_2 (c) (s:Int) (g:List Int) (l) (hb:∀j:Nat,inR .u8 (g[j]?.getD 0)) (n:Int) (hk:(Zb c.1 (g.getD 0 0)).1=n):(n=3->(ZET c s g l).val=some (finX c s g l))/\(n=7->(ZEP c s g l).val=some (finX c s g l))/\(n=11->(Zwa c s g l).val=some (finX c s g l))/\(n=18->(Zv3 c s g l).val=some (finX c s g l))/\(n=22->(ZvZ c s g l).val=some (finX c s g l))/\(n=29->(ZvS c s g l).val=some (finX c s g l))/\(n=34->(ZvN c s g l).val=some (finX c s g l))/\(n=40->(ZvH c s g l).val=some (finX c s g l))/\(n=44->(ZvD c s g l).val=some (finX c s g l)):=by
 refine⟨?_,?_,?_,?_,?_,?_,?_,?_,?_⟩;all_goals intro e;subst e
 all_goals simp only[ZET,ZEP,Zwa,Zv3,ZvZ,ZvS,ZvN,ZvH,ZvD,RT.val,rgx]
 all_goals simp only[qat0,mat0,qat1,mat1,rg0,hk,Zs,ZX,Zaf,ZF,ZG,Zv,Zw,ZaW,ZaY,Zc2,Zc1,Zr,ZaG,finX,spOf]
 all_goals generalize Zc s=bi
 all_goals cases bi with
 |true=>simp[wPC,wSP]
 |false=>
  generalize (s==5)=bs;simp only[finI,hk,finR,wPC,wSP,wA,wF,fCY,fVCY,ZdA,flOf,ZI,pcOf,Zbj];generalize Zb c.1 (g.getD 0 0)=i at hk|-;simp (config:={implicitDefEqProofs:=false}) [Zcr,ZbL,Zb6,hk,Zg5,Zg7,Zg6,Zl4,Zl5,Zfl,Zfk,Zl9,hb]
theorem fr_3 (c) (s:Int) (g:List Int) (l) (hb:∀j:Nat,inR .u8 (g[j]?.getD 0)) (n:Int) (hk:(Zb c.1 (g.getD 0 0)).1=n):(n=4->(ZES c s g l).val=some (finX c s g l))/\(n=8->(ZEO c s g l).val=some (finX c s g l))/\(n=13->(Zv8 c s g l).val=some (finX c s g l))/\(n=19->(Zv2 c s g l).val=some (finX c s g l))/\(n=23->(ZvY c s g l).val=some (finX c s g l))/\(n=30->(ZvR c s g l).val=some (finX c s g l))/\(n=35->(ZvM c s g l).val=some (finX c s g l))/\(n=41->(ZvG c s g l).val=some (finX c s g l))/\(n=46->(ZvB c s g l).val=some (finX c s g l)):=by
 refine⟨?_,?_,?_,?_,?_,?_,?_,?_,?_⟩;all_goals intro e;subst e
 all_goals simp only[ZES,ZEO,Zv8,Zv2,ZvY,ZvR,ZvM,ZvG,ZvB,RT.val,rgx]
 all_goals simp only[qat0,mat0,qat1,mat1,rg0,hk,Zs,ZX,Zaf,ZF,ZG,Zv,Zw,ZaW,ZaY,Zc2,Zc1,Zr,ZaG,finX,spOf]
 all_goals generalize Zc s=bi
 all_goals cases bi with
 |true=>simp[wPC,wSP]
 |false=>
  generalize (s==5)=bs;simp only[finI,hk,finR,wPC,wSP,wA,wF,fCY,fVCY,ZdA,flOf,ZI,pcOf,Zbj];generalize Zb c.1 (g.getD 0 0)=i at hk|-;simp (config:={implicitDefEqProofs:=false}) [Zcr,ZbL,Zb6,hk,Zg5,Zg7,Zg6,Zl4,Zl5,Zfl,Zfk,Zl9,hb]
theorem fr_4 (c) (s:Int) (g:List Int) (l) (hb:∀j:Nat,inR .u8 (g[j]?.getD 0)) (n:Int) (hk:(Zb c.1 (g.getD 0 0)).1=n):(n=5->(ZER c s g l).val=some (finX c s g l))/\(n=9->(ZEN c s g l).val=some (finX c s g l))/\(n=16->(Zv5 c s g l).val=some (finX c s g l))/\(n=20->(Zv1 c s g l).val=some (finX c s g l))/\(n=27->(ZvU c s g l).val=some (finX c s g l))/\(n=32->(ZvP c s g l).val=some (finX c s g l))/\(n=36->(ZvL c s g l).val=some (finX c s g l))/\(n=42->(ZvF c s g l).val=some (finX c s g l))/\(n=47->(ZvA c s g l).val=some (finX c s g l)):=by
 refine⟨?_,?_,?_,?_,?_,?_,?_,?_,?_⟩;all_goals intro e;subst e
 all_goals simp only[ZER,ZEN,Zv5,Zv1,ZvU,ZvP,ZvL,ZvF,ZvA,RT.val,rgx]
 all_goals simp only[qat0,mat0,qat1,mat1,rg0,hk,Zs,ZX,Zaf,ZF,ZG,Zv,Zw,ZaW,ZaY,Zc2,Zc1,Zr,ZaG,finX,spOf]
 all_goals generalize Zc s=bi
 all_goals cases bi with
 |true=>simp[wPC,wSP]
 |false=>
  generalize (s==5)=bs;simp only[finI,hk,finR,wPC,wSP,wA,wF,fCY,fVCY,ZdA,flOf,ZI,pcOf,Zbj];generalize Zb c.1 (g.getD 0 0)=i at hk|-;simp (config:={implicitDefEqProofs:=false}) [Zcr,ZbL,Zb6,hk,Zg5,Zg7,Zg6,Zl4,Zl5,Zfl,Zfk,Zl9,hb]
theorem fr_5 (c) (s:Int) (g:List Int) (l) (hb:∀j:Nat,inR .u8 (g[j]?.getD 0)) (n:Int) (hk:(Zb c.1 (g.getD 0 0)).1=n):(n=2->(ZEU c s g l).val=some (finX c s g l))/\(n=12->(Zv9 c s g l).val=some (finX c s g l)):=by
 refine⟨?_,?_⟩;all_goals intro e;subst e
 all_goals simp only[ZEU,Zv9,RT.val,rgx]
 all_goals simp only[qat0,mat0,qat1,mat1,rg0,hk,Zs,ZX,Zaf,ZF,ZG,Zv,Zw,ZaW,ZaY,Zc2,Zc1,Zr,ZaG,finX,spOf]
 all_goals generalize Zc s=bi
 all_goals cases bi with
 |true=>simp[wPC,wSP]
 |false=>
  generalize (s==5)=bs;simp only[finI,hk,finR,wPC,wSP,wA,wF,fCY,fVCY,ZdA,flOf,ZI,pcOf,Zbj];generalize Zb c.1 (g.getD 0 0)=i at hk|-;generalize (i.2.2.2.1==6)=b0;cases b0<;>simp (config:={implicitDefEqProofs:=false}) [Zcr,ZbL,Zb6,hk,Zg5,Zg7,Zg6,Zl4,Zl5,Zfl,Zfk,Zl9,hb]
theorem fr_6 (c) (s:Int) (g:List Int) (l) (hb:∀j:Nat,inR .u8 (g[j]?.getD 0)) (n:Int) (hk:(Zb c.1 (g.getD 0 0)).1=n):(n=14->(Zv7 c s g l).val=some (finX c s g l))/\(n=15->(Zv6 c s g l).val=some (finX c s g l)):=by
 refine⟨?_,?_⟩;all_goals intro e;subst e
 all_goals simp only[Zv7,Zv6,RT.val,rgx]
 all_goals simp only[qat0,mat0,qat1,mat1,rg0,hk,Zs,ZX,Zaf,ZF,ZG,Zv,Zw,ZaW,ZaY,Zc2,Zc1,Zr,ZaG,finX,spOf]
 all_goals generalize Zc s=bi
 all_goals cases bi with
 |true=>simp[wPC,wSP]
 |false=>
  generalize (s==5)=bs;simp only[finI,hk,finR,wPC,wSP,wA,wF,fCY,fVCY,ZdA,flOf,ZI,pcOf,Zbj];generalize Zb c.1 (g.getD 0 0)=i at hk|-;generalize (i.2.2.1==6)=b0;cases b0<;>simp (config:={implicitDefEqProofs:=false}) [Zcr,ZbL,Zb6,hk,Zg5,Zg7,Zg6,Zl4,Zl5,Zfl,Zfk,Zl9,hb]
theorem fr_7 (c) (s:Int) (g:List Int) (l) (hb:∀j:Nat,inR .u8 (g[j]?.getD 0)) (n:Int) (hk:(Zb c.1 (g.getD 0 0)).1=n):(n=24->(ZvX c s g l).val=some (finX c s g l))/\(n=25->(ZvW c s g l).val=some (finX c s g l))/\(n=26->(ZvV c s g l).val=some (finX c s g l))/\(n=45->(ZvC c s g l).val=some (finX c s g l)):=by
 refine⟨?_,?_,?_,?_⟩;all_goals intro e;subst e
 all_goals simp only[ZvX,ZvW,ZvV,ZvC,RT.val,rgx]
 all_goals simp only[qat0,mat0,qat1,mat1,rg0,hk,Zs,ZX,Zaf,ZF,ZG,Zv,Zw,ZaW,ZaY,Zc2,Zc1,Zr,ZaG,finX,spOf]
 all_goals generalize Zc s=bi
 all_goals cases bi with
 |true=>simp[wPC,wSP]
 |false=>
  generalize (s==5)=bs;simp only[finI,hk,finR,wPC,wSP,wA,wF,fCY,fVCY,ZdA,flOf,ZI,pcOf,Zbj];generalize Zb c.1 (g.getD 0 0)=i at hk|-;generalize Zfp _ _=b0;cases b0<;>simp (config:={implicitDefEqProofs:=false}) [Zcr,ZbL,Zb6,hk,Zg5,Zg7,Zg6,Zl4,Zl5,Zfl,Zfk,Zl9,hb]
theorem fr_8 (c) (s:Int) (g:List Int) (l) (hb:∀j:Nat,inR .u8 (g[j]?.getD 0)) (n:Int) (hk:(Zb c.1 (g.getD 0 0)).1=n):(n=31->(ZvQ c s g l).val=some (finX c s g l)):=by
 skip
 all_goals intro e;subst e
 all_goals simp only[ZvQ,RT.val,rgx]
 all_goals simp only[qat0,mat0,qat1,mat1,rg0,hk,Zs,ZX,Zaf,ZF,ZG,Zv,Zw,ZaW,ZaY,Zc2,Zc1,Zr,ZaG,finX,spOf]
 all_goals generalize Zc s=bi
 all_goals cases bi with
 |true=>simp[wPC,wSP]
 |false=>
  generalize (s==5)=bs;simp only[finI,hk,finR,wPC,wSP,wA,wF,fCY,fVCY,ZdA,flOf,ZI,pcOf,Zbj];generalize Zb c.1 (g.getD 0 0)=i at hk|-;generalize (i.2.2.2.2.1==3)=b0;cases b0<;>simp (config:={implicitDefEqProofs:=false}) [Zcr,ZbL,Zb6,hk,Zg5,Zg7,Zg6,Zl4,Zl5,Zfl,Zfk,Zl9,hb,Zhd,ZmR,RT.val]
theorem fr_9 (c) (s:Int) (g:List Int) (l) (hb:∀j:Nat,inR .u8 (g[j]?.getD 0)) (n:Int) (hk:(Zb c.1 (g.getD 0 0)).1=n):(n=38->(ZvJ c s g l).val=some (finX c s g l)):=by
 skip
 all_goals intro e;subst e
 all_goals simp only[ZvJ,RT.val,rgx]
 all_goals simp only[qat0,mat0,qat1,mat1,rg0,hk,Zs,ZX,Zaf,ZF,ZG,Zv,Zw,ZaW,ZaY,Zc2,Zc1,Zr,ZaG,finX,spOf]
 all_goals generalize Zc s=bi
 all_goals cases bi with
 |true=>simp[wPC,wSP]
 |false=>
  generalize (s==5)=bs;simp only[finI,hk,finR,wPC,wSP,wA,wF,fCY,fVCY,ZdA,flOf,ZI,pcOf,Zbj];generalize Zb c.1 (g.getD 0 0)=i at hk|-;simp[Zcr,ZbL,Zb6,hk,Z1B];rfl
theorem fr_10 (c) (s:Int) (g:List Int) (l) (hb:∀j:Nat,inR .u8 (g[j]?.getD 0)) (n:Int) (hk:(Zb c.1 (g.getD 0 0)).1=n):(n=39->(ZvI c s g l).val=some (finX c s g l)):=by
 skip
 all_goals intro e;subst e
 all_goals simp only[ZvI,RT.val,rgx]
 all_goals simp only[qat0,mat0,qat1,mat1,rg0,hk,Zs,ZX,Zaf,ZF,ZG,Zv,Zw,ZaW,ZaY,Zc2,Zc1,Zr,ZaG,finX,spOf]
 all_goals generalize Zc s=bi
 all_goals cases bi with
 |true=>simp[wPC,wSP]
 |false=>
  generalize (s==5)=bs;simp only[finI,hk,finR,wPC,wSP,wA,wF,fCY,fVCY,ZdA,flOf,ZI,pcOf,Zbj];generalize Zb c.1 (g.getD 0 0)=i at hk|-;simp[Zcr,ZbL,Zb6,hk,rSim,ZRJ,RT.val]
theorem Z4b (a:HL ZU) (h:okHL ZU a):∃l,Zdp Tryz.prog l/\(ZfF (envX Tryz.prog l [] 79250227772808467515411824639 8) Tryz.f164 ZU ZTZ a).val=some (finX a.1 a.2.1 a.2.2.1 a.2.2.2):=by
 have hk:=Zyp a.1.1 _ (Zyv h.2.2.1);have hb:∀j:Nat,inR .u8 (a.2.2.1[j]?.getD 0):=λj=>by
  cases hj:a.2.2.1[j]? with
  |none=>rw[Zfv];simp
  |some x=>exact h.2.2.1.2 x (List.mem_of_getElem? hj)
 refine⟨Z4c (Zb a.1.1 (a.2.2.1.getD 0 0)).1,ZY4 _,?_⟩;show (EV2 _ a).val=_;have f1:=fr_1 a.1 a.2.1 a.2.2.1 a.2.2.2 hb;have f5:=fr_5 a.1 a.2.1 a.2.2.1 a.2.2.2 hb;have f2:=fr_2 a.1 a.2.1 a.2.2.1 a.2.2.2 hb;have f3:=fr_3 a.1 a.2.1 a.2.2.1 a.2.2.2 hb;have f4:=fr_4 a.1 a.2.1 a.2.2.1 a.2.2.2 hb;have f6:=fr_6 a.1 a.2.1 a.2.2.1 a.2.2.2 hb;have f7:=fr_7 a.1 a.2.1 a.2.2.1 a.2.2.2 hb;have f8:=fr_8 a.1 a.2.1 a.2.2.1 a.2.2.2 hb;have f9:=fr_9 a.1 a.2.1 a.2.2.1 a.2.2.2 hb;have f10:=fr_10 a.1 a.2.1 a.2.2.1 a.2.2.2 hb;rcases Zyo hk.1 hk.2 with e|e|e|e|e|e|e|e|e|e|e|e|e|e|e|e|e|e|e|e|e|e|e|e|e|e|e|e|e|e|e|e|e|e|e|e|e|e|e|e|e|e|e|e|e|e|e
 ·rw[e,ZSO a,((f1 _ e).1 rfl)]
 ·rw[e,ZSN a,((f5 _ e).1 rfl)]
 ·rw[e,ZSM a,((f2 _ e).1 rfl)]
 ·rw[e,ZSL a,((f3 _ e).1 rfl)]
 ·rw[e,ZSK a,((f4 _ e).1 rfl)]
 ·rw[e,ZSJ a,((f1 _ e).2.1 rfl)]
 ·rw[e,ZSI a,((f2 _ e).2.1 rfl)]
 ·rw[e,ZSH a,((f3 _ e).2.1 rfl)]
 ·rw[e,ZSG a,((f4 _ e).2.1 rfl)]
 ·rw[e,ZNq a,((f1 _ e).2.2.1 rfl)]
 ·rw[e,ZNp a,((f2 _ e).2.2.1 rfl)]
 ·rw[e,ZNo a,((f5 _ e).2 rfl)]
 ·rw[e,ZNn a,((f3 _ e).2.2.1 rfl)]
 ·rw[e,ZNm a,((f6 _ e).1 rfl)]
 ·rw[e,ZNl a,((f6 _ e).2 rfl)]
 ·rw[e,ZNk a,((f4 _ e).2.2.1 rfl)]
 ·rw[e,ZNj a,((f1 _ e).2.2.2.1 rfl)]
 ·rw[e,ZNi a,((f2 _ e).2.2.2.1 rfl)]
 ·rw[e,ZNh a,((f3 _ e).2.2.2.1 rfl)]
 ·rw[e,ZNg a,((f4 _ e).2.2.2.1 rfl)]
 ·rw[e,ZNf a,((f1 _ e).2.2.2.2.1 rfl)]
 ·rw[e,ZNe a,((f2 _ e).2.2.2.2.1 rfl)]
 ·rw[e,ZNd a,((f3 _ e).2.2.2.2.1 rfl)]
 ·rw[e,ZNc a,((f7 _ e).1 rfl)]
 ·rw[e,ZNb a,((f7 _ e).2.1 rfl)]
 ·rw[e,ZNa a,((f7 _ e).2.2.1 rfl)]
 ·rw[e,ZM9 a,((f4 _ e).2.2.2.2.1 rfl)]
 ·rw[e,ZM8 a,((f1 _ e).2.2.2.2.2.1 rfl)]
 ·rw[e,ZM7 a,((f2 _ e).2.2.2.2.2.1 rfl)]
 ·rw[e,ZM6 a,((f3 _ e).2.2.2.2.2.1 rfl)]
 ·rw[e,ZM5 a,((f8 _ e) rfl)]
 ·rw[e,ZM4 a,((f4 _ e).2.2.2.2.2.1 rfl)]
 ·rw[e,ZM3 a,((f1 _ e).2.2.2.2.2.2.1 rfl)]
 ·rw[e,ZM2 a,((f2 _ e).2.2.2.2.2.2.1 rfl)]
 ·rw[e,ZM1 a,((f3 _ e).2.2.2.2.2.2.1 rfl)]
 ·rw[e,ZM0 a,((f4 _ e).2.2.2.2.2.2.1 rfl)]
 ·rw[e,ZMZ a,((f1 _ e).2.2.2.2.2.2.2.1 rfl)]
 ·rw[e,ZMY a,((f9 _ e) rfl)]
 ·rw[e,ZMX a,((f10 _ e) rfl)]
 ·rw[e,ZMW a,((f2 _ e).2.2.2.2.2.2.2.1 rfl)]
 ·rw[e,ZMV a,((f3 _ e).2.2.2.2.2.2.2.1 rfl)]
 ·rw[e,ZMU a,((f4 _ e).2.2.2.2.2.2.2.1 rfl)]
 ·rw[e,ZMT a,((f1 _ e).2.2.2.2.2.2.2.2 rfl)]
 ·rw[e,ZMS a,((f2 _ e).2.2.2.2.2.2.2.2 rfl)]
 ·rw[e,ZMR a,((f7 _ e).2.2.2 rfl)]
 ·rw[e,ZMQ a,((f3 _ e).2.2.2.2.2.2.2.2 rfl)]
 ·rw[e,ZMP a,((f4 _ e).2.2.2.2.2.2.2.2 rfl)]
def Z4d:En:=Zf ZU ZTZ (λ_=>none) (λa=>finX a.1 a.2.1 a.2.2.1 a.2.2.2)
theorem ZSF:Za Tryz.prog 164 Z4d:=Zm0 Tryz.func164 rfl (by kernel_rfl) Tryz.call164 λa h _=>Z4b a h
theorem fp_1 (c) (s:Int) (g:List Int) (l) (n:Int) (hk:(Zb c.1 (g.getD 0 0)).1=n):(n=1->(ZGF c s g l).val=some (finX c s g l))/\(n=6->(ZGA c s g l).val=some (finX c s g l))/\(n=10->(ZxY c s g l).val=some (finX c s g l))/\(n=17->(ZxR c s g l).val=some (finX c s g l))/\(n=21->(ZxN c s g l).val=some (finX c s g l))/\(n=28->(ZxG c s g l).val=some (finX c s g l))/\(n=33->(ZxB c s g l).val=some (finX c s g l))/\(n=37->(Zxx c s g l).val=some (finX c s g l))/\(n=43->(Zxr c s g l).val=some (finX c s g l)):=by
 refine⟨?_,?_,?_,?_,?_,?_,?_,?_,?_⟩;all_goals intro e;subst e
 all_goals simp only[ZGF,ZGA,ZxY,ZxR,ZxN,ZxG,ZxB,Zxx,Zxr,RT.val,rgx]
 all_goals simp only[qat0,mat0,qat1,mat1,rg0,hk,Zs,ZX,Zaf,ZF,ZG,Zv,Zw,ZaW,ZaY,Zc2,Zc1,Zr,ZaG,finX,spOf]
 all_goals generalize Zc s=bi
 all_goals cases bi with
 |true=>simp[wPC,wSP]
 |false=>
  generalize (s==5)=bs;simp only[finI,hk,finR,wPC,wSP,wA,wF,fCY,fVCY,ZdA,flOf,ZI,pcOf,Zbj];generalize Zb c.1 (g.getD 0 0)=i at hk|-;simp (config:={implicitDefEqProofs:=false}) [Zcr,ZbL,Zb6,hk]
theorem fp_2 (c) (s:Int) (g:List Int) (l) (n:Int) (hk:(Zb c.1 (g.getD 0 0)).1=n):(n=3->(ZGD c s g l).val=some (finX c s g l))/\(n=7->(ZGz c s g l).val=some (finX c s g l))/\(n=11->(ZxX c s g l).val=some (finX c s g l))/\(n=18->(ZxQ c s g l).val=some (finX c s g l))/\(n=22->(ZxM c s g l).val=some (finX c s g l))/\(n=29->(ZxF c s g l).val=some (finX c s g l))/\(n=34->(ZxA c s g l).val=some (finX c s g l))/\(n=40->(Zxu c s g l).val=some (finX c s g l))/\(n=44->(Zxq c s g l).val=some (finX c s g l)):=by
 refine⟨?_,?_,?_,?_,?_,?_,?_,?_,?_⟩;all_goals intro e;subst e
 all_goals simp only[ZGD,ZGz,ZxX,ZxQ,ZxM,ZxF,ZxA,Zxu,Zxq,RT.val,rgx]
 all_goals simp only[qat0,mat0,qat1,mat1,rg0,hk,Zs,ZX,Zaf,ZF,ZG,Zv,Zw,ZaW,ZaY,Zc2,Zc1,Zr,ZaG,finX,spOf]
 all_goals generalize Zc s=bi
 all_goals cases bi with
 |true=>simp[wPC,wSP]
 |false=>
  generalize (s==5)=bs;simp only[finI,hk,finR,wPC,wSP,wA,wF,fCY,fVCY,ZdA,flOf,ZI,pcOf,Zbj];generalize Zb c.1 (g.getD 0 0)=i at hk|-;simp (config:={implicitDefEqProofs:=false}) [Zcr,ZbL,Zb6,hk]
theorem fp_3 (c) (s:Int) (g:List Int) (l) (n:Int) (hk:(Zb c.1 (g.getD 0 0)).1=n):(n=4->(ZGC c s g l).val=some (finX c s g l))/\(n=8->(ZGy c s g l).val=some (finX c s g l))/\(n=13->(ZxV c s g l).val=some (finX c s g l))/\(n=19->(ZxP c s g l).val=some (finX c s g l))/\(n=23->(ZxL c s g l).val=some (finX c s g l))/\(n=30->(ZxE c s g l).val=some (finX c s g l))/\(n=35->(Zxz c s g l).val=some (finX c s g l))/\(n=41->(Zxt c s g l).val=some (finX c s g l))/\(n=46->(Zxo c s g l).val=some (finX c s g l)):=by
 refine⟨?_,?_,?_,?_,?_,?_,?_,?_,?_⟩;all_goals intro e;subst e
 all_goals simp only[ZGC,ZGy,ZxV,ZxP,ZxL,ZxE,Zxz,Zxt,Zxo,RT.val,rgx]
 all_goals simp only[qat0,mat0,qat1,mat1,rg0,hk,Zs,ZX,Zaf,ZF,ZG,Zv,Zw,ZaW,ZaY,Zc2,Zc1,Zr,ZaG,finX,spOf]
 all_goals generalize Zc s=bi
 all_goals cases bi with
 |true=>simp[wPC,wSP]
 |false=>
  generalize (s==5)=bs;simp only[finI,hk,finR,wPC,wSP,wA,wF,fCY,fVCY,ZdA,flOf,ZI,pcOf,Zbj];generalize Zb c.1 (g.getD 0 0)=i at hk|-;simp (config:={implicitDefEqProofs:=false}) [Zcr,ZbL,Zb6,hk]
theorem fp_4 (c) (s:Int) (g:List Int) (l) (n:Int) (hk:(Zb c.1 (g.getD 0 0)).1=n):(n=5->(ZGB c s g l).val=some (finX c s g l))/\(n=9->(ZGx c s g l).val=some (finX c s g l))/\(n=16->(ZxS c s g l).val=some (finX c s g l))/\(n=20->(ZxO c s g l).val=some (finX c s g l))/\(n=27->(ZxH c s g l).val=some (finX c s g l))/\(n=32->(ZxC c s g l).val=some (finX c s g l))/\(n=36->(Zxy c s g l).val=some (finX c s g l))/\(n=42->(Zxs c s g l).val=some (finX c s g l))/\(n=47->(Zxn c s g l).val=some (finX c s g l)):=by
 refine⟨?_,?_,?_,?_,?_,?_,?_,?_,?_⟩;all_goals intro e;subst e
 all_goals simp only[ZGB,ZGx,ZxS,ZxO,ZxH,ZxC,Zxy,Zxs,Zxn,RT.val,rgx]
 all_goals simp only[qat0,mat0,qat1,mat1,rg0,hk,Zs,ZX,Zaf,ZF,ZG,Zv,Zw,ZaW,ZaY,Zc2,Zc1,Zr,ZaG,finX,spOf]
 all_goals generalize Zc s=bi
 all_goals cases bi with
 |true=>simp[wPC,wSP]
 |false=>
  generalize (s==5)=bs;simp only[finI,hk,finR,wPC,wSP,wA,wF,fCY,fVCY,ZdA,flOf,ZI,pcOf,Zbj];generalize Zb c.1 (g.getD 0 0)=i at hk|-;simp (config:={implicitDefEqProofs:=false}) [Zcr,ZbL,Zb6,hk]
theorem fp_5 (c) (s:Int) (g:List Int) (l) (n:Int) (hk:(Zb c.1 (g.getD 0 0)).1=n):(n=2->(ZGE c s g l).val=some (finX c s g l))/\(n=12->(ZxW c s g l).val=some (finX c s g l)):=by
 refine⟨?_,?_⟩;all_goals intro e;subst e
 all_goals simp only[ZGE,ZxW,RT.val,rgx]
 all_goals simp only[qat0,mat0,qat1,mat1,rg0,hk,Zs,ZX,Zaf,ZF,ZG,Zv,Zw,ZaW,ZaY,Zc2,Zc1,Zr,ZaG,finX,spOf]
 all_goals generalize Zc s=bi
 all_goals cases bi with
 |true=>simp[wPC,wSP]
 |false=>
  generalize (s==5)=bs;simp only[finI,hk,finR,wPC,wSP,wA,wF,fCY,fVCY,ZdA,flOf,ZI,pcOf,Zbj];generalize Zb c.1 (g.getD 0 0)=i at hk|-;generalize (i.2.2.2.1==6)=b0;cases b0<;>simp (config:={implicitDefEqProofs:=false}) [Zcr,ZbL,Zb6,hk]
theorem fp_6 (c) (s:Int) (g:List Int) (l) (n:Int) (hk:(Zb c.1 (g.getD 0 0)).1=n):(n=14->(ZxU c s g l).val=some (finX c s g l))/\(n=15->(ZxT c s g l).val=some (finX c s g l)):=by
 refine⟨?_,?_⟩;all_goals intro e;subst e
 all_goals simp only[ZxU,ZxT,RT.val,rgx]
 all_goals simp only[qat0,mat0,qat1,mat1,rg0,hk,Zs,ZX,Zaf,ZF,ZG,Zv,Zw,ZaW,ZaY,Zc2,Zc1,Zr,ZaG,finX,spOf]
 all_goals generalize Zc s=bi
 all_goals cases bi with
 |true=>simp[wPC,wSP]
 |false=>
  generalize (s==5)=bs;simp only[finI,hk,finR,wPC,wSP,wA,wF,fCY,fVCY,ZdA,flOf,ZI,pcOf,Zbj];generalize Zb c.1 (g.getD 0 0)=i at hk|-;generalize (i.2.2.1==6)=b0;cases b0<;>simp (config:={implicitDefEqProofs:=false}) [Zcr,ZbL,Zb6,hk]
theorem fp_7 (c) (s:Int) (g:List Int) (l) (n:Int) (hk:(Zb c.1 (g.getD 0 0)).1=n):(n=24->(ZxK c s g l).val=some (finX c s g l))/\(n=25->(ZxJ c s g l).val=some (finX c s g l))/\(n=26->(ZxI c s g l).val=some (finX c s g l))/\(n=45->(Zxp c s g l).val=some (finX c s g l)):=by
 refine⟨?_,?_,?_,?_⟩;all_goals intro e;subst e
 all_goals simp only[ZxK,ZxJ,ZxI,Zxp,RT.val,rgx]
 all_goals simp only[qat0,mat0,qat1,mat1,rg0,hk,Zs,ZX,Zaf,ZF,ZG,Zv,Zw,ZaW,ZaY,Zc2,Zc1,Zr,ZaG,finX,spOf]
 all_goals generalize Zc s=bi
 all_goals cases bi with
 |true=>simp[wPC,wSP]
 |false=>
  generalize (s==5)=bs;simp only[finI,hk,finR,wPC,wSP,wA,wF,fCY,fVCY,ZdA,flOf,ZI,pcOf,Zbj];generalize Zb c.1 (g.getD 0 0)=i at hk|-;generalize Zfp _ _=b0;cases b0<;>simp (config:={implicitDefEqProofs:=false}) [Zcr,ZbL,Zb6,hk]
theorem fp_8 (c) (s:Int) (g:List Int) (l) (n:Int) (hk:(Zb c.1 (g.getD 0 0)).1=n):(n=31->(ZxD c s g l).val=some (finX c s g l)):=by
 skip
 all_goals intro e;subst e
 all_goals simp only[ZxD,RT.val,rgx]
 all_goals simp only[qat0,mat0,qat1,mat1,rg0,hk,Zs,ZX,Zaf,ZF,ZG,Zv,Zw,ZaW,ZaY,Zc2,Zc1,Zr,ZaG,finX,spOf]
 all_goals generalize Zc s=bi
 all_goals cases bi with
 |true=>simp[wPC,wSP]
 |false=>
  generalize (s==5)=bs;simp only[finI,hk,finR,wPC,wSP,wA,wF,fCY,fVCY,ZdA,flOf,ZI,pcOf,Zbj];generalize Zb c.1 (g.getD 0 0)=i at hk|-;generalize (i.2.2.2.2.1==3)=b0;cases b0<;>simp (config:={implicitDefEqProofs:=false}) [Zcr,ZbL,Zb6,hk]
theorem fp_9 (c) (s:Int) (g:List Int) (l) (n:Int) (hk:(Zb c.1 (g.getD 0 0)).1=n):(n=38->(Zxw c s g l).val=some (finX c s g l)):=by
 skip
 all_goals intro e;subst e
 all_goals simp only[Zxw,RT.val,rgx]
 all_goals simp only[qat0,mat0,qat1,mat1,rg0,hk,Zs,ZX,Zaf,ZF,ZG,Zv,Zw,ZaW,ZaY,Zc2,Zc1,Zr,ZaG,finX,spOf]
 all_goals generalize Zc s=bi
 all_goals cases bi with
 |true=>simp[wPC,wSP]
 |false=>
  generalize (s==5)=bs;simp only[finI,hk,finR,wPC,wSP,wA,wF,fCY,fVCY,ZdA,flOf,ZI,pcOf,Zbj];generalize Zb c.1 (g.getD 0 0)=i at hk|-;simp[Zcr,ZbL,Zb6,hk,Z1B]
theorem fp_10 (c) (s:Int) (g:List Int) (l) (n:Int) (hk:(Zb c.1 (g.getD 0 0)).1=n):(n=39->(Zxv c s g l).val=some (finX c s g l)):=by
 skip
 all_goals intro e;subst e
 all_goals simp only[Zxv,RT.val,rgx]
 all_goals simp only[qat0,mat0,qat1,mat1,rg0,hk,Zs,ZX,Zaf,ZF,ZG,Zv,Zw,ZaW,ZaY,Zc2,Zc1,Zr,ZaG,finX,spOf]
 all_goals generalize Zc s=bi
 all_goals cases bi with
 |true=>simp[wPC,wSP]
 |false=>
  generalize (s==5)=bs;simp only[finI,hk,finR,wPC,wSP,wA,wF,fCY,fVCY,ZdA,flOf,ZI,pcOf,Zbj];generalize Zb c.1 (g.getD 0 0)=i at hk|-;simp[Zcr,ZbL,Zb6,hk,rSim,ZRJ,RT.val]
theorem Z48 (a:HL ZU) (h:okHL ZU a):∃l,Zdp Tryz.prog l/\(ZfF (envX Tryz.prog l [] 1023 8) Tryz.f85 ZU ZTZ a).val=some (finX a.1 a.2.1 a.2.2.1 a.2.2.2):=by
 have hk:=Zyp a.1.1 _ (Zyv h.2.2.1);refine⟨Z49 (Zb a.1.1 (a.2.2.1.getD 0 0)).1,ZZU _,?_⟩;show (EV0 _ a).val=_;rcases Zyo hk.1 hk.2 with e|e|e|e|e|e|e|e|e|e|e|e|e|e|e|e|e|e|e|e|e|e|e|e|e|e|e|e|e|e|e|e|e|e|e|e|e|e|e|e|e|e|e|e|e|e|e
 ·rw[e,ZVb a,((fp_1 a.1 a.2.1 a.2.2.1 a.2.2.2 _ e).1 rfl)]
 ·rw[e,ZVa a,((fp_5 a.1 a.2.1 a.2.2.1 a.2.2.2 _ e).1 rfl)]
 ·rw[e,ZU9 a,((fp_2 a.1 a.2.1 a.2.2.1 a.2.2.2 _ e).1 rfl)]
 ·rw[e,ZU8 a,((fp_3 a.1 a.2.1 a.2.2.1 a.2.2.2 _ e).1 rfl)]
 ·rw[e,ZU7 a,((fp_4 a.1 a.2.1 a.2.2.1 a.2.2.2 _ e).1 rfl)]
 ·rw[e,ZU6 a,((fp_1 a.1 a.2.1 a.2.2.1 a.2.2.2 _ e).2.1 rfl)]
 ·rw[e,ZU5 a,((fp_2 a.1 a.2.1 a.2.2.1 a.2.2.2 _ e).2.1 rfl)]
 ·rw[e,ZU4 a,((fp_3 a.1 a.2.1 a.2.2.1 a.2.2.2 _ e).2.1 rfl)]
 ·rw[e,ZU3 a,((fp_4 a.1 a.2.1 a.2.2.1 a.2.2.2 _ e).2.1 rfl)]
 ·rw[e,ZOI a,((fp_1 a.1 a.2.1 a.2.2.1 a.2.2.2 _ e).2.2.1 rfl)]
 ·rw[e,ZOH a,((fp_2 a.1 a.2.1 a.2.2.1 a.2.2.2 _ e).2.2.1 rfl)]
 ·rw[e,ZOG a,((fp_5 a.1 a.2.1 a.2.2.1 a.2.2.2 _ e).2 rfl)]
 ·rw[e,ZOF a,((fp_3 a.1 a.2.1 a.2.2.1 a.2.2.2 _ e).2.2.1 rfl)]
 ·rw[e,ZOE a,((fp_6 a.1 a.2.1 a.2.2.1 a.2.2.2 _ e).1 rfl)]
 ·rw[e,ZOD a,((fp_6 a.1 a.2.1 a.2.2.1 a.2.2.2 _ e).2 rfl)]
 ·rw[e,ZOC a,((fp_4 a.1 a.2.1 a.2.2.1 a.2.2.2 _ e).2.2.1 rfl)]
 ·rw[e,ZOB a,((fp_1 a.1 a.2.1 a.2.2.1 a.2.2.2 _ e).2.2.2.1 rfl)]
 ·rw[e,ZOA a,((fp_2 a.1 a.2.1 a.2.2.1 a.2.2.2 _ e).2.2.2.1 rfl)]
 ·rw[e,ZOz a,((fp_3 a.1 a.2.1 a.2.2.1 a.2.2.2 _ e).2.2.2.1 rfl)]
 ·rw[e,ZOy a,((fp_4 a.1 a.2.1 a.2.2.1 a.2.2.2 _ e).2.2.2.1 rfl)]
 ·rw[e,ZOx a,((fp_1 a.1 a.2.1 a.2.2.1 a.2.2.2 _ e).2.2.2.2.1 rfl)]
 ·rw[e,ZOw a,((fp_2 a.1 a.2.1 a.2.2.1 a.2.2.2 _ e).2.2.2.2.1 rfl)]
 ·rw[e,ZOv a,((fp_3 a.1 a.2.1 a.2.2.1 a.2.2.2 _ e).2.2.2.2.1 rfl)]
 ·rw[e,ZOu a,((fp_7 a.1 a.2.1 a.2.2.1 a.2.2.2 _ e).1 rfl)]
 ·rw[e,ZOt a,((fp_7 a.1 a.2.1 a.2.2.1 a.2.2.2 _ e).2.1 rfl)]
 ·rw[e,ZOs a,((fp_7 a.1 a.2.1 a.2.2.1 a.2.2.2 _ e).2.2.1 rfl)]
 ·rw[e,ZOr a,((fp_4 a.1 a.2.1 a.2.2.1 a.2.2.2 _ e).2.2.2.2.1 rfl)]
 ·rw[e,ZOq a,((fp_1 a.1 a.2.1 a.2.2.1 a.2.2.2 _ e).2.2.2.2.2.1 rfl)]
 ·rw[e,ZOp a,((fp_2 a.1 a.2.1 a.2.2.1 a.2.2.2 _ e).2.2.2.2.2.1 rfl)]
 ·rw[e,ZOo a,((fp_3 a.1 a.2.1 a.2.2.1 a.2.2.2 _ e).2.2.2.2.2.1 rfl)]
 ·rw[e,ZOn a,((fp_8 a.1 a.2.1 a.2.2.1 a.2.2.2 _ e) rfl)]
 ·rw[e,ZOm a,((fp_4 a.1 a.2.1 a.2.2.1 a.2.2.2 _ e).2.2.2.2.2.1 rfl)]
 ·rw[e,ZOl a,((fp_1 a.1 a.2.1 a.2.2.1 a.2.2.2 _ e).2.2.2.2.2.2.1 rfl)]
 ·rw[e,ZOk a,((fp_2 a.1 a.2.1 a.2.2.1 a.2.2.2 _ e).2.2.2.2.2.2.1 rfl)]
 ·rw[e,ZOj a,((fp_3 a.1 a.2.1 a.2.2.1 a.2.2.2 _ e).2.2.2.2.2.2.1 rfl)]
 ·rw[e,ZOi a,((fp_4 a.1 a.2.1 a.2.2.1 a.2.2.2 _ e).2.2.2.2.2.2.1 rfl)]
 ·rw[e,ZOh a,((fp_1 a.1 a.2.1 a.2.2.1 a.2.2.2 _ e).2.2.2.2.2.2.2.1 rfl)]
 ·rw[e,ZOg a,((fp_9 a.1 a.2.1 a.2.2.1 a.2.2.2 _ e) rfl)]
 ·rw[e,ZOf a,((fp_10 a.1 a.2.1 a.2.2.1 a.2.2.2 _ e) rfl)]
 ·rw[e,ZOe a,((fp_2 a.1 a.2.1 a.2.2.1 a.2.2.2 _ e).2.2.2.2.2.2.2.1 rfl)]
 ·rw[e,ZOd a,((fp_3 a.1 a.2.1 a.2.2.1 a.2.2.2 _ e).2.2.2.2.2.2.2.1 rfl)]
 ·rw[e,ZOc a,((fp_4 a.1 a.2.1 a.2.2.1 a.2.2.2 _ e).2.2.2.2.2.2.2.1 rfl)]
 ·rw[e,ZOb a,((fp_1 a.1 a.2.1 a.2.2.1 a.2.2.2 _ e).2.2.2.2.2.2.2.2 rfl)]
 ·rw[e,ZOa a,((fp_2 a.1 a.2.1 a.2.2.1 a.2.2.2 _ e).2.2.2.2.2.2.2.2 rfl)]
 ·rw[e,ZN9 a,((fp_7 a.1 a.2.1 a.2.2.1 a.2.2.2 _ e).2.2.2 rfl)]
 ·rw[e,ZN8 a,((fp_3 a.1 a.2.1 a.2.2.1 a.2.2.2 _ e).2.2.2.2.2.2.2.2 rfl)]
 ·rw[e,ZN7 a,((fp_4 a.1 a.2.1 a.2.2.1 a.2.2.2 _ e).2.2.2.2.2.2.2.2 rfl)]
def Z5a:En:=Zf ZU ZTZ (λ_=>none) (λa=>finX a.1 a.2.1 a.2.2.1 a.2.2.2)
theorem Z47:Za Tryz.prog 85 Z5a:=Zm0 Tryz.func85 rfl (by kernel_rfl) Tryz.call85 λa h _=>Z48 a h
theorem ZsP (c op:Int) (h:c≠2):Zb c op=Zb 0 op:=by unfold Zb;rw[Zn5 c op h]
theorem ZFh (c op:Int) (h:c≠2):Ztx c op=Ztx 0 op:=by
 have h1:(c==2)=false:=by simpa using h
 have h0:((0:Int)==2)=false:=rfl;simp only[Ztx,ZGv,RT.val,ZsP c op h,h1,h0]
theorem ZDs (c op:Int) (h:c≠2):Zhi c op=Zhi 0 op:=by
 have h1:rOn c=false:=by simpa [ZaG] using h
 have h0:rOn 0=false:=rfl;simp only[Zhi,ZEK,RT.val,ZsP c op h,h1,h0]
def firT (c op:Int):Bool:=Ztx c op==Zhi c op
theorem Z0F (c op:Int) (h:inR .u8 op):Ztx c op=Zhi c op:=by
 by_cases hc:c=2
 ·subst hc;exact eq_of_beq (ZgB (firT 2) (by kernel_rfl) op h)
 ·rw[ZFh c op hc,ZDs c op hc];exact eq_of_beq (ZgB (firT 0) (by kernel_rfl) op h)
def ZKC:En:=Zf ZA1 Z2v (λ_=>none) (λa=>Zhi a.1 a.2)
theorem ZN5:Za Tryz.prog 84 ZKC:=ZU1.tot (λa h=>by simp) (λa h=>Z0F _ _ h.2)
end
end Go.Proofs.YtpnjbfjomebppaaGreat
open Go.Proofs.Tryz (prog)
open Go.IntKind (u8 u16 i64)
namespace Go.Proofs.YtpnjbfjomebppaaGreat
noncomputable section
def ZTX (c:QT2):RT (Int):=
 .br (decide (c.2.2.2.2.1<1)||decide (c.2.2.2.2.1>9)) (.Lf (1)) (.Lf c.2.2.2.2.1)
def ZbD (c:QT2):Int:=(ZTX c).val
def ZiX:En:=Zf ZVt Z2v (λ_=>none) (λa=>ZbD a)
theorem ZjW:Za prog 136 ZiX:=
 pureQ 7 [] [] ZVt Z2v trivial Tryz.func136 Tryz.call136 trivial (t:=λa=>ZTX a)
abbrev ZUT:List Sh:=[Sh.agg (R.Pq Zu (R.Pq Kc (R.Pq (R.sl Ka) (R.Pq (RY) (R.Pq Kc R.bool))))),So R.bool]
def ZUU (c:QT2) (h:Bool):RT (Int):=
 .br (h) (.Lf (8)) (.br (c.1.2.2.2.2.1&&c.2.1==0) (.Lf (9)) (.Lf (1)))
def ZBg (c:QT2) (h:Bool):Int:=(ZUU c h).val
def ZKA:En:=Zf ZUT Z2v (λ_=>none) (λa=>ZBg a.1 a.2)
theorem ZKz:Za prog 193 ZKA:=
 pureQ 191 [] [] ZUT Z2v trivial Tryz.func193 Tryz.call193 trivial (t:=λa=>ZUU a.1 a.2)
abbrev Zto:List Sh:=[So Kc,So R.bool]
def Zpy (s:Int) (h:Bool):RT (Int):=
 .br (h) (.Lf (8)) (.br (s==0) (.Lf (9)) (.Lf (1)))
def Zm2 (s:Int) (h:Bool):Int:=(Zpy s h).val
def ZAX:En:=Zf Zto Z2v (λ_=>none) (λa=>Zm2 a.1 a.2)
theorem ZFm:Za prog 196 ZAX:=
 pureQ 191 [] [] Zto Z2v trivial Tryz.func196 Tryz.call196 trivial (t:=λa=>Zpy a.1 a.2)
abbrev ZKh:List Sh:=[Sh.agg (R.Pq Zu (R.Pq Kc (R.Pq (R.sl Ka) (R.Pq (RY) (R.Pq Kc R.bool))))),So Kc]
abbrev ZKi:Rs:=Rs.one (Sh.agg (R.Pq Zu (R.Pq Kc (R.Pq (R.sl Ka) (R.Pq (RY) (R.Pq Kc R.bool))))))
def ZT5 (c:QT2) (s:Int):RT (QT2):=
 .Lf ((ZcD c.1 s,s,[],(Zi (ZcD c.1 s) s []).1,c.2.2.2.2))
def ZA7 (c:QT2) (s:Int):QT2:=(ZT5 c s).val
def ZwQ:En:=Zf ZKh ZKi (λ_=>none) (λa=>ZA7 a.1 a.2)
theorem ZA6:Za prog 195 ZwQ:=
 pureQ 31 [(81,ZBp),(82,ZBe)] [] ZKh ZKi ⟨ZGP,Zw2,Tv⟩ Tryz.func195 Tryz.call195 trivial (t:=λa=>ZT5 a.1 a.2)
def ZVw (c:TC) (s:Int):RT (QT2):=
 .Lf ((c,s,[],(Zi c s []).1,1,false))
def ZfV (c:TC) (s:Int):QT2:=(ZVw c s).val
def ZGJ:En:=Zf ZqA ZKi (λ_=>none) (λa=>ZfV a.1 a.2)
theorem ZBn:Za prog 172 ZGJ:=
 pureQ 127 [(82,ZBe)] [] ZqA ZKi ⟨Zw2,Tv⟩ Tryz.func172 Tryz.call172 trivial (t:=λa=>ZVw a.1 a.2)
def ZRI (c:QT2):RT (Int):=
 .br (decide (c.2.2.2.2.1<1)||decide (c.2.2.2.2.1>9)) (.Lf (1)) (.Lf c.2.2.2.2.1)
def Zad (c:QT2):Int:=(ZRI c).val
def Zgi:En:=Zf ZVt Z2v (λ_=>none) (λa=>Zad a)
theorem ZeH:Za prog 109 Zgi:=
 pureQ 7 [] [] ZVt Z2v trivial Tryz.func109 Tryz.call109 trivial (t:=λa=>ZRI a)
abbrev ZJH:Rs:=Rs.one (Sh.agg (RY))
def ZS7 (c:TC) (s:Int):RT TY:=
 .Lf (Zi c s []).1
def Z2e (c:TC) (s:Int):QT12:=(ZS7 c s).val
def Zwh:En:=Zf ZqA ZJH (λ_=>none) (λa=>Z2e a.1 a.2)
theorem Zo9:Za prog 173 Zwh:=
 pureQ 127 [(166,ZJl)] [] ZqA ZJH ⟨Zvl,Tv⟩ Tryz.func173 Tryz.call173 trivial (t:=λa=>ZS7 a.1 a.2)
def ZRK (c:QT2) (s:Int):RT (QT2):=
 .Lf ((ZcD c.1 s,s,[],Z2e (ZcD c.1 s) s,c.2.2.2.2))
def ZIW (c:QT2) (s:Int):QT2:=(ZRK c s).val
def ZDE:En:=Zf ZKh ZKi (λ_=>none) (λa=>ZIW a.1 a.2)
theorem ZAf:Za prog 262 ZDE:=
 pureQ 31 [(163,ZJI),(173,Zwh)] [] ZKh ZKi ⟨ZNt,Zo9,Tv⟩ Tryz.func262 Tryz.call262 trivial (t:=λa=>ZRK a.1 a.2)
abbrev ZRW:List Sh:=[Sh.agg (R.Pq Zu (R.Pq Kc (R.Pq (R.sl Ka) (R.Pq (RY) (R.Pq Kc R.bool))))),So Kc,So Ka]
abbrev ZDJ:Rs:=Rs.tup [Sh.agg (RY),So (R.sl Ka)]
def Zjw (c:QT2) (t:Int) (d:Int):RT (Option (TY×List Int)):=
 let x1:Int:=bif Zbi c.2.2.2.1.1 then d else c.2.2.2.1.2.2.1
 let x2:List Int:=[]++c.2.2.1++[x1]
 .br (t !=3) (Ls ((c.2.2.2.1,c.2.2.1))) (.br (!Nat.ble (Le ([]++c.2.2.1)) most||Nat.ble (Le x2) most) (.br (Nat.ble (Le ([]++c.2.2.1)) most) (Ls (((c.2.2.2.1.1,c.2.2.2.1.2.1,x1,bif c.2.2.2.1.1==1||c.2.2.2.1.1==8 then Zhi c.1.1 x1 else c.2.2.2.1.2.2.2),x2))) Ln) Ln)
def ZiR (c:QT2) (t:Int) (d:Int):TY×List Int:=getO ZDJ.Df (Zjw c t d).val
def ZfU (c:QT2) (t:Int) (d:Int):Bool:=okB (Zjw c t d).val
def ZRZ:En:=Zf ZRW ZDJ (λa=>some (ZfU a.1 a.2.1 a.2.2)) (λa=>ZiR a.1 a.2.1 a.2.2)
theorem ZI4:Za prog 263 ZRZ:=
 pureP 1023 [(167,Zoh),(168,ZEL)] [] ZRW ZDJ ⟨Zjv,ZAx,Tv⟩ Tryz.func263 Tryz.call263 trivial (t:=λa=>Zjw a.1 a.2.1 a.2.2)
abbrev ZSQ:List Sh:=[So Kc,Sh.agg (RY)]
def Ztb (t:Int) (x:QT12):RT (Bool):=
 .br (t==3) (.Lf (decide (x.2.2.2<=3))) (.br (bif t==4 then t==4 else t==5) (.Lf (decide (x.2.2.2<=t))) (.Lf (t==6)))
def Zwc (t:Int) (x:QT12):Bool:=(Ztb t x).val
def ZSS:En:=Zf ZSQ ZpN (λ_=>none) (λa=>Zwc a.1 a.2)
theorem ZJA:Za prog 264 ZSS:=
 pureQ 2143 [] [] ZSQ ZpN trivial Tryz.func264 Tryz.call264 trivial (t:=λa=>Ztb a.1 a.2)
def Zjt (c:QT2):RT (Bool):=
 .Lf (c.1.2.2.2.2.1&&c.2.1==0)
def Zju (c:QT2):Bool:=(Zjt c).val
def Zog:En:=Zf ZVt ZpN (λ_=>none) (λa=>Zju a)
theorem Zof:Za prog 260 Zog:=
 pureQ 7 [] [] ZVt ZpN trivial Tryz.func260 Tryz.call260 trivial (t:=λa=>Zjt a)
abbrev Z11:List Sh:=[Sh.agg (R.Pq Zu (R.Pq Kc (R.Pq (R.sl Ka) (R.Pq (RY) (R.Pq Kc R.bool))))),Sh.agg (R.Pq R.bool (R.Pq R.bool rcF7))]
def Z4f (c:QT2) (l:QT0):RT (QT2):=
 let x1:=ZIW (finX c.1 c.2.1 c.2.2.1 l,c.2) (ZeJ (finX c.1 c.2.1 c.2.2.1 l) l)
 let x2:=x1.1
 let x3:=x2.2
 let x4:=x3.1
 let x5:=x4.2
 let x6:=x5.2
 let x7:=x6.2
 let x8:=x7.2
 let x9:=x8.2
 let x10:=x9.2
 let x11:=x10.2
 let x12:=x11.1
 let x13:=x12.2
 let x14:=c.1.2.1.2.2.2.2.2.2.2.1.2.2
 let x15:=x13.2
 let x16:=x14.2
 let x17:=x15.2
 let x18:=x16.2
 let x19:=x17.2
 let x20:=x18.2
 let x21:=x19.2
 let x22:=x11.2
 let x23:=x3.2
 let x24:=x23.2
 let x25:=x24.2
 let x26:=x25.2
 let x27:=x26.2
 let x28:=x27.2
 let x29:=x28.2
 let x30:=x29.2
 let x31:=x30.2
 let x32:=x31.2
 let x33:TC:=(bif (Zi c.1 c.2.1 c.2.2.1).2 then c.1.1 else x2.1,(bif (Zi c.1 c.2.1 c.2.2.1).2 then c.1.2.1.1 else x4.1,bif (Zi c.1 c.2.1 c.2.2.1).2 then c.1.2.1.2.1 else x5.1,bif (Zi c.1 c.2.1 c.2.2.1).2 then c.1.2.1.2.2.1 else x6.1,bif (Zi c.1 c.2.1 c.2.2.1).2 then c.1.2.1.2.2.2.1 else x7.1,bif (Zi c.1 c.2.1 c.2.2.1).2 then c.1.2.1.2.2.2.2.1 else x8.1,bif (Zi c.1 c.2.1 c.2.2.1).2 then c.1.2.1.2.2.2.2.2.1 else x9.1,bif (Zi c.1 c.2.1 c.2.2.1).2 then c.1.2.1.2.2.2.2.2.2.1 else x10.1,(bif (Zi c.1 c.2.1 c.2.2.1).2 then c.1.2.1.2.2.2.2.2.2.2.1.1 else x12.1,bif (Zi c.1 c.2.1 c.2.2.1).2 then c.1.2.1.2.2.2.2.2.2.2.1.2.1 else x13.1,bif (Zi c.1 c.2.1 c.2.2.1).2 then x14.1 else x15.1,bif (Zi c.1 c.2.1 c.2.2.1).2 then x16.1 else x17.1,bif (Zi c.1 c.2.1 c.2.2.1).2 then x18.1 else x19.1,bif (Zi c.1 c.2.1 c.2.2.1).2 then x20.1 else x21.1,bif (Zi c.1 c.2.1 c.2.2.1).2 then x20.2 else x21.2),bif (Zi c.1 c.2.1 c.2.2.1).2 then c.1.2.1.2.2.2.2.2.2.2.2.1 else x22.1,bif (Zi c.1 c.2.1 c.2.2.1).2 then c.1.2.1.2.2.2.2.2.2.2.2.2 else x22.2),bif (Zi c.1 c.2.1 c.2.2.1).2 then c.1.2.2.1 else x23.1,bif (Zi c.1 c.2.1 c.2.2.1).2 then c.1.2.2.2.1 else x24.1,bif (Zi c.1 c.2.1 c.2.2.1).2 then c.1.2.2.2.2.1 else x25.1,bif (Zi c.1 c.2.1 c.2.2.1).2 then c.1.2.2.2.2.2.1 else x26.1,bif (Zi c.1 c.2.1 c.2.2.1).2 then c.1.2.2.2.2.2.2.1 else x27.1,bif (Zi c.1 c.2.1 c.2.2.1).2 then c.1.2.2.2.2.2.2.2.1 else x28.1,bif (Zi c.1 c.2.1 c.2.2.1).2 then c.1.2.2.2.2.2.2.2.2.1 else x29.1,bif (Zi c.1 c.2.1 c.2.2.1).2 then c.1.2.2.2.2.2.2.2.2.2.1 else x30.1,bif (Zi c.1 c.2.1 c.2.2.1).2 then c.1.2.2.2.2.2.2.2.2.2.2.1 else x31.1,bif (Zi c.1 c.2.1 c.2.2.1).2 then c.1.2.2.2.2.2.2.2.2.2.2.2.1 else x32.1,bif (Zi c.1 c.2.1 c.2.2.1).2 then c.1.2.2.2.2.2.2.2.2.2.2.2.2 else x32.2)
 let x34:=x1.2
 let x35:Int:=bif (Zi c.1 c.2.1 c.2.2.1).2 then c.2.1 else x34.1
 let x36:=x34.2
 let x37:List Int:=bif (Zi c.1 c.2.1 c.2.2.1).2 then c.2.2.1 else x36.1
 let x38:=x36.2
 let x39:=x38.1
 let x40:=x39.2
 let x41:=x40.2
 let x42:QT12:=(bif (Zi c.1 c.2.1 c.2.2.1).2 then (Zi c.1 c.2.1 c.2.2.1).1.1 else x39.1,bif (Zi c.1 c.2.1 c.2.2.1).2 then (Zi c.1 c.2.1 c.2.2.1).1.2.1 else x40.1,bif (Zi c.1 c.2.1 c.2.2.1).2 then (Zi c.1 c.2.1 c.2.2.1).1.2.2.1 else x41.1,bif (Zi c.1 c.2.1 c.2.2.1).2 then (Zi c.1 c.2.1 c.2.2.1).1.2.2.2 else x41.2)
 let x43:=x38.2
 let x44:=bif (Zi c.1 c.2.1 c.2.2.1).2 then c.2.2.2.2.2 else x43.2
 .Lf ((x33,x35,x37,x42,bif x44 then 8 else bif Zju (x33,x35,x37,x42,bif (Zi c.1 c.2.1 c.2.2.1).2 then c.2.2.2.2.1 else x43.1,x44) then 9 else 1,false))
def rEnd (c:QT2) (l:QT0):QT2:=(Z4f c l).val
def Z6W:En:=Zf Z11 ZKi (λ_=>none) (λa=>rEnd a.1 a.2)
theorem Z4e:Za prog 265 Z6W:=
 pureQ 1168231104639 [(164,Z4d),(166,ZJl),(260,Zog),(261,ZSb),(262,ZDE)] [] Z11 ZKi ⟨ZSF,Zvl,Zof,ZJe,ZAf,Tv⟩ Tryz.func265 Tryz.call265 trivial (t:=λa=>Z4f a.1 a.2)
def Z4Y (chip:Int):RT (QT2):=
 let x1:TR:=(0,0,0,0,0,0,0,(false,false,false,false,false,false,false),0,0)
 let x2:TC:=(ZfV (Z1 (chip,x1,false,false,false,0,false,false,false,false,false,false,false)) 0).1
 .Lf (((x2.1,x1,false,false,false,x2.2.2.2.2.2.1,false,false,false,false,false,false,false),0,[],(1,0,0,4),1,false))
def pNew (chip:Int):QT2:=(Z4Y chip).val
def pNewE:En:=Zf ZA3 ZKi (λ_=>none) (λa=>pNew a)
theorem Z4X:Za prog 97 pNewE:=
 pureQ 7 [(80,ZwU),(172,ZGJ)] [] ZA3 ZKi ⟨Ztu,ZBn,Tv⟩ Tryz.func97 Tryz.call97 trivial (t:=λa=>Z4Y a)
def Z35 (chip:Int):RT (QT2):=
 let x1:TR:=(0,0,0,0,0,0,0,(false,false,false,false,false,false,false),0,0)
 let x2:=Z1 (chip,x1,false,false,false,0,false,false,false,false,false,false,false)
 .Lf (((x2.1,x1,false,false,false,x2.2.2.2.2.2.1,false,false,false,false,false,false,false),0,[],(1,0,0,4),1,false))
def rNew (chip:Int):QT2:=(Z35 chip).val
def Z6S:En:=Zf ZA3 ZKi (λ_=>none) (λa=>rNew a)
theorem ZSs:Za prog 100 Z6S:=
 pureQ 15 [(96,ZDI),(173,Zwh)] [] ZA3 ZKi ⟨ZAh,Zo9,Tv⟩ Tryz.func100 Tryz.call100 trivial (t:=λa=>Z35 a)
def Zml:En:=.tree (Zq (envX prog [(82,ZBe),(85,Z5a),(193,ZKA),(194,ZwY),(195,ZwQ)] [] 1023 8) Tryz.f192)
theorem Zr4:Za prog 192 Zml:=ZD ⟨Zw2,Z47,ZKz,ZBa,ZA6,Tv⟩ Tryz.func192 rfl (by kernel_rfl) Tryz.call192 trivial
abbrev ZVz:List Sh:=[Sh.agg (R.Pq Zu (R.Pq Kc (R.Pq (R.sl Ka) (R.Pq (RY) (R.Pq Kc R.bool))))),Sh.agg (R.Pq R.bool (R.Pq R.bool rcF7)),So Ka]
abbrev ZKR:Rs:=Rs.tup [Sh.agg (R.Pq Zu (R.Pq Kc (R.Pq (R.sl Ka) (R.Pq (RY) (R.Pq Kc R.bool))))),Sh.agg (R.Pq R.bool (R.Pq Zu (R.Pq (R.sl Ka) (R.Pq (RY) Zu))))]
def ZVA (c:QT2) (l:QT0) (d:Int):RT (Option ((QT2)×Bool×TC×List Int×TY×TC)):=
 let x1:Int:=bif Zbi c.2.2.2.1.1 then d else c.2.2.2.1.2.2.1
 let x2:List Int:=c.2.2.1++[x1]
 let x3:TC:=(0,(0,0,0,0,0,0,0,(false,false,false,false,false,false,false),0,0),false,false,false,0,false,false,false,false,false,false,false)
 let x4:Bool×TC×List Int×TY×TC:=(false,x3,[],c.2.2.2.1,Zk c.1 l)
 let x5:Int:=bif c.2.2.2.1.1==1||c.2.2.2.1.1==8 then Zhi (Zk c.1 l).1 x1 else c.2.2.2.1.2.2.2
 let x6:QT12:=(c.2.2.2.1.1,c.2.2.2.1.2.1,x1,x5)
 let x7:TY×TC:=(x6,Zk c.1 l)
 let x8:Bool×TC×List Int×TY×TC:=(false,x3,[],x7)
 let x9:=Zi (Zk c.1 l) c.2.1 x2
 let x10:=x9.1
 let x11:=finX (Zk c.1 l) c.2.1 x2 l
 let x12:=ZA7 (x11,c.2.1,x2,x6,c.2.2.2.2) (ZeJ x11 l)
 let x13:=x12.2
 let x14:=x13.2.2
 let x15:=ZA7 (finX (Zk c.1 l) c.2.1 c.2.2.1 l,c.2) (ZeJ (finX (Zk c.1 l) c.2.1 c.2.2.1 l) l)
 let x16:=x15.2
 let x17:=x16.2.2
 let x18:=ZA7 (Zk c.1 l,c.2) (ZeJ (Zk c.1 l) l)
 let x19:=x18.2
 let x20:=x19.2.2
 .br (Nat.ble (Le c.2.2.1) most) (.br (ZbD c==1||((bif ZbD c==2 then ZbD c==2 else ZbD c==7)||(!ZbD c==3||Nat.ble (Le x2) most))) (.br (ZbD c==1) (Ls (((Zk c.1 l,c.2.1,c.2.2.1,c.2.2.2.1,2,c.2.2.2.2.2),x4))) (.br (bif ZbD c==2 then ZbD c==2 else ZbD c==7) (Ls (((Zk c.1 l,c.2.1,c.2.2.1,c.2.2.2.1,bif Zb4 c.2.2.2.1.1&& !l.1 then 7 else 3,bif Zb4 c.2.2.2.1.1&& !l.1 then c.2.2.2.2.2 else l.2.1),x4))) (.br (ZbD c==3) (.br (decide (x5>3)) (Ls (((Zk c.1 l,c.2.1,x2,x6,4,c.2.2.2.2.2),x8))) (.br x9.2 (Ls (((Zk c.1 l,c.2.1,x2,x10,ZBg (Zk c.1 l,c.2.1,x2,x10,c.2.2.2.2) c.2.2.2.2.2,false),x8))) (Ls (((x12.1,x13.1,[],x14.1,ZBg x12 x14.2.2,false),true,x11,x2,x7))))) (.br (bif ZbD c==4 then ZbD c==4 else bif ZbD c==5 then ZbD c==5 else ZbD c==6) (.br (decide (c.2.2.2.1.2.2.2>ZbD c)&&ZbD c !=6) (Ls (((Zk c.1 l,c.2.1,c.2.2.1,c.2.2.2.1,i64.wrap (ZbD c+1),c.2.2.2.2.2),x4))) (.br (Zi (Zk c.1 l) c.2.1 c.2.2.1).2 (Ls (((Zk c.1 l,c.2.1,c.2.2.1,(Zi (Zk c.1 l) c.2.1 c.2.2.1).1,ZBg (Zk c.1 l,c.2.1,c.2.2.1,(Zi (Zk c.1 l) c.2.1 c.2.2.1).1,c.2.2.2.2) c.2.2.2.2.2,false),x4))) (Ls (((x15.1,x16.1,[],x17.1,ZBg x15 x17.2.2,false),true,finX (Zk c.1 l) c.2.1 c.2.2.1 l,c.2.2.1,c.2.2.2.1,Zk c.1 l))))) (.br (ZbD c==8) (Ls (((Zk c.1 l,c.2.1,c.2.2.1,c.2.2.2.1,ZBg (Zk c.1 l,c.2) l.2.1,c.2.2.2.2.2),x4))) (.br (ZbD c==9) (.br (ZeJ (Zk c.1 l) l !=0) (Ls (((x18.1,x19.1,[],x20.1,Zm2 (ZeJ (Zk c.1 l) l) l.2.1,x20.2.2),x4))) (Ls (((Zk c.1 l,c.2.1,c.2.2.1,c.2.2.2.1,Zm2 (ZeJ (Zk c.1 l) l) l.2.1,c.2.2.2.2.2),x4)))) (Ls (((Zk c.1 l,c.2),x4))))))))) Ln) Ln
def pAdv (c:QT2) (l:QT0) (d:Int):(QT2)×Bool×TC×List Int×TY×TC:=getO ZKR.Df (ZVA c l d).val
def ZVB (c:QT2) (l:QT0) (d:Int):Bool:=okB (ZVA c l d).val
def Z7n:En:=Zf ZVz ZKR (λa=>some (ZVB a.1 a.2.1 a.2.2)) (λa=>pAdv a.1 a.2.1 a.2.2)
theorem ZVy:Za prog 130 Z7n:=
 pureP 2679225218618052313454186380042176511 [(83,Zdd),(84,ZKC),(120,Zi7),(136,ZiX),(189,ZtB),(191,ZKu),(192,Zml),(193,ZKA),(194,ZwY),(195,ZwQ),(196,ZAX)] [] ZVz ZKR ⟨Zes,ZN5,Zkw,ZjW,ZBo,ZN3,Zr4,ZKz,ZBa,ZA6,ZFm,Tv⟩ Tryz.func130 Tryz.call130 trivial (t:=λa=>ZVA a.1 a.2.1 a.2.2)
abbrev Zna:Rs:=Rs.tup [Sh.agg (R.Pq Zu (R.Pq Kc (R.Pq (R.sl Ka) (R.Pq (RY) (R.Pq Kc R.bool))))),Sh.agg (R.Pq Kc (R.Pq Kb (R.Pq Ka (R.Pq R.bool (R.Pq R.bool (R.Pq R.bool (R.Pq R.bool (R.Pq R.bool (R.Pq R.bool (R.Pq R.bool rcF7))))))))))]
def Zli (c:QT2) (l:QT0) (d:Int):RT (Option ((QT2)×Int×Int×Int×Bool×Bool×Bool×Bool×Bool×Bool×Bool×Bool×Bool×Bool×Bool×Bool×Bool×Bool)):=
 let x1:Int×TF×Int×Int:=(ZfV (Z1 c.1) 0).1.2.1.2.2.2.2.2.2
 let x2:=x1.2
 let x3:TY×Int×Int×Bool×Bool:=(c.2.2.2.1,d,c.1.2.1.2.2.2.2.2.2.2.2.2,c.1.2.2.1,c.1.2.2.2.2.2.2.2.2.2.2.2.2)
 .br l.2.2.1 (Ls (((((ZfV (Z1 c.1) 0).1.1,((ZfV (Z1 c.1) 0).1.2.1.1,(ZfV (Z1 c.1) 0).1.2.1.2.1,(ZfV (Z1 c.1) 0).1.2.1.2.2.1,(ZfV (Z1 c.1) 0).1.2.1.2.2.2.1,(ZfV (Z1 c.1) 0).1.2.1.2.2.2.2.1,(ZfV (Z1 c.1) 0).1.2.1.2.2.2.2.2.1,x1.1,x2.1,x2.2.1,0),false,false,false,(ZfV (Z1 c.1) 0).1.2.2.2.2.2.1,false,false,false,false,false,false,false),0,[],(1,0,0,4),1,false),ZUm c.1.1 (10,x3)))) (.br (ZVB c l d) (Ls (((pAdv c l d).1,ZUm c.1.1 (ZbD c,x3)))) Ln)
def Z2D (c:QT2) (l:QT0) (d:Int):(QT2)×Int×Int×Int×Bool×Bool×Bool×Bool×Bool×Bool×Bool×Bool×Bool×Bool×Bool×Bool×Bool×Bool:=getO Zna.Df (Zli c l d).val
def ZVs (c:QT2) (l:QT0) (d:Int):Bool:=okB (Zli c l d).val
def Z5n:En:=Zf ZVz Zna (λa=>some (ZVs a.1 a.2.1 a.2.2)) (λa=>Z2D a.1 a.2.1 a.2.2)
theorem ZVr:Za prog 138 Z5n:=
 pureP 2047 [(79,Z2s),(80,ZwU),(130,Z7n),(136,ZiX),(172,ZGJ)] [] ZVz Zna ⟨ZZF,Ztu,ZVy,ZjW,ZBn,Tv⟩ Tryz.func138 Tryz.call138 trivial (t:=λa=>Zli a.1 a.2.1 a.2.2)
def Zk8 (c:QT2) (l:QT0) (d:Int):RT (Option ((QT2)×Int×Int×Int×Bool×Bool×Bool×Bool×Bool×Bool×Bool×Bool×Bool×Bool×Bool×Bool×Bool×Bool)):=
 let x1:QT12:=(bif Zad c==9 then 0 else c.2.2.2.1.1,bif Zad c==9 then c.1.2.1.2.2.2.2.2.2.2.2.2 else c.2.2.2.1.2.1,bif Zad c==9 then 0 else c.2.2.2.1.2.2.1,bif Zad c==9 then 0 else c.2.2.2.1.2.2.2)
 let x2:=c.1.2.2.2.2.2.2.2.2.2.2.2.2
 let x3:QT25:=(Zjy c.1.1 10 x1 0 c.1.2.2.1 x2).2.2.2.2.2.2
 let x4:=x3.2.2.2.2.2.2.2
 let x5:=Zjy c.1.1 (Zad c) x1 d c.1.2.2.1 x2
 let x6:QT2:=(Zk c.1 l,c.2.1,[]++c.2.2.1,c.2.2.2)
 let x7:=ZIW x6 (ZeJ (Zk c.1 l) l)
 let x8:=x7.2
 let x9:=x8.2.2
 let x10:Int:=bif l.2.1 then 8 else bif ZeJ (Zk c.1 l) l !=0 then 1 else 9
 let x11:=ZiR x6 (Zad c) d
 let x12:=x11.1
 let x13:=Zwc (Zad c) x12
 let x14:=x11.2
 let x15:=rEnd (Zk c.1 l,c.2.1,x14,x12,c.2.2.2.2) l
 let x16:=x15.1
 let x17:=x16.2
 let x18:=x17.1
 let x19:=x18.2
 let x20:=x19.2
 let x21:=x20.2
 let x22:=x21.2
 let x23:=x22.2
 let x24:=x23.2
 let x25:=x24.2
 let x26:=x25.1
 let x27:TF:=(Zk c.1 l).2.1.2.2.2.2.2.2.2.1
 let x28:=x26.2
 let x29:=x27.2
 let x30:=x28.2
 let x31:=x29.2
 let x32:=x30.2
 let x33:=x31.2
 let x34:=x32.2
 let x35:=x33.2
 let x36:=x34.2
 let x37:=x35.2
 let x38:=x25.2
 let x39:Int×Int:=(Zk c.1 l).2.1.2.2.2.2.2.2.2.2
 let x40:=x17.2
 let x41:=x40.2
 let x42:=x41.2
 let x43:=x42.2
 let x44:=x43.2
 let x45:=x44.2
 let x46:=x45.2
 let x47:=x46.2
 let x48:=x47.2
 let x49:QT32:=(Zk c.1 l).2.2.2.2.2.2.2.2.2.2
 let x50:=x48.2
 let x51:=x49.2
 let x52:=x15.2
 let x53:=x52.2
 let x54:=x53.2
 let x55:=x54.1
 let x56:=x55.2
 let x57:=x12.2
 let x58:=x56.2
 let x59:=x57.2
 let x60:=x54.2
 .br l.2.2.1 (Ls (((((Z1 c.1).1,((Z1 c.1).2.1.1,(Z1 c.1).2.1.2.1,(Z1 c.1).2.1.2.2.1,(Z1 c.1).2.1.2.2.2.1,(Z1 c.1).2.1.2.2.2.2.1,(Z1 c.1).2.1.2.2.2.2.2.1,(Z1 c.1).2.1.2.2.2.2.2.2.1,(Z1 c.1).2.1.2.2.2.2.2.2.2.1,(Z1 c.1).2.1.2.2.2.2.2.2.2.2.1,0),false,false,false,(Z1 c.1).2.2.2.2.2.1,false,false,false,false,false,false,false),0,[],(1,0,0,4),1,false),10,0,0,false,false,false,x3.1,false,false,false,false,false,false,x4.1,false,false,x4.2.2.2))) (.br (Nat.ble (Le ([]++c.2.2.1)) most) (.br (Zad c==1) (Ls (((Zk c.1 l,c.2.1,[]++c.2.2.1,c.2.2.2.1,2,c.2.2.2.2.2),x5))) (.br (bif Zad c==2 then Zad c==2 else Zad c==7) (Ls (((Zk c.1 l,c.2.1,[]++c.2.2.1,c.2.2.2.1,bif l.1|| !Zb4 c.2.2.2.1.1 then 3 else 7,bif l.1|| !Zb4 c.2.2.2.1.1 then l.2.1 else c.2.2.2.2.2),x5))) (.br (Zad c==8) (Ls (((Zk c.1 l,c.2.1,bif l.2.1 then []++c.2.2.1 else []++c.2.2.1,c.2.2.2.1,bif l.2.1 then 8 else bif Zju x6 then 9 else 1,c.2.2.2.2.2),x5))) (.br (Zad c==9) (.br (ZeJ (Zk c.1 l) l !=0) (Ls (((x7.1,x8.1,[],x9.1,x10,x9.2.2),x5))) (Ls (((Zk c.1 l,c.2.1,[]++c.2.2.1,c.2.2.2.1,x10,c.2.2.2.2.2),x5)))) (.br (ZfU x6 (Zad c) d) (Ls ((((bif x13 then x16.1 else (Zk c.1 l).1,(bif x13 then x18.1 else (Zk c.1 l).2.1.1,bif x13 then x19.1 else (Zk c.1 l).2.1.2.1,bif x13 then x20.1 else (Zk c.1 l).2.1.2.2.1,bif x13 then x21.1 else (Zk c.1 l).2.1.2.2.2.1,bif x13 then x22.1 else (Zk c.1 l).2.1.2.2.2.2.1,bif x13 then x23.1 else (Zk c.1 l).2.1.2.2.2.2.2.1,bif x13 then x24.1 else (Zk c.1 l).2.1.2.2.2.2.2.2.1,(bif x13 then x26.1 else x27.1,bif x13 then x28.1 else x29.1,bif x13 then x30.1 else x31.1,bif x13 then x32.1 else x33.1,bif x13 then x34.1 else x35.1,bif x13 then x36.1 else x37.1,bif x13 then x36.2 else x37.2),bif x13 then x38.1 else x39.1,bif x13 then x38.2 else x39.2),bif x13 then x40.1 else (Zk c.1 l).2.2.1,bif x13 then x41.1 else (Zk c.1 l).2.2.2.1,bif x13 then x42.1 else (Zk c.1 l).2.2.2.2.1,bif x13 then x43.1 else (Zk c.1 l).2.2.2.2.2.1,bif x13 then x44.1 else (Zk c.1 l).2.2.2.2.2.2.1,bif x13 then x45.1 else (Zk c.1 l).2.2.2.2.2.2.2.1,bif x13 then x46.1 else (Zk c.1 l).2.2.2.2.2.2.2.2.1,bif x13 then x47.1 else (Zk c.1 l).2.2.2.2.2.2.2.2.2.1,bif x13 then x48.1 else x49.1,bif x13 then x50.1 else x51.1,bif x13 then x50.2 else x51.2),bif x13 then x52.1 else c.2.1,bif x13 then x53.1 else x14,(bif x13 then x55.1 else x12.1,bif x13 then x56.1 else x57.1,bif x13 then x58.1 else x59.1,bif x13 then x58.2 else x59.2),bif x13 then x60.1 else i64.wrap (Zad c+1),bif x13 then x60.2 else c.2.2.2.2.2),x5))) Ln))))) Ln)
def Z2b (c:QT2) (l:QT0) (d:Int):(QT2)×Int×Int×Int×Bool×Bool×Bool×Bool×Bool×Bool×Bool×Bool×Bool×Bool×Bool×Bool×Bool×Bool:=getO Zna.Df (Zk8 c l d).val
def ZS1 (c:QT2) (l:QT0) (d:Int):Bool:=okB (Zk8 c l d).val
def Z4r:En:=Zf ZVz Zna (λa=>some (ZS1 a.1 a.2.1 a.2.2)) (λa=>Z2b a.1 a.2.1 a.2.2)
theorem ZS0:Za prog 178 Z4r:=
 pureP 740465775588642560936085758595903342518271 [(58,ZAB),(96,ZDI),(100,Z6S),(109,Zgi),(173,Zwh),(187,Zo1),(259,Z1L),(260,Zog),(261,ZSb),(262,ZDE),(263,ZRZ),(264,ZSS),(265,Z6W)] [] ZVz Zna ⟨ZEY,ZAh,ZSs,ZeH,Zo9,Zo0,ZYQ,Zof,ZJe,ZAf,ZI4,ZJA,Z4e,Tv⟩ Tryz.func178 Tryz.call178 trivial (t:=λa=>Zk8 a.1 a.2.1 a.2.2)
abbrev LnT:=QT0
abbrev ZfG:=CpuT×Int×List Int×Cyc×Int×Bool
def Zac (n:Int):Int:=bif decide (n<1)||decide (n>9) then 1 else n
def ZCw (c:CpuT) (s:Int):ZfG:=(c,s,[],(Zi c s []).1,1,false)
def idlX (c:CpuT) (s:Int) (h:Bool):Int:=bif h then 8 else bif c.2.2.2.2.1&&s==0 then 9 else 1
def endX (c:CpuT) (s:Int) (g:List Int) (h:Bool) (l:LnT):ZfG:=
 bif (Zi c s g).2 then (c,s,g,(Zi c s g).1,idlX c s h,false) else
 let q:=finX c s g l
 let k:=ZeJ q l
 let d:=ZcD q k
 (d,k,[],(Zi d k []).1,idlX d k h,false)
def ZgM (c:CpuT) (x:Cyc) (d:Int):Cyc:=
 let v:=bif Zbi x.1 then d else x.2.2.1
 (x.1,x.2.1,v,bif x.1==1||x.1==8 then Zhi c.1 v else x.2.2.2)
def le3 (x:Int):Bool:=decide (x<=3)
def ZbM (c:ZfG) (l:LnT) (d:Int):ZfG:=
 let t:=Zac c.2.2.2.2.1
 let p:=Zk c.1 l
 let s:=c.2.1
 let g:=c.2.2.1
 let x:=c.2.2.2.1
 let h:=c.2.2.2.2.2
 bif l.2.2.1 then ZCw (Z1 c.1) 0 else
 bif t==1 then (p,s,g,x,2,h) else
 bif t==2||t==7 then (bif l.1|| !Zb4 x.1 then (p,s,g,x,3,l.2.1) else (p,s,g,x,7,h)) else
 bif t==8 then (p,s,g,x,idlX p s l.2.1,h) else
 bif t==9 then
  (let k:=ZeJ p l
   bif k==0 then (p,s,g,x,bif l.2.1 then 8 else 9,h) else
   (ZcD p k,k,[],(Zi (ZcD p k) k []).1,bif l.2.1 then 8 else 1,h)) else
 bif t==3 then
  (let y:=ZgM p x d
   bif le3 y.2.2.2 then endX p s (g++[y.2.2.1]) h l else (p,s,g++[y.2.2.1],y,4,h)) else
 bif decide (t<x.2.2.2)&& !(t==6) then (p,s,g,x,t+1,h) else endX p s g h l
abbrev PinT:=QT10
def ZWM (c:ZfG) (t:Int):Cyc:=bif t==9 then (0,c.1.2.1.2.2.2.2.2.2.2.2.2,0,0) else c.2.2.2.1
def Zmt (c:ZfG) (l:LnT) (d:Int):PinT:=
 let t:=Zac c.2.2.2.2.1
 Zjy c.1.1 (bif l.2.2.1 then 10 else t) (ZWM c t) (bif l.2.2.1 then 0 else d) c.1.2.2.1 c.1.2.2.2.2.2.2.2.2.2.2.2.2
theorem ZnR (n:Int):1<=Zac n/\Zac n<=9:=by
 unfold Zac;by_cases h:n<1\/n>9
 ·have:(decide (n<1)||decide (n>9))=true:=by simpa using h
  rw[this];simp
 ·have:(decide (n<1)||decide (n>9))=false:=by simpa using h
  rw[this];simp only[Yc];omega
theorem ZzP (c):Zad c=Zac c.2.2.2.2.1:=rfl
theorem ZAJ (c):ZbD c=Zac c.2.2.2.2.1:=rfl
theorem ZzQ (c:ZfG) (s):ZIW c s=(ZcD c.1 s,s,[],(Zi (ZcD c.1 s) s []).1,c.2.2.2.2):=rfl
theorem ZTn (c:ZfG) (s):ZA7 c s=(ZcD c.1 s,s,[],(Zi (ZcD c.1 s) s []).1,c.2.2.2.2):=rfl
theorem ZZk (c:ZfG) (h:Bool):ZBg c h=idlX c.1 c.2.1 h:=by simp only[ZBg,ZUU,idlX,RT.val]
theorem Z3Q (c:ZfG) (l:LnT):rEnd c l=endX c.1 c.2.1 c.2.2.1 c.2.2.2.2.2 l:=by cases h:(Zi c.1 c.2.1 c.2.2.1).2<;>simp only[rEnd,Z4f,RT.val,h,Yb,Yc,ZzQ,endX,Zju,Zjt,idlX]
theorem Z66 (chip:Int) (x y:Cyc) (d:Int) (i o:Bool):Zjy chip 10 x d i o=Zjy chip 10 y 0 i o:=by simp only[Zjy,ZAl,RT.val,ZaG];generalize (chip==2)=b;cases b<;>simp
theorem Z4z (chip:Int) (x:Cyc) (i o:Bool):Zjy chip 10 x 0 i o=(10,0,0,false,false,false,(Zjy chip 10 x 0 i o).2.2.2.2.2.2.1,false,false,false,false,false,false,(Zjy chip 10 x 0 i o).2.2.2.2.2.2.2.2.2.2.2.2.2.1,false,false,(Zjy chip 10 x 0 i o).2.2.2.2.2.2.2.2.2.2.2.2.2.2.2.2):=by simp only[Zjy,ZAl,RT.val,ZaG];generalize (chip==2)=b;cases b<;>simp
theorem Zn4 (c:CpuT):Z1 c=((Z1 c).1,((Z1 c).2.1.1,(Z1 c).2.1.2.1,(Z1 c).2.1.2.2.1,(Z1 c).2.1.2.2.2.1,(Z1 c).2.1.2.2.2.2.1,(Z1 c).2.1.2.2.2.2.2.1,(Z1 c).2.1.2.2.2.2.2.2.1,(Z1 c).2.1.2.2.2.2.2.2.2.1,(Z1 c).2.1.2.2.2.2.2.2.2.2.1,0),false,false,false,(Z1 c).2.2.2.2.2.1,false,false,false,false,false,false,false):=by simp only[Z1,Zk4,RT.val,ZaG]
theorem ZLM (c:CpuT):ZCw (Z1 c) 0=(Z1 c,0,[],(1,0,0,4),1,false):=by
 simp only[ZCw];have:(Zi (Z1 c) 0 []).1=(1,0,0,4):=by
  have hp:pcOf (Z1 c)=0:=by rw[Zn4];rfl
  simp[Zi,Zlc,Zc,Zk6,RT.val,hp];rfl
 rw[this]
theorem len1 {α:Type} (l:List α) (x:α) (h:l.length+1<=most):Nat.ble l.length most=true/\Nat.ble (l++[x]).length most=true:=by rw[Yz,Yz];simp only[Yd,List.length_cons,List.length_nil];omega
theorem ZYs (c:ZfG) (d:Int) (hg:c.2.2.1.length+1<=most):(Zjw c 3 d).val=some (ZgM c.1 c.2.2.2.1 d,c.2.2.1++[(ZgM c.1 c.2.2.2.1 d).2.2.1]):=by have h:=len1 c.2.2.1 (bif Zbi c.2.2.2.1.1 then d else c.2.2.2.1.2.2.1) hg;simp only[Zjw,RT.val,List.nil_append,h.1,h.2,Yf,Yj,Yb,ZgM,bne_self_eq_false,Yc]
theorem Zn0 (c:ZfG) (t d:Int) (ht:t≠3):(Zjw c t d).val=some (c.2.2.2.1,c.2.2.1):=by
 have:(t !=3)=true:=by simpa using ht
 simp only[Zjw,RT.val,this,Yb]
abbrev ChgT:=Bool×CpuT×List Int×Cyc×CpuT
abbrev cpu0:CpuT:=(0,(0,0,0,0,0,0,0,(false,false,false,false,false,false,false),0,0),false,false,false,0,false,false,false,false,false,false,false)
def ZyO (c:ZfG) (l:LnT) (d:Int):ChgT:=
 let t:=Zac c.2.2.2.2.1
 let p:=Zk c.1 l
 let s:=c.2.1
 let g:=c.2.2.1
 let x:=c.2.2.2.1
 bif t==3 then
  (let y:=ZgM p x d
   bif le3 y.2.2.2&& !(Zi p s (g++[y.2.2.1])).2 then (true,finX p s (g++[y.2.2.1]) l,g++[y.2.2.1],y,p) else (false,cpu0,[],y,p)) else
 bif (t==4||(t==5||t==6))&&(!(decide (t<x.2.2.2)&& !(t==6))&& !(Zi p s g).2) then (true,finX p s g l,g,x,p) else (false,cpu0,[],x,p)
theorem gt3 (x:Int):decide (x>3)= !le3 x:=by unfold le3;by_cases h:x<=3<;>simp[h]<;>omega
theorem ZGN (c:ZfG) (l:LnT) (d:Int) (hg:c.2.2.1.length+1<=most) (hr:l.2.2.1=false):(ZVA c l d).val=some (ZbM c l d,ZyO c l d):=by
 have h1:=λx=>len1 c.2.2.1 x hg
 obtain⟨t1,t2⟩:=ZnR c.2.2.2.2.1;unfold ZVA ZbM ZyO;simp only[ZAJ,hr,Yc,RT.val,(h1 0).1,(h1 _).2,Yb,Yh,ZTn,ZZk,endX,ZgM,idlX,Zm2,Zpy,gt3];have:Zac c.2.2.2.2.1=1\/Zac c.2.2.2.2.1=2\/Zac c.2.2.2.2.1=7\/Zac c.2.2.2.2.1=3\/Zac c.2.2.2.2.1=4\/Zac c.2.2.2.2.1=5\/Zac c.2.2.2.2.1=6\/Zac c.2.2.2.2.1=8\/Zac c.2.2.2.2.1=9:=by omega
 rcases this with h|h|h|h|h|h|h|h|h<;>simp only[h,Int.reduceBEq,Int.reduceBNe,Yb,Yc,Yj,Yu,Y3,YT,YV,YP,Yf,Ym,gt_iff_lt,show IntKind.wrap .i64 (4+1)=4+1 from rfl,show IntKind.wrap .i64 (5+1)=5+1 from rfl]
 ·cases Zb4 c.2.2.2.1.1<;>cases l.1<;>rfl
 ·cases Zb4 c.2.2.2.1.1<;>cases l.1<;>rfl
 ·cases hA:le3 (ZgM (Zk c.1 l) c.2.2.2.1 d).2.2.2<;>cases hB:(Zi (Zk c.1 l) c.2.1 (c.2.2.1++[(ZgM (Zk c.1 l) c.2.2.2.1 d).2.2.1])).2<;>simp only[ZgM] at hA hB<;>simp only[hA,hB,Yb,Yc,Yf,Ym,YV,Y3,YT]<;>with_reducible rfl
 ·cases decide (4<c.2.2.2.1.2.2.2)<;>cases (Zi (Zk c.1 l) c.2.1 c.2.2.1).2<;>rfl
 ·cases decide (5<c.2.2.2.1.2.2.2)<;>cases (Zi (Zk c.1 l) c.2.1 c.2.2.1).2<;>rfl
 ·cases (Zi (Zk c.1 l) c.2.1 c.2.2.1).2<;>rfl
 ·have hb:(ZeJ (Zk c.1 l) l !=0)= !(ZeJ (Zk c.1 l) l==0):=rfl;rw[hb];cases hk:(ZeJ (Zk c.1 l) l==0)<;>rfl
theorem Z7B (t x:Int):decide (t<x)= !decide (x<=t):=by by_cases h:x<=t<;>simp[h]<;>omega
theorem ZAU (c:ZfG) (l:LnT) (d:Int) (hg:c.2.2.1.length+1<=most):(Zli c l d).val=some (ZbM c l d,Zmt c l d):=by
 obtain⟨t1,t2⟩:=ZnR c.2.2.2.2.1;cases hr:l.2.2.1 with
 |true=>
  have hb:ZfV (Z1 c.1) 0=(Z1 c.1,0,[],(Zi (Z1 c.1) 0 []).1,1,false):=rfl;simp only[Zli,RT.val,hr,Yb,ZbM,Zmt,ZLM,hb];rw[<-Zn4,ZTM c.1.1 10 (by decide) (by decide) c.2.2.2.1 d 0 _ _ _ (λh=>absurd rfl h),Z66 c.1.1 _ (ZWM c (Zac c.2.2.2.2.1)) 0]
 |false=>
  have h:=ZGN c l d hg hr;have h1:ZVB c l d=true:=by simp only[ZVB,h,okB]
  have h2:(pAdv c l d).1=ZbM c l d:=by simp only[pAdv,h,getO]
  simp only[Zli,RT.val,hr,Yc,h1,Yb,h2,Zmt,ZAJ];rw[ZTM c.1.1 (Zac c.2.2.2.2.1) t1 (by omega) c.2.2.2.1 d d _ _ _ (λ_=>rfl)];simp only[ZWM]
theorem ZzW (c:ZfG) (l:LnT) (d:Int) (hg:c.2.2.1.length+1<=most):(Zk8 c l d).val=some (ZbM c l d,Zmt c l d):=by
 obtain⟨t1,t2⟩:=ZnR c.2.2.2.2.1;have hx:ZWM c (Zac c.2.2.2.2.1)=(bif Zac c.2.2.2.2.1==9 then 0 else c.2.2.2.1.1,bif Zac c.2.2.2.2.1==9 then c.1.2.1.2.2.2.2.2.2.2.2.2 else c.2.2.2.1.2.1,bif Zac c.2.2.2.2.1==9 then 0 else c.2.2.2.1.2.2.1,bif Zac c.2.2.2.2.1==9 then 0 else c.2.2.2.1.2.2.2):=by unfold ZWM;cases Zac c.2.2.2.2.1==9<;>simp only[Yb,Yc,Yf,Ym,YV,Y3,YT,YP,Yh,Yu,Yt,Yj]
 have hl:Nat.ble c.2.2.1.length most=true:=(len1 c.2.2.1 0 hg).1;cases hr:l.2.2.1 with
 |true=>
  simp only[Zk8,RT.val,hr,Yb,ZbM,Zmt,ZLM,ZzP,<-hx];rw[<-Z4z,<-Zn4]
 |false=>
  simp only[Zk8,RT.val,hr,Yc,List.nil_append,hl,Yb,ZzP,ZzQ,Z3Q,<-hx,Zmt];have:Zac c.2.2.2.2.1=1\/Zac c.2.2.2.2.1=2\/Zac c.2.2.2.2.1=7\/Zac c.2.2.2.2.1=3\/Zac c.2.2.2.2.1=4\/Zac c.2.2.2.2.1=5\/Zac c.2.2.2.2.1=6\/Zac c.2.2.2.2.1=8\/Zac c.2.2.2.2.1=9:=by omega
  have q3:=ZYs (Zk c.1 l,c.2.1,c.2.2.1,c.2.2.2) d hg;rcases this with h|h|h|h|h|h|h|h|h
  ·simp only[ZbM,hr,h,Int.reduceBEq,Yb,Yc]
  ·simp only[ZbM,hr,h,Int.reduceBEq,Yb,Yc,Yt];cases l.1|| !Zb4 c.2.2.2.1.1<;>simp only[Yb,Yc,Yf,Ym,YV,Y3,YT,YP,Yh,Yu,Yt,Yj]
  ·simp only[ZbM,hr,h,Int.reduceBEq,Yb,Yc,Yh];cases l.1|| !Zb4 c.2.2.2.1.1<;>simp only[Yb,Yc,Yf,Ym,YV,Y3,YT,YP,Yh,Yu,Yt,Yj]
  ·have e1:ZfU (Zk c.1 l,c.2.1,c.2.2.1,c.2.2.2) 3 d=true:=by simp only[ZfU,q3,okB]
   have e2:ZiR (Zk c.1 l,c.2.1,c.2.2.1,c.2.2.2) 3 d=(ZgM (Zk c.1 l) c.2.2.2.1 d,c.2.2.1++[(ZgM (Zk c.1 l) c.2.2.2.1 d).2.2.1]):=by simp only[ZiR,q3,getO]
   simp only[ZbM,hr,h,Int.reduceBEq,Yb,Yc,Yaa,e1,e2,Zwc,Ztb,RT.val];rw[show decide ((ZgM (Zk c.1 l) c.2.2.2.1 d).2.2.2<=3)=le3 (ZgM (Zk c.1 l) c.2.2.2.1 d).2.2.2 from rfl];cases le3 (ZgM (Zk c.1 l) c.2.2.2.1 d).2.2.2<;>rfl
  ·have q:=Zn0 (Zk c.1 l,c.2.1,c.2.2.1,c.2.2.2) 4 d (by decide);have e1:ZfU (Zk c.1 l,c.2.1,c.2.2.1,c.2.2.2) 4 d=true:=by simp only[ZfU,q,okB]
   have e2:ZiR (Zk c.1 l,c.2.1,c.2.2.1,c.2.2.2) 4 d=(c.2.2.2.1,c.2.2.1):=by simp only[ZiR,q,getO]
   simp only[ZbM,hr,h,Int.reduceBEq,Yb,Yc,Yaa,Ym,YV,e1,e2,Zwc,Ztb,RT.val,show IntKind.wrap .i64 (4+1)=4+1 from rfl,Z7B];cases decide (c.2.2.2.1.2.2.2<=4)<;>rfl
  ·have q:=Zn0 (Zk c.1 l,c.2.1,c.2.2.1,c.2.2.2) 5 d (by decide);have e1:ZfU (Zk c.1 l,c.2.1,c.2.2.1,c.2.2.2) 5 d=true:=by simp only[ZfU,q,okB]
   have e2:ZiR (Zk c.1 l,c.2.1,c.2.2.1,c.2.2.2) 5 d=(c.2.2.2.1,c.2.2.1):=by simp only[ZiR,q,getO]
   simp only[ZbM,hr,h,Int.reduceBEq,Yb,Yc,Yaa,Ym,YV,e1,e2,Zwc,Ztb,RT.val,show IntKind.wrap .i64 (5+1)=5+1 from rfl,Z7B];cases decide (c.2.2.2.1.2.2.2<=5)<;>rfl
  ·have q:=Zn0 (Zk c.1 l,c.2.1,c.2.2.1,c.2.2.2) 6 d (by decide);have e1:ZfU (Zk c.1 l,c.2.1,c.2.2.1,c.2.2.2) 6 d=true:=by simp only[ZfU,q,okB]
   have e2:ZiR (Zk c.1 l,c.2.1,c.2.2.1,c.2.2.2) 6 d=(c.2.2.2.1,c.2.2.1):=by simp only[ZiR,q,getO]
   simp only[ZbM,hr,h,Int.reduceBEq,Yb,Yc,Yaa,Yf,Y3,e1,e2,Zwc,Ztb,RT.val]
  ·simp only[ZbM,hr,h,Int.reduceBEq,Yb,Yc,Yaa,Zju,Zjt,RT.val,idlX];cases l.2.1<;>rfl
  ·have hb:(ZeJ (Zk c.1 l) l !=0)= !(ZeJ (Zk c.1 l) l==0):=rfl;simp only[ZbM,hr,h,Int.reduceBEq,Yb,Yc,Yaa,hb];cases hk:(ZeJ (Zk c.1 l) l==0)<;>rfl
def Zms (c:ZfG):Bool:=Nat.ble (c.2.2.1.length+1) most
theorem ZdV {c:ZfG}:Zms c=true↔c.2.2.1.length+1<=most:=by simp[Zms]
def clkX (c:ZfG) (l:LnT) (d:Int):ZfG×PinT:=(ZbM c l d,Zmt c l d)
def Zj2:En:=Zf ZVz Zna (λa=>some (Zms a.1)) (λa=>clkX a.1 a.2.1 a.2.2)
theorem ZtA:Za prog 138 Zj2:=ZVr.pure_congr
 (λa h hp=>by have h1:=ZAU a.1 a.2.1 a.2.2 (ZdV.1 (by simpa using hp));simp[ZVs,h1,okB])
 (λa h hp=>by have h1:=ZAU a.1 a.2.1 a.2.2 (ZdV.1 (by simpa using hp));simp only[Z2D,h1,getO,clkX])
def ZJE:En:=Zf ZVz Zna (λa=>some (Zms a.1)) (λa=>clkX a.1 a.2.1 a.2.2)
theorem ZNs:Za prog 178 ZJE:=ZS0.pure_congr
 (λa h hp=>by have h1:=ZzW a.1 a.2.1 a.2.2 (ZdV.1 (by simpa using hp));simp[ZS1,h1,okB])
 (λa h hp=>by have h1:=ZzW a.1 a.2.1 a.2.2 (ZdV.1 (by simpa using hp));simp only[Z2b,h1,getO,clkX])
def ZVC:En:=Zf ZVz ZKR (λa=>some (Zms a.1&& !a.2.1.2.2.1)) (λa=>(ZbM a.1 a.2.1 a.2.2,ZyO a.1 a.2.1 a.2.2))
theorem ZZ6:Za prog 130 ZVC:=ZVy.pure_congr
 (λa h hp=>by
  have hp:(Zms a.1&& !a.2.1.2.2.1)=true:=by simpa using hp
  simp only[Ya,YE] at hp
  have h1:=ZGN a.1 a.2.1 a.2.2 (ZdV.1 hp.1) hp.2;simp[ZVB,h1,okB])
 (λa h hp=>by
  have hp:(Zms a.1&& !a.2.1.2.2.1)=true:=by simpa using hp
  simp only[Ya,YE] at hp
  have h1:=ZGN a.1 a.2.1 a.2.2 (ZdV.1 hp.1) hp.2;simp only[pAdv,h1,getO])
def newX (chip:Int):ZfG:=ZCw (Z1 (chip,(0,0,0,0,0,0,0,(false,false,false,false,false,false,false),0,0),false,false,false,0,false,false,false,false,false,false,false)) 0
theorem Z3N (chip:Int):rNew chip=newX chip:=by unfold newX;rw[ZLM];simp only[rNew,Z35,RT.val,Z1,Zk4,ZaG]
theorem Z4u (chip:Int):pNew chip=newX chip:=by
 have hb:∀c,ZfV c 0=ZCw c 0:=λ_=>rfl
 unfold newX;simp only[pNew,Z4Y,RT.val,hb];rw[ZLM];simp only[Z1,Zk4,RT.val,ZaG]
def ZUF:En:=Zf ZA3 ZKi (λ_=>none) (λa=>newX a)
theorem ZZO:Za prog 97 ZUF:=Z4X.tot (λa h=>by simp) (λa h=>Z4u _)
def Z1S:En:=Zf ZA3 ZKi (λ_=>none) (λa=>newX a)
theorem ZYZ:Za prog 100 Z1S:=ZSs.tot (λa h=>by simp) (λa h=>Z3N _)
abbrev ZK9:List Sh:=[So Kc,So Kc]
def Zq2 (x:Int) (n:Int):RT (Option (Int)):=
 .br (IntKind.u64.wrap n !=0) (Ls (i64.wrap (Int.tmod (IntKind.u64.wrap x) (IntKind.u64.wrap n)))) Ln
def ZLa (x:Int) (n:Int):Int:=getO Z2v.Df (Zq2 x n).val
def Zyl (x:Int) (n:Int):Bool:=okB (Zq2 x n).val
def ZWi:En:=Zf ZK9 Z2v (λa=>some (Zyl a.1 a.2)) (λa=>ZLa a.1 a.2)
theorem ZWg:Za prog 47 ZWi:=
 pureP 31 [] [] ZK9 Z2v trivial Tryz.func47 Tryz.call47 trivial (t:=λa=>Zq2 a.1 a.2)
abbrev ZG2:R:=R.Pq (R.sl Kc) Kc
def ZqN (s:List Int×Int) (n:Int):RT (Option (QT22)):=
 let x1:=Zg (i64.wrap (i64.wrap (s.2+1)-1)) (Le s.1)
 let x2:Int:=R.get Kc s.1 (i64.wrap (i64.wrap (s.2+1)-1))
 .br (decide (s.2>=iN (Le s.1))) (Ls ((0,s.1,i64.wrap (s.2+1)))) (.br (!x1||Zyl x2 n) (.br (x1) (Ls ((ZLa x2 n,s.1,i64.wrap (s.2+1)))) Ln) Ln)
def Zd (s:List Int×Int) (n:Int):QT22:=getO (Z2v.Df,ZG2.Df) (ZqN s n).val
def Zj (s:List Int×Int) (n:Int):Bool:=okB (ZqN s n).val
def Zc3:En:=boxE ZG2 ZA3 Z2v (λa=>some (Zj a.1 a.2)) (λa=>Zd a.1 a.2)
theorem Za5:Za prog 68 Zc3:=
 ZcB (P:=prog) (n:=31) (k:=8) (l:=[(47,ZWi)]) (ol:=[]) ⟨ZWg,Tv⟩ Tryz.func68 rfl (by kernel_rfl) Tryz.call68 trivial (rb:=ZG2) (ts:=ZA3) (rs:=Z2v) (t:=λa=>ZqN a.1 a.2) (λa=>by kernel_rfl)
def ZqS (s:List Int×Int):RT (Option (QT22)):=
 let x1:List Int:=[0,1,127,128,255,15,16,153,154,9,102,254,129,85,170,64]
 .br (Zj s 512) (.br (!decide ((Zd s 512).1>=256)||Zg (Int.tmod (Zd s 512).1 16) (Le x1)) (.br (decide ((Zd s 512).1>=256)) (Ls ((R.get Ka x1 (Int.tmod (Zd s 512).1 16),(Zd s 512).2))) (Ls ((u8.wrap (Zd s 512).1,(Zd s 512).2)))) Ln) Ln
def ZcX (s:List Int×Int):QT22:=getO (ZVv.Df,ZG2.Df) (ZqS s).val
def Zfs (s:List Int×Int):Bool:=okB (ZqS s).val
def ZtH:En:=boxE ZG2 ZAG ZVv (λa=>some (Zfs a.1)) (λa=>ZcX a.1)
theorem Zka:Za prog 71 ZtH:=
 ZcB (P:=prog) (n:=15) (k:=8) (l:=[(68,Zc3)]) (ol:=[]) ⟨Za5,Tv⟩ Tryz.func71 rfl (by kernel_rfl) Tryz.call71 trivial (rb:=ZG2) (ts:=ZAG) (rs:=ZVv) (t:=λa=>ZqS a.1) (λa=>by kernel_rfl)
def Zj6 (s:List Int×Int):RT (Option (QT22)):=
 let x1:List Int:=[0,1,65535,65534,32767,32768,255,256]
 let x2:= !(Zd s 5).1==0||(!Zj (Zd s 5).2 8||Zg (Zd (Zd s 5).2 8).1 (Le x1))
 let x3:= !x2
 let x4:= !(Zd s 5).1==0||Zj (Zd s 5).2 8
 .br (Zj s 5) (.br (x3||(!x4||((Zd s 5).1==0||(!(Zd s 5).1==1||Zj (Zd s 5).2 65536)))) (.br (x3||x4) (.br (x2) (.br ((Zd s 5).1==0) (Ls ((R.get Kb x1 (Zd (Zd s 5).2 8).1,(Zd (Zd s 5).2 8).2))) (.br ((Zd s 5).1==1) (Ls ((u16.wrap (Zd (Zd s 5).2 65536).1,(Zd (Zd s 5).2 65536).2))) (.br (Zj (Zd s 5).2 64) (Ls ((u16.wrap (Zd (Zd s 5).2 64).1,(Zd (Zd s 5).2 64).2))) Ln))) Ln) Ln) Ln) Ln
def Zb9 (s:List Int×Int):QT22:=getO (ZGt.Df,ZG2.Df) (Zj6 s).val
def ZgI (s:List Int×Int):Bool:=okB (Zj6 s).val
def ZVP:En:=boxE ZG2 ZAG ZGt (λa=>some (ZgI a.1)) (λa=>Zb9 a.1)
theorem ZKU:Za prog 70 ZVP:=
 ZcB (P:=prog) (n:=4135) (k:=8) (l:=[(68,Zc3)]) (ol:=[]) ⟨Za5,Tv⟩ Tryz.func70 rfl (by kernel_rfl) Tryz.call70 trivial (rb:=ZG2) (ts:=ZAG) (rs:=ZGt) (t:=λa=>Zj6 a.1) (λa=>by kernel_rfl)
def ZBE (s:List Int×Int):RT (Option (QT22)):=
 .br (Zj s 2) (Ls ((i64.wrap (1+(Zd s 2).1),(Zd s 2).2))) Ln
def Za8 (s:List Int×Int):QT22:=getO (Z2v.Df,ZG2.Df) (ZBE s).val
def ZqR (s:List Int×Int):Bool:=okB (ZBE s).val
def ZV2:En:=boxE ZG2 ZAG Z2v (λa=>some (ZqR a.1)) (λa=>Za8 a.1)
theorem ZK0:Za prog 122 ZV2:=
 ZcB (P:=prog) (n:=7) (k:=8) (l:=[(68,Zc3)]) (ol:=[]) ⟨Za5,Tv⟩ Tryz.func122 rfl (by kernel_rfl) Tryz.call122 trivial (rb:=ZG2) (ts:=ZAG) (rs:=Z2v) (t:=λa=>ZBE a.1) (λa=>by kernel_rfl)
def Zgo (s:List Int×Int):RT (Option (QT22)):=
 let x1:List Int:=[251,243,118,205,201,197,227,211,219,54,52,32,48,194,202,255,62,49]
 .br (Zj s 3) (.br (!decide ((Zd s 3).1>0)||Zj (Zd s 3).2 256) (.br (decide ((Zd s 3).1>0)) (Ls ((u8.wrap (Zd (Zd s 3).2 256).1,(Zd (Zd s 3).2 256).2))) (.br (!Zj (Zd s 3).2 18||Zg (Zd (Zd s 3).2 18).1 (Le x1)) (.br (Zj (Zd s 3).2 18) (Ls ((R.get Ka x1 (Zd (Zd s 3).2 18).1,(Zd (Zd s 3).2 18).2))) Ln) Ln)) Ln) Ln
def Zat (s:List Int×Int):QT22:=getO (ZVv.Df,ZG2.Df) (Zgo s).val
def Zcy (s:List Int×Int):Bool:=okB (Zgo s).val
def Zic:En:=boxE ZG2 ZAG ZVv (λa=>some (Zcy a.1)) (λa=>Zat a.1)
theorem ZfZ:Za prog 119 Zic:=
 ZcB (P:=prog) (n:=7) (k:=8) (l:=[(68,Zc3)]) (ol:=[]) ⟨Za5,Tv⟩ Tryz.func119 rfl (by kernel_rfl) Tryz.call119 trivial (rb:=ZG2) (ts:=ZAG) (rs:=ZVv) (t:=λa=>Zgo a.1) (λa=>by kernel_rfl)
def NB (s:List Int×Int) (k:Int):Prop:=0<=s.2/\s.2<=k
theorem ZWh (x n:Int) (h0:0<n) (h1:n<=4611686018427387904):Zyl x n=true/\ZLa x n=(x%18446744073709551616)%n:=by
 have e:IntKind.wrap .u64 n=n:=Zno ⟨by simp[IntKind.min,IntKind.signed];omega,by simp[IntKind.max,IntKind.signed,IntKind.bits];omega⟩;have e2:IntKind.wrap .u64 x=x%18446744073709551616:=by simp[IntKind.wrap,IntKind.signed,IntKind.bits]
 have hn:(n !=0)=true:=by simp;omega
 have h2:0<=x%18446744073709551616:=Int.emod_nonneg _ (by decide);have h3:=Int.emod_nonneg (x%18446744073709551616) (b:=n) (by omega);have h4:=Int.emod_lt_of_pos (x%18446744073709551616) (b:=n) h0;have hv:(Zq2 x n).val=some ((x%18446744073709551616)%n):=by simp only[Zq2,RT.val,e,e2,hn,Yb,Int.tmod_eq_emod_of_nonneg h2];rw[wrap_i64 _ (by omega) (by omega)]
 exact⟨by simp only[Zyl,hv];rfl,by simp only[ZLa,hv,getO]⟩
variable {s:List Int×Int} {k:Int}
theorem Zp (h:NB s k) (hk:k<=1000000) (n:Int) (h0:0<n) (h1:n<=4611686018427387904):
  Zj s n=true/\NB (Zd s n).2 (k+1)/\0<=(Zd s n).1/\(Zd s n).1<n:=by
 obtain⟨ha,hb⟩:=h;have e1:IntKind.wrap .i64 (s.2+1)=s.2+1:=wrap_i64 _ (by omega) (by omega);have e2:IntKind.wrap .i64 s.2=s.2:=wrap_i64 _ (by omega) (by omega);by_cases hl:(s.1.length:Int)<=s.2
 ·have hv:(ZqN s n).val=some (0,s.1,s.2+1):=by simp[ZqN,RT.val,iN,hl,e1]
  simp only[Zj,Zd,hv,okB,getO,NB];exact⟨trivial,⟨by omega,by omega⟩,by omega,h0⟩
 ·have hr:Zg s.2 s.1.length=true:=Z0.2 ⟨ha,by omega⟩;obtain⟨p1,p2⟩:=ZWh (R.get (R.int i64) s.1 s.2) n h0 h1;have h3:=Int.emod_nonneg (R.get (R.int i64) s.1 s.2%18446744073709551616) (b:=n) (by omega);have h4:=Int.emod_lt_of_pos (R.get (R.int i64) s.1 s.2%18446744073709551616) (b:=n) h0;have hv:(ZqN s n).val=some ((R.get (R.int i64) s.1 s.2%18446744073709551616)%n,s.1,s.2+1):=by simp[ZqN,RT.val,iN,hl,e1,e2,hr,p1,p2]
  simp only[Zj,Zd,hv,okB,getO,NB];exact⟨trivial,⟨by omega,by omega⟩,h3,h4⟩
theorem Zie (h:NB s k) (hk:k<=1000000):Zfs s=true/\NB (ZcX s).2 (k+1)/\inR .u8 (ZcX s).1:=by
 obtain⟨c,b,d0,d1⟩:=Zp h hk 512 (by decide) (by decide);have m0:0<=(Zd s 512).1%16:=Int.emod_nonneg _ (by decide);have m1:(Zd s 512).1%16<16:=Int.emod_lt_of_pos _ (by decide);have ht:Int.tmod (Zd s 512).1 16=(Zd s 512).1%16:=Int.tmod_eq_emod_of_nonneg d0;by_cases hn:256<=(Zd s 512).1
 ·have hv:(ZqS s).val=some (R.get (R.int u8) [0,1,127,128,255,15,16,153,154,9,102,254,129,85,170,64] ((Zd s 512).1%16),(Zd s 512).2):=by simp[ZqS,RT.val,c,hn,ht,Zg,m0,m1]
  simp only[Zfs,ZcX,hv,okB,getO];refine⟨trivial,b,?_⟩;have hall:∀i:Nat,i<16->inR .u8 (([0,1,127,128,255,15,16,153,154,9,102,254,129,85,170,64]:List Int).getD i 0):=by
   intro i hi;have:∀i:Fin 16,decide (0<=([0,1,127,128,255,15,16,153,154,9,102,254,129,85,170,64]:List Int).getD i 0)&&decide (([0,1,127,128,255,15,16,153,154,9,102,254,129,85,170,64]:List Int).getD i 0<=255):=by decide
   have:=this ⟨i,hi⟩;rw[Zfv];simpa using this
  exact hall ((Zd s 512).1%16).toNat (by omega)
 ·have hv:(ZqS s).val=some (IntKind.wrap .u8 (Zd s 512).1,(Zd s 512).2):=by simp[ZqS,RT.val,c,hn]
  simp only[Zfs,ZcX,hv,okB,getO];exact⟨trivial,b,Zax _ _⟩
theorem Z0c (h:NB s k) (hk:k<=900000):ZgI s=true/\NB (Zb9 s).2 (k+2)/\inR .u16 (Zb9 s).1:=by
 obtain⟨c,b,d0,d1⟩:=Zp h (by omega) 5 (by decide) (by decide);obtain⟨c8,b8,e0,e1⟩:=Zp b (by omega) 8 (by decide) (by decide);obtain⟨c6,b6,_⟩:=Zp b (by omega) 65536 (by decide) (by decide);obtain⟨c4,b4,_⟩:=Zp b (by omega) 64 (by decide) (by decide);have w:∀{t:List Int×Int},NB t (k+1+1)->NB t (k+2):=λh=>⟨h.1,by have:=h.2;omega⟩
 have hr:Zg (Zd (Zd s 5).2 8).1 8=true:=Z0.2 ⟨e0,by omega⟩;by_cases h0:(Zd s 5).1=0
 ·have hv:(Zj6 s).val=some (R.get (R.int u16) [0,1,65535,65534,32767,32768,255,256] (Zd (Zd s 5).2 8).1,(Zd (Zd s 5).2 8).2):=by simp[Zj6,RT.val,c,h0,c8,hr]
  simp only[ZgI,Zb9,hv,okB,getO];refine⟨trivial,w b8,?_⟩;have hall:∀i:Nat,i<8->inR .u16 (([0,1,65535,65534,32767,32768,255,256]:List Int).getD i 0):=by
   intro i hi;have:∀i:Fin 8,decide (0<=([0,1,65535,65534,32767,32768,255,256]:List Int).getD i 0)&&decide (([0,1,65535,65534,32767,32768,255,256]:List Int).getD i 0<=65535):=by decide
   have:=this ⟨i,hi⟩;simp only[Ya,Yi] at this;exact⟨by simpa [IntKind.min,IntKind.signed] using this.1,by simpa [IntKind.max,IntKind.signed,IntKind.bits] using this.2⟩
  exact hall (Zd (Zd s 5).2 8).1.toNat (by omega)
 ·by_cases h1:(Zd s 5).1=1
  ·have hv:(Zj6 s).val=some (IntKind.wrap .u16 (Zd (Zd s 5).2 65536).1,(Zd (Zd s 5).2 65536).2):=by simp[Zj6,RT.val,c,h1,c6]
   simp only[ZgI,Zb9,hv,okB,getO];exact⟨trivial,w b6,Zax _ _⟩
  ·have hv:(Zj6 s).val=some (IntKind.wrap .u16 (Zd (Zd s 5).2 64).1,(Zd (Zd s 5).2 64).2):=by
    have g0:((Zd s 5).1==0)=false:=by simpa using h0
    have g1:((Zd s 5).1==1)=false:=by simpa using h1
    simp[Zj6,RT.val,c,g0,g1,c4]
   simp only[ZgI,Zb9,hv,okB,getO];exact⟨trivial,w b4,Zax _ _⟩
theorem Z0e (h:NB s k) (hk:k<=1000000):ZqR s=true/\NB (Za8 s).2 (k+1)/\((Za8 s).1=1\/(Za8 s).1=2):=by
 obtain⟨c,b,d0,d1⟩:=Zp h hk 2 (by decide) (by decide);have hv:(ZBE s).val=some (1+(Zd s 2).1,(Zd s 2).2):=by simp[ZBE,RT.val,c];rw[wrap_i64 _ (by omega) (by omega)]
 simp only[ZqR,Za8,hv,okB,getO];exact⟨trivial,b,by omega⟩
theorem Zlv (h:NB s k) (hk:k<=900000):Zcy s=true/\NB (Zat s).2 (k+2)/\inR .u8 (Zat s).1:=by
 obtain⟨c,b,d0,d1⟩:=Zp h (by omega) 3 (by decide) (by decide);have w:∀{t:List Int×Int},NB t (k+1+1)->NB t (k+2):=λh=>⟨h.1,by have:=h.2;omega⟩
 by_cases hn:0<(Zd s 3).1
 ·have hk':k+1<=1000001:=by omega
  obtain⟨c2,b2,_⟩:=Zp b (by omega) 256 (by decide) (by decide);have hv:(Zgo s).val=some (IntKind.wrap .u8 (Zd (Zd s 3).2 256).1,(Zd (Zd s 3).2 256).2):=by simp[Zgo,RT.val,c,hn,c2]
  simp only[Zcy,Zat,hv,okB,getO];exact⟨trivial,w b2,Zax _ _⟩
 ·obtain⟨c2,b2,e0,e1⟩:=Zp b (by omega) 18 (by decide) (by decide);have hr:Zg (Zd (Zd s 3).2 18).1 18=true:=Z0.2 ⟨e0,by omega⟩;have hv:(Zgo s).val=some (R.get (R.int u8) [251,243,118,205,201,197,227,211,219,54,52,32,48,194,202,255,62,49] (Zd (Zd s 3).2 18).1,(Zd (Zd s 3).2 18).2):=by simp[Zgo,RT.val,c,hn,c2,hr]
  simp only[Zcy,Zat,hv,okB,getO];refine⟨trivial,w b2,?_⟩;have hall:∀i:Nat,i<18->inR .u8 (([251,243,118,205,201,197,227,211,219,54,52,32,48,194,202,255,62,49]:List Int).getD i 0):=by
   intro i hi;have:∀i:Fin 18,decide (0<=([251,243,118,205,201,197,227,211,219,54,52,32,48,194,202,255,62,49]:List Int).getD i 0)&&decide (([251,243,118,205,201,197,227,211,219,54,52,32,48,194,202,255,62,49]:List Int).getD i 0<=255):=by decide
   have:=this ⟨i,hi⟩;rw[Zfv];simpa using this
  exact hall (Zd (Zd s 3).2 18).1.toNat (by omega)
theorem ZHq (l:List Int):NB (l,0) 0:=⟨by simp,by simp⟩
