import Derived.Test.YtpnjbfjomebppaaGreatFinRX
import Derived.Test.YtpnjbfjomebppaaGreatFin1
import Derived.Test.YtpnjbfjomebppaaGreatFin2
import Derived.Test.YtpnjbfjomebppaaGreatFin3
import Derived.Test.YtpnjbfjomebppaaGreatFin4
open Go Go.S3 Go.Proofs
set_option linter.unusedVariables false
set_option linter.unusedSimpArgs false
set_option maxRecDepth 100000
namespace Go.Proofs.YtpnjbfjomebppaaGreat
noncomputable section
theorem fr_1 (c) (s:Int) (g:List Int) (l) (hb:∀j:Nat,inR .u8 (g[j]?.getD 0)) (n:Int) (hk:(Zb c.1 (g.getD 0 0)).1=n):(n=1->(ZFA c s g l).val=some (finX c s g l))/\(n=6->(ZFv c s g l).val=some (finX c s g l))/\(n=10->(ZwE c s g l).val=some (finX c s g l))/\(n=17->(Zwx c s g l).val=some (finX c s g l))/\(n=21->(Zwt c s g l).val=some (finX c s g l))/\(n=28->(Zwm c s g l).val=some (finX c s g l))/\(n=33->(Zwh c s g l).val=some (finX c s g l))/\(n=37->(Zwd c s g l).val=some (finX c s g l))/\(n=43->(Zv7 c s g l).val=some (finX c s g l)):=by
 refine⟨?_,?_,?_,?_,?_,?_,?_,?_,?_⟩;all_goals intro e;subst e
 all_goals simp only[ZFA,ZFv,ZwE,Zwx,Zwt,Zwm,Zwh,Zwd,Zv7,RT.val,rgx]
 all_goals simp only[qat0,mat0,qat1,mat1,rg0,hk,Zs,Z2,Zaf,ZG,ZH,Zw,Zx,ZaT,ZaW,Zc0,ZcZ,Zr,ZaE,finX,spOf]
 all_goals generalize Zc s=bi
 all_goals cases bi with
 |true=>simp[wPC,wSP]
 |false=>
  generalize (s==5)=bs;simp only[finI,hk,finR,wPC,wSP,wA,wF,fCY,fVCY,Zdz,flOf,ZK,pcOf,Zbk];generalize Zb c.1 (g.getD 0 0)=i at hk|-;simp (config:={implicitDefEqProofs:=false}) [Zcp,ZbK,Zb4,hk,Zg6,Zg8,Zg7,Zl8,Zl9,Zfb,Zfa,Zmf,hb]
theorem fr_2 (c) (s:Int) (g:List Int) (l) (hb:∀j:Nat,inR .u8 (g[j]?.getD 0)) (n:Int) (hk:(Zb c.1 (g.getD 0 0)).1=n):(n=3->(ZFy c s g l).val=some (finX c s g l))/\(n=7->(ZFu c s g l).val=some (finX c s g l))/\(n=11->(ZwD c s g l).val=some (finX c s g l))/\(n=18->(Zww c s g l).val=some (finX c s g l))/\(n=22->(Zws c s g l).val=some (finX c s g l))/\(n=29->(Zwl c s g l).val=some (finX c s g l))/\(n=34->(Zwg c s g l).val=some (finX c s g l))/\(n=40->(Zwa c s g l).val=some (finX c s g l))/\(n=44->(Zv6 c s g l).val=some (finX c s g l)):=by
 refine⟨?_,?_,?_,?_,?_,?_,?_,?_,?_⟩;all_goals intro e;subst e
 all_goals simp only[ZFy,ZFu,ZwD,Zww,Zws,Zwl,Zwg,Zwa,Zv6,RT.val,rgx]
 all_goals simp only[qat0,mat0,qat1,mat1,rg0,hk,Zs,Z2,Zaf,ZG,ZH,Zw,Zx,ZaT,ZaW,Zc0,ZcZ,Zr,ZaE,finX,spOf]
 all_goals generalize Zc s=bi
 all_goals cases bi with
 |true=>simp[wPC,wSP]
 |false=>
  generalize (s==5)=bs;simp only[finI,hk,finR,wPC,wSP,wA,wF,fCY,fVCY,Zdz,flOf,ZK,pcOf,Zbk];generalize Zb c.1 (g.getD 0 0)=i at hk|-;simp (config:={implicitDefEqProofs:=false}) [Zcp,ZbK,Zb4,hk,Zg6,Zg8,Zg7,Zl8,Zl9,Zfb,Zfa,Zmf,hb]
theorem fr_3 (c) (s:Int) (g:List Int) (l) (hb:∀j:Nat,inR .u8 (g[j]?.getD 0)) (n:Int) (hk:(Zb c.1 (g.getD 0 0)).1=n):(n=4->(ZFx c s g l).val=some (finX c s g l))/\(n=8->(ZFt c s g l).val=some (finX c s g l))/\(n=13->(ZwB c s g l).val=some (finX c s g l))/\(n=19->(Zwv c s g l).val=some (finX c s g l))/\(n=23->(Zwr c s g l).val=some (finX c s g l))/\(n=30->(Zwk c s g l).val=some (finX c s g l))/\(n=35->(Zwf c s g l).val=some (finX c s g l))/\(n=41->(Zv9 c s g l).val=some (finX c s g l))/\(n=46->(Zv4 c s g l).val=some (finX c s g l)):=by
 refine⟨?_,?_,?_,?_,?_,?_,?_,?_,?_⟩;all_goals intro e;subst e
 all_goals simp only[ZFx,ZFt,ZwB,Zwv,Zwr,Zwk,Zwf,Zv9,Zv4,RT.val,rgx]
 all_goals simp only[qat0,mat0,qat1,mat1,rg0,hk,Zs,Z2,Zaf,ZG,ZH,Zw,Zx,ZaT,ZaW,Zc0,ZcZ,Zr,ZaE,finX,spOf]
 all_goals generalize Zc s=bi
 all_goals cases bi with
 |true=>simp[wPC,wSP]
 |false=>
  generalize (s==5)=bs;simp only[finI,hk,finR,wPC,wSP,wA,wF,fCY,fVCY,Zdz,flOf,ZK,pcOf,Zbk];generalize Zb c.1 (g.getD 0 0)=i at hk|-;simp (config:={implicitDefEqProofs:=false}) [Zcp,ZbK,Zb4,hk,Zg6,Zg8,Zg7,Zl8,Zl9,Zfb,Zfa,Zmf,hb]
theorem fr_4 (c) (s:Int) (g:List Int) (l) (hb:∀j:Nat,inR .u8 (g[j]?.getD 0)) (n:Int) (hk:(Zb c.1 (g.getD 0 0)).1=n):(n=5->(ZFw c s g l).val=some (finX c s g l))/\(n=9->(ZFs c s g l).val=some (finX c s g l))/\(n=16->(Zwy c s g l).val=some (finX c s g l))/\(n=20->(Zwu c s g l).val=some (finX c s g l))/\(n=27->(Zwn c s g l).val=some (finX c s g l))/\(n=32->(Zwi c s g l).val=some (finX c s g l))/\(n=36->(Zwe c s g l).val=some (finX c s g l))/\(n=42->(Zv8 c s g l).val=some (finX c s g l))/\(n=47->(Zv3 c s g l).val=some (finX c s g l)):=by
 refine⟨?_,?_,?_,?_,?_,?_,?_,?_,?_⟩;all_goals intro e;subst e
 all_goals simp only[ZFw,ZFs,Zwy,Zwu,Zwn,Zwi,Zwe,Zv8,Zv3,RT.val,rgx]
 all_goals simp only[qat0,mat0,qat1,mat1,rg0,hk,Zs,Z2,Zaf,ZG,ZH,Zw,Zx,ZaT,ZaW,Zc0,ZcZ,Zr,ZaE,finX,spOf]
 all_goals generalize Zc s=bi
 all_goals cases bi with
 |true=>simp[wPC,wSP]
 |false=>
  generalize (s==5)=bs;simp only[finI,hk,finR,wPC,wSP,wA,wF,fCY,fVCY,Zdz,flOf,ZK,pcOf,Zbk];generalize Zb c.1 (g.getD 0 0)=i at hk|-;simp (config:={implicitDefEqProofs:=false}) [Zcp,ZbK,Zb4,hk,Zg6,Zg8,Zg7,Zl8,Zl9,Zfb,Zfa,Zmf,hb]
theorem fr_5 (c) (s:Int) (g:List Int) (l) (hb:∀j:Nat,inR .u8 (g[j]?.getD 0)) (n:Int) (hk:(Zb c.1 (g.getD 0 0)).1=n):(n=2->(ZFz c s g l).val=some (finX c s g l))/\(n=12->(ZwC c s g l).val=some (finX c s g l)):=by
 refine⟨?_,?_⟩;all_goals intro e;subst e
 all_goals simp only[ZFz,ZwC,RT.val,rgx]
 all_goals simp only[qat0,mat0,qat1,mat1,rg0,hk,Zs,Z2,Zaf,ZG,ZH,Zw,Zx,ZaT,ZaW,Zc0,ZcZ,Zr,ZaE,finX,spOf]
 all_goals generalize Zc s=bi
 all_goals cases bi with
 |true=>simp[wPC,wSP]
 |false=>
  generalize (s==5)=bs;simp only[finI,hk,finR,wPC,wSP,wA,wF,fCY,fVCY,Zdz,flOf,ZK,pcOf,Zbk];generalize Zb c.1 (g.getD 0 0)=i at hk|-;generalize (i.2.2.2.1==6)=b0;cases b0<;>simp (config:={implicitDefEqProofs:=false}) [Zcp,ZbK,Zb4,hk,Zg6,Zg8,Zg7,Zl8,Zl9,Zfb,Zfa,Zmf,hb]
theorem fr_6 (c) (s:Int) (g:List Int) (l) (hb:∀j:Nat,inR .u8 (g[j]?.getD 0)) (n:Int) (hk:(Zb c.1 (g.getD 0 0)).1=n):(n=14->(ZwA c s g l).val=some (finX c s g l))/\(n=15->(Zwz c s g l).val=some (finX c s g l)):=by
 refine⟨?_,?_⟩;all_goals intro e;subst e
 all_goals simp only[ZwA,Zwz,RT.val,rgx]
 all_goals simp only[qat0,mat0,qat1,mat1,rg0,hk,Zs,Z2,Zaf,ZG,ZH,Zw,Zx,ZaT,ZaW,Zc0,ZcZ,Zr,ZaE,finX,spOf]
 all_goals generalize Zc s=bi
 all_goals cases bi with
 |true=>simp[wPC,wSP]
 |false=>
  generalize (s==5)=bs;simp only[finI,hk,finR,wPC,wSP,wA,wF,fCY,fVCY,Zdz,flOf,ZK,pcOf,Zbk];generalize Zb c.1 (g.getD 0 0)=i at hk|-;generalize (i.2.2.1==6)=b0;cases b0<;>simp (config:={implicitDefEqProofs:=false}) [Zcp,ZbK,Zb4,hk,Zg6,Zg8,Zg7,Zl8,Zl9,Zfb,Zfa,Zmf,hb]
theorem fr_7 (c) (s:Int) (g:List Int) (l) (hb:∀j:Nat,inR .u8 (g[j]?.getD 0)) (n:Int) (hk:(Zb c.1 (g.getD 0 0)).1=n):(n=24->(Zwq c s g l).val=some (finX c s g l))/\(n=25->(Zwp c s g l).val=some (finX c s g l))/\(n=26->(Zwo c s g l).val=some (finX c s g l))/\(n=45->(Zv5 c s g l).val=some (finX c s g l)):=by
 refine⟨?_,?_,?_,?_⟩;all_goals intro e;subst e
 all_goals simp only[Zwq,Zwp,Zwo,Zv5,RT.val,rgx]
 all_goals simp only[qat0,mat0,qat1,mat1,rg0,hk,Zs,Z2,Zaf,ZG,ZH,Zw,Zx,ZaT,ZaW,Zc0,ZcZ,Zr,ZaE,finX,spOf]
 all_goals generalize Zc s=bi
 all_goals cases bi with
 |true=>simp[wPC,wSP]
 |false=>
  generalize (s==5)=bs;simp only[finI,hk,finR,wPC,wSP,wA,wF,fCY,fVCY,Zdz,flOf,ZK,pcOf,Zbk];generalize Zb c.1 (g.getD 0 0)=i at hk|-;generalize Zfe _ _=b0;cases b0<;>simp (config:={implicitDefEqProofs:=false}) [Zcp,ZbK,Zb4,hk,Zg6,Zg8,Zg7,Zl8,Zl9,Zfb,Zfa,Zmf,hb]
theorem fr_8 (c) (s:Int) (g:List Int) (l) (hb:∀j:Nat,inR .u8 (g[j]?.getD 0)) (n:Int) (hk:(Zb c.1 (g.getD 0 0)).1=n):(n=31->(Zwj c s g l).val=some (finX c s g l)):=by
 skip
 all_goals intro e;subst e
 all_goals simp only[Zwj,RT.val,rgx]
 all_goals simp only[qat0,mat0,qat1,mat1,rg0,hk,Zs,Z2,Zaf,ZG,ZH,Zw,Zx,ZaT,ZaW,Zc0,ZcZ,Zr,ZaE,finX,spOf]
 all_goals generalize Zc s=bi
 all_goals cases bi with
 |true=>simp[wPC,wSP]
 |false=>
  generalize (s==5)=bs;simp only[finI,hk,finR,wPC,wSP,wA,wF,fCY,fVCY,Zdz,flOf,ZK,pcOf,Zbk];generalize Zb c.1 (g.getD 0 0)=i at hk|-;generalize (i.2.2.2.2.1==3)=b0;cases b0<;>simp (config:={implicitDefEqProofs:=false}) [Zcp,ZbK,Zb4,hk,Zg6,Zg8,Zg7,Zl8,Zl9,Zfb,Zfa,Zmf,hb,Zhd,Zm0,RT.val]
theorem fr_9 (c) (s:Int) (g:List Int) (l) (hb:∀j:Nat,inR .u8 (g[j]?.getD 0)) (n:Int) (hk:(Zb c.1 (g.getD 0 0)).1=n):(n=38->(Zwc c s g l).val=some (finX c s g l)):=by
 skip
 all_goals intro e;subst e
 all_goals simp only[Zwc,RT.val,rgx]
 all_goals simp only[qat0,mat0,qat1,mat1,rg0,hk,Zs,Z2,Zaf,ZG,ZH,Zw,Zx,ZaT,ZaW,Zc0,ZcZ,Zr,ZaE,finX,spOf]
 all_goals generalize Zc s=bi
 all_goals cases bi with
 |true=>simp[wPC,wSP]
 |false=>
  generalize (s==5)=bs;simp only[finI,hk,finR,wPC,wSP,wA,wF,fCY,fVCY,Zdz,flOf,ZK,pcOf,Zbk];generalize Zb c.1 (g.getD 0 0)=i at hk|-;simp[Zcp,ZbK,Zb4,hk,Z2z];rfl
theorem fr_10 (c) (s:Int) (g:List Int) (l) (hb:∀j:Nat,inR .u8 (g[j]?.getD 0)) (n:Int) (hk:(Zb c.1 (g.getD 0 0)).1=n):(n=39->(Zwb c s g l).val=some (finX c s g l)):=by
 skip
 all_goals intro e;subst e
 all_goals simp only[Zwb,RT.val,rgx]
 all_goals simp only[qat0,mat0,qat1,mat1,rg0,hk,Zs,Z2,Zaf,ZG,ZH,Zw,Zx,ZaT,ZaW,Zc0,ZcZ,Zr,ZaE,finX,spOf]
 all_goals generalize Zc s=bi
 all_goals cases bi with
 |true=>simp[wPC,wSP]
 |false=>
  generalize (s==5)=bs;simp only[finI,hk,finR,wPC,wSP,wA,wF,fCY,fVCY,Zdz,flOf,ZK,pcOf,Zbk];generalize Zb c.1 (g.getD 0 0)=i at hk|-;simp[Zcp,ZbK,Zb4,hk,rSim,ZSI,RT.val]
theorem Z5h (a:HL ZZ) (h:okHL ZZ a):∃l,Zdp Tryz.prog l/\(Zft (envX Tryz.prog l [] 79250227772808467515411824639 8) Tryz.f164 ZZ ZU0 a).val=some (finX a.1 a.2.1 a.2.2.1 a.2.2.2):=by
 have hk:=ZyW a.1.1 _ (Zy0 h.2.2.1);have hb:∀j:Nat,inR .u8 (a.2.2.1[j]?.getD 0):=λj=>by
  cases hj:a.2.2.1[j]? with
  |none=>rw[Zfj];simp
  |some x=>exact h.2.2.1.2 x (List.mem_of_getElem? hj)
 refine⟨Z5i (Zb a.1.1 (a.2.2.1.getD 0 0)).1,ZZ3 _,?_⟩;show (EV2 _ a).val=_;have f1:=fr_1 a.1 a.2.1 a.2.2.1 a.2.2.2 hb;have f5:=fr_5 a.1 a.2.1 a.2.2.1 a.2.2.2 hb;have f2:=fr_2 a.1 a.2.1 a.2.2.1 a.2.2.2 hb;have f3:=fr_3 a.1 a.2.1 a.2.2.1 a.2.2.2 hb;have f4:=fr_4 a.1 a.2.1 a.2.2.1 a.2.2.2 hb;have f6:=fr_6 a.1 a.2.1 a.2.2.1 a.2.2.2 hb;have f7:=fr_7 a.1 a.2.1 a.2.2.1 a.2.2.2 hb;have f8:=fr_8 a.1 a.2.1 a.2.2.1 a.2.2.2 hb;have f9:=fr_9 a.1 a.2.1 a.2.2.1 a.2.2.2 hb;have f10:=fr_10 a.1 a.2.1 a.2.2.1 a.2.2.2 hb;rcases ZyV hk.1 hk.2 with e|e|e|e|e|e|e|e|e|e|e|e|e|e|e|e|e|e|e|e|e|e|e|e|e|e|e|e|e|e|e|e|e|e|e|e|e|e|e|e|e|e|e|e|e|e|e
 ·rw[e,ZTM a,((f1 _ e).1 rfl)]
 ·rw[e,ZTL a,((f5 _ e).1 rfl)]
 ·rw[e,ZTK a,((f2 _ e).1 rfl)]
 ·rw[e,ZTJ a,((f3 _ e).1 rfl)]
 ·rw[e,ZTI a,((f4 _ e).1 rfl)]
 ·rw[e,ZTH a,((f1 _ e).2.1 rfl)]
 ·rw[e,ZTG a,((f2 _ e).2.1 rfl)]
 ·rw[e,ZTF a,((f3 _ e).2.1 rfl)]
 ·rw[e,ZTE a,((f4 _ e).2.1 rfl)]
 ·rw[e,ZOi a,((f1 _ e).2.2.1 rfl)]
 ·rw[e,ZOh a,((f2 _ e).2.2.1 rfl)]
 ·rw[e,ZOg a,((f5 _ e).2 rfl)]
 ·rw[e,ZOf a,((f3 _ e).2.2.1 rfl)]
 ·rw[e,ZOe a,((f6 _ e).1 rfl)]
 ·rw[e,ZOd a,((f6 _ e).2 rfl)]
 ·rw[e,ZOc a,((f4 _ e).2.2.1 rfl)]
 ·rw[e,ZOb a,((f1 _ e).2.2.2.1 rfl)]
 ·rw[e,ZOa a,((f2 _ e).2.2.2.1 rfl)]
 ·rw[e,ZN9 a,((f3 _ e).2.2.2.1 rfl)]
 ·rw[e,ZN8 a,((f4 _ e).2.2.2.1 rfl)]
 ·rw[e,ZN7 a,((f1 _ e).2.2.2.2.1 rfl)]
 ·rw[e,ZN6 a,((f2 _ e).2.2.2.2.1 rfl)]
 ·rw[e,ZN5 a,((f3 _ e).2.2.2.2.1 rfl)]
 ·rw[e,ZN4 a,((f7 _ e).1 rfl)]
 ·rw[e,ZN3 a,((f7 _ e).2.1 rfl)]
 ·rw[e,ZN2 a,((f7 _ e).2.2.1 rfl)]
 ·rw[e,ZN1 a,((f4 _ e).2.2.2.2.1 rfl)]
 ·rw[e,ZN0 a,((f1 _ e).2.2.2.2.2.1 rfl)]
 ·rw[e,ZNZ a,((f2 _ e).2.2.2.2.2.1 rfl)]
 ·rw[e,ZNY a,((f3 _ e).2.2.2.2.2.1 rfl)]
 ·rw[e,ZNX a,((f8 _ e) rfl)]
 ·rw[e,ZNW a,((f4 _ e).2.2.2.2.2.1 rfl)]
 ·rw[e,ZNV a,((f1 _ e).2.2.2.2.2.2.1 rfl)]
 ·rw[e,ZNU a,((f2 _ e).2.2.2.2.2.2.1 rfl)]
 ·rw[e,ZNT a,((f3 _ e).2.2.2.2.2.2.1 rfl)]
 ·rw[e,ZNS a,((f4 _ e).2.2.2.2.2.2.1 rfl)]
 ·rw[e,ZNR a,((f1 _ e).2.2.2.2.2.2.2.1 rfl)]
 ·rw[e,ZNQ a,((f9 _ e) rfl)]
 ·rw[e,ZNP a,((f10 _ e) rfl)]
 ·rw[e,ZNO a,((f2 _ e).2.2.2.2.2.2.2.1 rfl)]
 ·rw[e,ZNN a,((f3 _ e).2.2.2.2.2.2.2.1 rfl)]
 ·rw[e,ZNM a,((f4 _ e).2.2.2.2.2.2.2.1 rfl)]
 ·rw[e,ZNL a,((f1 _ e).2.2.2.2.2.2.2.2 rfl)]
 ·rw[e,ZNK a,((f2 _ e).2.2.2.2.2.2.2.2 rfl)]
 ·rw[e,ZNJ a,((f7 _ e).2.2.2 rfl)]
 ·rw[e,ZNI a,((f3 _ e).2.2.2.2.2.2.2.2 rfl)]
 ·rw[e,ZNH a,((f4 _ e).2.2.2.2.2.2.2.2 rfl)]
def Z5j:En:=Zg ZZ ZU0 (λ_=>none) (λa=>finX a.1 a.2.1 a.2.2.1 a.2.2.2)
theorem ZTD:Za Tryz.prog 164 Z5j:=Zna Tryz.func164 rfl (by kernel_rfl) Tryz.call164 λa h _=>Z5h a h
theorem fp_1 (c) (s:Int) (g:List Int) (l) (n:Int) (hk:(Zb c.1 (g.getD 0 0)).1=n):(n=1->(ZHp c s g l).val=some (finX c s g l))/\(n=6->(ZHk c s g l).val=some (finX c s g l))/\(n=10->(Zys c s g l).val=some (finX c s g l))/\(n=17->(Zyl c s g l).val=some (finX c s g l))/\(n=21->(Zyh c s g l).val=some (finX c s g l))/\(n=28->(Zya c s g l).val=some (finX c s g l))/\(n=33->(Zx5 c s g l).val=some (finX c s g l))/\(n=37->(Zx1 c s g l).val=some (finX c s g l))/\(n=43->(ZxV c s g l).val=some (finX c s g l)):=by
 refine⟨?_,?_,?_,?_,?_,?_,?_,?_,?_⟩;all_goals intro e;subst e
 all_goals simp only[ZHp,ZHk,Zys,Zyl,Zyh,Zya,Zx5,Zx1,ZxV,RT.val,rgx]
 all_goals simp only[qat0,mat0,qat1,mat1,rg0,hk,Zs,Z2,Zaf,ZG,ZH,Zw,Zx,ZaT,ZaW,Zc0,ZcZ,Zr,ZaE,finX,spOf]
 all_goals generalize Zc s=bi
 all_goals cases bi with
 |true=>simp[wPC,wSP]
 |false=>
  generalize (s==5)=bs;simp only[finI,hk,finR,wPC,wSP,wA,wF,fCY,fVCY,Zdz,flOf,ZK,pcOf,Zbk];generalize Zb c.1 (g.getD 0 0)=i at hk|-;simp (config:={implicitDefEqProofs:=false}) [Zcp,ZbK,Zb4,hk]
theorem fp_2 (c) (s:Int) (g:List Int) (l) (n:Int) (hk:(Zb c.1 (g.getD 0 0)).1=n):(n=3->(ZHn c s g l).val=some (finX c s g l))/\(n=7->(ZHj c s g l).val=some (finX c s g l))/\(n=11->(Zyr c s g l).val=some (finX c s g l))/\(n=18->(Zyk c s g l).val=some (finX c s g l))/\(n=22->(Zyg c s g l).val=some (finX c s g l))/\(n=29->(Zx9 c s g l).val=some (finX c s g l))/\(n=34->(Zx4 c s g l).val=some (finX c s g l))/\(n=40->(ZxY c s g l).val=some (finX c s g l))/\(n=44->(ZxU c s g l).val=some (finX c s g l)):=by
 refine⟨?_,?_,?_,?_,?_,?_,?_,?_,?_⟩;all_goals intro e;subst e
 all_goals simp only[ZHn,ZHj,Zyr,Zyk,Zyg,Zx9,Zx4,ZxY,ZxU,RT.val,rgx]
 all_goals simp only[qat0,mat0,qat1,mat1,rg0,hk,Zs,Z2,Zaf,ZG,ZH,Zw,Zx,ZaT,ZaW,Zc0,ZcZ,Zr,ZaE,finX,spOf]
 all_goals generalize Zc s=bi
 all_goals cases bi with
 |true=>simp[wPC,wSP]
 |false=>
  generalize (s==5)=bs;simp only[finI,hk,finR,wPC,wSP,wA,wF,fCY,fVCY,Zdz,flOf,ZK,pcOf,Zbk];generalize Zb c.1 (g.getD 0 0)=i at hk|-;simp (config:={implicitDefEqProofs:=false}) [Zcp,ZbK,Zb4,hk]
theorem fp_3 (c) (s:Int) (g:List Int) (l) (n:Int) (hk:(Zb c.1 (g.getD 0 0)).1=n):(n=4->(ZHm c s g l).val=some (finX c s g l))/\(n=8->(ZHi c s g l).val=some (finX c s g l))/\(n=13->(Zyp c s g l).val=some (finX c s g l))/\(n=19->(Zyj c s g l).val=some (finX c s g l))/\(n=23->(Zyf c s g l).val=some (finX c s g l))/\(n=30->(Zx8 c s g l).val=some (finX c s g l))/\(n=35->(Zx3 c s g l).val=some (finX c s g l))/\(n=41->(ZxX c s g l).val=some (finX c s g l))/\(n=46->(ZxS c s g l).val=some (finX c s g l)):=by
 refine⟨?_,?_,?_,?_,?_,?_,?_,?_,?_⟩;all_goals intro e;subst e
 all_goals simp only[ZHm,ZHi,Zyp,Zyj,Zyf,Zx8,Zx3,ZxX,ZxS,RT.val,rgx]
 all_goals simp only[qat0,mat0,qat1,mat1,rg0,hk,Zs,Z2,Zaf,ZG,ZH,Zw,Zx,ZaT,ZaW,Zc0,ZcZ,Zr,ZaE,finX,spOf]
 all_goals generalize Zc s=bi
 all_goals cases bi with
 |true=>simp[wPC,wSP]
 |false=>
  generalize (s==5)=bs;simp only[finI,hk,finR,wPC,wSP,wA,wF,fCY,fVCY,Zdz,flOf,ZK,pcOf,Zbk];generalize Zb c.1 (g.getD 0 0)=i at hk|-;simp (config:={implicitDefEqProofs:=false}) [Zcp,ZbK,Zb4,hk]
theorem fp_4 (c) (s:Int) (g:List Int) (l) (n:Int) (hk:(Zb c.1 (g.getD 0 0)).1=n):(n=5->(ZHl c s g l).val=some (finX c s g l))/\(n=9->(ZHh c s g l).val=some (finX c s g l))/\(n=16->(Zym c s g l).val=some (finX c s g l))/\(n=20->(Zyi c s g l).val=some (finX c s g l))/\(n=27->(Zyb c s g l).val=some (finX c s g l))/\(n=32->(Zx6 c s g l).val=some (finX c s g l))/\(n=36->(Zx2 c s g l).val=some (finX c s g l))/\(n=42->(ZxW c s g l).val=some (finX c s g l))/\(n=47->(ZxR c s g l).val=some (finX c s g l)):=by
 refine⟨?_,?_,?_,?_,?_,?_,?_,?_,?_⟩;all_goals intro e;subst e
 all_goals simp only[ZHl,ZHh,Zym,Zyi,Zyb,Zx6,Zx2,ZxW,ZxR,RT.val,rgx]
 all_goals simp only[qat0,mat0,qat1,mat1,rg0,hk,Zs,Z2,Zaf,ZG,ZH,Zw,Zx,ZaT,ZaW,Zc0,ZcZ,Zr,ZaE,finX,spOf]
 all_goals generalize Zc s=bi
 all_goals cases bi with
 |true=>simp[wPC,wSP]
 |false=>
  generalize (s==5)=bs;simp only[finI,hk,finR,wPC,wSP,wA,wF,fCY,fVCY,Zdz,flOf,ZK,pcOf,Zbk];generalize Zb c.1 (g.getD 0 0)=i at hk|-;simp (config:={implicitDefEqProofs:=false}) [Zcp,ZbK,Zb4,hk]
theorem fp_5 (c) (s:Int) (g:List Int) (l) (n:Int) (hk:(Zb c.1 (g.getD 0 0)).1=n):(n=2->(ZHo c s g l).val=some (finX c s g l))/\(n=12->(Zyq c s g l).val=some (finX c s g l)):=by
 refine⟨?_,?_⟩;all_goals intro e;subst e
 all_goals simp only[ZHo,Zyq,RT.val,rgx]
 all_goals simp only[qat0,mat0,qat1,mat1,rg0,hk,Zs,Z2,Zaf,ZG,ZH,Zw,Zx,ZaT,ZaW,Zc0,ZcZ,Zr,ZaE,finX,spOf]
 all_goals generalize Zc s=bi
 all_goals cases bi with
 |true=>simp[wPC,wSP]
 |false=>
  generalize (s==5)=bs;simp only[finI,hk,finR,wPC,wSP,wA,wF,fCY,fVCY,Zdz,flOf,ZK,pcOf,Zbk];generalize Zb c.1 (g.getD 0 0)=i at hk|-;generalize (i.2.2.2.1==6)=b0;cases b0<;>simp (config:={implicitDefEqProofs:=false}) [Zcp,ZbK,Zb4,hk]
theorem fp_6 (c) (s:Int) (g:List Int) (l) (n:Int) (hk:(Zb c.1 (g.getD 0 0)).1=n):(n=14->(Zyo c s g l).val=some (finX c s g l))/\(n=15->(Zyn c s g l).val=some (finX c s g l)):=by
 refine⟨?_,?_⟩;all_goals intro e;subst e
 all_goals simp only[Zyo,Zyn,RT.val,rgx]
 all_goals simp only[qat0,mat0,qat1,mat1,rg0,hk,Zs,Z2,Zaf,ZG,ZH,Zw,Zx,ZaT,ZaW,Zc0,ZcZ,Zr,ZaE,finX,spOf]
 all_goals generalize Zc s=bi
 all_goals cases bi with
 |true=>simp[wPC,wSP]
 |false=>
  generalize (s==5)=bs;simp only[finI,hk,finR,wPC,wSP,wA,wF,fCY,fVCY,Zdz,flOf,ZK,pcOf,Zbk];generalize Zb c.1 (g.getD 0 0)=i at hk|-;generalize (i.2.2.1==6)=b0;cases b0<;>simp (config:={implicitDefEqProofs:=false}) [Zcp,ZbK,Zb4,hk]
theorem fp_7 (c) (s:Int) (g:List Int) (l) (n:Int) (hk:(Zb c.1 (g.getD 0 0)).1=n):(n=24->(Zye c s g l).val=some (finX c s g l))/\(n=25->(Zyd c s g l).val=some (finX c s g l))/\(n=26->(Zyc c s g l).val=some (finX c s g l))/\(n=45->(ZxT c s g l).val=some (finX c s g l)):=by
 refine⟨?_,?_,?_,?_⟩;all_goals intro e;subst e
 all_goals simp only[Zye,Zyd,Zyc,ZxT,RT.val,rgx]
 all_goals simp only[qat0,mat0,qat1,mat1,rg0,hk,Zs,Z2,Zaf,ZG,ZH,Zw,Zx,ZaT,ZaW,Zc0,ZcZ,Zr,ZaE,finX,spOf]
 all_goals generalize Zc s=bi
 all_goals cases bi with
 |true=>simp[wPC,wSP]
 |false=>
  generalize (s==5)=bs;simp only[finI,hk,finR,wPC,wSP,wA,wF,fCY,fVCY,Zdz,flOf,ZK,pcOf,Zbk];generalize Zb c.1 (g.getD 0 0)=i at hk|-;generalize Zfe _ _=b0;cases b0<;>simp (config:={implicitDefEqProofs:=false}) [Zcp,ZbK,Zb4,hk]
theorem fp_8 (c) (s:Int) (g:List Int) (l) (n:Int) (hk:(Zb c.1 (g.getD 0 0)).1=n):(n=31->(Zx7 c s g l).val=some (finX c s g l)):=by
 skip
 all_goals intro e;subst e
 all_goals simp only[Zx7,RT.val,rgx]
 all_goals simp only[qat0,mat0,qat1,mat1,rg0,hk,Zs,Z2,Zaf,ZG,ZH,Zw,Zx,ZaT,ZaW,Zc0,ZcZ,Zr,ZaE,finX,spOf]
 all_goals generalize Zc s=bi
 all_goals cases bi with
 |true=>simp[wPC,wSP]
 |false=>
  generalize (s==5)=bs;simp only[finI,hk,finR,wPC,wSP,wA,wF,fCY,fVCY,Zdz,flOf,ZK,pcOf,Zbk];generalize Zb c.1 (g.getD 0 0)=i at hk|-;generalize (i.2.2.2.2.1==3)=b0;cases b0<;>simp (config:={implicitDefEqProofs:=false}) [Zcp,ZbK,Zb4,hk]
theorem fp_9 (c) (s:Int) (g:List Int) (l) (n:Int) (hk:(Zb c.1 (g.getD 0 0)).1=n):(n=38->(Zx0 c s g l).val=some (finX c s g l)):=by
 skip
 all_goals intro e;subst e
 all_goals simp only[Zx0,RT.val,rgx]
 all_goals simp only[qat0,mat0,qat1,mat1,rg0,hk,Zs,Z2,Zaf,ZG,ZH,Zw,Zx,ZaT,ZaW,Zc0,ZcZ,Zr,ZaE,finX,spOf]
 all_goals generalize Zc s=bi
 all_goals cases bi with
 |true=>simp[wPC,wSP]
 |false=>
  generalize (s==5)=bs;simp only[finI,hk,finR,wPC,wSP,wA,wF,fCY,fVCY,Zdz,flOf,ZK,pcOf,Zbk];generalize Zb c.1 (g.getD 0 0)=i at hk|-;simp[Zcp,ZbK,Zb4,hk,Z2z]
theorem fp_10 (c) (s:Int) (g:List Int) (l) (n:Int) (hk:(Zb c.1 (g.getD 0 0)).1=n):(n=39->(ZxZ c s g l).val=some (finX c s g l)):=by
 skip
 all_goals intro e;subst e
 all_goals simp only[ZxZ,RT.val,rgx]
 all_goals simp only[qat0,mat0,qat1,mat1,rg0,hk,Zs,Z2,Zaf,ZG,ZH,Zw,Zx,ZaT,ZaW,Zc0,ZcZ,Zr,ZaE,finX,spOf]
 all_goals generalize Zc s=bi
 all_goals cases bi with
 |true=>simp[wPC,wSP]
 |false=>
  generalize (s==5)=bs;simp only[finI,hk,finR,wPC,wSP,wA,wF,fCY,fVCY,Zdz,flOf,ZK,pcOf,Zbk];generalize Zb c.1 (g.getD 0 0)=i at hk|-;simp[Zcp,ZbK,Zb4,hk,rSim,ZSI,RT.val]
theorem Z6f (a:HL ZZ) (h:okHL ZZ a):∃l,Zdp Tryz.prog l/\(Zft (envX Tryz.prog l [] 1023 8) Tryz.f85 ZZ ZU0 a).val=some (finX a.1 a.2.1 a.2.2.1 a.2.2.2):=by
 have hk:=ZyW a.1.1 _ (Zy0 h.2.2.1);refine⟨Z6g (Zb a.1.1 (a.2.2.1.getD 0 0)).1,Z0T _,?_⟩;show (EV0 _ a).val=_;rcases ZyV hk.1 hk.2 with e|e|e|e|e|e|e|e|e|e|e|e|e|e|e|e|e|e|e|e|e|e|e|e|e|e|e|e|e|e|e|e|e|e|e|e|e|e|e|e|e|e|e|e|e|e|e
 ·rw[e,ZWc a,((fp_1 a.1 a.2.1 a.2.2.1 a.2.2.2 _ e).1 rfl)]
 ·rw[e,ZWb a,((fp_5 a.1 a.2.1 a.2.2.1 a.2.2.2 _ e).1 rfl)]
 ·rw[e,ZWa a,((fp_2 a.1 a.2.1 a.2.2.1 a.2.2.2 _ e).1 rfl)]
 ·rw[e,ZV9 a,((fp_3 a.1 a.2.1 a.2.2.1 a.2.2.2 _ e).1 rfl)]
 ·rw[e,ZV8 a,((fp_4 a.1 a.2.1 a.2.2.1 a.2.2.2 _ e).1 rfl)]
 ·rw[e,ZV7 a,((fp_1 a.1 a.2.1 a.2.2.1 a.2.2.2 _ e).2.1 rfl)]
 ·rw[e,ZV6 a,((fp_2 a.1 a.2.1 a.2.2.1 a.2.2.2 _ e).2.1 rfl)]
 ·rw[e,ZV5 a,((fp_3 a.1 a.2.1 a.2.2.1 a.2.2.2 _ e).2.1 rfl)]
 ·rw[e,ZV4 a,((fp_4 a.1 a.2.1 a.2.2.1 a.2.2.2 _ e).2.1 rfl)]
 ·rw[e,ZPC a,((fp_1 a.1 a.2.1 a.2.2.1 a.2.2.2 _ e).2.2.1 rfl)]
 ·rw[e,ZPB a,((fp_2 a.1 a.2.1 a.2.2.1 a.2.2.2 _ e).2.2.1 rfl)]
 ·rw[e,ZPA a,((fp_5 a.1 a.2.1 a.2.2.1 a.2.2.2 _ e).2 rfl)]
 ·rw[e,ZPz a,((fp_3 a.1 a.2.1 a.2.2.1 a.2.2.2 _ e).2.2.1 rfl)]
 ·rw[e,ZPy a,((fp_6 a.1 a.2.1 a.2.2.1 a.2.2.2 _ e).1 rfl)]
 ·rw[e,ZPx a,((fp_6 a.1 a.2.1 a.2.2.1 a.2.2.2 _ e).2 rfl)]
 ·rw[e,ZPw a,((fp_4 a.1 a.2.1 a.2.2.1 a.2.2.2 _ e).2.2.1 rfl)]
 ·rw[e,ZPv a,((fp_1 a.1 a.2.1 a.2.2.1 a.2.2.2 _ e).2.2.2.1 rfl)]
 ·rw[e,ZPu a,((fp_2 a.1 a.2.1 a.2.2.1 a.2.2.2 _ e).2.2.2.1 rfl)]
 ·rw[e,ZPt a,((fp_3 a.1 a.2.1 a.2.2.1 a.2.2.2 _ e).2.2.2.1 rfl)]
 ·rw[e,ZPs a,((fp_4 a.1 a.2.1 a.2.2.1 a.2.2.2 _ e).2.2.2.1 rfl)]
 ·rw[e,ZPr a,((fp_1 a.1 a.2.1 a.2.2.1 a.2.2.2 _ e).2.2.2.2.1 rfl)]
 ·rw[e,ZPq a,((fp_2 a.1 a.2.1 a.2.2.1 a.2.2.2 _ e).2.2.2.2.1 rfl)]
 ·rw[e,ZPp a,((fp_3 a.1 a.2.1 a.2.2.1 a.2.2.2 _ e).2.2.2.2.1 rfl)]
 ·rw[e,ZPo a,((fp_7 a.1 a.2.1 a.2.2.1 a.2.2.2 _ e).1 rfl)]
 ·rw[e,ZPn a,((fp_7 a.1 a.2.1 a.2.2.1 a.2.2.2 _ e).2.1 rfl)]
 ·rw[e,ZPm a,((fp_7 a.1 a.2.1 a.2.2.1 a.2.2.2 _ e).2.2.1 rfl)]
 ·rw[e,ZPl a,((fp_4 a.1 a.2.1 a.2.2.1 a.2.2.2 _ e).2.2.2.2.1 rfl)]
 ·rw[e,ZPk a,((fp_1 a.1 a.2.1 a.2.2.1 a.2.2.2 _ e).2.2.2.2.2.1 rfl)]
 ·rw[e,ZPj a,((fp_2 a.1 a.2.1 a.2.2.1 a.2.2.2 _ e).2.2.2.2.2.1 rfl)]
 ·rw[e,ZPi a,((fp_3 a.1 a.2.1 a.2.2.1 a.2.2.2 _ e).2.2.2.2.2.1 rfl)]
 ·rw[e,ZPh a,((fp_8 a.1 a.2.1 a.2.2.1 a.2.2.2 _ e) rfl)]
 ·rw[e,ZPg a,((fp_4 a.1 a.2.1 a.2.2.1 a.2.2.2 _ e).2.2.2.2.2.1 rfl)]
 ·rw[e,ZPf a,((fp_1 a.1 a.2.1 a.2.2.1 a.2.2.2 _ e).2.2.2.2.2.2.1 rfl)]
 ·rw[e,ZPe a,((fp_2 a.1 a.2.1 a.2.2.1 a.2.2.2 _ e).2.2.2.2.2.2.1 rfl)]
 ·rw[e,ZPd a,((fp_3 a.1 a.2.1 a.2.2.1 a.2.2.2 _ e).2.2.2.2.2.2.1 rfl)]
 ·rw[e,ZPc a,((fp_4 a.1 a.2.1 a.2.2.1 a.2.2.2 _ e).2.2.2.2.2.2.1 rfl)]
 ·rw[e,ZPb a,((fp_1 a.1 a.2.1 a.2.2.1 a.2.2.2 _ e).2.2.2.2.2.2.2.1 rfl)]
 ·rw[e,ZPa a,((fp_9 a.1 a.2.1 a.2.2.1 a.2.2.2 _ e) rfl)]
 ·rw[e,ZO9 a,((fp_10 a.1 a.2.1 a.2.2.1 a.2.2.2 _ e) rfl)]
 ·rw[e,ZO8 a,((fp_2 a.1 a.2.1 a.2.2.1 a.2.2.2 _ e).2.2.2.2.2.2.2.1 rfl)]
 ·rw[e,ZO7 a,((fp_3 a.1 a.2.1 a.2.2.1 a.2.2.2 _ e).2.2.2.2.2.2.2.1 rfl)]
 ·rw[e,ZO6 a,((fp_4 a.1 a.2.1 a.2.2.1 a.2.2.2 _ e).2.2.2.2.2.2.2.1 rfl)]
 ·rw[e,ZO5 a,((fp_1 a.1 a.2.1 a.2.2.1 a.2.2.2 _ e).2.2.2.2.2.2.2.2 rfl)]
 ·rw[e,ZO4 a,((fp_2 a.1 a.2.1 a.2.2.1 a.2.2.2 _ e).2.2.2.2.2.2.2.2 rfl)]
 ·rw[e,ZO3 a,((fp_7 a.1 a.2.1 a.2.2.1 a.2.2.2 _ e).2.2.2 rfl)]
 ·rw[e,ZO2 a,((fp_3 a.1 a.2.1 a.2.2.1 a.2.2.2 _ e).2.2.2.2.2.2.2.2 rfl)]
 ·rw[e,ZO1 a,((fp_4 a.1 a.2.1 a.2.2.1 a.2.2.2 _ e).2.2.2.2.2.2.2.2 rfl)]
def Z6h:En:=Zg ZZ ZU0 (λ_=>none) (λa=>finX a.1 a.2.1 a.2.2.1 a.2.2.2)
theorem Z6e:Za Tryz.prog 85 Z6h:=Zna Tryz.func85 rfl (by kernel_rfl) Tryz.call85 λa h _=>Z6f a h
theorem Zti (c op:Int) (h:c≠2):Zb c op=Zb 0 op:=by unfold Zb;rw[Zoq c op h]
theorem ZF0 (c op:Int) (h:c≠2):Zt0 c op=Zt0 0 op:=by
 have h1:(c==2)=false:=by simpa using h
 have h0:((0:Int)==2)=false:=rfl;simp only[Zt0,ZHf,RT.val,Zti c op h,h1,h0]
theorem ZD8 (c op:Int) (h:c≠2):ZgG c op=ZgG 0 op:=by
 have h1:rOn c=false:=by simpa [ZaE] using h
 have h0:rOn 0=false:=rfl;simp only[ZgG,ZFp,RT.val,Zti c op h,h1,h0]
def firT (c op:Int):Bool:=Zt0 c op==ZgG c op
theorem Z1E (c op:Int) (h:inR .u8 op):Zt0 c op=ZgG c op:=by
 by_cases hc:c=2
 ·subst hc;exact eq_of_beq (ZgB (firT 2) (by kernel_rfl) op h)
 ·rw[ZF0 c op hc,ZD8 c op hc];exact eq_of_beq (ZgB (firT 0) (by kernel_rfl) op h)
def ZLp:En:=Zg ZBA Z3u (λ_=>none) (λa=>ZgG a.1 a.2)
theorem ZOZ:Za Tryz.prog 84 ZLp:=ZV2.tot (λa h=>by simp) (λa h=>Z1E _ _ h.2)
end
end Go.Proofs.YtpnjbfjomebppaaGreat
open Go.Proofs.Tryz (prog)
open Go.IntKind (u8 u16 i64)
namespace Go.Proofs.YtpnjbfjomebppaaGreat
noncomputable section
def ZUY (c:QT2):RT (Int):=
 .br (decide (c.2.2.2.2.1<1)||decide (c.2.2.2.2.1>9)) (.Lf (1)) (.Lf c.2.2.2.2.1)
def ZbR (c:QT2):Int:=(ZUY c).val
def Zp4:En:=Zg ZWu Z3u (λ_=>none) (λa=>ZbR a)
theorem Zp3:Za prog 136 Zp4:=
 pureQ 7 [] [] _ _ trivial Tryz.func136 Tryz.call136 trivial
abbrev ZVU:List Sh:=[Sh.agg (R.Pq Zq (R.Pq Kc (R.Pq (R.sl Ka) (R.Pq (RY) (R.Pq Kc R.bool))))),So R.bool]
def ZVV (c:QT2) (h:Bool):RT (Int):=
 .br (h) (.Lf (8)) (.br (c.1.2.2.2.2.1&&c.2.1==0) (.Lf (9)) (.Lf (1)))
def ZBP (c:QT2) (h:Bool):Int:=(ZVV c h).val
def ZLn:En:=Zg ZVU Z3u (λ_=>none) (λa=>ZBP a.1 a.2)
theorem ZLm:Za prog 193 ZLn:=
 pureQ 191 [] [] _ _ trivial Tryz.func193 Tryz.call193 trivial
abbrev ZtS:List Sh:=[So Kc,So R.bool]
def ZpW (s:Int) (h:Bool):RT (Int):=
 .br (h) (.Lf (8)) (.br (s==0) (.Lf (9)) (.Lf (1)))
def Znd (s:Int) (h:Bool):Int:=(ZpW s h).val
def ZBw:En:=Zg ZtS Z3u (λ_=>none) (λa=>Znd a.1 a.2)
theorem ZF6:Za prog 196 ZBw:=
 pureQ 191 [] [] _ _ trivial Tryz.func196 Tryz.call196 trivial
abbrev ZK4:List Sh:=[Sh.agg (R.Pq Zq (R.Pq Kc (R.Pq (R.sl Ka) (R.Pq (RY) (R.Pq Kc R.bool))))),So Kc]
abbrev ZK5:Rs:=Rs.one (Sh.agg (R.Pq Zq (R.Pq Kc (R.Pq (R.sl Ka) (R.Pq (RY) (R.Pq Kc R.bool))))))
def ZU6 (c:QT2) (s:Int):RT (QT2):=
 .Lf ((Zbo c.1 s,s,[],(Zj (Zbo c.1 s) s []).1,c.2.2.2.2))
def ZBG (c:QT2) (s:Int):QT2:=(ZU6 c s).val
def Zxj:En:=Zg ZK4 ZK5 (λ_=>none) (λa=>ZBG a.1 a.2)
theorem ZBF:Za prog 195 Zxj:=
 pureQ 31 [(81,ZBY),(82,ZBN)] [] _ _ ⟨ZHz,Zxw,Tv⟩ Tryz.func195 Tryz.call195 trivial
def ZWx (c:TC) (s:Int):RT (QT2):=
 .Lf ((c,s,[],(Zj c s []).1,1,false))
def ZfS (c:TC) (s:Int):QT2:=(ZWx c s).val
def ZHt:En:=Zg Zq0 ZK5 (λ_=>none) (λa=>ZfS a.1 a.2)
theorem ZBW:Za prog 172 ZHt:=
 pureQ 127 [(82,ZBN)] [] _ _ ⟨Zxw,Tv⟩ Tryz.func172 Tryz.call172 trivial
def ZSH (c:QT2):RT (Int):=
 .br (decide (c.2.2.2.2.1<1)||decide (c.2.2.2.2.1>9)) (.Lf (1)) (.Lf c.2.2.2.2.1)
def Zp (c:QT2):Int:=(ZSH c).val
def Zgj:En:=Zg ZWu Z3u (λ_=>none) (λa=>Zp a)
theorem ZeG:Za prog 109 Zgj:=
 pureQ 7 [] [] _ _ trivial Tryz.func109 Tryz.call109 trivial
abbrev ZKu:Rs:=Rs.one (Sh.agg (RY))
def ZT5 (c:TC) (s:Int):RT TY:=
 .Lf (Zj c s []).1
def Z3c (c:TC) (s:Int):QT12:=(ZT5 c s).val
def ZwJ:En:=Zg Zq0 ZKu (λ_=>none) (λa=>Z3c a.1 a.2)
theorem Zpx:Za prog 173 ZwJ:=
 pureQ 127 [(166,ZJ8)] [] _ _ ⟨ZvN,Tv⟩ Tryz.func173 Tryz.call173 trivial
def ZSJ (c:QT2) (s:Int):RT (QT2):=
 .Lf ((Zbo c.1 s,s,[],Z3c (Zbo c.1 s) s,c.2.2.2.2))
def ZJI (c:QT2) (s:Int):QT2:=(ZSJ c s).val
def ZEk:En:=Zg ZK4 ZK5 (λ_=>none) (λa=>ZJI a.1 a.2)
theorem ZAM:Za prog 262 ZEk:=
 pureQ 31 [(163,ZKv),(173,ZwJ)] [] _ _ ⟨ZOl,Zpx,Tv⟩ Tryz.func262 Tryz.call262 trivial
abbrev ZSV:List Sh:=[Sh.agg (R.Pq Zq (R.Pq Kc (R.Pq (R.sl Ka) (R.Pq (RY) (R.Pq Kc R.bool))))),So Kc,So Ka]
abbrev ZEp:Rs:=Rs.tup [Sh.agg (RY),So (R.sl Ka)]
def ZjF (c:QT2) (t:Int) (d:Int):RT (Option (TY×List Int)):=
 let x1:Int:=bif Zbi c.2.2.2.1.1 then d else c.2.2.2.1.2.2.1
 let x2:List Int:=[]++c.2.2.1++[x1]
 .br (t !=3) (Ls ((c.2.2.2.1,c.2.2.1))) (.br (!Nat.ble (Le ([]++c.2.2.1)) most||Nat.ble (Le x2) most) (.br (Nat.ble (Le ([]++c.2.2.1)) most) (Ls (((c.2.2.2.1.1,c.2.2.2.1.2.1,x1,bif c.2.2.2.1.1==1||c.2.2.2.1.1==8 then ZgG c.1.1 x1 else c.2.2.2.1.2.2.2),x2))) Ln) Ln)
def ZiT (c:QT2) (t:Int) (d:Int):TY×List Int:=getO ZEp.Df (ZjF c t d).val
def ZfQ (c:QT2) (t:Int) (d:Int):Bool:=okB (ZjF c t d).val
def ZSY:En:=Zg ZSV ZEp (λa=>some (ZfQ a.1 a.2.1 a.2.2)) (λa=>ZiT a.1 a.2.1 a.2.2)
theorem ZJR:Za prog 263 ZSY:=
 pureP 1023 [(167,ZoE),(168,ZFq)] [] _ _ ⟨ZjE,ZA8,Tv⟩ Tryz.func263 Tryz.call263 trivial
abbrev ZTO:List Sh:=[So Kc,Sh.agg (RY)]
def ZtG (t:Int) (x:QT12):RT (Bool):=
 .br (t==3) (.Lf (decide (x.2.2.2<=3))) (.br (bif t==4 then t==4 else t==5) (.Lf (decide (x.2.2.2<=t))) (.Lf (t==6)))
def ZjK (t:Int) (x:QT12):Bool:=(ZtG t x).val
def ZTQ:En:=Zg ZTO Zqd (λ_=>none) (λa=>ZjK a.1 a.2)
theorem ZKn:Za prog 264 ZTQ:=
 pureQ 2143 [] [] _ _ trivial Tryz.func264 Tryz.call264 trivial
def ZjC (c:QT2):RT (Bool):=
 .Lf (c.1.2.2.2.2.1&&c.2.1==0)
def ZjD (c:QT2):Bool:=(ZjC c).val
def ZoD:En:=Zg ZWu Zqd (λ_=>none) (λa=>ZjD a)
theorem ZoC:Za prog 260 ZoD:=
 pureQ 7 [] [] _ _ trivial Tryz.func260 Tryz.call260 trivial
abbrev Z2Z:List Sh:=[Sh.agg (R.Pq Zq (R.Pq Kc (R.Pq (R.sl Ka) (R.Pq (RY) (R.Pq Kc R.bool))))),Sh.agg (R.Pq R.bool (R.Pq R.bool rcF7))]
def Z5l (c:QT2) (l:QT0):RT (QT2):=
 let x1:=ZJI (finX c.1 c.2.1 c.2.2.1 l,c.2) (ZcU (finX c.1 c.2.1 c.2.2.1 l) l)
 let x2:=x1.1
 let x3:=x2.2
 let x4:=x3.1
 let x5:=x4.2
 let x6:=x5.2
 let x7:=x6.2
 let x8:=x7.2
 let x9:=x8.2
 let x10:=x9.2
 let x11:=x10.2
 let x12:=x11.1
 let x13:=x12.2
 let x14:=c.1.2.1.2.2.2.2.2.2.2.1.2.2
 let x15:=x13.2
 let x16:=x14.2
 let x17:=x15.2
 let x18:=x16.2
 let x19:=x17.2
 let x20:=x18.2
 let x21:=x19.2
 let x22:=x11.2
 let x23:=x3.2
 let x24:=x23.2
 let x25:=x24.2
 let x26:=x25.2
 let x27:=x26.2
 let x28:=x27.2
 let x29:=x28.2
 let x30:=x29.2
 let x31:=x30.2
 let x32:=x31.2
 let x33:TC:=(bif (Zj c.1 c.2.1 c.2.2.1).2 then c.1.1 else x2.1,(bif (Zj c.1 c.2.1 c.2.2.1).2 then c.1.2.1.1 else x4.1,bif (Zj c.1 c.2.1 c.2.2.1).2 then c.1.2.1.2.1 else x5.1,bif (Zj c.1 c.2.1 c.2.2.1).2 then c.1.2.1.2.2.1 else x6.1,bif (Zj c.1 c.2.1 c.2.2.1).2 then c.1.2.1.2.2.2.1 else x7.1,bif (Zj c.1 c.2.1 c.2.2.1).2 then c.1.2.1.2.2.2.2.1 else x8.1,bif (Zj c.1 c.2.1 c.2.2.1).2 then c.1.2.1.2.2.2.2.2.1 else x9.1,bif (Zj c.1 c.2.1 c.2.2.1).2 then c.1.2.1.2.2.2.2.2.2.1 else x10.1,(bif (Zj c.1 c.2.1 c.2.2.1).2 then c.1.2.1.2.2.2.2.2.2.2.1.1 else x12.1,bif (Zj c.1 c.2.1 c.2.2.1).2 then c.1.2.1.2.2.2.2.2.2.2.1.2.1 else x13.1,bif (Zj c.1 c.2.1 c.2.2.1).2 then x14.1 else x15.1,bif (Zj c.1 c.2.1 c.2.2.1).2 then x16.1 else x17.1,bif (Zj c.1 c.2.1 c.2.2.1).2 then x18.1 else x19.1,bif (Zj c.1 c.2.1 c.2.2.1).2 then x20.1 else x21.1,bif (Zj c.1 c.2.1 c.2.2.1).2 then x20.2 else x21.2),bif (Zj c.1 c.2.1 c.2.2.1).2 then c.1.2.1.2.2.2.2.2.2.2.2.1 else x22.1,bif (Zj c.1 c.2.1 c.2.2.1).2 then c.1.2.1.2.2.2.2.2.2.2.2.2 else x22.2),bif (Zj c.1 c.2.1 c.2.2.1).2 then c.1.2.2.1 else x23.1,bif (Zj c.1 c.2.1 c.2.2.1).2 then c.1.2.2.2.1 else x24.1,bif (Zj c.1 c.2.1 c.2.2.1).2 then c.1.2.2.2.2.1 else x25.1,bif (Zj c.1 c.2.1 c.2.2.1).2 then c.1.2.2.2.2.2.1 else x26.1,bif (Zj c.1 c.2.1 c.2.2.1).2 then c.1.2.2.2.2.2.2.1 else x27.1,bif (Zj c.1 c.2.1 c.2.2.1).2 then c.1.2.2.2.2.2.2.2.1 else x28.1,bif (Zj c.1 c.2.1 c.2.2.1).2 then c.1.2.2.2.2.2.2.2.2.1 else x29.1,bif (Zj c.1 c.2.1 c.2.2.1).2 then c.1.2.2.2.2.2.2.2.2.2.1 else x30.1,bif (Zj c.1 c.2.1 c.2.2.1).2 then c.1.2.2.2.2.2.2.2.2.2.2.1 else x31.1,bif (Zj c.1 c.2.1 c.2.2.1).2 then c.1.2.2.2.2.2.2.2.2.2.2.2.1 else x32.1,bif (Zj c.1 c.2.1 c.2.2.1).2 then c.1.2.2.2.2.2.2.2.2.2.2.2.2 else x32.2)
 let x34:=x1.2
 let x35:Int:=bif (Zj c.1 c.2.1 c.2.2.1).2 then c.2.1 else x34.1
 let x36:=x34.2
 let x37:List Int:=bif (Zj c.1 c.2.1 c.2.2.1).2 then c.2.2.1 else x36.1
 let x38:=x36.2
 let x39:=x38.1
 let x40:=x39.2
 let x41:=x40.2
 let x42:QT12:=(bif (Zj c.1 c.2.1 c.2.2.1).2 then (Zj c.1 c.2.1 c.2.2.1).1.1 else x39.1,bif (Zj c.1 c.2.1 c.2.2.1).2 then (Zj c.1 c.2.1 c.2.2.1).1.2.1 else x40.1,bif (Zj c.1 c.2.1 c.2.2.1).2 then (Zj c.1 c.2.1 c.2.2.1).1.2.2.1 else x41.1,bif (Zj c.1 c.2.1 c.2.2.1).2 then (Zj c.1 c.2.1 c.2.2.1).1.2.2.2 else x41.2)
 let x43:=x38.2
 let x44:=bif (Zj c.1 c.2.1 c.2.2.1).2 then c.2.2.2.2.2 else x43.2
 .Lf ((x33,x35,x37,x42,bif x44 then 8 else bif ZjD (x33,x35,x37,x42,bif (Zj c.1 c.2.1 c.2.2.1).2 then c.2.2.2.2.1 else x43.1,x44) then 9 else 1,false))
def rEnd (c:QT2) (l:QT0):QT2:=(Z5l c l).val
def Z72:En:=Zg Z2Z ZK5 (λ_=>none) (λa=>rEnd a.1 a.2)
theorem Z5k:Za prog 265 Z72:=
 pureQ 1168231104639 [(164,Z5j),(166,ZJ8),(260,ZoD),(261,ZS9),(262,ZEk)] [] _ _ ⟨ZTD,ZvN,ZoC,ZJ1,ZAM,Tv⟩ Tryz.func265 Tryz.call265 trivial
def Z55 (chip:Int):RT (QT2):=
 let x1:TR:=(0,0,0,0,0,0,0,(false,false,false,false,false,false,false),0,0)
 let x2:TC:=(ZfS (Z3 (chip,x1,false,false,false,0,false,false,false,false,false,false,false)) 0).1
 .Lf (((x2.1,x1,false,false,false,x2.2.2.2.2.2.1,false,false,false,false,false,false,false),0,[],(1,0,0,4),1,false))
def pNew (chip:Int):QT2:=(Z55 chip).val
def pNewE:En:=Zg ZBC ZK5 (λ_=>none) (λa=>pNew a)
theorem Z54:Za prog 97 pNewE:=
 pureQ 7 [(80,Zxn),(172,ZHt)] [] _ _ ⟨ZtY,ZBW,Tv⟩ Tryz.func97 Tryz.call97 trivial
def Z5b (chip:Int):RT (QT2):=
 let x1:TR:=(0,0,0,0,0,0,0,(false,false,false,false,false,false,false),0,0)
 let x2:=Z3 (chip,x1,false,false,false,0,false,false,false,false,false,false,false)
 .Lf (((x2.1,x1,false,false,false,x2.2.2.2.2.2.1,false,false,false,false,false,false,false),0,[],(1,0,0,4),1,false))
def rNew (chip:Int):QT2:=(Z5b chip).val
def Z7Y:En:=Zg ZBC ZK5 (λ_=>none) (λa=>rNew a)
theorem ZTq:Za prog 100 Z7Y:=
 pureQ 15 [(96,ZEo),(173,ZwJ)] [] _ _ ⟨ZAS,Zpx,Tv⟩ Tryz.func100 Tryz.call100 trivial
def Zmr:En:=.tree (Zt (envX prog [(82,ZBN),(85,Z6h),(193,ZLn),(194,Zxs),(195,Zxj)] [] 1023 8) Tryz.f192)
theorem Zsu:Za prog 192 Zmr:=ZL ⟨Zxw,Z6e,ZLm,ZBJ,ZBF,Tv⟩ Tryz.func192 rfl (by kernel_rfl) Tryz.call192 trivial
abbrev ZWA:List Sh:=[Sh.agg (R.Pq Zq (R.Pq Kc (R.Pq (R.sl Ka) (R.Pq (RY) (R.Pq Kc R.bool))))),Sh.agg (R.Pq R.bool (R.Pq R.bool rcF7)),So Ka]
abbrev ZLE:Rs:=Rs.tup [Sh.agg (R.Pq Zq (R.Pq Kc (R.Pq (R.sl Ka) (R.Pq (RY) (R.Pq Kc R.bool))))),Sh.agg (R.Pq R.bool (R.Pq Zq (R.Pq (R.sl Ka) (R.Pq (RY) Zq))))]
def ZWB (c:QT2) (l:QT0) (d:Int):RT (Option ((QT2)×Bool×TC×List Int×TY×TC)):=
 let x1:Int:=bif Zbi c.2.2.2.1.1 then d else c.2.2.2.1.2.2.1
 let x2:List Int:=c.2.2.1++[x1]
 let x3:TC:=(0,(0,0,0,0,0,0,0,(false,false,false,false,false,false,false),0,0),false,false,false,0,false,false,false,false,false,false,false)
 let x4:Bool×TC×List Int×TY×TC:=(false,x3,[],c.2.2.2.1,Zh c.1 l)
 let x5:Int:=bif c.2.2.2.1.1==1||c.2.2.2.1.1==8 then ZgG (Zh c.1 l).1 x1 else c.2.2.2.1.2.2.2
 let x6:QT12:=(c.2.2.2.1.1,c.2.2.2.1.2.1,x1,x5)
 let x7:TY×TC:=(x6,Zh c.1 l)
 let x8:Bool×TC×List Int×TY×TC:=(false,x3,[],x7)
 let x9:=Zj (Zh c.1 l) c.2.1 x2
 let x10:=x9.1
 let x11:=finX (Zh c.1 l) c.2.1 x2 l
 let x12:=ZBG (x11,c.2.1,x2,x6,c.2.2.2.2) (ZcU x11 l)
 let x13:=x12.2
 let x14:=x13.2.2
 let x15:=ZBG (finX (Zh c.1 l) c.2.1 c.2.2.1 l,c.2) (ZcU (finX (Zh c.1 l) c.2.1 c.2.2.1 l) l)
 let x16:=x15.2
 let x17:=x16.2.2
 let x18:=ZBG (Zh c.1 l,c.2) (ZcU (Zh c.1 l) l)
 let x19:=x18.2
 let x20:=x19.2.2
 .br (Nat.ble (Le c.2.2.1) most) (.br (ZbR c==1||((bif ZbR c==2 then ZbR c==2 else ZbR c==7)||(!ZbR c==3||Nat.ble (Le x2) most))) (.br (ZbR c==1) (Ls (((Zh c.1 l,c.2.1,c.2.2.1,c.2.2.2.1,2,c.2.2.2.2.2),x4))) (.br (bif ZbR c==2 then ZbR c==2 else ZbR c==7) (Ls (((Zh c.1 l,c.2.1,c.2.2.1,c.2.2.2.1,bif Z6 c.2.2.2.1.1&& !l.1 then 7 else 3,bif Z6 c.2.2.2.1.1&& !l.1 then c.2.2.2.2.2 else l.2.1),x4))) (.br (ZbR c==3) (.br (decide (x5>3)) (Ls (((Zh c.1 l,c.2.1,x2,x6,4,c.2.2.2.2.2),x8))) (.br x9.2 (Ls (((Zh c.1 l,c.2.1,x2,x10,ZBP (Zh c.1 l,c.2.1,x2,x10,c.2.2.2.2) c.2.2.2.2.2,false),x8))) (Ls (((x12.1,x13.1,[],x14.1,ZBP x12 x14.2.2,false),true,x11,x2,x7))))) (.br (bif ZbR c==4 then ZbR c==4 else bif ZbR c==5 then ZbR c==5 else ZbR c==6) (.br (decide (c.2.2.2.1.2.2.2>ZbR c)&&ZbR c !=6) (Ls (((Zh c.1 l,c.2.1,c.2.2.1,c.2.2.2.1,i64.wrap (ZbR c+1),c.2.2.2.2.2),x4))) (.br (Zj (Zh c.1 l) c.2.1 c.2.2.1).2 (Ls (((Zh c.1 l,c.2.1,c.2.2.1,(Zj (Zh c.1 l) c.2.1 c.2.2.1).1,ZBP (Zh c.1 l,c.2.1,c.2.2.1,(Zj (Zh c.1 l) c.2.1 c.2.2.1).1,c.2.2.2.2) c.2.2.2.2.2,false),x4))) (Ls (((x15.1,x16.1,[],x17.1,ZBP x15 x17.2.2,false),true,finX (Zh c.1 l) c.2.1 c.2.2.1 l,c.2.2.1,c.2.2.2.1,Zh c.1 l))))) (.br (ZbR c==8) (Ls (((Zh c.1 l,c.2.1,c.2.2.1,c.2.2.2.1,ZBP (Zh c.1 l,c.2) l.2.1,c.2.2.2.2.2),x4))) (.br (ZbR c==9) (.br (ZcU (Zh c.1 l) l !=0) (Ls (((x18.1,x19.1,[],x20.1,Znd (ZcU (Zh c.1 l) l) l.2.1,x20.2.2),x4))) (Ls (((Zh c.1 l,c.2.1,c.2.2.1,c.2.2.2.1,Znd (ZcU (Zh c.1 l) l) l.2.1,c.2.2.2.2.2),x4)))) (Ls (((Zh c.1 l,c.2),x4))))))))) Ln) Ln
def pAdv (c:QT2) (l:QT0) (d:Int):(QT2)×Bool×TC×List Int×TY×TC:=getO ZLE.Df (ZWB c l d).val
def ZWC (c:QT2) (l:QT0) (d:Int):Bool:=okB (ZWB c l d).val
def Z8v:En:=Zg ZWA ZLE (λa=>some (ZWC a.1 a.2.1 a.2.2)) (λa=>pAdv a.1 a.2.1 a.2.2)
theorem ZWz:Za prog 130 Z8v:=
 pureP 2679225218618052313454186380042176511 [(83,Zem),(84,ZLp),(120,ZlX),(136,Zp4),(189,Zt3),(191,ZLh),(192,Zmr),(193,ZLn),(194,Zxs),(195,Zxj),(196,ZBw)] [] _ _ ⟨ZfR,ZOZ,Zr7,Zp3,ZBX,ZOX,Zsu,ZLm,ZBJ,ZBF,ZF6,Tv⟩ Tryz.func130 Tryz.call130 trivial
abbrev Znl:Rs:=Rs.tup [Sh.agg (R.Pq Zq (R.Pq Kc (R.Pq (R.sl Ka) (R.Pq (RY) (R.Pq Kc R.bool))))),Sh.agg (R.Pq Kc (R.Pq Kb (R.Pq Ka (R.Pq R.bool (R.Pq R.bool (R.Pq R.bool (R.Pq R.bool (R.Pq R.bool (R.Pq R.bool (R.Pq R.bool rcF7))))))))))]
def Zln (c:QT2) (l:QT0) (d:Int):RT (Option ((QT2)×Int×Int×Int×Bool×Bool×Bool×Bool×Bool×Bool×Bool×Bool×Bool×Bool×Bool×Bool×Bool×Bool)):=
 let x1:Int×TF×Int×Int:=(ZfS (Z3 c.1) 0).1.2.1.2.2.2.2.2.2
 let x2:=x1.2
 let x3:TY×Int×Int×Bool×Bool:=(c.2.2.2.1,d,c.1.2.1.2.2.2.2.2.2.2.2.2,c.1.2.2.1,c.1.2.2.2.2.2.2.2.2.2.2.2.2)
 .br l.2.2.1 (Ls (((((ZfS (Z3 c.1) 0).1.1,((ZfS (Z3 c.1) 0).1.2.1.1,(ZfS (Z3 c.1) 0).1.2.1.2.1,(ZfS (Z3 c.1) 0).1.2.1.2.2.1,(ZfS (Z3 c.1) 0).1.2.1.2.2.2.1,(ZfS (Z3 c.1) 0).1.2.1.2.2.2.2.1,(ZfS (Z3 c.1) 0).1.2.1.2.2.2.2.2.1,x1.1,x2.1,x2.2.1,0),false,false,false,(ZfS (Z3 c.1) 0).1.2.2.2.2.2.1,false,false,false,false,false,false,false),0,[],(1,0,0,4),1,false),ZVn c.1.1 (10,x3)))) (.br (ZWC c l d) (Ls (((pAdv c l d).1,ZVn c.1.1 (ZbR c,x3)))) Ln)
def Z3C (c:QT2) (l:QT0) (d:Int):(QT2)×Int×Int×Int×Bool×Bool×Bool×Bool×Bool×Bool×Bool×Bool×Bool×Bool×Bool×Bool×Bool×Bool:=getO Znl.Df (Zln c l d).val
def ZWt (c:QT2) (l:QT0) (d:Int):Bool:=okB (Zln c l d).val
def Z6u:En:=Zg ZWA Znl (λa=>some (ZWt a.1 a.2.1 a.2.2)) (λa=>Z3C a.1 a.2.1 a.2.2)
theorem ZWs:Za prog 138 Z6u:=
 pureP 2047 [(79,Z3r),(80,Zxn),(130,Z8v),(136,Zp4),(172,ZHt)] [] _ _ ⟨Z0E,ZtY,ZWz,Zp3,ZBW,Tv⟩ Tryz.func138 Tryz.call138 trivial
def Zld (c:QT2) (l:QT0) (d:Int):RT (Option ((QT2)×Int×Int×Int×Bool×Bool×Bool×Bool×Bool×Bool×Bool×Bool×Bool×Bool×Bool×Bool×Bool×Bool)):=
 let x1:QT12:=(bif Zp c==9 then 0 else c.2.2.2.1.1,bif Zp c==9 then c.1.2.1.2.2.2.2.2.2.2.2.2 else c.2.2.2.1.2.1,bif Zp c==9 then 0 else c.2.2.2.1.2.2.1,bif Zp c==9 then 0 else c.2.2.2.1.2.2.2)
 let x2:=c.1.2.2.2.2.2.2.2.2.2.2.2.2
 let x3:QT25:=(ZgK c.1.1 10 x1 0 c.1.2.2.1 x2).2.2.2.2.2.2
 let x4:=x3.2.2.2.2.2.2.2
 let x5:=ZgK c.1.1 (Zp c) x1 d c.1.2.2.1 x2
 let x6:QT2:=(Zh c.1 l,c.2.1,[]++c.2.2.1,c.2.2.2)
 let x7:=ZJI x6 (ZcU (Zh c.1 l) l)
 let x8:=x7.2
 let x9:=x8.2.2
 let x10:Int:=bif l.2.1 then 8 else bif ZcU (Zh c.1 l) l !=0 then 1 else 9
 let x11:=ZiT x6 (Zp c) d
 let x12:=x11.1
 let x13:=ZjK (Zp c) x12
 let x14:=x11.2
 let x15:=rEnd (Zh c.1 l,c.2.1,x14,x12,c.2.2.2.2) l
 let x16:=x15.1
 let x17:=x16.2
 let x18:=x17.1
 let x19:=x18.2
 let x20:=x19.2
 let x21:=x20.2
 let x22:=x21.2
 let x23:=x22.2
 let x24:=x23.2
 let x25:=x24.2
 let x26:=x25.1
 let x27:TF:=(Zh c.1 l).2.1.2.2.2.2.2.2.2.1
 let x28:=x26.2
 let x29:=x27.2
 let x30:=x28.2
 let x31:=x29.2
 let x32:=x30.2
 let x33:=x31.2
 let x34:=x32.2
 let x35:=x33.2
 let x36:=x34.2
 let x37:=x35.2
 let x38:=x25.2
 let x39:Int×Int:=(Zh c.1 l).2.1.2.2.2.2.2.2.2.2
 let x40:=x17.2
 let x41:=x40.2
 let x42:=x41.2
 let x43:=x42.2
 let x44:=x43.2
 let x45:=x44.2
 let x46:=x45.2
 let x47:=x46.2
 let x48:=x47.2
 let x49:QT33:=(Zh c.1 l).2.2.2.2.2.2.2.2.2.2
 let x50:=x48.2
 let x51:=x49.2
 let x52:=x15.2
 let x53:=x52.2
 let x54:=x53.2
 let x55:=x54.1
 let x56:=x55.2
 let x57:=x12.2
 let x58:=x56.2
 let x59:=x57.2
 let x60:=x54.2
 .br l.2.2.1 (Ls (((((Z3 c.1).1,((Z3 c.1).2.1.1,(Z3 c.1).2.1.2.1,(Z3 c.1).2.1.2.2.1,(Z3 c.1).2.1.2.2.2.1,(Z3 c.1).2.1.2.2.2.2.1,(Z3 c.1).2.1.2.2.2.2.2.1,(Z3 c.1).2.1.2.2.2.2.2.2.1,(Z3 c.1).2.1.2.2.2.2.2.2.2.1,(Z3 c.1).2.1.2.2.2.2.2.2.2.2.1,0),false,false,false,(Z3 c.1).2.2.2.2.2.1,false,false,false,false,false,false,false),0,[],(1,0,0,4),1,false),10,0,0,false,false,false,x3.1,false,false,false,false,false,false,x4.1,false,false,x4.2.2.2))) (.br (Nat.ble (Le ([]++c.2.2.1)) most) (.br (Zp c==1) (Ls (((Zh c.1 l,c.2.1,[]++c.2.2.1,c.2.2.2.1,2,c.2.2.2.2.2),x5))) (.br (bif Zp c==2 then Zp c==2 else Zp c==7) (Ls (((Zh c.1 l,c.2.1,[]++c.2.2.1,c.2.2.2.1,bif l.1|| !Z6 c.2.2.2.1.1 then 3 else 7,bif l.1|| !Z6 c.2.2.2.1.1 then l.2.1 else c.2.2.2.2.2),x5))) (.br (Zp c==8) (Ls (((Zh c.1 l,c.2.1,bif l.2.1 then []++c.2.2.1 else []++c.2.2.1,c.2.2.2.1,bif l.2.1 then 8 else bif ZjD x6 then 9 else 1,c.2.2.2.2.2),x5))) (.br (Zp c==9) (.br (ZcU (Zh c.1 l) l !=0) (Ls (((x7.1,x8.1,[],x9.1,x10,x9.2.2),x5))) (Ls (((Zh c.1 l,c.2.1,[]++c.2.2.1,c.2.2.2.1,x10,c.2.2.2.2.2),x5)))) (.br (ZfQ x6 (Zp c) d) (Ls ((((bif x13 then x16.1 else (Zh c.1 l).1,(bif x13 then x18.1 else (Zh c.1 l).2.1.1,bif x13 then x19.1 else (Zh c.1 l).2.1.2.1,bif x13 then x20.1 else (Zh c.1 l).2.1.2.2.1,bif x13 then x21.1 else (Zh c.1 l).2.1.2.2.2.1,bif x13 then x22.1 else (Zh c.1 l).2.1.2.2.2.2.1,bif x13 then x23.1 else (Zh c.1 l).2.1.2.2.2.2.2.1,bif x13 then x24.1 else (Zh c.1 l).2.1.2.2.2.2.2.2.1,(bif x13 then x26.1 else x27.1,bif x13 then x28.1 else x29.1,bif x13 then x30.1 else x31.1,bif x13 then x32.1 else x33.1,bif x13 then x34.1 else x35.1,bif x13 then x36.1 else x37.1,bif x13 then x36.2 else x37.2),bif x13 then x38.1 else x39.1,bif x13 then x38.2 else x39.2),bif x13 then x40.1 else (Zh c.1 l).2.2.1,bif x13 then x41.1 else (Zh c.1 l).2.2.2.1,bif x13 then x42.1 else (Zh c.1 l).2.2.2.2.1,bif x13 then x43.1 else (Zh c.1 l).2.2.2.2.2.1,bif x13 then x44.1 else (Zh c.1 l).2.2.2.2.2.2.1,bif x13 then x45.1 else (Zh c.1 l).2.2.2.2.2.2.2.1,bif x13 then x46.1 else (Zh c.1 l).2.2.2.2.2.2.2.2.1,bif x13 then x47.1 else (Zh c.1 l).2.2.2.2.2.2.2.2.2.1,bif x13 then x48.1 else x49.1,bif x13 then x50.1 else x51.1,bif x13 then x50.2 else x51.2),bif x13 then x52.1 else c.2.1,bif x13 then x53.1 else x14,(bif x13 then x55.1 else x12.1,bif x13 then x56.1 else x57.1,bif x13 then x58.1 else x59.1,bif x13 then x58.2 else x59.2),bif x13 then x60.1 else i64.wrap (Zp c+1),bif x13 then x60.2 else c.2.2.2.2.2),x5))) Ln))))) Ln)
def Z29 (c:QT2) (l:QT0) (d:Int):(QT2)×Int×Int×Int×Bool×Bool×Bool×Bool×Bool×Bool×Bool×Bool×Bool×Bool×Bool×Bool×Bool×Bool:=getO Znl.Df (Zld c l d).val
def ZTZ (c:QT2) (l:QT0) (d:Int):Bool:=okB (Zld c l d).val
def Z5x:En:=Zg ZWA Znl (λa=>some (ZTZ a.1 a.2.1 a.2.2)) (λa=>Z29 a.1 a.2.1 a.2.2)
theorem ZTY:Za prog 178 Z5x:=
 pureP 740465775588642560936085758595903342518271 [(58,ZBc),(96,ZEo),(100,Z7Y),(109,Zgj),(173,ZwJ),(187,Zpp),(259,Z2J),(260,ZoD),(261,ZS9),(262,ZEk),(263,ZSY),(264,ZTQ),(265,Z72)] [] _ _ ⟨ZFD,ZAS,ZTq,ZeG,Zpx,Zpo,ZZP,ZoC,ZJ1,ZAM,ZJR,ZKn,Z5k,Tv⟩ Tryz.func178 Tryz.call178 trivial
abbrev LnT:=QT0
abbrev Zfv:=CpuT×Int×List Int×Cyc×Int×Bool
def ZS (n:Int):Int:=bif decide (n<1)||decide (n>9) then 1 else n
def ZC6 (c:CpuT) (s:Int):Zfv:=(c,s,[],(Zj c s []).1,1,false)
def idlX (c:CpuT) (s:Int) (h:Bool):Int:=bif h then 8 else bif c.2.2.2.2.1&&s==0 then 9 else 1
def endX (c:CpuT) (s:Int) (g:List Int) (h:Bool) (l:LnT):Zfv:=
 bif (Zj c s g).2 then (c,s,g,(Zj c s g).1,idlX c s h,false) else
 let q:=finX c s g l
 let k:=ZcU q l
 let d:=Zbo q k
 (d,k,[],(Zj d k []).1,idlX d k h,false)
def ZcI (c:CpuT) (x:Cyc) (d:Int):Cyc:=
 let v:=bif Zbi x.1 then d else x.2.2.1
 (x.1,x.2.1,v,bif x.1==1||x.1==8 then ZgG c.1 v else x.2.2.2)
def le3 (x:Int):Bool:=decide (x<=3)
def ZX (c:Zfv) (l:LnT) (d:Int):Zfv:=
 let t:=ZS c.2.2.2.2.1
 let p:=Zh c.1 l
 let s:=c.2.1
 let g:=c.2.2.1
 let x:=c.2.2.2.1
 let h:=c.2.2.2.2.2
 bif l.2.2.1 then ZC6 (Z3 c.1) 0 else
 bif t==1 then (p,s,g,x,2,h) else
 bif t==2||t==7 then (bif l.1|| !Z6 x.1 then (p,s,g,x,3,l.2.1) else (p,s,g,x,7,h)) else
 bif t==8 then (p,s,g,x,idlX p s l.2.1,h) else
 bif t==9 then
  (let k:=ZcU p l
   bif k==0 then (p,s,g,x,bif l.2.1 then 8 else 9,h) else
   (Zbo p k,k,[],(Zj (Zbo p k) k []).1,bif l.2.1 then 8 else 1,h)) else
 bif t==3 then
  (let y:=ZcI p x d
   bif le3 y.2.2.2 then endX p s (g++[y.2.2.1]) h l else (p,s,g++[y.2.2.1],y,4,h)) else
 bif decide (t<x.2.2.2)&& !(t==6) then (p,s,g,x,t+1,h) else endX p s g h l
abbrev PinT:=QT10
def ZXN (c:Zfv) (t:Int):Cyc:=bif t==9 then (0,c.1.2.1.2.2.2.2.2.2.2.2.2,0,0) else c.2.2.2.1
def Zcu (c:Zfv) (l:LnT) (d:Int):PinT:=
 let t:=ZS c.2.2.2.2.1
 ZgK c.1.1 (bif l.2.2.1 then 10 else t) (ZXN c t) (bif l.2.2.1 then 0 else d) c.1.2.2.1 c.1.2.2.2.2.2.2.2.2.2.2.2.2
theorem Zoa (n:Int):1<=ZS n/\ZS n<=9:=by
 unfold ZS;by_cases h:n<1\/n>9
 ·have:(decide (n<1)||decide (n>9))=true:=by simpa using h
  rw[this];simp
 ·have:(decide (n<1)||decide (n>9))=false:=by simpa using h
  rw[this];simp only[Yc];omega
theorem ZAm (c):Zp c=ZS c.2.2.2.2.1:=rfl
theorem ZBk (c):ZbR c=ZS c.2.2.2.2.1:=rfl
theorem ZAn (c:Zfv) (s):ZJI c s=(Zbo c.1 s,s,[],(Zj (Zbo c.1 s) s []).1,c.2.2.2.2):=rfl
theorem ZUl (c:Zfv) (s):ZBG c s=(Zbo c.1 s,s,[],(Zj (Zbo c.1 s) s []).1,c.2.2.2.2):=rfl
theorem Z0j (c:Zfv) (h:Bool):ZBP c h=idlX c.1 c.2.1 h:=by simp only[ZBP,ZVV,idlX,RT.val]
theorem Z4U (c:Zfv) (l:LnT):rEnd c l=endX c.1 c.2.1 c.2.2.1 c.2.2.2.2.2 l:=by cases h:(Zj c.1 c.2.1 c.2.2.1).2<;>simp only[rEnd,Z5l,RT.val,h,Ya,Yc,ZAn,endX,ZjD,ZjC,idlX]
theorem Z8c (chip:Int) (x y:Cyc) (d:Int) (i o:Bool):ZgK chip 10 x d i o=ZgK chip 10 y 0 i o:=by simp only[ZgK,ZoG,RT.val,ZaE];generalize (chip==2)=b;cases b<;>simp
theorem Z5G (chip:Int) (x:Cyc) (i o:Bool):ZgK chip 10 x 0 i o=(10,0,0,false,false,false,(ZgK chip 10 x 0 i o).2.2.2.2.2.2.1,false,false,false,false,false,false,(ZgK chip 10 x 0 i o).2.2.2.2.2.2.2.2.2.2.2.2.2.1,false,false,(ZgK chip 10 x 0 i o).2.2.2.2.2.2.2.2.2.2.2.2.2.2.2.2):=by simp only[ZgK,ZoG,RT.val,ZaE];generalize (chip==2)=b;cases b<;>simp
theorem Zop (c:CpuT):Z3 c=((Z3 c).1,((Z3 c).2.1.1,(Z3 c).2.1.2.1,(Z3 c).2.1.2.2.1,(Z3 c).2.1.2.2.2.1,(Z3 c).2.1.2.2.2.2.1,(Z3 c).2.1.2.2.2.2.2.1,(Z3 c).2.1.2.2.2.2.2.2.1,(Z3 c).2.1.2.2.2.2.2.2.2.1,(Z3 c).2.1.2.2.2.2.2.2.2.2.1,0),false,false,false,(Z3 c).2.2.2.2.2.1,false,false,false,false,false,false,false):=by simp only[Z3,Zk9,RT.val,ZaE]
theorem ZMw (c:CpuT):ZC6 (Z3 c) 0=(Z3 c,0,[],(1,0,0,4),1,false):=by
 simp only[ZC6];have:(Zj (Z3 c) 0 []).1=(1,0,0,4):=by
  have hp:pcOf (Z3 c)=0:=by rw[Zop];rfl
  simp[Zj,Zlh,Zc,Zlb,RT.val,hp];rfl
 rw[this]
theorem len1 {α:Type} (l:List α) (x:α) (h:l.length+1<=most):Nat.ble l.length most=true/\Nat.ble (l++[x]).length most=true:=by rw[YF,YF];simp only[Yd,List.length_cons,List.length_nil];omega
theorem ZZp (c:Zfv) (d:Int) (hg:c.2.2.1.length+1<=most):(ZjF c 3 d).val=some (ZcI c.1 c.2.2.2.1 d,c.2.2.1++[(ZcI c.1 c.2.2.2.1 d).2.2.1]):=by have h:=len1 c.2.2.1 (bif Zbi c.2.2.2.1.1 then d else c.2.2.2.1.2.2.1) hg;simp only[ZjF,RT.val,List.nil_append,h.1,h.2,Ye,Yi,Ya,ZcI,Yai,Yc]
theorem Zol (c:Zfv) (t d:Int) (ht:t≠3):(ZjF c t d).val=some (c.2.2.2.1,c.2.2.1):=by
 have:(t !=3)=true:=by simpa using ht
 simp only[ZjF,RT.val,this,Ya]
abbrev ChgT:=Bool×CpuT×List Int×Cyc×CpuT
abbrev cpu0:CpuT:=(0,(0,0,0,0,0,0,0,(false,false,false,false,false,false,false),0,0),false,false,false,0,false,false,false,false,false,false,false)
def ZaK (c:Zfv) (l:LnT) (d:Int):ChgT:=
 let t:=ZS c.2.2.2.2.1
 let p:=Zh c.1 l
 let s:=c.2.1
 let g:=c.2.2.1
 let x:=c.2.2.2.1
 bif t==3 then
  (let y:=ZcI p x d
   bif le3 y.2.2.2&& !(Zj p s (g++[y.2.2.1])).2 then (true,finX p s (g++[y.2.2.1]) l,g++[y.2.2.1],y,p) else (false,cpu0,[],y,p)) else
 bif (t==4||(t==5||t==6))&&(!(decide (t<x.2.2.2)&& !(t==6))&& !(Zj p s g).2) then (true,finX p s g l,g,x,p) else (false,cpu0,[],x,p)
theorem gt3 (x:Int):decide (x>3)= !le3 x:=by unfold le3;by_cases h:x<=3<;>simp[h]<;>omega
theorem ZHx (c:Zfv) (l:LnT) (d:Int) (hg:c.2.2.1.length+1<=most) (hr:l.2.2.1=false):(ZWB c l d).val=some (ZX c l d,ZaK c l d):=by
 have h1:=λx=>len1 c.2.2.1 x hg
 obtain⟨t1,t2⟩:=Zoa c.2.2.2.2.1;unfold ZWB ZX ZaK;simp only[ZBk,hr,Yc,RT.val,(h1 0).1,(h1 _).2,Ya,Yh,ZUl,Z0j,endX,ZcI,idlX,Znd,ZpW,gt3];have:ZS c.2.2.2.2.1=1\/ZS c.2.2.2.2.1=2\/ZS c.2.2.2.2.1=7\/ZS c.2.2.2.2.1=3\/ZS c.2.2.2.2.1=4\/ZS c.2.2.2.2.1=5\/ZS c.2.2.2.2.1=6\/ZS c.2.2.2.2.1=8\/ZS c.2.2.2.2.1=9:=by omega
 rcases this with h|h|h|h|h|h|h|h|h<;>simp only[h,Int.reduceBEq,Int.reduceBNe,Ya,Yc,Yi,Yu,Y3,YL,YT,YH,Ye,Yl,gt_iff_lt,show IntKind.wrap .i64 (4+1)=4+1 from rfl,show IntKind.wrap .i64 (5+1)=5+1 from rfl]
 ·cases Z6 c.2.2.2.1.1<;>cases l.1<;>rfl
 ·cases Z6 c.2.2.2.1.1<;>cases l.1<;>rfl
 ·cases hA:le3 (ZcI (Zh c.1 l) c.2.2.2.1 d).2.2.2<;>cases hB:(Zj (Zh c.1 l) c.2.1 (c.2.2.1++[(ZcI (Zh c.1 l) c.2.2.2.1 d).2.2.1])).2<;>simp only[ZcI] at hA hB<;>simp only[hA,hB,Ya,Yc,Ye,Yl,YT,Y3,YL]<;>with_reducible rfl
 ·cases decide (4<c.2.2.2.1.2.2.2)<;>cases (Zj (Zh c.1 l) c.2.1 c.2.2.1).2<;>rfl
 ·cases decide (5<c.2.2.2.1.2.2.2)<;>cases (Zj (Zh c.1 l) c.2.1 c.2.2.1).2<;>rfl
 ·cases (Zj (Zh c.1 l) c.2.1 c.2.2.1).2<;>rfl
 ·have hb:(ZcU (Zh c.1 l) l !=0)= !(ZcU (Zh c.1 l) l==0):=rfl;rw[hb];cases hk:(ZcU (Zh c.1 l) l==0)<;>rfl
theorem Z8J (t x:Int):decide (t<x)= !decide (x<=t):=by by_cases h:x<=t<;>simp[h]<;>omega
theorem ZBt (c:Zfv) (l:LnT) (d:Int) (hg:c.2.2.1.length+1<=most):(Zln c l d).val=some (ZX c l d,Zcu c l d):=by
 obtain⟨t1,t2⟩:=Zoa c.2.2.2.2.1;cases hr:l.2.2.1 with
 |true=>
  have hb:ZfS (Z3 c.1) 0=(Z3 c.1,0,[],(Zj (Z3 c.1) 0 []).1,1,false):=rfl;simp only[Zln,RT.val,hr,Ya,ZX,Zcu,ZMw,hb];rw[<-Zop,ZUM c.1.1 10 (by decide) (by decide) c.2.2.2.1 d 0 _ _ _ (λh=>absurd rfl h),Z8c c.1.1 _ (ZXN c (ZS c.2.2.2.2.1)) 0]
 |false=>
  have h:=ZHx c l d hg hr;have h1:ZWC c l d=true:=by simp only[ZWC,h,okB]
  have h2:(pAdv c l d).1=ZX c l d:=by simp only[pAdv,h,getO]
  simp only[Zln,RT.val,hr,Yc,h1,Ya,h2,Zcu,ZBk];rw[ZUM c.1.1 (ZS c.2.2.2.2.1) t1 (by omega) c.2.2.2.1 d d _ _ _ (λ_=>rfl)];simp only[ZXN]
theorem ZAt (c:Zfv) (l:LnT) (d:Int) (hg:c.2.2.1.length+1<=most):(Zld c l d).val=some (ZX c l d,Zcu c l d):=by
 obtain⟨t1,t2⟩:=Zoa c.2.2.2.2.1;have hx:ZXN c (ZS c.2.2.2.2.1)=(bif ZS c.2.2.2.2.1==9 then 0 else c.2.2.2.1.1,bif ZS c.2.2.2.2.1==9 then c.1.2.1.2.2.2.2.2.2.2.2.2 else c.2.2.2.1.2.1,bif ZS c.2.2.2.2.1==9 then 0 else c.2.2.2.1.2.2.1,bif ZS c.2.2.2.2.1==9 then 0 else c.2.2.2.1.2.2.2):=by unfold ZXN;cases ZS c.2.2.2.2.1==9<;>simp only[Ya,Yc,Ye,Yl,YT,Y3,YL,YH,Yh,Yu,Ys,Yi]
 have hl:Nat.ble c.2.2.1.length most=true:=(len1 c.2.2.1 0 hg).1;cases hr:l.2.2.1 with
 |true=>
  simp only[Zld,RT.val,hr,Ya,ZX,Zcu,ZMw,ZAm,<-hx];rw[<-Z5G,<-Zop]
 |false=>
  simp only[Zld,RT.val,hr,Yc,List.nil_append,hl,Ya,ZAm,ZAn,Z4U,<-hx,Zcu];have:ZS c.2.2.2.2.1=1\/ZS c.2.2.2.2.1=2\/ZS c.2.2.2.2.1=7\/ZS c.2.2.2.2.1=3\/ZS c.2.2.2.2.1=4\/ZS c.2.2.2.2.1=5\/ZS c.2.2.2.2.1=6\/ZS c.2.2.2.2.1=8\/ZS c.2.2.2.2.1=9:=by omega
  have q3:=ZZp (Zh c.1 l,c.2.1,c.2.2.1,c.2.2.2) d hg;rcases this with h|h|h|h|h|h|h|h|h
  ·simp only[ZX,hr,h,Int.reduceBEq,Ya,Yc]
  ·simp only[ZX,hr,h,Int.reduceBEq,Ya,Yc,Ys];cases l.1|| !Z6 c.2.2.2.1.1<;>simp only[Ya,Yc,Ye,Yl,YT,Y3,YL,YH,Yh,Yu,Ys,Yi]
  ·simp only[ZX,hr,h,Int.reduceBEq,Ya,Yc,Yh];cases l.1|| !Z6 c.2.2.2.1.1<;>simp only[Ya,Yc,Ye,Yl,YT,Y3,YL,YH,Yh,Yu,Ys,Yi]
  ·have e1:ZfQ (Zh c.1 l,c.2.1,c.2.2.1,c.2.2.2) 3 d=true:=by simp only[ZfQ,q3,okB]
   have e2:ZiT (Zh c.1 l,c.2.1,c.2.2.1,c.2.2.2) 3 d=(ZcI (Zh c.1 l) c.2.2.2.1 d,c.2.2.1++[(ZcI (Zh c.1 l) c.2.2.2.1 d).2.2.1]):=by simp only[ZiT,q3,getO]
   simp only[ZX,hr,h,Int.reduceBEq,Ya,Yc,Y8,e1,e2,ZjK,ZtG,RT.val];rw[show decide ((ZcI (Zh c.1 l) c.2.2.2.1 d).2.2.2<=3)=le3 (ZcI (Zh c.1 l) c.2.2.2.1 d).2.2.2 from rfl];cases le3 (ZcI (Zh c.1 l) c.2.2.2.1 d).2.2.2<;>rfl
  ·have q:=Zol (Zh c.1 l,c.2.1,c.2.2.1,c.2.2.2) 4 d (by decide);have e1:ZfQ (Zh c.1 l,c.2.1,c.2.2.1,c.2.2.2) 4 d=true:=by simp only[ZfQ,q,okB]
   have e2:ZiT (Zh c.1 l,c.2.1,c.2.2.1,c.2.2.2) 4 d=(c.2.2.2.1,c.2.2.1):=by simp only[ZiT,q,getO]
   simp only[ZX,hr,h,Int.reduceBEq,Ya,Yc,Y8,Yl,YT,e1,e2,ZjK,ZtG,RT.val,show IntKind.wrap .i64 (4+1)=4+1 from rfl,Z8J];cases decide (c.2.2.2.1.2.2.2<=4)<;>rfl
  ·have q:=Zol (Zh c.1 l,c.2.1,c.2.2.1,c.2.2.2) 5 d (by decide);have e1:ZfQ (Zh c.1 l,c.2.1,c.2.2.1,c.2.2.2) 5 d=true:=by simp only[ZfQ,q,okB]
   have e2:ZiT (Zh c.1 l,c.2.1,c.2.2.1,c.2.2.2) 5 d=(c.2.2.2.1,c.2.2.1):=by simp only[ZiT,q,getO]
   simp only[ZX,hr,h,Int.reduceBEq,Ya,Yc,Y8,Yl,YT,e1,e2,ZjK,ZtG,RT.val,show IntKind.wrap .i64 (5+1)=5+1 from rfl,Z8J];cases decide (c.2.2.2.1.2.2.2<=5)<;>rfl
  ·have q:=Zol (Zh c.1 l,c.2.1,c.2.2.1,c.2.2.2) 6 d (by decide);have e1:ZfQ (Zh c.1 l,c.2.1,c.2.2.1,c.2.2.2) 6 d=true:=by simp only[ZfQ,q,okB]
   have e2:ZiT (Zh c.1 l,c.2.1,c.2.2.1,c.2.2.2) 6 d=(c.2.2.2.1,c.2.2.1):=by simp only[ZiT,q,getO]
   simp only[ZX,hr,h,Int.reduceBEq,Ya,Yc,Y8,Ye,Y3,e1,e2,ZjK,ZtG,RT.val]
  ·simp only[ZX,hr,h,Int.reduceBEq,Ya,Yc,Y8,ZjD,ZjC,RT.val,idlX];cases l.2.1<;>rfl
  ·have hb:(ZcU (Zh c.1 l) l !=0)= !(ZcU (Zh c.1 l) l==0):=rfl;simp only[ZX,hr,h,Int.reduceBEq,Ya,Yc,Y8,hb];cases hk:(ZcU (Zh c.1 l) l==0)<;>rfl
def Zjt (c:Zfv):Bool:=Nat.ble (c.2.2.1.length+1) most
theorem ZdT {c:Zfv}:Zjt c=true↔c.2.2.1.length+1<=most:=by simp[Zjt]
def clkX (c:Zfv) (l:LnT) (d:Int):Zfv×PinT:=(ZX c l d,Zcu c l d)
def Zyw:En:=Zg ZWA Znl (λa=>some (Zjt a.1)) (λa=>clkX a.1 a.2.1 a.2.2)
theorem ZPE:Za prog 138 Zyw:=ZWs.pure_congr
 (λa h hp=>by have h1:=ZBt a.1 a.2.1 a.2.2 (ZdT.1 (by simpa using hp));simp[ZWt,h1,okB])
 (λa h hp=>by have h1:=ZBt a.1 a.2.1 a.2.2 (ZdT.1 (by simpa using hp));simp only[Z3C,h1,getO,clkX])
def ZKr:En:=Zg ZWA Znl (λa=>some (Zjt a.1)) (λa=>clkX a.1 a.2.1 a.2.2)
theorem ZOk:Za prog 178 ZKr:=ZTY.pure_congr
 (λa h hp=>by have h1:=ZAt a.1 a.2.1 a.2.2 (ZdT.1 (by simpa using hp));simp[ZTZ,h1,okB])
 (λa h hp=>by have h1:=ZAt a.1 a.2.1 a.2.2 (ZdT.1 (by simpa using hp));simp only[Z29,h1,getO,clkX])
def ZWD:En:=Zg ZWA ZLE (λa=>some (Zjt a.1&& !a.2.1.2.2.1)) (λa=>(ZX a.1 a.2.1 a.2.2,ZaK a.1 a.2.1 a.2.2))
theorem Z04:Za prog 130 ZWD:=ZWz.pure_congr
 (λa h hp=>by
  have hp:(Zjt a.1&& !a.2.1.2.2.1)=true:=by simpa using hp
  simp only[Yb,YE] at hp
  have h1:=ZHx a.1 a.2.1 a.2.2 (ZdT.1 hp.1) hp.2;simp[ZWC,h1,okB])
 (λa h hp=>by
  have hp:(Zjt a.1&& !a.2.1.2.2.1)=true:=by simpa using hp
  simp only[Yb,YE] at hp
  have h1:=ZHx a.1 a.2.1 a.2.2 (ZdT.1 hp.1) hp.2;simp only[pAdv,h1,getO])
def newX (chip:Int):Zfv:=ZC6 (Z3 (chip,(0,0,0,0,0,0,0,(false,false,false,false,false,false,false),0,0),false,false,false,0,false,false,false,false,false,false,false)) 0
theorem Z4R (chip:Int):rNew chip=newX chip:=by unfold newX;rw[ZMw];simp only[rNew,Z5b,RT.val,Z3,Zk9,ZaE]
theorem Z5A (chip:Int):pNew chip=newX chip:=by
 have hb:∀c,ZfS c 0=ZC6 c 0:=λ_=>rfl
 unfold newX;simp only[pNew,Z55,RT.val,hb];rw[ZMw];simp only[Z3,Zk9,RT.val,ZaE]
def ZVG:En:=Zg ZBC ZK5 (λ_=>none) (λa=>newX a)
theorem Z0N:Za prog 97 ZVG:=Z54.tot (λa h=>by simp) (λa h=>Z5A _)
def Z2Q:En:=Zg ZBC ZK5 (λ_=>none) (λa=>newX a)
theorem ZZY:Za prog 100 Z2Q:=ZTq.tot (λa h=>by simp) (λa h=>Z4R _)
abbrev ZLV:List Sh:=[So Kc,So Kc]
def Zru (x:Int) (n:Int):RT (Option (Int)):=
 .br (IntKind.u64.wrap n !=0) (Ls (i64.wrap (Int.tmod (IntKind.u64.wrap x) (IntKind.u64.wrap n)))) Ln
def ZLW (x:Int) (n:Int):Int:=getO Z3u.Df (Zru x n).val
def ZyR (x:Int) (n:Int):Bool:=okB (Zru x n).val
def ZXg:En:=Zg ZLV Z3u (λa=>some (ZyR a.1 a.2)) (λa=>ZLW a.1 a.2)
theorem ZXe:Za prog 47 ZXg:=
 pureP 31 [] [] _ _ trivial Tryz.func47 Tryz.call47 trivial
abbrev ZHM:R:=R.Pq (R.sl Kc) Kc
def Zrd (s:List Int×Int) (n:Int):RT (Option (QT22)):=
 let x1:=Ze (i64.wrap (i64.wrap (s.2+1)-1)) (Le s.1)
 let x2:Int:=R.get Kc s.1 (i64.wrap (i64.wrap (s.2+1)-1))
 .br (decide (s.2>=iN (Le s.1))) (Ls ((0,s.1,i64.wrap (s.2+1)))) (.br (!x1||ZyR x2 n) (.br (x1) (Ls ((ZLW x2 n,s.1,i64.wrap (s.2+1)))) Ln) Ln)
def Zd (s:List Int×Int) (n:Int):QT22:=getO (Z3u.Df,ZHM.Df) (Zrd s n).val
def Zk (s:List Int×Int) (n:Int):Bool:=okB (Zrd s n).val
def Zdc:En:=boxE ZHM ZBC Z3u (λa=>some (Zk a.1 a.2)) (λa=>Zd a.1 a.2)
theorem Zbj:Za prog 68 Zdc:=
 ZcQ (P:=prog) (n:=31) (k:=8) (l:=[(47,ZXg)]) (ol:=[]) ⟨ZXe,Tv⟩ Tryz.func68 rfl (by kernel_rfl) Tryz.call68 trivial (rb:=ZHM) (ts:=ZBC) (rs:=Z3u) (t:=λa=>Zrd a.1 a.2) (λa=>by kernel_rfl)
def Zrk (s:List Int×Int):RT (Option (QT22)):=
 let x1:List Int:=[0,1,127,128,255,15,16,153,154,9,102,254,129,85,170,64]
 .br (Zk s 512) (.br (!decide ((Zd s 512).1>=256)||Ze (Int.tmod (Zd s 512).1 16) (Le x1)) (.br (decide ((Zd s 512).1>=256)) (Ls ((R.get Ka x1 (Int.tmod (Zd s 512).1 16),(Zd s 512).2))) (Ls ((u8.wrap (Zd s 512).1,(Zd s 512).2)))) Ln) Ln
def Zdo (s:List Int×Int):QT22:=getO (ZWw.Df,ZHM.Df) (Zrk s).val
def Zhx (s:List Int×Int):Bool:=okB (Zrk s).val
def ZCe:En:=boxE ZHM ZBh ZWw (λa=>some (Zhx a.1)) (λa=>Zdo a.1)
theorem Znp:Za prog 71 ZCe:=
 ZcQ (P:=prog) (n:=15) (k:=8) (l:=[(68,Zdc)]) (ol:=[]) ⟨Zbj,Tv⟩ Tryz.func71 rfl (by kernel_rfl) Tryz.call71 trivial (rb:=ZHM) (ts:=ZBh) (rs:=ZWw) (t:=λa=>Zrk a.1) (λa=>by kernel_rfl)
def Zj9 (s:List Int×Int):RT (Option (QT22)):=
 let x1:List Int:=[0,1,65535,65534,32767,32768,255,256]
 let x2:= !(Zd s 5).1==0||(!Zk (Zd s 5).2 8||Ze (Zd (Zd s 5).2 8).1 (Le x1))
 let x3:= !x2
 let x4:= !(Zd s 5).1==0||Zk (Zd s 5).2 8
 .br (Zk s 5) (.br (x3||(!x4||((Zd s 5).1==0||(!(Zd s 5).1==1||Zk (Zd s 5).2 65536)))) (.br (x3||x4) (.br (x2) (.br ((Zd s 5).1==0) (Ls ((R.get Kb x1 (Zd (Zd s 5).2 8).1,(Zd (Zd s 5).2 8).2))) (.br ((Zd s 5).1==1) (Ls ((u16.wrap (Zd (Zd s 5).2 65536).1,(Zd (Zd s 5).2 65536).2))) (.br (Zk (Zd s 5).2 64) (Ls ((u16.wrap (Zd (Zd s 5).2 64).1,(Zd (Zd s 5).2 64).2))) Ln))) Ln) Ln) Ln) Ln
def Zb8 (s:List Int×Int):QT22:=getO (ZHd.Df,ZHM.Df) (Zj9 s).val
def ZgH (s:List Int×Int):Bool:=okB (Zj9 s).val
def ZWQ:En:=boxE ZHM ZBh ZHd (λa=>some (ZgH a.1)) (λa=>Zb8 a.1)
theorem ZLH:Za prog 70 ZWQ:=
 ZcQ (P:=prog) (n:=4135) (k:=8) (l:=[(68,Zdc)]) (ol:=[]) ⟨Zbj,Tv⟩ Tryz.func70 rfl (by kernel_rfl) Tryz.call70 trivial (rb:=ZHM) (ts:=ZBh) (rs:=ZHd) (t:=λa=>Zj9 a.1) (λa=>by kernel_rfl)
def ZCd (s:List Int×Int):RT (Option (QT22)):=
 .br (Zk s 2) (Ls ((i64.wrap (1+(Zd s 2).1),(Zd s 2).2))) Ln
def Za7 (s:List Int×Int):QT22:=getO (Z3u.Df,ZHM.Df) (ZCd s).val
def Zrj (s:List Int×Int):Bool:=okB (ZCd s).val
def ZW0:En:=boxE ZHM ZBh Z3u (λa=>some (Zrj a.1)) (λa=>Za7 a.1)
theorem ZLM:Za prog 122 ZW0:=
 ZcQ (P:=prog) (n:=7) (k:=8) (l:=[(68,Zdc)]) (ol:=[]) ⟨Zbj,Tv⟩ Tryz.func122 rfl (by kernel_rfl) Tryz.call122 trivial (rb:=ZHM) (ts:=ZBh) (rs:=Z3u) (t:=λa=>ZCd a.1) (λa=>by kernel_rfl)
def Zgp (s:List Int×Int):RT (Option (QT22)):=
 let x1:List Int:=[251,243,118,205,201,197,227,211,219,54,52,32,48,194,202,255,62,49]
 .br (Zk s 3) (.br (!decide ((Zd s 3).1>0)||Zk (Zd s 3).2 256) (.br (decide ((Zd s 3).1>0)) (Ls ((u8.wrap (Zd (Zd s 3).2 256).1,(Zd (Zd s 3).2 256).2))) (.br (!Zk (Zd s 3).2 18||Ze (Zd (Zd s 3).2 18).1 (Le x1)) (.br (Zk (Zd s 3).2 18) (Ls ((R.get Ka x1 (Zd (Zd s 3).2 18).1,(Zd (Zd s 3).2 18).2))) Ln) Ln)) Ln) Ln
def Zat (s:List Int×Int):QT22:=getO (ZWw.Df,ZHM.Df) (Zgp s).val
def Zcx (s:List Int×Int):Bool:=okB (Zgp s).val
def Zib:En:=boxE ZHM ZBh ZWw (λa=>some (Zcx a.1)) (λa=>Zat a.1)
theorem ZfW:Za prog 119 Zib:=
 ZcQ (P:=prog) (n:=7) (k:=8) (l:=[(68,Zdc)]) (ol:=[]) ⟨Zbj,Tv⟩ Tryz.func119 rfl (by kernel_rfl) Tryz.call119 trivial (rb:=ZHM) (ts:=ZBh) (rs:=ZWw) (t:=λa=>Zgp a.1) (λa=>by kernel_rfl)
def NB (s:List Int×Int) (k:Int):Prop:=0<=s.2/\s.2<=k
theorem ZXf (x n:Int) (h0:0<n) (h1:n<=4611686018427387904):ZyR x n=true/\ZLW x n=(x%18446744073709551616)%n:=by
 have e:IntKind.wrap .u64 n=n:=ZnF ⟨by simp[IntKind.min,IntKind.signed];omega,by simp[IntKind.max,IntKind.signed,IntKind.bits];omega⟩;have e2:IntKind.wrap .u64 x=x%18446744073709551616:=by simp[IntKind.wrap,IntKind.signed,IntKind.bits]
 have hn:(n !=0)=true:=by simp;omega
 have h2:0<=x%18446744073709551616:=Int.emod_nonneg _ (by decide);have h3:=Int.emod_nonneg (x%18446744073709551616) (b:=n) (by omega);have h4:=Int.emod_lt_of_pos (x%18446744073709551616) (b:=n) h0;have hv:(Zru x n).val=some ((x%18446744073709551616)%n):=by simp only[Zru,RT.val,e,e2,hn,Ya,Int.tmod_eq_emod_of_nonneg h2];rw[wrap_i64 _ (by omega) (by omega)]
 exact⟨by simp only[ZyR,hv];rfl,by simp only[ZLW,hv,getO]⟩
variable {s:List Int×Int} {k:Int}
theorem ZE (h:NB s k) (hk:k<=1000000) (n:Int) (h0:0<n) (h1:n<=4611686018427387904):
  Zk s n=true/\NB (Zd s n).2 (k+1)/\0<=(Zd s n).1/\(Zd s n).1<n:=by
 obtain⟨ha,hb⟩:=h;have e1:IntKind.wrap .i64 (s.2+1)=s.2+1:=wrap_i64 _ (by omega) (by omega);have e2:IntKind.wrap .i64 s.2=s.2:=wrap_i64 _ (by omega) (by omega);by_cases hl:(s.1.length:Int)<=s.2
 ·have hv:(Zrd s n).val=some (0,s.1,s.2+1):=by simp[Zrd,RT.val,iN,Le,hl,e1]
  simp only[Zk,Zd,hv,okB,getO,NB];exact⟨trivial,⟨by omega,by omega⟩,by omega,h0⟩
 ·have hr:Ze s.2 s.1.length=true:=ZF.2 ⟨ha,by omega⟩;obtain⟨p1,p2⟩:=ZXf (R.get (R.int i64) s.1 s.2) n h0 h1;have h3:=Int.emod_nonneg (R.get (R.int i64) s.1 s.2%18446744073709551616) (b:=n) (by omega);have h4:=Int.emod_lt_of_pos (R.get (R.int i64) s.1 s.2%18446744073709551616) (b:=n) h0;have hv:(Zrd s n).val=some ((R.get (R.int i64) s.1 s.2%18446744073709551616)%n,s.1,s.2+1):=by simp[Zrd,RT.val,iN,Le,hl,e1,e2,hr,p1,p2]
  simp only[Zk,Zd,hv,okB,getO,NB];exact⟨trivial,⟨by omega,by omega⟩,h3,h4⟩
theorem Znq (h:NB s k) (hk:k<=1000000):Zhx s=true/\NB (Zdo s).2 (k+1)/\inR .u8 (Zdo s).1:=by
 obtain⟨c,b,d0,d1⟩:=ZE h hk 512 (by decide) (by decide);have m0:0<=(Zd s 512).1%16:=Int.emod_nonneg _ (by decide);have m1:(Zd s 512).1%16<16:=Int.emod_lt_of_pos _ (by decide);have ht:Int.tmod (Zd s 512).1 16=(Zd s 512).1%16:=Int.tmod_eq_emod_of_nonneg d0;by_cases hn:256<=(Zd s 512).1
 ·have hv:(Zrk s).val=some (R.get (R.int u8) [0,1,127,128,255,15,16,153,154,9,102,254,129,85,170,64] ((Zd s 512).1%16),(Zd s 512).2):=by simp[Zrk,RT.val,c,hn,ht,Ze,m0,m1]
  simp only[Zhx,Zdo,hv,okB,getO];refine⟨trivial,b,?_⟩;have hall:∀i:Nat,i<16->inR .u8 (([0,1,127,128,255,15,16,153,154,9,102,254,129,85,170,64]:List Int).getD i 0):=by
   intro i hi;have:∀i:Fin 16,decide (0<=([0,1,127,128,255,15,16,153,154,9,102,254,129,85,170,64]:List Int).getD i 0)&&decide (([0,1,127,128,255,15,16,153,154,9,102,254,129,85,170,64]:List Int).getD i 0<=255):=by decide
   have:=this ⟨i,hi⟩;rw[Zfj];simpa using this
  exact hall ((Zd s 512).1%16).toNat (by omega)
 ·have hv:(Zrk s).val=some (IntKind.wrap .u8 (Zd s 512).1,(Zd s 512).2):=by simp[Zrk,RT.val,c,hn]
  simp only[Zhx,Zdo,hv,okB,getO];exact⟨trivial,b,Zaw _ _⟩
theorem Z1a (h:NB s k) (hk:k<=900000):ZgH s=true/\NB (Zb8 s).2 (k+2)/\inR .u16 (Zb8 s).1:=by
 obtain⟨c,b,d0,d1⟩:=ZE h (by omega) 5 (by decide) (by decide);obtain⟨c8,b8,e0,e1⟩:=ZE b (by omega) 8 (by decide) (by decide);obtain⟨c6,b6,_⟩:=ZE b (by omega) 65536 (by decide) (by decide);obtain⟨c4,b4,_⟩:=ZE b (by omega) 64 (by decide) (by decide);have w:∀{t:List Int×Int},NB t (k+1+1)->NB t (k+2):=λh=>⟨h.1,by have:=h.2;omega⟩
 have hr:Ze (Zd (Zd s 5).2 8).1 8=true:=ZF.2 ⟨e0,by omega⟩;by_cases h0:(Zd s 5).1=0
 ·have hv:(Zj9 s).val=some (R.get (R.int u16) [0,1,65535,65534,32767,32768,255,256] (Zd (Zd s 5).2 8).1,(Zd (Zd s 5).2 8).2):=by simp[Zj9,RT.val,c,h0,c8,hr]
  simp only[ZgH,Zb8,hv,okB,getO];refine⟨trivial,w b8,?_⟩;have hall:∀i:Nat,i<8->inR .u16 (([0,1,65535,65534,32767,32768,255,256]:List Int).getD i 0):=by
   intro i hi;have:∀i:Fin 8,decide (0<=([0,1,65535,65534,32767,32768,255,256]:List Int).getD i 0)&&decide (([0,1,65535,65534,32767,32768,255,256]:List Int).getD i 0<=65535):=by decide
   have:=this ⟨i,hi⟩;simp only[Yb,Yj] at this;exact⟨by simpa [IntKind.min,IntKind.signed] using this.1,by simpa [IntKind.max,IntKind.signed,IntKind.bits] using this.2⟩
  exact hall (Zd (Zd s 5).2 8).1.toNat (by omega)
 ·by_cases h1:(Zd s 5).1=1
  ·have hv:(Zj9 s).val=some (IntKind.wrap .u16 (Zd (Zd s 5).2 65536).1,(Zd (Zd s 5).2 65536).2):=by simp[Zj9,RT.val,c,h1,c6]
   simp only[ZgH,Zb8,hv,okB,getO];exact⟨trivial,w b6,Zaw _ _⟩
  ·have hv:(Zj9 s).val=some (IntKind.wrap .u16 (Zd (Zd s 5).2 64).1,(Zd (Zd s 5).2 64).2):=by
    have g0:((Zd s 5).1==0)=false:=by simpa using h0
    have g1:((Zd s 5).1==1)=false:=by simpa using h1
    simp[Zj9,RT.val,c,g0,g1,c4]
   simp only[ZgH,Zb8,hv,okB,getO];exact⟨trivial,w b4,Zaw _ _⟩
theorem Z1c (h:NB s k) (hk:k<=1000000):Zrj s=true/\NB (Za7 s).2 (k+1)/\((Za7 s).1=1\/(Za7 s).1=2):=by
 obtain⟨c,b,d0,d1⟩:=ZE h hk 2 (by decide) (by decide);have hv:(ZCd s).val=some (1+(Zd s 2).1,(Zd s 2).2):=by simp[ZCd,RT.val,c];rw[wrap_i64 _ (by omega) (by omega)]
 simp only[Zrj,Za7,hv,okB,getO];exact⟨trivial,b,by omega⟩
theorem Zly (h:NB s k) (hk:k<=900000):Zcx s=true/\NB (Zat s).2 (k+2)/\inR .u8 (Zat s).1:=by
 obtain⟨c,b,d0,d1⟩:=ZE h (by omega) 3 (by decide) (by decide);have w:∀{t:List Int×Int},NB t (k+1+1)->NB t (k+2):=λh=>⟨h.1,by have:=h.2;omega⟩
 by_cases hn:0<(Zd s 3).1
 ·have hk':k+1<=1000001:=by omega
  obtain⟨c2,b2,_⟩:=ZE b (by omega) 256 (by decide) (by decide);have hv:(Zgp s).val=some (IntKind.wrap .u8 (Zd (Zd s 3).2 256).1,(Zd (Zd s 3).2 256).2):=by simp[Zgp,RT.val,c,hn,c2]
  simp only[Zcx,Zat,hv,okB,getO];exact⟨trivial,w b2,Zaw _ _⟩
 ·obtain⟨c2,b2,e0,e1⟩:=ZE b (by omega) 18 (by decide) (by decide);have hr:Ze (Zd (Zd s 3).2 18).1 18=true:=ZF.2 ⟨e0,by omega⟩;have hv:(Zgp s).val=some (R.get (R.int u8) [251,243,118,205,201,197,227,211,219,54,52,32,48,194,202,255,62,49] (Zd (Zd s 3).2 18).1,(Zd (Zd s 3).2 18).2):=by simp[Zgp,RT.val,c,hn,c2,hr]
  simp only[Zcx,Zat,hv,okB,getO];refine⟨trivial,w b2,?_⟩;have hall:∀i:Nat,i<18->inR .u8 (([251,243,118,205,201,197,227,211,219,54,52,32,48,194,202,255,62,49]:List Int).getD i 0):=by
   intro i hi;have:∀i:Fin 18,decide (0<=([251,243,118,205,201,197,227,211,219,54,52,32,48,194,202,255,62,49]:List Int).getD i 0)&&decide (([251,243,118,205,201,197,227,211,219,54,52,32,48,194,202,255,62,49]:List Int).getD i 0<=255):=by decide
   have:=this ⟨i,hi⟩;rw[Zfj];simpa using this
  exact hall (Zd (Zd s 3).2 18).1.toNat (by omega)
theorem Z65 (l:List Int):NB (l,0) 0:=⟨by simp,by simp⟩
