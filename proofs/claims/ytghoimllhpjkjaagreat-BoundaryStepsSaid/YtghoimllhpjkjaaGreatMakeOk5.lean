import Derived.Test.YtghoimllhpjkjaaGreatFinRX
import Derived.Test.YtghoimllhpjkjaaGreatFin1
import Derived.Test.YtghoimllhpjkjaaGreatFin2
import Derived.Test.YtghoimllhpjkjaaGreatFin3
import Derived.Test.YtghoimllhpjkjaaGreatFin4
open Go Go.S3 Go.Proofs
set_option linter.unusedVariables false
set_option linter.unusedSimpArgs false
set_option maxRecDepth 100000
namespace Go.Proofs.YtghoimllhpjkjaaGreat
noncomputable section
theorem fr_1 (c) (s:Int) (g:List Int) (l) (hb:∀j:Nat,inR .u8 (g[j]?.getD 0)) (n:Int) (hk:(Zb c.1 (g.getD 0 0)).1=n):(n=1->(ZCm c s g l).val=some (finX c s g l))/\(n=6->(ZCh c s g l).val=some (finX c s g l))/\(n=10->(Zue c s g l).val=some (finX c s g l))/\(n=17->(Zt7 c s g l).val=some (finX c s g l))/\(n=21->(Zt3 c s g l).val=some (finX c s g l))/\(n=28->(ZtW c s g l).val=some (finX c s g l))/\(n=33->(ZtR c s g l).val=some (finX c s g l))/\(n=37->(ZtN c s g l).val=some (finX c s g l))/\(n=43->(ZtH c s g l).val=some (finX c s g l)):=by
 refine⟨?_,?_,?_,?_,?_,?_,?_,?_,?_⟩;all_goals intro e;subst e
 all_goals simp only[ZCm,ZCh,Zue,Zt7,Zt3,ZtW,ZtR,ZtN,ZtH,RT.val,rgx]
 all_goals simp only[qat0,mat0,qat1,mat1,rg0,hk,Zs,Z2,Zad,ZI,ZJ,Zw,Zx,ZaP,ZaT,Zcz,Zcy,Zr,ZaR,finX,spOf]
 all_goals generalize Zc s=bi
 all_goals cases bi with
 |true=>simp[wPC,wSP]
 |false=>
  generalize (s==5)=bs;simp only[finI,hk,finR,wPC,wSP,wA,wF,fCY,fVCY,ZcZ,flOf,ZK,pcOf,Zbd];generalize Zb c.1 (g.getD 0 0)=i at hk|-;simp (config:={implicitDefEqProofs:=false}) [Zb3,Zbs,ZbJ,hk,Zgi,Zgk,Zgj,ZkN,ZkO,ZeF,ZeE,ZkT,hb]
theorem fr_2 (c) (s:Int) (g:List Int) (l) (hb:∀j:Nat,inR .u8 (g[j]?.getD 0)) (n:Int) (hk:(Zb c.1 (g.getD 0 0)).1=n):(n=3->(ZCk c s g l).val=some (finX c s g l))/\(n=7->(ZCg c s g l).val=some (finX c s g l))/\(n=11->(Zud c s g l).val=some (finX c s g l))/\(n=18->(Zt6 c s g l).val=some (finX c s g l))/\(n=22->(Zt2 c s g l).val=some (finX c s g l))/\(n=29->(ZtV c s g l).val=some (finX c s g l))/\(n=34->(ZtQ c s g l).val=some (finX c s g l))/\(n=40->(ZtK c s g l).val=some (finX c s g l))/\(n=44->(ZtG c s g l).val=some (finX c s g l)):=by
 refine⟨?_,?_,?_,?_,?_,?_,?_,?_,?_⟩;all_goals intro e;subst e
 all_goals simp only[ZCk,ZCg,Zud,Zt6,Zt2,ZtV,ZtQ,ZtK,ZtG,RT.val,rgx]
 all_goals simp only[qat0,mat0,qat1,mat1,rg0,hk,Zs,Z2,Zad,ZI,ZJ,Zw,Zx,ZaP,ZaT,Zcz,Zcy,Zr,ZaR,finX,spOf]
 all_goals generalize Zc s=bi
 all_goals cases bi with
 |true=>simp[wPC,wSP]
 |false=>
  generalize (s==5)=bs;simp only[finI,hk,finR,wPC,wSP,wA,wF,fCY,fVCY,ZcZ,flOf,ZK,pcOf,Zbd];generalize Zb c.1 (g.getD 0 0)=i at hk|-;simp (config:={implicitDefEqProofs:=false}) [Zb3,Zbs,ZbJ,hk,Zgi,Zgk,Zgj,ZkN,ZkO,ZeF,ZeE,ZkT,hb]
theorem fr_3 (c) (s:Int) (g:List Int) (l) (hb:∀j:Nat,inR .u8 (g[j]?.getD 0)) (n:Int) (hk:(Zb c.1 (g.getD 0 0)).1=n):(n=4->(ZCj c s g l).val=some (finX c s g l))/\(n=8->(ZCf c s g l).val=some (finX c s g l))/\(n=13->(Zub c s g l).val=some (finX c s g l))/\(n=19->(Zt5 c s g l).val=some (finX c s g l))/\(n=23->(Zt1 c s g l).val=some (finX c s g l))/\(n=30->(ZtU c s g l).val=some (finX c s g l))/\(n=35->(ZtP c s g l).val=some (finX c s g l))/\(n=41->(ZtJ c s g l).val=some (finX c s g l))/\(n=46->(ZtE c s g l).val=some (finX c s g l)):=by
 refine⟨?_,?_,?_,?_,?_,?_,?_,?_,?_⟩;all_goals intro e;subst e
 all_goals simp only[ZCj,ZCf,Zub,Zt5,Zt1,ZtU,ZtP,ZtJ,ZtE,RT.val,rgx]
 all_goals simp only[qat0,mat0,qat1,mat1,rg0,hk,Zs,Z2,Zad,ZI,ZJ,Zw,Zx,ZaP,ZaT,Zcz,Zcy,Zr,ZaR,finX,spOf]
 all_goals generalize Zc s=bi
 all_goals cases bi with
 |true=>simp[wPC,wSP]
 |false=>
  generalize (s==5)=bs;simp only[finI,hk,finR,wPC,wSP,wA,wF,fCY,fVCY,ZcZ,flOf,ZK,pcOf,Zbd];generalize Zb c.1 (g.getD 0 0)=i at hk|-;simp (config:={implicitDefEqProofs:=false}) [Zb3,Zbs,ZbJ,hk,Zgi,Zgk,Zgj,ZkN,ZkO,ZeF,ZeE,ZkT,hb]
theorem fr_4 (c) (s:Int) (g:List Int) (l) (hb:∀j:Nat,inR .u8 (g[j]?.getD 0)) (n:Int) (hk:(Zb c.1 (g.getD 0 0)).1=n):(n=5->(ZCi c s g l).val=some (finX c s g l))/\(n=9->(ZCe c s g l).val=some (finX c s g l))/\(n=16->(Zt8 c s g l).val=some (finX c s g l))/\(n=20->(Zt4 c s g l).val=some (finX c s g l))/\(n=27->(ZtX c s g l).val=some (finX c s g l))/\(n=32->(ZtS c s g l).val=some (finX c s g l))/\(n=36->(ZtO c s g l).val=some (finX c s g l))/\(n=42->(ZtI c s g l).val=some (finX c s g l))/\(n=47->(ZtD c s g l).val=some (finX c s g l)):=by
 refine⟨?_,?_,?_,?_,?_,?_,?_,?_,?_⟩;all_goals intro e;subst e
 all_goals simp only[ZCi,ZCe,Zt8,Zt4,ZtX,ZtS,ZtO,ZtI,ZtD,RT.val,rgx]
 all_goals simp only[qat0,mat0,qat1,mat1,rg0,hk,Zs,Z2,Zad,ZI,ZJ,Zw,Zx,ZaP,ZaT,Zcz,Zcy,Zr,ZaR,finX,spOf]
 all_goals generalize Zc s=bi
 all_goals cases bi with
 |true=>simp[wPC,wSP]
 |false=>
  generalize (s==5)=bs;simp only[finI,hk,finR,wPC,wSP,wA,wF,fCY,fVCY,ZcZ,flOf,ZK,pcOf,Zbd];generalize Zb c.1 (g.getD 0 0)=i at hk|-;simp (config:={implicitDefEqProofs:=false}) [Zb3,Zbs,ZbJ,hk,Zgi,Zgk,Zgj,ZkN,ZkO,ZeF,ZeE,ZkT,hb]
theorem fr_5 (c) (s:Int) (g:List Int) (l) (hb:∀j:Nat,inR .u8 (g[j]?.getD 0)) (n:Int) (hk:(Zb c.1 (g.getD 0 0)).1=n):(n=2->(ZCl c s g l).val=some (finX c s g l))/\(n=12->(Zuc c s g l).val=some (finX c s g l)):=by
 refine⟨?_,?_⟩;all_goals intro e;subst e
 all_goals simp only[ZCl,Zuc,RT.val,rgx]
 all_goals simp only[qat0,mat0,qat1,mat1,rg0,hk,Zs,Z2,Zad,ZI,ZJ,Zw,Zx,ZaP,ZaT,Zcz,Zcy,Zr,ZaR,finX,spOf]
 all_goals generalize Zc s=bi
 all_goals cases bi with
 |true=>simp[wPC,wSP]
 |false=>
  generalize (s==5)=bs;simp only[finI,hk,finR,wPC,wSP,wA,wF,fCY,fVCY,ZcZ,flOf,ZK,pcOf,Zbd];generalize Zb c.1 (g.getD 0 0)=i at hk|-;generalize (i.2.2.2.1==6)=b0;cases b0<;>simp (config:={implicitDefEqProofs:=false}) [Zb3,Zbs,ZbJ,hk,Zgi,Zgk,Zgj,ZkN,ZkO,ZeF,ZeE,ZkT,hb]
theorem fr_6 (c) (s:Int) (g:List Int) (l) (hb:∀j:Nat,inR .u8 (g[j]?.getD 0)) (n:Int) (hk:(Zb c.1 (g.getD 0 0)).1=n):(n=14->(Zua c s g l).val=some (finX c s g l))/\(n=15->(Zt9 c s g l).val=some (finX c s g l)):=by
 refine⟨?_,?_⟩;all_goals intro e;subst e
 all_goals simp only[Zua,Zt9,RT.val,rgx]
 all_goals simp only[qat0,mat0,qat1,mat1,rg0,hk,Zs,Z2,Zad,ZI,ZJ,Zw,Zx,ZaP,ZaT,Zcz,Zcy,Zr,ZaR,finX,spOf]
 all_goals generalize Zc s=bi
 all_goals cases bi with
 |true=>simp[wPC,wSP]
 |false=>
  generalize (s==5)=bs;simp only[finI,hk,finR,wPC,wSP,wA,wF,fCY,fVCY,ZcZ,flOf,ZK,pcOf,Zbd];generalize Zb c.1 (g.getD 0 0)=i at hk|-;generalize (i.2.2.1==6)=b0;cases b0<;>simp (config:={implicitDefEqProofs:=false}) [Zb3,Zbs,ZbJ,hk,Zgi,Zgk,Zgj,ZkN,ZkO,ZeF,ZeE,ZkT,hb]
theorem fr_7 (c) (s:Int) (g:List Int) (l) (hb:∀j:Nat,inR .u8 (g[j]?.getD 0)) (n:Int) (hk:(Zb c.1 (g.getD 0 0)).1=n):(n=24->(Zt0 c s g l).val=some (finX c s g l))/\(n=25->(ZtZ c s g l).val=some (finX c s g l))/\(n=26->(ZtY c s g l).val=some (finX c s g l))/\(n=45->(ZtF c s g l).val=some (finX c s g l)):=by
 refine⟨?_,?_,?_,?_⟩;all_goals intro e;subst e
 all_goals simp only[Zt0,ZtZ,ZtY,ZtF,RT.val,rgx]
 all_goals simp only[qat0,mat0,qat1,mat1,rg0,hk,Zs,Z2,Zad,ZI,ZJ,Zw,Zx,ZaP,ZaT,Zcz,Zcy,Zr,ZaR,finX,spOf]
 all_goals generalize Zc s=bi
 all_goals cases bi with
 |true=>simp[wPC,wSP]
 |false=>
  generalize (s==5)=bs;simp only[finI,hk,finR,wPC,wSP,wA,wF,fCY,fVCY,ZcZ,flOf,ZK,pcOf,Zbd];generalize Zb c.1 (g.getD 0 0)=i at hk|-;generalize ZeI _ _=b0;cases b0<;>simp (config:={implicitDefEqProofs:=false}) [Zb3,Zbs,ZbJ,hk,Zgi,Zgk,Zgj,ZkN,ZkO,ZeF,ZeE,ZkT,hb]
theorem fr_8 (c) (s:Int) (g:List Int) (l) (hb:∀j:Nat,inR .u8 (g[j]?.getD 0)) (n:Int) (hk:(Zb c.1 (g.getD 0 0)).1=n):(n=31->(ZtT c s g l).val=some (finX c s g l)):=by
 skip
 all_goals intro e;subst e
 all_goals simp only[ZtT,RT.val,rgx]
 all_goals simp only[qat0,mat0,qat1,mat1,rg0,hk,Zs,Z2,Zad,ZI,ZJ,Zw,Zx,ZaP,ZaT,Zcz,Zcy,Zr,ZaR,finX,spOf]
 all_goals generalize Zc s=bi
 all_goals cases bi with
 |true=>simp[wPC,wSP]
 |false=>
  generalize (s==5)=bs;simp only[finI,hk,finR,wPC,wSP,wA,wF,fCY,fVCY,ZcZ,flOf,ZK,pcOf,Zbd];generalize Zb c.1 (g.getD 0 0)=i at hk|-;generalize (i.2.2.2.2.1==3)=b0;cases b0<;>simp (config:={implicitDefEqProofs:=false}) [Zb3,Zbs,ZbJ,hk,Zgi,Zgk,Zgj,ZkN,ZkO,ZeF,ZeE,ZkT,hb,Zgp,Zlv,RT.val]
theorem fr_9 (c) (s:Int) (g:List Int) (l) (hb:∀j:Nat,inR .u8 (g[j]?.getD 0)) (n:Int) (hk:(Zb c.1 (g.getD 0 0)).1=n):(n=38->(ZtM c s g l).val=some (finX c s g l)):=by
 skip
 all_goals intro e;subst e
 all_goals simp only[ZtM,RT.val,rgx]
 all_goals simp only[qat0,mat0,qat1,mat1,rg0,hk,Zs,Z2,Zad,ZI,ZJ,Zw,Zx,ZaP,ZaT,Zcz,Zcy,Zr,ZaR,finX,spOf]
 all_goals generalize Zc s=bi
 all_goals cases bi with
 |true=>simp[wPC,wSP]
 |false=>
  generalize (s==5)=bs;simp only[finI,hk,finR,wPC,wSP,wA,wF,fCY,fVCY,ZcZ,flOf,ZK,pcOf,Zbd];generalize Zb c.1 (g.getD 0 0)=i at hk|-;simp[Zb3,Zbs,ZbJ,hk,ZW3];rfl
theorem fr_10 (c) (s:Int) (g:List Int) (l) (hb:∀j:Nat,inR .u8 (g[j]?.getD 0)) (n:Int) (hk:(Zb c.1 (g.getD 0 0)).1=n):(n=39->(ZtL c s g l).val=some (finX c s g l)):=by
 skip
 all_goals intro e;subst e
 all_goals simp only[ZtL,RT.val,rgx]
 all_goals simp only[qat0,mat0,qat1,mat1,rg0,hk,Zs,Z2,Zad,ZI,ZJ,Zw,Zx,ZaP,ZaT,Zcz,Zcy,Zr,ZaR,finX,spOf]
 all_goals generalize Zc s=bi
 all_goals cases bi with
 |true=>simp[wPC,wSP]
 |false=>
  generalize (s==5)=bs;simp only[finI,hk,finR,wPC,wSP,wA,wF,fCY,fVCY,ZcZ,flOf,ZK,pcOf,Zbd];generalize Zb c.1 (g.getD 0 0)=i at hk|-;simp[Zb3,Zbs,ZbJ,hk,rSim,ZOu,RT.val]
theorem ZZz (a:HL ZX) (h:okHL ZX a):∃l,Zdg Tryz.prog l/\(ZeW (envX Tryz.prog l [] 79250227772808467515411824639 8) Tryz.f98 ZX ZPy a).val=some (finX a.1 a.2.1 a.2.2.1 a.2.2.2):=by
 have hk:=Zwa a.1.1 _ (Zwg h.2.2.1);have hb:∀j:Nat,inR .u8 (a.2.2.1[j]?.getD 0):=λj=>by
  cases hj:a.2.2.1[j]? with
  |none=>rw[ZgL];simp
  |some x=>exact h.2.2.1.2 x (List.mem_of_getElem? hj)
 refine⟨ZZA (Zb a.1.1 (a.2.2.1.getD 0 0)).1,ZUU _,?_⟩;show (EV2 _ a).val=_;have f1:=fr_1 a.1 a.2.1 a.2.2.1 a.2.2.2 hb;have f5:=fr_5 a.1 a.2.1 a.2.2.1 a.2.2.2 hb;have f2:=fr_2 a.1 a.2.1 a.2.2.1 a.2.2.2 hb;have f3:=fr_3 a.1 a.2.1 a.2.2.1 a.2.2.2 hb;have f4:=fr_4 a.1 a.2.1 a.2.2.1 a.2.2.2 hb;have f6:=fr_6 a.1 a.2.1 a.2.2.1 a.2.2.2 hb;have f7:=fr_7 a.1 a.2.1 a.2.2.1 a.2.2.2 hb;have f8:=fr_8 a.1 a.2.1 a.2.2.1 a.2.2.2 hb;have f9:=fr_9 a.1 a.2.1 a.2.2.1 a.2.2.2 hb;have f10:=fr_10 a.1 a.2.1 a.2.2.1 a.2.2.2 hb;rcases Zv9 hk.1 hk.2 with e|e|e|e|e|e|e|e|e|e|e|e|e|e|e|e|e|e|e|e|e|e|e|e|e|e|e|e|e|e|e|e|e|e|e|e|e|e|e|e|e|e|e|e|e|e|e
 ·rw[e,ZPx a,((f1 _ e).1 rfl)]
 ·rw[e,ZPw a,((f5 _ e).1 rfl)]
 ·rw[e,ZPv a,((f2 _ e).1 rfl)]
 ·rw[e,ZPu a,((f3 _ e).1 rfl)]
 ·rw[e,ZPt a,((f4 _ e).1 rfl)]
 ·rw[e,ZPs a,((f1 _ e).2.1 rfl)]
 ·rw[e,ZPr a,((f2 _ e).2.1 rfl)]
 ·rw[e,ZPq a,((f3 _ e).2.1 rfl)]
 ·rw[e,ZPp a,((f4 _ e).2.1 rfl)]
 ·rw[e,ZKf a,((f1 _ e).2.2.1 rfl)]
 ·rw[e,ZKe a,((f2 _ e).2.2.1 rfl)]
 ·rw[e,ZKd a,((f5 _ e).2 rfl)]
 ·rw[e,ZKc a,((f3 _ e).2.2.1 rfl)]
 ·rw[e,ZKb a,((f6 _ e).1 rfl)]
 ·rw[e,ZKa a,((f6 _ e).2 rfl)]
 ·rw[e,ZJ9 a,((f4 _ e).2.2.1 rfl)]
 ·rw[e,ZJ8 a,((f1 _ e).2.2.2.1 rfl)]
 ·rw[e,ZJ7 a,((f2 _ e).2.2.2.1 rfl)]
 ·rw[e,ZJ6 a,((f3 _ e).2.2.2.1 rfl)]
 ·rw[e,ZJ5 a,((f4 _ e).2.2.2.1 rfl)]
 ·rw[e,ZJ4 a,((f1 _ e).2.2.2.2.1 rfl)]
 ·rw[e,ZJ3 a,((f2 _ e).2.2.2.2.1 rfl)]
 ·rw[e,ZJ2 a,((f3 _ e).2.2.2.2.1 rfl)]
 ·rw[e,ZJ1 a,((f7 _ e).1 rfl)]
 ·rw[e,ZJ0 a,((f7 _ e).2.1 rfl)]
 ·rw[e,ZJZ a,((f7 _ e).2.2.1 rfl)]
 ·rw[e,ZJY a,((f4 _ e).2.2.2.2.1 rfl)]
 ·rw[e,ZJX a,((f1 _ e).2.2.2.2.2.1 rfl)]
 ·rw[e,ZJW a,((f2 _ e).2.2.2.2.2.1 rfl)]
 ·rw[e,ZJV a,((f3 _ e).2.2.2.2.2.1 rfl)]
 ·rw[e,ZJU a,((f8 _ e) rfl)]
 ·rw[e,ZJT a,((f4 _ e).2.2.2.2.2.1 rfl)]
 ·rw[e,ZJS a,((f1 _ e).2.2.2.2.2.2.1 rfl)]
 ·rw[e,ZJR a,((f2 _ e).2.2.2.2.2.2.1 rfl)]
 ·rw[e,ZJQ a,((f3 _ e).2.2.2.2.2.2.1 rfl)]
 ·rw[e,ZJP a,((f4 _ e).2.2.2.2.2.2.1 rfl)]
 ·rw[e,ZJO a,((f1 _ e).2.2.2.2.2.2.2.1 rfl)]
 ·rw[e,ZJN a,((f9 _ e) rfl)]
 ·rw[e,ZJM a,((f10 _ e) rfl)]
 ·rw[e,ZJL a,((f2 _ e).2.2.2.2.2.2.2.1 rfl)]
 ·rw[e,ZJK a,((f3 _ e).2.2.2.2.2.2.2.1 rfl)]
 ·rw[e,ZJJ a,((f4 _ e).2.2.2.2.2.2.2.1 rfl)]
 ·rw[e,ZJI a,((f1 _ e).2.2.2.2.2.2.2.2 rfl)]
 ·rw[e,ZJH a,((f2 _ e).2.2.2.2.2.2.2.2 rfl)]
 ·rw[e,ZJG a,((f7 _ e).2.2.2 rfl)]
 ·rw[e,ZJF a,((f3 _ e).2.2.2.2.2.2.2.2 rfl)]
 ·rw[e,ZJE a,((f4 _ e).2.2.2.2.2.2.2.2 rfl)]
def ZZB:En:=Zg ZX ZPy (λ_=>none) (λa=>finX a.1 a.2.1 a.2.2.1 a.2.2.2)
theorem ZPo:Za Tryz.prog 98 ZZB:=ZlE Tryz.func98 rfl (by kernel_rfl) Tryz.call98 λa h _=>ZZz a h
theorem fp_1 (c) (s:Int) (g:List Int) (l) (n:Int) (hk:(Zb c.1 (g.getD 0 0)).1=n):(n=1->(ZDM c s g l).val=some (finX c s g l))/\(n=6->(ZDH c s g l).val=some (finX c s g l))/\(n=10->(ZvI c s g l).val=some (finX c s g l))/\(n=17->(ZvB c s g l).val=some (finX c s g l))/\(n=21->(Zvx c s g l).val=some (finX c s g l))/\(n=28->(Zvq c s g l).val=some (finX c s g l))/\(n=33->(Zvl c s g l).val=some (finX c s g l))/\(n=37->(Zvh c s g l).val=some (finX c s g l))/\(n=43->(Zvb c s g l).val=some (finX c s g l)):=by
 refine⟨?_,?_,?_,?_,?_,?_,?_,?_,?_⟩;all_goals intro e;subst e
 all_goals simp only[ZDM,ZDH,ZvI,ZvB,Zvx,Zvq,Zvl,Zvh,Zvb,RT.val,rgx]
 all_goals simp only[qat0,mat0,qat1,mat1,rg0,hk,Zs,Z2,Zad,ZI,ZJ,Zw,Zx,ZaP,ZaT,Zcz,Zcy,Zr,ZaR,finX,spOf]
 all_goals generalize Zc s=bi
 all_goals cases bi with
 |true=>simp[wPC,wSP]
 |false=>
  generalize (s==5)=bs;simp only[finI,hk,finR,wPC,wSP,wA,wF,fCY,fVCY,ZcZ,flOf,ZK,pcOf,Zbd];generalize Zb c.1 (g.getD 0 0)=i at hk|-;simp (config:={implicitDefEqProofs:=false}) [Zb3,Zbs,ZbJ,hk]
theorem fp_2 (c) (s:Int) (g:List Int) (l) (n:Int) (hk:(Zb c.1 (g.getD 0 0)).1=n):(n=3->(ZDK c s g l).val=some (finX c s g l))/\(n=7->(ZDG c s g l).val=some (finX c s g l))/\(n=11->(ZvH c s g l).val=some (finX c s g l))/\(n=18->(ZvA c s g l).val=some (finX c s g l))/\(n=22->(Zvw c s g l).val=some (finX c s g l))/\(n=29->(Zvp c s g l).val=some (finX c s g l))/\(n=34->(Zvk c s g l).val=some (finX c s g l))/\(n=40->(Zve c s g l).val=some (finX c s g l))/\(n=44->(Zva c s g l).val=some (finX c s g l)):=by
 refine⟨?_,?_,?_,?_,?_,?_,?_,?_,?_⟩;all_goals intro e;subst e
 all_goals simp only[ZDK,ZDG,ZvH,ZvA,Zvw,Zvp,Zvk,Zve,Zva,RT.val,rgx]
 all_goals simp only[qat0,mat0,qat1,mat1,rg0,hk,Zs,Z2,Zad,ZI,ZJ,Zw,Zx,ZaP,ZaT,Zcz,Zcy,Zr,ZaR,finX,spOf]
 all_goals generalize Zc s=bi
 all_goals cases bi with
 |true=>simp[wPC,wSP]
 |false=>
  generalize (s==5)=bs;simp only[finI,hk,finR,wPC,wSP,wA,wF,fCY,fVCY,ZcZ,flOf,ZK,pcOf,Zbd];generalize Zb c.1 (g.getD 0 0)=i at hk|-;simp (config:={implicitDefEqProofs:=false}) [Zb3,Zbs,ZbJ,hk]
theorem fp_3 (c) (s:Int) (g:List Int) (l) (n:Int) (hk:(Zb c.1 (g.getD 0 0)).1=n):(n=4->(ZDJ c s g l).val=some (finX c s g l))/\(n=8->(ZDF c s g l).val=some (finX c s g l))/\(n=13->(ZvF c s g l).val=some (finX c s g l))/\(n=19->(Zvz c s g l).val=some (finX c s g l))/\(n=23->(Zvv c s g l).val=some (finX c s g l))/\(n=30->(Zvo c s g l).val=some (finX c s g l))/\(n=35->(Zvj c s g l).val=some (finX c s g l))/\(n=41->(Zvd c s g l).val=some (finX c s g l))/\(n=46->(Zu8 c s g l).val=some (finX c s g l)):=by
 refine⟨?_,?_,?_,?_,?_,?_,?_,?_,?_⟩;all_goals intro e;subst e
 all_goals simp only[ZDJ,ZDF,ZvF,Zvz,Zvv,Zvo,Zvj,Zvd,Zu8,RT.val,rgx]
 all_goals simp only[qat0,mat0,qat1,mat1,rg0,hk,Zs,Z2,Zad,ZI,ZJ,Zw,Zx,ZaP,ZaT,Zcz,Zcy,Zr,ZaR,finX,spOf]
 all_goals generalize Zc s=bi
 all_goals cases bi with
 |true=>simp[wPC,wSP]
 |false=>
  generalize (s==5)=bs;simp only[finI,hk,finR,wPC,wSP,wA,wF,fCY,fVCY,ZcZ,flOf,ZK,pcOf,Zbd];generalize Zb c.1 (g.getD 0 0)=i at hk|-;simp (config:={implicitDefEqProofs:=false}) [Zb3,Zbs,ZbJ,hk]
theorem fp_4 (c) (s:Int) (g:List Int) (l) (n:Int) (hk:(Zb c.1 (g.getD 0 0)).1=n):(n=5->(ZDI c s g l).val=some (finX c s g l))/\(n=9->(ZDE c s g l).val=some (finX c s g l))/\(n=16->(ZvC c s g l).val=some (finX c s g l))/\(n=20->(Zvy c s g l).val=some (finX c s g l))/\(n=27->(Zvr c s g l).val=some (finX c s g l))/\(n=32->(Zvm c s g l).val=some (finX c s g l))/\(n=36->(Zvi c s g l).val=some (finX c s g l))/\(n=42->(Zvc c s g l).val=some (finX c s g l))/\(n=47->(Zu7 c s g l).val=some (finX c s g l)):=by
 refine⟨?_,?_,?_,?_,?_,?_,?_,?_,?_⟩;all_goals intro e;subst e
 all_goals simp only[ZDI,ZDE,ZvC,Zvy,Zvr,Zvm,Zvi,Zvc,Zu7,RT.val,rgx]
 all_goals simp only[qat0,mat0,qat1,mat1,rg0,hk,Zs,Z2,Zad,ZI,ZJ,Zw,Zx,ZaP,ZaT,Zcz,Zcy,Zr,ZaR,finX,spOf]
 all_goals generalize Zc s=bi
 all_goals cases bi with
 |true=>simp[wPC,wSP]
 |false=>
  generalize (s==5)=bs;simp only[finI,hk,finR,wPC,wSP,wA,wF,fCY,fVCY,ZcZ,flOf,ZK,pcOf,Zbd];generalize Zb c.1 (g.getD 0 0)=i at hk|-;simp (config:={implicitDefEqProofs:=false}) [Zb3,Zbs,ZbJ,hk]
theorem fp_5 (c) (s:Int) (g:List Int) (l) (n:Int) (hk:(Zb c.1 (g.getD 0 0)).1=n):(n=2->(ZDL c s g l).val=some (finX c s g l))/\(n=12->(ZvG c s g l).val=some (finX c s g l)):=by
 refine⟨?_,?_⟩;all_goals intro e;subst e
 all_goals simp only[ZDL,ZvG,RT.val,rgx]
 all_goals simp only[qat0,mat0,qat1,mat1,rg0,hk,Zs,Z2,Zad,ZI,ZJ,Zw,Zx,ZaP,ZaT,Zcz,Zcy,Zr,ZaR,finX,spOf]
 all_goals generalize Zc s=bi
 all_goals cases bi with
 |true=>simp[wPC,wSP]
 |false=>
  generalize (s==5)=bs;simp only[finI,hk,finR,wPC,wSP,wA,wF,fCY,fVCY,ZcZ,flOf,ZK,pcOf,Zbd];generalize Zb c.1 (g.getD 0 0)=i at hk|-;generalize (i.2.2.2.1==6)=b0;cases b0<;>simp (config:={implicitDefEqProofs:=false}) [Zb3,Zbs,ZbJ,hk]
theorem fp_6 (c) (s:Int) (g:List Int) (l) (n:Int) (hk:(Zb c.1 (g.getD 0 0)).1=n):(n=14->(ZvE c s g l).val=some (finX c s g l))/\(n=15->(ZvD c s g l).val=some (finX c s g l)):=by
 refine⟨?_,?_⟩;all_goals intro e;subst e
 all_goals simp only[ZvE,ZvD,RT.val,rgx]
 all_goals simp only[qat0,mat0,qat1,mat1,rg0,hk,Zs,Z2,Zad,ZI,ZJ,Zw,Zx,ZaP,ZaT,Zcz,Zcy,Zr,ZaR,finX,spOf]
 all_goals generalize Zc s=bi
 all_goals cases bi with
 |true=>simp[wPC,wSP]
 |false=>
  generalize (s==5)=bs;simp only[finI,hk,finR,wPC,wSP,wA,wF,fCY,fVCY,ZcZ,flOf,ZK,pcOf,Zbd];generalize Zb c.1 (g.getD 0 0)=i at hk|-;generalize (i.2.2.1==6)=b0;cases b0<;>simp (config:={implicitDefEqProofs:=false}) [Zb3,Zbs,ZbJ,hk]
theorem fp_7 (c) (s:Int) (g:List Int) (l) (n:Int) (hk:(Zb c.1 (g.getD 0 0)).1=n):(n=24->(Zvu c s g l).val=some (finX c s g l))/\(n=25->(Zvt c s g l).val=some (finX c s g l))/\(n=26->(Zvs c s g l).val=some (finX c s g l))/\(n=45->(Zu9 c s g l).val=some (finX c s g l)):=by
 refine⟨?_,?_,?_,?_⟩;all_goals intro e;subst e
 all_goals simp only[Zvu,Zvt,Zvs,Zu9,RT.val,rgx]
 all_goals simp only[qat0,mat0,qat1,mat1,rg0,hk,Zs,Z2,Zad,ZI,ZJ,Zw,Zx,ZaP,ZaT,Zcz,Zcy,Zr,ZaR,finX,spOf]
 all_goals generalize Zc s=bi
 all_goals cases bi with
 |true=>simp[wPC,wSP]
 |false=>
  generalize (s==5)=bs;simp only[finI,hk,finR,wPC,wSP,wA,wF,fCY,fVCY,ZcZ,flOf,ZK,pcOf,Zbd];generalize Zb c.1 (g.getD 0 0)=i at hk|-;generalize ZeI _ _=b0;cases b0<;>simp (config:={implicitDefEqProofs:=false}) [Zb3,Zbs,ZbJ,hk]
theorem fp_8 (c) (s:Int) (g:List Int) (l) (n:Int) (hk:(Zb c.1 (g.getD 0 0)).1=n):(n=31->(Zvn c s g l).val=some (finX c s g l)):=by
 skip
 all_goals intro e;subst e
 all_goals simp only[Zvn,RT.val,rgx]
 all_goals simp only[qat0,mat0,qat1,mat1,rg0,hk,Zs,Z2,Zad,ZI,ZJ,Zw,Zx,ZaP,ZaT,Zcz,Zcy,Zr,ZaR,finX,spOf]
 all_goals generalize Zc s=bi
 all_goals cases bi with
 |true=>simp[wPC,wSP]
 |false=>
  generalize (s==5)=bs;simp only[finI,hk,finR,wPC,wSP,wA,wF,fCY,fVCY,ZcZ,flOf,ZK,pcOf,Zbd];generalize Zb c.1 (g.getD 0 0)=i at hk|-;generalize (i.2.2.2.2.1==3)=b0;cases b0<;>simp (config:={implicitDefEqProofs:=false}) [Zb3,Zbs,ZbJ,hk]
theorem fp_9 (c) (s:Int) (g:List Int) (l) (n:Int) (hk:(Zb c.1 (g.getD 0 0)).1=n):(n=38->(Zvg c s g l).val=some (finX c s g l)):=by
 skip
 all_goals intro e;subst e
 all_goals simp only[Zvg,RT.val,rgx]
 all_goals simp only[qat0,mat0,qat1,mat1,rg0,hk,Zs,Z2,Zad,ZI,ZJ,Zw,Zx,ZaP,ZaT,Zcz,Zcy,Zr,ZaR,finX,spOf]
 all_goals generalize Zc s=bi
 all_goals cases bi with
 |true=>simp[wPC,wSP]
 |false=>
  generalize (s==5)=bs;simp only[finI,hk,finR,wPC,wSP,wA,wF,fCY,fVCY,ZcZ,flOf,ZK,pcOf,Zbd];generalize Zb c.1 (g.getD 0 0)=i at hk|-;simp[Zb3,Zbs,ZbJ,hk,ZW3]
theorem fp_10 (c) (s:Int) (g:List Int) (l) (n:Int) (hk:(Zb c.1 (g.getD 0 0)).1=n):(n=39->(Zvf c s g l).val=some (finX c s g l)):=by
 skip
 all_goals intro e;subst e
 all_goals simp only[Zvf,RT.val,rgx]
 all_goals simp only[qat0,mat0,qat1,mat1,rg0,hk,Zs,Z2,Zad,ZI,ZJ,Zw,Zx,ZaP,ZaT,Zcz,Zcy,Zr,ZaR,finX,spOf]
 all_goals generalize Zc s=bi
 all_goals cases bi with
 |true=>simp[wPC,wSP]
 |false=>
  generalize (s==5)=bs;simp only[finI,hk,finR,wPC,wSP,wA,wF,fCY,fVCY,ZcZ,flOf,ZK,pcOf,Zbd];generalize Zb c.1 (g.getD 0 0)=i at hk|-;simp[Zb3,Zbs,ZbJ,hk,rSim,ZOu,RT.val]
theorem Z0n (a:HL ZY) (h:okHL ZY a):∃l,Zdg Tryz.prog l/\(ZeW (envX Tryz.prog l [] 1023 8) Tryz.f111 ZY ZRm a).val=some (finX a.1 a.2.1 a.2.2.1 a.2.2.2):=by
 have hk:=Zwa a.1.1 _ (Zwg h.2.2.1);refine⟨Z0o (Zb a.1.1 (a.2.2.1.getD 0 0)).1,ZVu _,?_⟩;show (EV0 _ a).val=_;rcases Zv9 hk.1 hk.2 with e|e|e|e|e|e|e|e|e|e|e|e|e|e|e|e|e|e|e|e|e|e|e|e|e|e|e|e|e|e|e|e|e|e|e|e|e|e|e|e|e|e|e|e|e|e|e
 ·rw[e,ZRl a,((fp_1 a.1 a.2.1 a.2.2.1 a.2.2.2 _ e).1 rfl)]
 ·rw[e,ZRk a,((fp_5 a.1 a.2.1 a.2.2.1 a.2.2.2 _ e).1 rfl)]
 ·rw[e,ZRj a,((fp_2 a.1 a.2.1 a.2.2.1 a.2.2.2 _ e).1 rfl)]
 ·rw[e,ZRi a,((fp_3 a.1 a.2.1 a.2.2.1 a.2.2.2 _ e).1 rfl)]
 ·rw[e,ZRh a,((fp_4 a.1 a.2.1 a.2.2.1 a.2.2.2 _ e).1 rfl)]
 ·rw[e,ZRg a,((fp_1 a.1 a.2.1 a.2.2.1 a.2.2.2 _ e).2.1 rfl)]
 ·rw[e,ZRf a,((fp_2 a.1 a.2.1 a.2.2.1 a.2.2.2 _ e).2.1 rfl)]
 ·rw[e,ZRe a,((fp_3 a.1 a.2.1 a.2.2.1 a.2.2.2 _ e).2.1 rfl)]
 ·rw[e,ZRd a,((fp_4 a.1 a.2.1 a.2.2.1 a.2.2.2 _ e).2.1 rfl)]
 ·rw[e,ZLl a,((fp_1 a.1 a.2.1 a.2.2.1 a.2.2.2 _ e).2.2.1 rfl)]
 ·rw[e,ZLk a,((fp_2 a.1 a.2.1 a.2.2.1 a.2.2.2 _ e).2.2.1 rfl)]
 ·rw[e,ZLj a,((fp_5 a.1 a.2.1 a.2.2.1 a.2.2.2 _ e).2 rfl)]
 ·rw[e,ZLi a,((fp_3 a.1 a.2.1 a.2.2.1 a.2.2.2 _ e).2.2.1 rfl)]
 ·rw[e,ZLh a,((fp_6 a.1 a.2.1 a.2.2.1 a.2.2.2 _ e).1 rfl)]
 ·rw[e,ZLg a,((fp_6 a.1 a.2.1 a.2.2.1 a.2.2.2 _ e).2 rfl)]
 ·rw[e,ZLf a,((fp_4 a.1 a.2.1 a.2.2.1 a.2.2.2 _ e).2.2.1 rfl)]
 ·rw[e,ZLe a,((fp_1 a.1 a.2.1 a.2.2.1 a.2.2.2 _ e).2.2.2.1 rfl)]
 ·rw[e,ZLd a,((fp_2 a.1 a.2.1 a.2.2.1 a.2.2.2 _ e).2.2.2.1 rfl)]
 ·rw[e,ZLc a,((fp_3 a.1 a.2.1 a.2.2.1 a.2.2.2 _ e).2.2.2.1 rfl)]
 ·rw[e,ZLb a,((fp_4 a.1 a.2.1 a.2.2.1 a.2.2.2 _ e).2.2.2.1 rfl)]
 ·rw[e,ZLa a,((fp_1 a.1 a.2.1 a.2.2.1 a.2.2.2 _ e).2.2.2.2.1 rfl)]
 ·rw[e,ZK9 a,((fp_2 a.1 a.2.1 a.2.2.1 a.2.2.2 _ e).2.2.2.2.1 rfl)]
 ·rw[e,ZK8 a,((fp_3 a.1 a.2.1 a.2.2.1 a.2.2.2 _ e).2.2.2.2.1 rfl)]
 ·rw[e,ZK7 a,((fp_7 a.1 a.2.1 a.2.2.1 a.2.2.2 _ e).1 rfl)]
 ·rw[e,ZK6 a,((fp_7 a.1 a.2.1 a.2.2.1 a.2.2.2 _ e).2.1 rfl)]
 ·rw[e,ZK5 a,((fp_7 a.1 a.2.1 a.2.2.1 a.2.2.2 _ e).2.2.1 rfl)]
 ·rw[e,ZK4 a,((fp_4 a.1 a.2.1 a.2.2.1 a.2.2.2 _ e).2.2.2.2.1 rfl)]
 ·rw[e,ZK3 a,((fp_1 a.1 a.2.1 a.2.2.1 a.2.2.2 _ e).2.2.2.2.2.1 rfl)]
 ·rw[e,ZK2 a,((fp_2 a.1 a.2.1 a.2.2.1 a.2.2.2 _ e).2.2.2.2.2.1 rfl)]
 ·rw[e,ZK1 a,((fp_3 a.1 a.2.1 a.2.2.1 a.2.2.2 _ e).2.2.2.2.2.1 rfl)]
 ·rw[e,ZK0 a,((fp_8 a.1 a.2.1 a.2.2.1 a.2.2.2 _ e) rfl)]
 ·rw[e,ZKZ a,((fp_4 a.1 a.2.1 a.2.2.1 a.2.2.2 _ e).2.2.2.2.2.1 rfl)]
 ·rw[e,ZKY a,((fp_1 a.1 a.2.1 a.2.2.1 a.2.2.2 _ e).2.2.2.2.2.2.1 rfl)]
 ·rw[e,ZKX a,((fp_2 a.1 a.2.1 a.2.2.1 a.2.2.2 _ e).2.2.2.2.2.2.1 rfl)]
 ·rw[e,ZKW a,((fp_3 a.1 a.2.1 a.2.2.1 a.2.2.2 _ e).2.2.2.2.2.2.1 rfl)]
 ·rw[e,ZKV a,((fp_4 a.1 a.2.1 a.2.2.1 a.2.2.2 _ e).2.2.2.2.2.2.1 rfl)]
 ·rw[e,ZKU a,((fp_1 a.1 a.2.1 a.2.2.1 a.2.2.2 _ e).2.2.2.2.2.2.2.1 rfl)]
 ·rw[e,ZKT a,((fp_9 a.1 a.2.1 a.2.2.1 a.2.2.2 _ e) rfl)]
 ·rw[e,ZKS a,((fp_10 a.1 a.2.1 a.2.2.1 a.2.2.2 _ e) rfl)]
 ·rw[e,ZKR a,((fp_2 a.1 a.2.1 a.2.2.1 a.2.2.2 _ e).2.2.2.2.2.2.2.1 rfl)]
 ·rw[e,ZKQ a,((fp_3 a.1 a.2.1 a.2.2.1 a.2.2.2 _ e).2.2.2.2.2.2.2.1 rfl)]
 ·rw[e,ZKP a,((fp_4 a.1 a.2.1 a.2.2.1 a.2.2.2 _ e).2.2.2.2.2.2.2.1 rfl)]
 ·rw[e,ZKO a,((fp_1 a.1 a.2.1 a.2.2.1 a.2.2.2 _ e).2.2.2.2.2.2.2.2 rfl)]
 ·rw[e,ZKN a,((fp_2 a.1 a.2.1 a.2.2.1 a.2.2.2 _ e).2.2.2.2.2.2.2.2 rfl)]
 ·rw[e,ZKM a,((fp_7 a.1 a.2.1 a.2.2.1 a.2.2.2 _ e).2.2.2 rfl)]
 ·rw[e,ZKL a,((fp_3 a.1 a.2.1 a.2.2.1 a.2.2.2 _ e).2.2.2.2.2.2.2.2 rfl)]
 ·rw[e,ZKK a,((fp_4 a.1 a.2.1 a.2.2.1 a.2.2.2 _ e).2.2.2.2.2.2.2.2 rfl)]
def ZRn:En:=Zg ZY ZRm (λ_=>none) (λa=>finX a.1 a.2.1 a.2.2.1 a.2.2.2)
theorem ZDD:Za Tryz.prog 111 ZRn:=ZlE Tryz.func111 rfl (by kernel_rfl) Tryz.call111 λa h _=>Z0n a h
theorem Zq3 (c op:Int) (h:c≠2):Zb c op=Zb 0 op:=by unfold Zb;rw[ZmK c op h]
theorem ZCx (c op:Int) (h:c≠2):ZrG c op=ZrG 0 op:=by
 have h1:(c==2)=false:=by simpa using h
 have h0:((0:Int)==2)=false:=rfl;simp only[ZrG,ZDA,RT.val,Zq3 c op h,h1,h0]
theorem ZAU (c op:Int) (h:c≠2):Ze8 c op=Ze8 0 op:=by
 have h1:rOn c=false:=by simpa [ZaR] using h
 have h0:rOn 0=false:=rfl;simp only[Ze8,ZCc,RT.val,Zq3 c op h,h1,h0]
def firT (c op:Int):Bool:=ZrG c op==Ze8 c op
theorem ZV7 (c op:Int) (h:inR .u8 op):ZrG c op=Ze8 c op:=by
 by_cases hc:c=2
 ·subst hc;exact eq_of_beq (ZfQ (firT 2) (by kernel_rfl) op h)
 ·rw[ZCx c op hc,ZAU c op hc];exact eq_of_beq (ZfQ (firT 0) (by kernel_rfl) op h)
def Zu6:En:=Zg Zu4 Zu5 (λ_=>none) (λa=>Ze8 a.1 a.2)
theorem ZrF:Za Tryz.prog 115 Zu6:=ZRa.tot (λa h=>by simp) (λa h=>ZV7 _ _ h.2)
end
end Go.Proofs.YtghoimllhpjkjaaGreat
open Go.Proofs.Tryz (prog)
open Go.IntKind (u8 u16 i64)
namespace Go.Proofs.YtghoimllhpjkjaaGreat
noncomputable section
abbrev ZGa:List Sh:=[Sh.agg (R.Pq Zt (R.Pq (R.int i64) (R.Pq (R.sl (R.int u8)) (R.Pq (RY) (R.Pq (R.int i64) R.bool)))))]
abbrev ZGb:Rs:=Rs.one (Sh.one (R.int i64))
def ZmT (c:QT5):RT (Int):=
 .br (decide (c.2.2.2.2.1<1)||decide (c.2.2.2.2.1>9)) (.Lf (1)) (.Lf c.2.2.2.2.1)
def ZS (c:QT5):Int:=(ZmT c).val
def Zfz:En:=Zg ZGa ZGb (λ_=>none) (λa=>ZS a)
theorem Zeg:Za prog 79 Zfz:=
 pureQ 7 [] [] ZGa ZGb trivial Tryz.func79 Tryz.call79 trivial (t:=λa=>ZmT a)
abbrev ZG0:List Sh:=[Sh.agg Zt,Sh.one (R.int i64)]
abbrev ZG1:Rs:=Rs.one (Sh.agg (RY))
def ZPQ (c:TC) (s:Int):RT TY:=
 .Lf (Zh c s []).1
def ZXF (c:TC) (s:Int):QT12:=(ZPQ c s).val
def Zuj:En:=Zg ZG0 ZG1 (λ_=>none) (λa=>ZXF a.1 a.2)
theorem ZnR:Za prog 82 Zuj:=
 pureQ 127 [(42,Zrn)] [] ZG0 ZG1 ⟨ZiJ,Tv⟩ Tryz.func82 Tryz.call82 trivial (t:=λa=>ZPQ a.1 a.2)
abbrev ZGc:List Sh:=[Sh.agg (R.Pq Zt (R.Pq (R.int i64) (R.Pq (R.sl (R.int u8)) (R.Pq (RY) (R.Pq (R.int i64) R.bool))))),Sh.one (R.int i64)]
abbrev ZGd:Rs:=Rs.one (Sh.agg (R.Pq Zt (R.Pq (R.int i64) (R.Pq (R.sl (R.int u8)) (R.Pq (RY) (R.Pq (R.int i64) R.bool))))))
def ZOv (c:QT5) (s:Int):RT (QT5):=
 .Lf ((Zi c.1 s,s,[],ZXF (Zi c.1 s) s,c.2.2.2.2))
def ZGe (c:QT5) (s:Int):QT5:=(ZOv c s).val
def ZA8:En:=Zg ZGc ZGd (λ_=>none) (λa=>ZGe a.1 a.2)
theorem Zx1:Za prog 88 ZA8:=
 pureQ 31 [(82,Zuj),(97,ZlD)] [] ZGc ZGd ⟨ZnR,Zj4,Tv⟩ Tryz.func88 Tryz.call88 trivial (t:=λa=>ZOv a.1 a.2)
abbrev ZOE:List Sh:=[Sh.agg (R.Pq Zt (R.Pq (R.int i64) (R.Pq (R.sl (R.int u8)) (R.Pq (RY) (R.Pq (R.int i64) R.bool))))),Sh.one (R.int i64),Sh.one (R.int u8)]
abbrev ZBc:Rs:=Rs.tup [Sh.agg (RY),Sh.one (R.sl (R.int u8))]
def ZiF (c:QT5) (t:Int) (d:Int):RT (Option (TY×List Int)):=
 let x1:Int:=bif ZbC c.2.2.2.1.1 then d else c.2.2.2.1.2.2.1
 let x2:List Int:=[]++c.2.2.1++[x1]
 .br (t !=3) (.Lf (some ((c.2.2.2.1,c.2.2.1)))) (.br (!Nat.ble (List.length ([]++c.2.2.1)) most||Nat.ble (List.length x2) most) (.br (Nat.ble (List.length ([]++c.2.2.1)) most) (.Lf (some (((c.2.2.2.1.1,c.2.2.2.1.2.1,x1,bif c.2.2.2.1.1==1||c.2.2.2.1.1==8 then Ze8 c.1.1 x1 else c.2.2.2.1.2.2.2),x2)))) (.Lf none)) (.Lf none))
def ZhZ (c:QT5) (t:Int) (d:Int):TY×List Int:=getO ZBc.Df (ZiF c t d).val
def Ze7 (c:QT5) (t:Int) (d:Int):Bool:=okB (ZiF c t d).val
def ZOH:En:=Zg ZOE ZBc (λa=>some (Ze7 a.1 a.2.1 a.2.2)) (λa=>ZhZ a.1 a.2.1 a.2.2)
theorem ZGm:Za prog 89 ZOH:=
 pureP 1023 [(103,ZhY),(116,ZnN)] [] ZOE ZBc ⟨Ze6,ZiL,Tv⟩ Tryz.func89 Tryz.call89 trivial (t:=λa=>ZiF a.1 a.2.1 a.2.2)
abbrev ZPz:List Sh:=[Sh.one (R.int i64),Sh.agg (RY)]
abbrev ZPA:Rs:=Rs.one (Sh.one R.bool)
def ZkP (t:Int) (x:QT12):RT (Bool):=
 .br (t==3) (.Lf (decide (x.2.2.2<=3))) (.br (bif t==4 then t==4 else t==5) (.Lf (decide (x.2.2.2<=t))) (.Lf (t==6)))
def Zgu (t:Int) (x:QT12):Bool:=(ZkP t x).val
def ZPB:En:=Zg ZPz ZPA (λ_=>none) (λa=>Zgu a.1 a.2)
theorem ZGT:Za prog 90 ZPB:=
 pureQ 2143 [] [] ZPz ZPA trivial Tryz.func90 Tryz.call90 trivial (t:=λa=>ZkP a.1 a.2)
abbrev Zre:List Sh:=[Sh.agg (R.Pq Zt (R.Pq (R.int i64) (R.Pq (R.sl (R.int u8)) (R.Pq (RY) (R.Pq (R.int i64) R.bool)))))]
abbrev Zrf:Rs:=Rs.one (Sh.one R.bool)
def ZiD (c:QT5):RT (Bool):=
 .Lf (c.1.2.2.2.2.1&&c.2.1==0)
def ZiE (c:QT5):Bool:=(ZiD c).val
def ZmW:En:=Zg Zre Zrf (λ_=>none) (λa=>ZiE a)
theorem ZmV:Za prog 86 ZmW:=
 pureQ 7 [] [] Zre Zrf trivial Tryz.func86 Tryz.call86 trivial (t:=λa=>ZiD a)
abbrev ZXt:List Sh:=[Sh.agg (R.Pq Zt (R.Pq (R.int i64) (R.Pq (R.sl (R.int u8)) (R.Pq (RY) (R.Pq (R.int i64) R.bool))))),Sh.agg (R.Pq R.bool (R.Pq R.bool rcF7))]
abbrev ZXu:Rs:=Rs.one (Sh.agg (R.Pq Zt (R.Pq (R.int i64) (R.Pq (R.sl (R.int u8)) (R.Pq (RY) (R.Pq (R.int i64) R.bool))))))
def ZZD (c:QT5) (l:QT0):RT (QT5):=
 let x1:=ZGe (finX c.1 c.2.1 c.2.2.1 l,c.2) (ZdN (finX c.1 c.2.1 c.2.2.1 l) l)
 let x2:=x1.1
 let x3:=x2.2
 let x4:=x3.1
 let x5:=x4.2
 let x6:=x5.2
 let x7:=x6.2
 let x8:=x7.2
 let x9:=x8.2
 let x10:=x9.2
 let x11:=x10.2
 let x12:=x11.1
 let x13:=x12.2
 let x14:=c.1.2.1.2.2.2.2.2.2.2.1.2.2
 let x15:=x13.2
 let x16:=x14.2
 let x17:=x15.2
 let x18:=x16.2
 let x19:=x17.2
 let x20:=x18.2
 let x21:=x19.2
 let x22:=x11.2
 let x23:=x3.2
 let x24:=x23.2
 let x25:=x24.2
 let x26:=x25.2
 let x27:=x26.2
 let x28:=x27.2
 let x29:=x28.2
 let x30:=x29.2
 let x31:=x30.2
 let x32:=x31.2
 let x33:TC:=(bif (Zh c.1 c.2.1 c.2.2.1).2 then c.1.1 else x2.1,(bif (Zh c.1 c.2.1 c.2.2.1).2 then c.1.2.1.1 else x4.1,bif (Zh c.1 c.2.1 c.2.2.1).2 then c.1.2.1.2.1 else x5.1,bif (Zh c.1 c.2.1 c.2.2.1).2 then c.1.2.1.2.2.1 else x6.1,bif (Zh c.1 c.2.1 c.2.2.1).2 then c.1.2.1.2.2.2.1 else x7.1,bif (Zh c.1 c.2.1 c.2.2.1).2 then c.1.2.1.2.2.2.2.1 else x8.1,bif (Zh c.1 c.2.1 c.2.2.1).2 then c.1.2.1.2.2.2.2.2.1 else x9.1,bif (Zh c.1 c.2.1 c.2.2.1).2 then c.1.2.1.2.2.2.2.2.2.1 else x10.1,(bif (Zh c.1 c.2.1 c.2.2.1).2 then c.1.2.1.2.2.2.2.2.2.2.1.1 else x12.1,bif (Zh c.1 c.2.1 c.2.2.1).2 then c.1.2.1.2.2.2.2.2.2.2.1.2.1 else x13.1,bif (Zh c.1 c.2.1 c.2.2.1).2 then x14.1 else x15.1,bif (Zh c.1 c.2.1 c.2.2.1).2 then x16.1 else x17.1,bif (Zh c.1 c.2.1 c.2.2.1).2 then x18.1 else x19.1,bif (Zh c.1 c.2.1 c.2.2.1).2 then x20.1 else x21.1,bif (Zh c.1 c.2.1 c.2.2.1).2 then x20.2 else x21.2),bif (Zh c.1 c.2.1 c.2.2.1).2 then c.1.2.1.2.2.2.2.2.2.2.2.1 else x22.1,bif (Zh c.1 c.2.1 c.2.2.1).2 then c.1.2.1.2.2.2.2.2.2.2.2.2 else x22.2),bif (Zh c.1 c.2.1 c.2.2.1).2 then c.1.2.2.1 else x23.1,bif (Zh c.1 c.2.1 c.2.2.1).2 then c.1.2.2.2.1 else x24.1,bif (Zh c.1 c.2.1 c.2.2.1).2 then c.1.2.2.2.2.1 else x25.1,bif (Zh c.1 c.2.1 c.2.2.1).2 then c.1.2.2.2.2.2.1 else x26.1,bif (Zh c.1 c.2.1 c.2.2.1).2 then c.1.2.2.2.2.2.2.1 else x27.1,bif (Zh c.1 c.2.1 c.2.2.1).2 then c.1.2.2.2.2.2.2.2.1 else x28.1,bif (Zh c.1 c.2.1 c.2.2.1).2 then c.1.2.2.2.2.2.2.2.2.1 else x29.1,bif (Zh c.1 c.2.1 c.2.2.1).2 then c.1.2.2.2.2.2.2.2.2.2.1 else x30.1,bif (Zh c.1 c.2.1 c.2.2.1).2 then c.1.2.2.2.2.2.2.2.2.2.2.1 else x31.1,bif (Zh c.1 c.2.1 c.2.2.1).2 then c.1.2.2.2.2.2.2.2.2.2.2.2.1 else x32.1,bif (Zh c.1 c.2.1 c.2.2.1).2 then c.1.2.2.2.2.2.2.2.2.2.2.2.2 else x32.2)
 let x34:=x1.2
 let x35:Int:=bif (Zh c.1 c.2.1 c.2.2.1).2 then c.2.1 else x34.1
 let x36:=x34.2
 let x37:List Int:=bif (Zh c.1 c.2.1 c.2.2.1).2 then c.2.2.1 else x36.1
 let x38:=x36.2
 let x39:=x38.1
 let x40:=x39.2
 let x41:=x40.2
 let x42:QT12:=(bif (Zh c.1 c.2.1 c.2.2.1).2 then (Zh c.1 c.2.1 c.2.2.1).1.1 else x39.1,bif (Zh c.1 c.2.1 c.2.2.1).2 then (Zh c.1 c.2.1 c.2.2.1).1.2.1 else x40.1,bif (Zh c.1 c.2.1 c.2.2.1).2 then (Zh c.1 c.2.1 c.2.2.1).1.2.2.1 else x41.1,bif (Zh c.1 c.2.1 c.2.2.1).2 then (Zh c.1 c.2.1 c.2.2.1).1.2.2.2 else x41.2)
 let x43:=x38.2
 let x44:=bif (Zh c.1 c.2.1 c.2.2.1).2 then c.2.2.2.2.2 else x43.2
 .Lf ((x33,x35,x37,x42,bif x44 then 8 else bif ZiE (x33,x35,x37,x42,bif (Zh c.1 c.2.1 c.2.2.1).2 then c.2.2.2.2.1 else x43.1,x44) then 9 else 1,false))
def rEnd (c:QT5) (l:QT0):QT5:=(ZZD c l).val
def Z18:En:=Zg ZXt ZXu (λ_=>none) (λa=>rEnd a.1 a.2)
theorem ZZC:Za prog 91 Z18:=
 pureQ 1168231104639 [(42,Zrn),(86,ZmW),(87,ZOS),(88,ZA8),(98,ZZB)] [] ZXt ZXu ⟨ZiJ,ZmV,ZGx,Zx1,ZPo,Tv⟩ Tryz.func91 Tryz.call91 trivial (t:=λa=>ZZD a.1 a.2)
abbrev ZPa:List Sh:=[Sh.one (R.int i64)]
abbrev ZPb:Rs:=Rs.one (Sh.agg (R.Pq Zt (R.Pq (R.int i64) (R.Pq (R.sl (R.int u8)) (R.Pq (RY) (R.Pq (R.int i64) R.bool))))))
def ZZt (chip:Int):RT (QT5):=
 let x1:TR:=(0,0,0,0,0,0,0,(false,false,false,false,false,false,false),0,0)
 let x2:=ZN (chip,x1,false,false,false,0,false,false,false,false,false,false,false)
 .Lf (((x2.1,x1,false,false,false,x2.2.2.2.2.2.1,false,false,false,false,false,false,false),0,[],(1,0,0,4),1,false))
def rNew (chip:Int):QT5:=(ZZt chip).val
def Z14:En:=Zg ZPa ZPb (λ_=>none) (λa=>rNew a)
theorem ZO9:Za prog 80 Z14:=
 pureQ 15 [(81,Ztc),(82,Zuj)] [] ZPa ZPb ⟨ZmX,ZnR,Tv⟩ Tryz.func80 Tryz.call80 trivial (t:=λa=>ZZt a)
abbrev Zug:List Sh:=[Sh.agg (R.Pq Zt (R.Pq (R.int i64) (R.Pq (R.sl (R.int u8)) (R.Pq (RY) (R.Pq (R.int i64) R.bool))))),Sh.agg (R.Pq R.bool (R.Pq R.bool rcF7)),Sh.one (R.int u8)]
abbrev ZlC:Rs:=Rs.tup [Sh.agg (R.Pq Zt (R.Pq (R.int i64) (R.Pq (R.sl (R.int u8)) (R.Pq (RY) (R.Pq (R.int i64) R.bool))))),Sh.agg (R.Pq (R.int i64) (R.Pq (R.int u16) (R.Pq (R.int u8) (R.Pq R.bool (R.Pq R.bool (R.Pq R.bool (R.Pq R.bool (R.Pq R.bool (R.Pq R.bool (R.Pq R.bool rcF7))))))))))]
def Zj3 (c:QT5) (l:QT0) (d:Int):RT (Option ((QT5)×Int×Int×Int×Bool×Bool×Bool×Bool×Bool×Bool×Bool×Bool×Bool×Bool×Bool×Bool×Bool×Bool)):=
 let x1:QT12:=(bif ZS c==9 then 0 else c.2.2.2.1.1,bif ZS c==9 then c.1.2.1.2.2.2.2.2.2.2.2.2 else c.2.2.2.1.2.1,bif ZS c==9 then 0 else c.2.2.2.1.2.2.1,bif ZS c==9 then 0 else c.2.2.2.1.2.2.2)
 let x2:=c.1.2.2.2.2.2.2.2.2.2.2.2.2
 let x3:QT25:=(ZmZ c.1.1 10 x1 0 c.1.2.2.1 x2).2.2.2.2.2.2
 let x4:=x3.2.2.2.2.2.2.2
 let x5:=ZmZ c.1.1 (ZS c) x1 d c.1.2.2.1 x2
 let x6:QT5:=(Zj c.1 l,c.2.1,[]++c.2.2.1,c.2.2.2)
 let x7:=ZGe x6 (ZdN (Zj c.1 l) l)
 let x8:=x7.2
 let x9:=x8.2.2
 let x10:Int:=bif l.2.1 then 8 else bif ZdN (Zj c.1 l) l !=0 then 1 else 9
 let x11:=ZhZ x6 (ZS c) d
 let x12:=x11.1
 let x13:=Zgu (ZS c) x12
 let x14:=x11.2
 let x15:=rEnd (Zj c.1 l,c.2.1,x14,x12,c.2.2.2.2) l
 let x16:=x15.1
 let x17:=x16.2
 let x18:=x17.1
 let x19:=x18.2
 let x20:=x19.2
 let x21:=x20.2
 let x22:=x21.2
 let x23:=x22.2
 let x24:=x23.2
 let x25:=x24.2
 let x26:=x25.1
 let x27:TF:=(Zj c.1 l).2.1.2.2.2.2.2.2.2.1
 let x28:=x26.2
 let x29:=x27.2
 let x30:=x28.2
 let x31:=x29.2
 let x32:=x30.2
 let x33:=x31.2
 let x34:=x32.2
 let x35:=x33.2
 let x36:=x34.2
 let x37:=x35.2
 let x38:=x25.2
 let x39:Int×Int:=(Zj c.1 l).2.1.2.2.2.2.2.2.2.2
 let x40:=x17.2
 let x41:=x40.2
 let x42:=x41.2
 let x43:=x42.2
 let x44:=x43.2
 let x45:=x44.2
 let x46:=x45.2
 let x47:=x46.2
 let x48:=x47.2
 let x49:Bool×Bool×Bool:=(Zj c.1 l).2.2.2.2.2.2.2.2.2.2
 let x50:=x48.2
 let x51:=x49.2
 let x52:=x15.2
 let x53:=x52.2
 let x54:=x53.2
 let x55:=x54.1
 let x56:=x55.2
 let x57:=x12.2
 let x58:=x56.2
 let x59:=x57.2
 let x60:=x54.2
 .br l.2.2.1 (.Lf (some (((((ZN c.1).1,((ZN c.1).2.1.1,(ZN c.1).2.1.2.1,(ZN c.1).2.1.2.2.1,(ZN c.1).2.1.2.2.2.1,(ZN c.1).2.1.2.2.2.2.1,(ZN c.1).2.1.2.2.2.2.2.1,(ZN c.1).2.1.2.2.2.2.2.2.1,(ZN c.1).2.1.2.2.2.2.2.2.2.1,(ZN c.1).2.1.2.2.2.2.2.2.2.2.1,0),false,false,false,(ZN c.1).2.2.2.2.2.1,false,false,false,false,false,false,false),0,[],(1,0,0,4),1,false),10,0,0,false,false,false,x3.1,false,false,false,false,false,false,x4.1,false,false,x4.2.2.2)))) (.br (Nat.ble (List.length ([]++c.2.2.1)) most) (.br (ZS c==1) (.Lf (some (((Zj c.1 l,c.2.1,[]++c.2.2.1,c.2.2.2.1,2,c.2.2.2.2.2),x5)))) (.br (bif ZS c==2 then ZS c==2 else ZS c==7) (.Lf (some (((Zj c.1 l,c.2.1,[]++c.2.2.1,c.2.2.2.1,bif l.1|| !Z1 c.2.2.2.1.1 then 3 else 7,bif l.1|| !Z1 c.2.2.2.1.1 then l.2.1 else c.2.2.2.2.2),x5)))) (.br (ZS c==8) (.Lf (some (((Zj c.1 l,c.2.1,bif l.2.1 then []++c.2.2.1 else []++c.2.2.1,c.2.2.2.1,bif l.2.1 then 8 else bif ZiE x6 then 9 else 1,c.2.2.2.2.2),x5)))) (.br (ZS c==9) (.br (ZdN (Zj c.1 l) l !=0) (.Lf (some (((x7.1,x8.1,[],x9.1,x10,x9.2.2),x5)))) (.Lf (some (((Zj c.1 l,c.2.1,[]++c.2.2.1,c.2.2.2.1,x10,c.2.2.2.2.2),x5))))) (.br (Ze7 x6 (ZS c) d) (.Lf (some ((((bif x13 then x16.1 else (Zj c.1 l).1,(bif x13 then x18.1 else (Zj c.1 l).2.1.1,bif x13 then x19.1 else (Zj c.1 l).2.1.2.1,bif x13 then x20.1 else (Zj c.1 l).2.1.2.2.1,bif x13 then x21.1 else (Zj c.1 l).2.1.2.2.2.1,bif x13 then x22.1 else (Zj c.1 l).2.1.2.2.2.2.1,bif x13 then x23.1 else (Zj c.1 l).2.1.2.2.2.2.2.1,bif x13 then x24.1 else (Zj c.1 l).2.1.2.2.2.2.2.2.1,(bif x13 then x26.1 else x27.1,bif x13 then x28.1 else x29.1,bif x13 then x30.1 else x31.1,bif x13 then x32.1 else x33.1,bif x13 then x34.1 else x35.1,bif x13 then x36.1 else x37.1,bif x13 then x36.2 else x37.2),bif x13 then x38.1 else x39.1,bif x13 then x38.2 else x39.2),bif x13 then x40.1 else (Zj c.1 l).2.2.1,bif x13 then x41.1 else (Zj c.1 l).2.2.2.1,bif x13 then x42.1 else (Zj c.1 l).2.2.2.2.1,bif x13 then x43.1 else (Zj c.1 l).2.2.2.2.2.1,bif x13 then x44.1 else (Zj c.1 l).2.2.2.2.2.2.1,bif x13 then x45.1 else (Zj c.1 l).2.2.2.2.2.2.2.1,bif x13 then x46.1 else (Zj c.1 l).2.2.2.2.2.2.2.2.1,bif x13 then x47.1 else (Zj c.1 l).2.2.2.2.2.2.2.2.2.1,bif x13 then x48.1 else x49.1,bif x13 then x50.1 else x51.1,bif x13 then x50.2 else x51.2),bif x13 then x52.1 else c.2.1,bif x13 then x53.1 else x14,(bif x13 then x55.1 else x12.1,bif x13 then x56.1 else x57.1,bif x13 then x58.1 else x59.1,bif x13 then x58.2 else x59.2),bif x13 then x60.1 else i64.wrap (ZS c+1),bif x13 then x60.2 else c.2.2.2.2.2),x5)))) (.Lf none)))))) (.Lf none))
def ZXD (c:QT5) (l:QT0) (d:Int):(QT5)×Int×Int×Int×Bool×Bool×Bool×Bool×Bool×Bool×Bool×Bool×Bool×Bool×Bool×Bool×Bool×Bool:=getO ZlC.Df (Zj3 c l d).val
def ZPK (c:QT5) (l:QT0) (d:Int):Bool:=okB (Zj3 c l d).val
def ZZP:En:=Zg Zug ZlC (λa=>some (ZPK a.1 a.2.1 a.2.2)) (λa=>ZXD a.1 a.2.1 a.2.2)
theorem ZPJ:Za Tryz.prog 27 ZZP:=
 pureP 740465775588642560936085758595903342518271 [(79,Zfz),(80,Z14),(81,Ztc),(82,Zuj),(83,ZXc),(84,ZnI),(85,Zyl),(86,ZmW),(87,ZOS),(88,ZA8),(89,ZOH),(90,ZPB),(91,Z18)] [] Zug ZlC ⟨Zeg,ZO9,ZmX,ZnR,ZUG,ZnH,ZCp,ZmV,ZGx,Zx1,ZGm,ZGT,ZZC,Tv⟩ Tryz.func27 Tryz.call27 trivial (t:=λa=>Zj3 a.1 a.2.1 a.2.2)
abbrev LnT:=QT0
abbrev Zhz:=CpuT×Int×List Int×Cyc×Int×Bool
def Zao (n:Int):Int:=bif decide (n<1)||decide (n>9) then 1 else n
def Zr4 (c:CpuT) (s:Int):Zhz:=(c,s,[],(Zh c s []).1,1,false)
def idlX (c:CpuT) (s:Int) (h:Bool):Int:=bif h then 8 else bif c.2.2.2.2.1&&s==0 then 9 else 1
def endX (c:CpuT) (s:Int) (g:List Int) (h:Bool) (l:LnT):Zhz:=
 bif (Zh c s g).2 then (c,s,g,(Zh c s g).1,idlX c s h,false) else
 let q:=finX c s g l
 let k:=ZdN q l
 let d:=Zi q k
 (d,k,[],(Zh d k []).1,idlX d k h,false)
def Zbr (c:CpuT) (x:Cyc) (d:Int):Cyc:=
 let v:=bif ZbC x.1 then d else x.2.2.1
 (x.1,x.2.1,v,bif x.1==1||x.1==8 then Ze8 c.1 v else x.2.2.2)
def le3 (x:Int):Bool:=decide (x<=3)
def ZD (c:Zhz) (l:LnT) (d:Int):Zhz:=
 let t:=Zao c.2.2.2.2.1
 let p:=Zj c.1 l
 let s:=c.2.1
 let g:=c.2.2.1
 let x:=c.2.2.2.1
 let h:=c.2.2.2.2.2
 bif l.2.2.1 then Zr4 (ZN c.1) 0 else
 bif t==1 then (p,s,g,x,2,h) else
 bif t==2||t==7 then (bif l.1|| !Z1 x.1 then (p,s,g,x,3,l.2.1) else (p,s,g,x,7,h)) else
 bif t==8 then (p,s,g,x,idlX p s l.2.1,h) else
 bif t==9 then
  (let k:=ZdN p l
   bif k==0 then (p,s,g,x,bif l.2.1 then 8 else 9,h) else
   (Zi p k,k,[],(Zh (Zi p k) k []).1,bif l.2.1 then 8 else 1,h)) else
 bif t==3 then
  (let y:=Zbr p x d
   bif le3 y.2.2.2 then endX p s (g++[y.2.2.1]) h l else (p,s,g++[y.2.2.1],y,4,h)) else
 bif decide (t<x.2.2.2)&& !(t==6) then (p,s,g,x,t+1,h) else endX p s g h l
abbrev PinT:=QT13
def Z05 (c:Zhz) (t:Int):Cyc:=bif t==9 then (0,c.1.2.1.2.2.2.2.2.2.2.2.2,0,0) else c.2.2.2.1
def Zuw (c:Zhz) (l:LnT) (d:Int):PinT:=
 let t:=Zao c.2.2.2.2.1
 ZmZ c.1.1 (bif l.2.2.1 then 10 else t) (Z05 c t) (bif l.2.2.1 then 0 else d) c.1.2.2.1 c.1.2.2.2.2.2.2.2.2.2.2.2.2
theorem ZNV (n:Int):1<=Zao n/\Zao n<=9:=by
 unfold Zao;by_cases h:n<1\/n>9
 ·have:(decide (n<1)||decide (n>9))=true:=by simpa using h
  rw[this];simp
 ·have:(decide (n<1)||decide (n>9))=false:=by simpa using h
  rw[this];simp only[Yb];omega
theorem Zxw (c):ZS c=Zao c.2.2.2.2.1:=rfl
theorem Zxx (c:Zhz) (s):ZGe c s=(Zi c.1 s,s,[],(Zh (Zi c.1 s) s []).1,c.2.2.2.2):=rfl
theorem ZZe (c:Zhz) (l:LnT):rEnd c l=endX c.1 c.2.1 c.2.2.1 c.2.2.2.2.2 l:=by cases h:(Zh c.1 c.2.1 c.2.2.1).2<;>simp only[rEnd,ZZD,RT.val,h,Ya,Yb,Zxx,endX,ZiE,ZiD,idlX]
theorem ZZU (chip:Int) (x:Cyc) (i o:Bool):ZmZ chip 10 x 0 i o=(10,0,0,false,false,false,(ZmZ chip 10 x 0 i o).2.2.2.2.2.2.1,false,false,false,false,false,false,(ZmZ chip 10 x 0 i o).2.2.2.2.2.2.2.2.2.2.2.2.2.1,false,false,(ZmZ chip 10 x 0 i o).2.2.2.2.2.2.2.2.2.2.2.2.2.2.2.2):=by simp only[ZmZ,ZGw,RT.val,ZaR];generalize (chip==2)=b;cases b<;>simp
theorem ZxE (c:CpuT):ZN c=((ZN c).1,((ZN c).2.1.1,(ZN c).2.1.2.1,(ZN c).2.1.2.2.1,(ZN c).2.1.2.2.2.1,(ZN c).2.1.2.2.2.2.1,(ZN c).2.1.2.2.2.2.2.1,(ZN c).2.1.2.2.2.2.2.2.1,(ZN c).2.1.2.2.2.2.2.2.2.1,(ZN c).2.1.2.2.2.2.2.2.2.2.1,0),false,false,false,(ZN c).2.2.2.2.2.1,false,false,false,false,false,false,false):=by simp only[ZN,ZjZ,RT.val,ZaR]
theorem ZYk (c:CpuT):Zr4 (ZN c) 0=(ZN c,0,[],(1,0,0,4),1,false):=by
 simp only[Zr4];have:(Zh (ZN c) 0 []).1=(1,0,0,4):=by
  have hp:pcOf (ZN c)=0:=by rw[ZxE];rfl
  simp[Zh,ZeC,Zc,Zj1,RT.val,hp];rfl
 rw[this]
theorem len1 {α:Type} (l:List α) (x:α) (h:l.length+1<=most):Nat.ble l.length most=true/\Nat.ble (l++[x]).length most=true:=by rw[YH,YH];simp only[Yd,List.length_cons,List.length_nil];omega
theorem ZUk (c:Zhz) (d:Int) (hg:c.2.2.1.length+1<=most):(ZiF c 3 d).val=some (Zbr c.1 c.2.2.2.1 d,c.2.2.1++[(Zbr c.1 c.2.2.2.1 d).2.2.1]):=by have h:=len1 c.2.2.1 (bif ZbC c.2.2.2.1.1 then d else c.2.2.2.1.2.2.1) hg;simp only[ZiF,RT.val,List.nil_append,h.1,h.2,Yf,Yj,Ya,Zbr,bne_self_eq_false,Yb]
theorem ZmF (c:Zhz) (t d:Int) (ht:t≠3):(ZiF c t d).val=some (c.2.2.2.1,c.2.2.1):=by
 have:(t !=3)=true:=by simpa using ht
 simp only[ZiF,RT.val,this,Ya]
theorem Z2G (t x:Int):decide (t<x)= !decide (x<=t):=by by_cases h:x<=t<;>simp[h]<;>omega
theorem ZxI (c:Zhz) (l:LnT) (d:Int) (hg:c.2.2.1.length+1<=most):(Zj3 c l d).val=some (ZD c l d,Zuw c l d):=by
 obtain⟨t1,t2⟩:=ZNV c.2.2.2.2.1;have hx:Z05 c (Zao c.2.2.2.2.1)=(bif Zao c.2.2.2.2.1==9 then 0 else c.2.2.2.1.1,bif Zao c.2.2.2.2.1==9 then c.1.2.1.2.2.2.2.2.2.2.2.2 else c.2.2.2.1.2.1,bif Zao c.2.2.2.2.1==9 then 0 else c.2.2.2.1.2.2.1,bif Zao c.2.2.2.2.1==9 then 0 else c.2.2.2.1.2.2.2):=by unfold Z05;cases Zao c.2.2.2.2.1==9<;>simp only[Ya,Yb,Yf,Yk,YY,Y6,YZ,YX,Yh,Yx,Ys,Yj]
 have hl:Nat.ble c.2.2.1.length most=true:=(len1 c.2.2.1 0 hg).1;cases hr:l.2.2.1 with
 |true=>
  simp only[Zj3,RT.val,hr,Ya,ZD,Zuw,ZYk,Zxw,<-hx];rw[<-ZZU,<-ZxE]
 |false=>
  simp only[Zj3,RT.val,hr,Yb,List.nil_append,hl,Ya,Zxw,Zxx,ZZe,<-hx,Zuw];have:Zao c.2.2.2.2.1=1\/Zao c.2.2.2.2.1=2\/Zao c.2.2.2.2.1=7\/Zao c.2.2.2.2.1=3\/Zao c.2.2.2.2.1=4\/Zao c.2.2.2.2.1=5\/Zao c.2.2.2.2.1=6\/Zao c.2.2.2.2.1=8\/Zao c.2.2.2.2.1=9:=by omega
  have q3:=ZUk (Zj c.1 l,c.2.1,c.2.2.1,c.2.2.2) d hg;rcases this with h|h|h|h|h|h|h|h|h
  ·simp only[ZD,hr,h,Int.reduceBEq,Ya,Yb]
  ·simp only[ZD,hr,h,Int.reduceBEq,Ya,Yb,Ys];cases l.1|| !Z1 c.2.2.2.1.1<;>simp only[Ya,Yb,Yf,Yk,YY,Y6,YZ,YX,Yh,Yx,Ys,Yj]
  ·simp only[ZD,hr,h,Int.reduceBEq,Ya,Yb,Yh];cases l.1|| !Z1 c.2.2.2.1.1<;>simp only[Ya,Yb,Yf,Yk,YY,Y6,YZ,YX,Yh,Yx,Ys,Yj]
  ·have e1:Ze7 (Zj c.1 l,c.2.1,c.2.2.1,c.2.2.2) 3 d=true:=by simp only[Ze7,q3,okB]
   have e2:ZhZ (Zj c.1 l,c.2.1,c.2.2.1,c.2.2.2) 3 d=(Zbr (Zj c.1 l) c.2.2.2.1 d,c.2.2.1++[(Zbr (Zj c.1 l) c.2.2.2.1 d).2.2.1]):=by simp only[ZhZ,q3,getO]
   simp only[ZD,hr,h,Int.reduceBEq,Ya,Yb,Yag,e1,e2,Zgu,ZkP,RT.val];rw[show decide ((Zbr (Zj c.1 l) c.2.2.2.1 d).2.2.2<=3)=le3 (Zbr (Zj c.1 l) c.2.2.2.1 d).2.2.2 from rfl];cases le3 (Zbr (Zj c.1 l) c.2.2.2.1 d).2.2.2<;>rfl
  ·have q:=ZmF (Zj c.1 l,c.2.1,c.2.2.1,c.2.2.2) 4 d (by decide);have e1:Ze7 (Zj c.1 l,c.2.1,c.2.2.1,c.2.2.2) 4 d=true:=by simp only[Ze7,q,okB]
   have e2:ZhZ (Zj c.1 l,c.2.1,c.2.2.1,c.2.2.2) 4 d=(c.2.2.2.1,c.2.2.1):=by simp only[ZhZ,q,getO]
   simp only[ZD,hr,h,Int.reduceBEq,Ya,Yb,Yag,Yk,YY,e1,e2,Zgu,ZkP,RT.val,show IntKind.wrap .i64 (4+1)=4+1 from rfl,Z2G];cases decide (c.2.2.2.1.2.2.2<=4)<;>rfl
  ·have q:=ZmF (Zj c.1 l,c.2.1,c.2.2.1,c.2.2.2) 5 d (by decide);have e1:Ze7 (Zj c.1 l,c.2.1,c.2.2.1,c.2.2.2) 5 d=true:=by simp only[Ze7,q,okB]
   have e2:ZhZ (Zj c.1 l,c.2.1,c.2.2.1,c.2.2.2) 5 d=(c.2.2.2.1,c.2.2.1):=by simp only[ZhZ,q,getO]
   simp only[ZD,hr,h,Int.reduceBEq,Ya,Yb,Yag,Yk,YY,e1,e2,Zgu,ZkP,RT.val,show IntKind.wrap .i64 (5+1)=5+1 from rfl,Z2G];cases decide (c.2.2.2.1.2.2.2<=5)<;>rfl
  ·have q:=ZmF (Zj c.1 l,c.2.1,c.2.2.1,c.2.2.2) 6 d (by decide);have e1:Ze7 (Zj c.1 l,c.2.1,c.2.2.1,c.2.2.2) 6 d=true:=by simp only[Ze7,q,okB]
   have e2:ZhZ (Zj c.1 l,c.2.1,c.2.2.1,c.2.2.2) 6 d=(c.2.2.2.1,c.2.2.1):=by simp only[ZhZ,q,getO]
   simp only[ZD,hr,h,Int.reduceBEq,Ya,Yb,Yag,Yf,Y6,e1,e2,Zgu,ZkP,RT.val]
  ·simp only[ZD,hr,h,Int.reduceBEq,Ya,Yb,Yag,ZiE,ZiD,RT.val,idlX];cases l.2.1<;>rfl
  ·have hb:(ZdN (Zj c.1 l) l !=0)= !(ZdN (Zj c.1 l) l==0):=rfl;simp only[ZD,hr,h,Int.reduceBEq,Ya,Yb,Yag,hb];cases hk:(ZdN (Zj c.1 l) l==0)<;>rfl
def ZOk (c:Zhz):Bool:=Nat.ble (c.2.2.1.length+1) most
theorem ZmI {c:Zhz}:ZOk c=true↔c.2.2.1.length+1<=most:=by simp[ZOk]
def clkX (c:Zhz) (l:LnT) (d:Int):Zhz×PinT:=(ZD c l d,Zuw c l d)
def ZGX:En:=Zg Zug ZlC (λa=>some (ZOk a.1)) (λa=>clkX a.1 a.2.1 a.2.2)
theorem ZKh:Za Tryz.prog 27 ZGX:=ZPJ.pure_congr
 (λa h hp=>by have h1:=ZxI a.1 a.2.1 a.2.2 (ZmI.1 (by simpa using hp));simp[ZPK,h1,okB])
 (λa h hp=>by have h1:=ZxI a.1 a.2.1 a.2.2 (ZmI.1 (by simpa using hp));simp only[ZXD,h1,getO,clkX])
def newX (chip:Int):Zhz:=Zr4 (ZN (chip,(0,0,0,0,0,0,0,(false,false,false,false,false,false,false),0,0),false,false,false,0,false,false,false,false,false,false,false)) 0
theorem ZZb (chip:Int):rNew chip=newX chip:=by unfold newX;rw[ZYk];simp only[rNew,ZZt,RT.val,ZN,ZjZ,ZaR]
def ZXk:En:=Zg ZPa ZPb (λ_=>none) (λa=>newX a)
theorem ZUP:Za Tryz.prog 80 ZXk:=ZO9.tot (λa h=>by simp) (λa h=>ZZb _)
abbrev ZH5:List Sh:=[Sh.one (R.int i64),Sh.one (R.int i64)]
abbrev Zv2:Rs:=Rs.one (Sh.one (R.int i64))
def Zpo (x:Int) (n:Int):RT (Option (Int)):=
 .br (IntKind.u64.wrap n !=0) (.Lf (some (i64.wrap (Int.tmod (IntKind.u64.wrap x) (IntKind.u64.wrap n))))) (.Lf none)
def ZH6 (x:Int) (n:Int):Int:=getO Zv2.Df (Zpo x n).val
def Zv3 (x:Int) (n:Int):Bool:=okB (Zpo x n).val
def ZSf:En:=Zg ZH5 Zv2 (λa=>some (Zv3 a.1 a.2)) (λa=>ZH6 a.1 a.2)
theorem ZSd:Za prog 24 ZSf:=
 pureP 31 [] [] ZH5 Zv2 trivial Tryz.func24 Tryz.call24 trivial (t:=λa=>Zpo a.1 a.2)
abbrev ZD6:R:=R.Pq (R.sl (R.int i64)) (R.int i64)
abbrev ZRQ:List Sh:=[Sh.one (R.int i64)]
abbrev ZD5:Rs:=Rs.one (Sh.one (R.int i64))
def Zo6 (s:List Int×Int) (n:Int):RT (Option (QT22)):=
 let x1:=Ze (i64.wrap (i64.wrap (s.2+1)-1)) (List.length s.1)
 let x2:Int:=R.get (R.int i64) s.1 (i64.wrap (i64.wrap (s.2+1)-1))
 .br (decide (s.2>=iN (List.length s.1))) (.Lf (some ((0,s.1,i64.wrap (s.2+1))))) (.br (!x1||Zv3 x2 n) (.br (x1) (.Lf (some ((ZH6 x2 n,s.1,i64.wrap (s.2+1))))) (.Lf none)) (.Lf none))
def Zd (s:List Int×Int) (n:Int):QT22:=getO (ZD5.Df,ZD6.Df) (Zo6 s n).val
def Zl (s:List Int×Int) (n:Int):Bool:=okB (Zo6 s n).val
def ZcH:En:=boxE ZD6 ZRQ ZD5 (λa=>some (Zl a.1 a.2)) (λa=>Zd a.1 a.2)
theorem Zbc:Za prog 46 ZcH:=
 Zcr (P:=prog) (n:=31) (k:=8) (l:=[(24,ZSf)]) (ol:=[]) ⟨ZSd,Tv⟩ Tryz.func46 rfl (by kernel_rfl) Tryz.call46 trivial (rb:=ZD6) (ts:=ZRQ) (rs:=ZD5) (t:=λa=>Zo6 a.1 a.2) (λa=>by kernel_rfl)
abbrev ZEe:R:=R.Pq (R.sl (R.int i64)) (R.int i64)
abbrev ZRY:List Sh:=[]
abbrev ZEd:Rs:=Rs.one (Sh.one (R.int u8))
def Zpd (s:List Int×Int):RT (Option (QT22)):=
 let x1:List Int:=[0,1,127,128,255,15,16,153,154,9,102,254,129,85,170,64]
 .br (Zl s 512) (.br (!decide ((Zd s 512).1>=256)||Ze (Int.tmod (Zd s 512).1 16) (List.length x1)) (.br (decide ((Zd s 512).1>=256)) (.Lf (some ((R.get (R.int u8) x1 (Int.tmod (Zd s 512).1 16),(Zd s 512).2)))) (.Lf (some ((u8.wrap (Zd s 512).1,(Zd s 512).2))))) (.Lf none)) (.Lf none)
def ZcP (s:List Int×Int):QT22:=getO (ZEd.Df,ZEe.Df) (Zpd s).val
def ZgG (s:List Int×Int):Bool:=okB (Zpd s).val
def Zy3:En:=boxE ZEe ZRY ZEd (λa=>some (ZgG a.1)) (λa=>ZcP a.1)
theorem ZlP:Za prog 108 Zy3:=
 Zcr (P:=prog) (n:=15) (k:=8) (l:=[(46,ZcH)]) (ol:=[]) ⟨Zbc,Tv⟩ Tryz.func108 rfl (by kernel_rfl) Tryz.call108 trivial (rb:=ZEe) (ts:=ZRY) (rs:=ZEd) (t:=λa=>Zpd a.1) (λa=>by kernel_rfl)
abbrev ZDZ:R:=R.Pq (R.sl (R.int i64)) (R.int i64)
abbrev ZRO:List Sh:=[]
abbrev ZDY:Rs:=Rs.one (Sh.one (R.int u16))
def Zi4 (s:List Int×Int):RT (Option (QT22)):=
 let x1:List Int:=[0,1,65535,65534,32767,32768,255,256]
 let x2:= !(Zd s 5).1==0||(!Zl (Zd s 5).2 8||Ze (Zd (Zd s 5).2 8).1 (List.length x1))
 let x3:= !x2
 let x4:= !(Zd s 5).1==0||Zl (Zd s 5).2 8
 .br (Zl s 5) (.br (x3||(!x4||((Zd s 5).1==0||(!(Zd s 5).1==1||Zl (Zd s 5).2 65536)))) (.br (x3||x4) (.br (x2) (.br ((Zd s 5).1==0) (.Lf (some ((R.get (R.int u16) x1 (Zd (Zd s 5).2 8).1,(Zd (Zd s 5).2 8).2)))) (.br ((Zd s 5).1==1) (.Lf (some ((u16.wrap (Zd (Zd s 5).2 65536).1,(Zd (Zd s 5).2 65536).2)))) (.br (Zl (Zd s 5).2 64) (.Lf (some ((u16.wrap (Zd (Zd s 5).2 64).1,(Zd (Zd s 5).2 64).2)))) (.Lf none)))) (.Lf none)) (.Lf none)) (.Lf none)) (.Lf none)
def ZaS (s:List Int×Int):QT22:=getO (ZDY.Df,ZDZ.Df) (Zi4 s).val
def ZfV (s:List Int×Int):Bool:=okB (Zi4 s).val
def ZRP:En:=boxE ZDZ ZRO ZDY (λa=>some (ZfV a.1)) (λa=>ZaS a.1)
theorem ZHN:Za prog 137 ZRP:=
 Zcr (P:=prog) (n:=4135) (k:=8) (l:=[(46,ZcH)]) (ol:=[]) ⟨Zbc,Tv⟩ Tryz.func137 rfl (by kernel_rfl) Tryz.call137 trivial (rb:=ZDZ) (ts:=ZRO) (rs:=ZDY) (t:=λa=>Zi4 a.1) (λa=>by kernel_rfl)
abbrev ZEc:R:=R.Pq (R.sl (R.int i64)) (R.int i64)
abbrev ZRW:List Sh:=[]
abbrev ZEb:Rs:=Rs.one (Sh.one (R.int i64))
def Zy2 (s:List Int×Int):RT (Option (QT22)):=
 .br (Zl s 2) (.Lf (some ((i64.wrap (1+(Zd s 2).1),(Zd s 2).2)))) (.Lf none)
def ZaZ (s:List Int×Int):QT22:=getO (ZEb.Df,ZEc.Df) (Zy2 s).val
def Zpc (s:List Int×Int):Bool:=okB (Zy2 s).val
def ZRX:En:=boxE ZEc ZRW ZEb (λa=>some (Zpc a.1)) (λa=>ZaZ a.1)
theorem ZHT:Za prog 72 ZRX:=
 Zcr (P:=prog) (n:=7) (k:=8) (l:=[(46,ZcH)]) (ol:=[]) ⟨Zbc,Tv⟩ Tryz.func72 rfl (by kernel_rfl) Tryz.call72 trivial (rb:=ZEc) (ts:=ZRW) (rs:=ZEb) (t:=λa=>Zy2 a.1) (λa=>by kernel_rfl)
abbrev Zo5:R:=R.Pq (R.sl (R.int i64)) (R.int i64)
abbrev ZyZ:List Sh:=[]
abbrev Zo4:Rs:=Rs.one (Sh.one (R.int u8))
def ZfF (s:List Int×Int):RT (Option (QT22)):=
 let x1:List Int:=[251,243,118,205,201,197,227,211,219,54,52,32,48,194,202,255,62,49]
 .br (Zl s 3) (.br (!decide ((Zd s 3).1>0)||Zl (Zd s 3).2 256) (.br (decide ((Zd s 3).1>0)) (.Lf (some ((u8.wrap (Zd (Zd s 3).2 256).1,(Zd (Zd s 3).2 256).2)))) (.br (!Zl (Zd s 3).2 18||Ze (Zd (Zd s 3).2 18).1 (List.length x1)) (.br (Zl (Zd s 3).2 18) (.Lf (some ((R.get (R.int u8) x1 (Zd (Zd s 3).2 18).1,(Zd (Zd s 3).2 18).2)))) (.Lf none)) (.Lf none))) (.Lf none)) (.Lf none)
def Zas (s:List Int×Int):QT22:=getO (Zo4.Df,Zo5.Df) (ZfF s).val
def Zcb (s:List Int×Int):Bool:=okB (ZfF s).val
def Zhi:En:=boxE Zo5 ZyZ Zo4 (λa=>some (Zcb a.1)) (λa=>Zas a.1)
theorem Zfc:Za prog 109 Zhi:=
 Zcr (P:=prog) (n:=7) (k:=8) (l:=[(46,ZcH)]) (ol:=[]) ⟨Zbc,Tv⟩ Tryz.func109 rfl (by kernel_rfl) Tryz.call109 trivial (rb:=Zo5) (ts:=ZyZ) (rs:=Zo4) (t:=λa=>ZfF a.1) (λa=>by kernel_rfl)
def NB (s:List Int×Int) (k:Int):Prop:=0<=s.2/\s.2<=k
theorem ZSe (x n:Int) (h0:0<n) (h1:n<=4611686018427387904):Zv3 x n=true/\ZH6 x n=(x%18446744073709551616)%n:=by
 have e:IntKind.wrap .u64 n=n:=Zl3 ⟨by simp[IntKind.min,IntKind.signed];omega,by simp[IntKind.max,IntKind.signed,IntKind.bits];omega⟩;have e2:IntKind.wrap .u64 x=x%18446744073709551616:=by simp[IntKind.wrap,IntKind.signed,IntKind.bits]
 have hn:(n !=0)=true:=by simp;omega
 have h2:0<=x%18446744073709551616:=Int.emod_nonneg _ (by decide);have h3:=Int.emod_nonneg (x%18446744073709551616) (b:=n) (by omega);have h4:=Int.emod_lt_of_pos (x%18446744073709551616) (b:=n) h0;have hv:(Zpo x n).val=some ((x%18446744073709551616)%n):=by simp only[Zpo,RT.val,e,e2,hn,Ya,Int.tmod_eq_emod_of_nonneg h2];rw[wrap_i64 _ (by omega) (by omega)]
 exact⟨by simp only[Zv3,hv];rfl,by simp only[ZH6,hv,getO]⟩
variable {s:List Int×Int} {k:Int}
theorem Zv (h:NB s k) (hk:k<=1000000) (n:Int) (h0:0<n) (h1:n<=4611686018427387904):
  Zl s n=true/\NB (Zd s n).2 (k+1)/\0<=(Zd s n).1/\(Zd s n).1<n:=by
 obtain⟨ha,hb⟩:=h;have e1:IntKind.wrap .i64 (s.2+1)=s.2+1:=wrap_i64 _ (by omega) (by omega);have e2:IntKind.wrap .i64 s.2=s.2:=wrap_i64 _ (by omega) (by omega);by_cases hl:(s.1.length:Int)<=s.2
 ·have hv:(Zo6 s n).val=some (0,s.1,s.2+1):=by simp[Zo6,RT.val,iN,hl,e1]
  simp only[Zl,Zd,hv,okB,getO,NB];exact⟨trivial,⟨by omega,by omega⟩,by omega,h0⟩
 ·have hr:Ze s.2 s.1.length=true:=ZC.2 ⟨ha,by omega⟩;obtain⟨p1,p2⟩:=ZSe (R.get (R.int i64) s.1 s.2) n h0 h1;have h3:=Int.emod_nonneg (R.get (R.int i64) s.1 s.2%18446744073709551616) (b:=n) (by omega);have h4:=Int.emod_lt_of_pos (R.get (R.int i64) s.1 s.2%18446744073709551616) (b:=n) h0;have hv:(Zo6 s n).val=some ((R.get (R.int i64) s.1 s.2%18446744073709551616)%n,s.1,s.2+1):=by simp[Zo6,RT.val,iN,hl,e1,e2,hr,p1,p2]
  simp only[Zl,Zd,hv,okB,getO,NB];exact⟨trivial,⟨by omega,by omega⟩,h3,h4⟩
theorem ZlQ (h:NB s k) (hk:k<=1000000):ZgG s=true/\NB (ZcP s).2 (k+1)/\inR .u8 (ZcP s).1:=by
 obtain⟨c,b,d0,d1⟩:=Zv h hk 512 (by decide) (by decide);have m0:0<=(Zd s 512).1%16:=Int.emod_nonneg _ (by decide);have m1:(Zd s 512).1%16<16:=Int.emod_lt_of_pos _ (by decide);have ht:Int.tmod (Zd s 512).1 16=(Zd s 512).1%16:=Int.tmod_eq_emod_of_nonneg d0;by_cases hn:256<=(Zd s 512).1
 ·have hv:(Zpd s).val=some (R.get (R.int u8) [0,1,127,128,255,15,16,153,154,9,102,254,129,85,170,64] ((Zd s 512).1%16),(Zd s 512).2):=by simp[Zpd,RT.val,c,hn,ht,Ze,m0,m1]
  simp only[ZgG,ZcP,hv,okB,getO];refine⟨trivial,b,?_⟩;have hall:∀i:Nat,i<16->inR .u8 (([0,1,127,128,255,15,16,153,154,9,102,254,129,85,170,64]:List Int).getD i 0):=by
   intro i hi;have:∀i:Fin 16,decide (0<=([0,1,127,128,255,15,16,153,154,9,102,254,129,85,170,64]:List Int).getD i 0)&&decide (([0,1,127,128,255,15,16,153,154,9,102,254,129,85,170,64]:List Int).getD i 0<=255):=by decide
   have:=this ⟨i,hi⟩;rw[ZgL];simpa using this
  exact hall ((Zd s 512).1%16).toNat (by omega)
 ·have hv:(Zpd s).val=some (IntKind.wrap .u8 (Zd s 512).1,(Zd s 512).2):=by simp[Zpd,RT.val,c,hn]
  simp only[ZgG,ZcP,hv,okB,getO];exact⟨trivial,b,Zbe _ _⟩
theorem ZHO (h:NB s k) (hk:k<=900000):ZfV s=true/\NB (ZaS s).2 (k+2)/\inR .u16 (ZaS s).1:=by
 obtain⟨c,b,d0,d1⟩:=Zv h (by omega) 5 (by decide) (by decide);obtain⟨c8,b8,e0,e1⟩:=Zv b (by omega) 8 (by decide) (by decide);obtain⟨c6,b6,_⟩:=Zv b (by omega) 65536 (by decide) (by decide);obtain⟨c4,b4,_⟩:=Zv b (by omega) 64 (by decide) (by decide);have w:∀{t:List Int×Int},NB t (k+1+1)->NB t (k+2):=λh=>⟨h.1,by have:=h.2;omega⟩
 have hr:Ze (Zd (Zd s 5).2 8).1 8=true:=ZC.2 ⟨e0,by omega⟩;by_cases h0:(Zd s 5).1=0
 ·have hv:(Zi4 s).val=some (R.get (R.int u16) [0,1,65535,65534,32767,32768,255,256] (Zd (Zd s 5).2 8).1,(Zd (Zd s 5).2 8).2):=by simp[Zi4,RT.val,c,h0,c8,hr]
  simp only[ZfV,ZaS,hv,okB,getO];refine⟨trivial,w b8,?_⟩;have hall:∀i:Nat,i<8->inR .u16 (([0,1,65535,65534,32767,32768,255,256]:List Int).getD i 0):=by
   intro i hi;have:∀i:Fin 8,decide (0<=([0,1,65535,65534,32767,32768,255,256]:List Int).getD i 0)&&decide (([0,1,65535,65534,32767,32768,255,256]:List Int).getD i 0<=65535):=by decide
   have:=this ⟨i,hi⟩;simp only[Yc,Ym] at this;exact⟨by simpa [IntKind.min,IntKind.signed] using this.1,by simpa [IntKind.max,IntKind.signed,IntKind.bits] using this.2⟩
  exact hall (Zd (Zd s 5).2 8).1.toNat (by omega)
 ·by_cases h1:(Zd s 5).1=1
  ·have hv:(Zi4 s).val=some (IntKind.wrap .u16 (Zd (Zd s 5).2 65536).1,(Zd (Zd s 5).2 65536).2):=by simp[Zi4,RT.val,c,h1,c6]
   simp only[ZfV,ZaS,hv,okB,getO];exact⟨trivial,w b6,Zbe _ _⟩
  ·have hv:(Zi4 s).val=some (IntKind.wrap .u16 (Zd (Zd s 5).2 64).1,(Zd (Zd s 5).2 64).2):=by
    have g0:((Zd s 5).1==0)=false:=by simpa using h0
    have g1:((Zd s 5).1==1)=false:=by simpa using h1
    simp[Zi4,RT.val,c,g0,g1,c4]
   simp only[ZfV,ZaS,hv,okB,getO];exact⟨trivial,w b4,Zbe _ _⟩
theorem ZVK (h:NB s k) (hk:k<=1000000):Zpc s=true/\NB (ZaZ s).2 (k+1)/\((ZaZ s).1=1\/(ZaZ s).1=2):=by
 obtain⟨c,b,d0,d1⟩:=Zv h hk 2 (by decide) (by decide);have hv:(Zy2 s).val=some (1+(Zd s 2).1,(Zd s 2).2):=by simp[Zy2,RT.val,c];rw[wrap_i64 _ (by omega) (by omega)]
 simp only[Zpc,ZaZ,hv,okB,getO];exact⟨trivial,b,by omega⟩
theorem Zkh (h:NB s k) (hk:k<=900000):Zcb s=true/\NB (Zas s).2 (k+2)/\inR .u8 (Zas s).1:=by
 obtain⟨c,b,d0,d1⟩:=Zv h (by omega) 3 (by decide) (by decide);have w:∀{t:List Int×Int},NB t (k+1+1)->NB t (k+2):=λh=>⟨h.1,by have:=h.2;omega⟩
 by_cases hn:0<(Zd s 3).1
 ·have hk':k+1<=1000001:=by omega
  obtain⟨c2,b2,_⟩:=Zv b (by omega) 256 (by decide) (by decide);have hv:(ZfF s).val=some (IntKind.wrap .u8 (Zd (Zd s 3).2 256).1,(Zd (Zd s 3).2 256).2):=by simp[ZfF,RT.val,c,hn,c2]
  simp only[Zcb,Zas,hv,okB,getO];exact⟨trivial,w b2,Zbe _ _⟩
 ·obtain⟨c2,b2,e0,e1⟩:=Zv b (by omega) 18 (by decide) (by decide);have hr:Ze (Zd (Zd s 3).2 18).1 18=true:=ZC.2 ⟨e0,by omega⟩;have hv:(ZfF s).val=some (R.get (R.int u8) [251,243,118,205,201,197,227,211,219,54,52,32,48,194,202,255,62,49] (Zd (Zd s 3).2 18).1,(Zd (Zd s 3).2 18).2):=by simp[ZfF,RT.val,c,hn,c2,hr]
  simp only[Zcb,Zas,hv,okB,getO];refine⟨trivial,w b2,?_⟩;have hall:∀i:Nat,i<18->inR .u8 (([251,243,118,205,201,197,227,211,219,54,52,32,48,194,202,255,62,49]:List Int).getD i 0):=by
   intro i hi;have:∀i:Fin 18,decide (0<=([251,243,118,205,201,197,227,211,219,54,52,32,48,194,202,255,62,49]:List Int).getD i 0)&&decide (([251,243,118,205,201,197,227,211,219,54,52,32,48,194,202,255,62,49]:List Int).getD i 0<=255):=by decide
   have:=this ⟨i,hi⟩;rw[ZgL];simpa using this
  exact hall (Zd (Zd s 3).2 18).1.toNat (by omega)
theorem ZSM (l:List Int):NB (l,0) 0:=⟨by simp,by simp⟩
end
end Go.Proofs.YtghoimllhpjkjaaGreat
