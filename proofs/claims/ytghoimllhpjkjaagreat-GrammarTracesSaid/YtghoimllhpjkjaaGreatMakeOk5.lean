import Derived.Test.YtghoimllhpjkjaaGreatFinRX
import Derived.Test.YtghoimllhpjkjaaGreatFin1
import Derived.Test.YtghoimllhpjkjaaGreatFin2
import Derived.Test.YtghoimllhpjkjaaGreatFin3
import Derived.Test.YtghoimllhpjkjaaGreatFin4
open Go Go.S3 Go.Proofs
set_option linter.unusedVariables false
set_option linter.unusedSimpArgs false
set_option maxRecDepth 100000
namespace Go.Proofs.YtghoimllhpjkjaaGreat
noncomputable section
theorem fr_1 (c) (s:Int) (g:List Int) (l) (hb:∀j:Nat,inR .u8 (g[j]?.getD 0)) (n:Int) (hk:(Zc c.1 (g.getD 0 0)).1=n):(n=1->(ZvC c s g l).val=some (finX c s g l))/\(n=6->(Zvx c s g l).val=some (finX c s g l))/\(n=10->(Zpd c s g l).val=some (finX c s g l))/\(n=17->(Zo6 c s g l).val=some (finX c s g l))/\(n=21->(Zo2 c s g l).val=some (finX c s g l))/\(n=28->(ZoV c s g l).val=some (finX c s g l))/\(n=33->(ZoQ c s g l).val=some (finX c s g l))/\(n=37->(ZoM c s g l).val=some (finX c s g l))/\(n=43->(ZoG c s g l).val=some (finX c s g l)):=by
 refine⟨?_,?_,?_,?_,?_,?_,?_,?_,?_⟩;all_goals intro e;subst e
 all_goals simp only[ZvC,Zvx,Zpd,Zo6,Zo2,ZoV,ZoQ,ZoM,ZoG,RT.val,rgx]
 all_goals simp only[qat0,mat0,qat1,mat1,rg0,hk,Zy,Zad,ZaE,ZY,ZZ,ZL,ZM,ZbB,ZbD,ZfR,ZfQ,Zx,Zcd,finX,spOf]
 all_goals generalize Za s=bi
 all_goals cases bi with
 |true=>simp[wPC,wSP]
 |false=>
  generalize (s==5)=bs;simp only[finI,hk,finR,wPC,wSP,wA,wF,fCY,fVCY,ZeJ,flOf,ZO,pcOf,Zbs];generalize Zc c.1 (g.getD 0 0)=i at hk|-;simp (config:={implicitDefEqProofs:=false}) [ZcP,ZcK,ZdB,hk,ZeL,ZeN,ZeM,Zij,Zik,Zdx,Zdw,Zio,hb]
theorem fr_2 (c) (s:Int) (g:List Int) (l) (hb:∀j:Nat,inR .u8 (g[j]?.getD 0)) (n:Int) (hk:(Zc c.1 (g.getD 0 0)).1=n):(n=3->(ZvA c s g l).val=some (finX c s g l))/\(n=7->(Zvw c s g l).val=some (finX c s g l))/\(n=11->(Zpc c s g l).val=some (finX c s g l))/\(n=18->(Zo5 c s g l).val=some (finX c s g l))/\(n=22->(Zo1 c s g l).val=some (finX c s g l))/\(n=29->(ZoU c s g l).val=some (finX c s g l))/\(n=34->(ZoP c s g l).val=some (finX c s g l))/\(n=40->(ZoJ c s g l).val=some (finX c s g l))/\(n=44->(ZoF c s g l).val=some (finX c s g l)):=by
 refine⟨?_,?_,?_,?_,?_,?_,?_,?_,?_⟩;all_goals intro e;subst e
 all_goals simp only[ZvA,Zvw,Zpc,Zo5,Zo1,ZoU,ZoP,ZoJ,ZoF,RT.val,rgx]
 all_goals simp only[qat0,mat0,qat1,mat1,rg0,hk,Zy,Zad,ZaE,ZY,ZZ,ZL,ZM,ZbB,ZbD,ZfR,ZfQ,Zx,Zcd,finX,spOf]
 all_goals generalize Za s=bi
 all_goals cases bi with
 |true=>simp[wPC,wSP]
 |false=>
  generalize (s==5)=bs;simp only[finI,hk,finR,wPC,wSP,wA,wF,fCY,fVCY,ZeJ,flOf,ZO,pcOf,Zbs];generalize Zc c.1 (g.getD 0 0)=i at hk|-;simp (config:={implicitDefEqProofs:=false}) [ZcP,ZcK,ZdB,hk,ZeL,ZeN,ZeM,Zij,Zik,Zdx,Zdw,Zio,hb]
theorem fr_3 (c) (s:Int) (g:List Int) (l) (hb:∀j:Nat,inR .u8 (g[j]?.getD 0)) (n:Int) (hk:(Zc c.1 (g.getD 0 0)).1=n):(n=4->(Zvz c s g l).val=some (finX c s g l))/\(n=8->(Zvv c s g l).val=some (finX c s g l))/\(n=13->(Zpa c s g l).val=some (finX c s g l))/\(n=19->(Zo4 c s g l).val=some (finX c s g l))/\(n=23->(Zo0 c s g l).val=some (finX c s g l))/\(n=30->(ZoT c s g l).val=some (finX c s g l))/\(n=35->(ZoO c s g l).val=some (finX c s g l))/\(n=41->(ZoI c s g l).val=some (finX c s g l))/\(n=46->(ZoD c s g l).val=some (finX c s g l)):=by
 refine⟨?_,?_,?_,?_,?_,?_,?_,?_,?_⟩;all_goals intro e;subst e
 all_goals simp only[Zvz,Zvv,Zpa,Zo4,Zo0,ZoT,ZoO,ZoI,ZoD,RT.val,rgx]
 all_goals simp only[qat0,mat0,qat1,mat1,rg0,hk,Zy,Zad,ZaE,ZY,ZZ,ZL,ZM,ZbB,ZbD,ZfR,ZfQ,Zx,Zcd,finX,spOf]
 all_goals generalize Za s=bi
 all_goals cases bi with
 |true=>simp[wPC,wSP]
 |false=>
  generalize (s==5)=bs;simp only[finI,hk,finR,wPC,wSP,wA,wF,fCY,fVCY,ZeJ,flOf,ZO,pcOf,Zbs];generalize Zc c.1 (g.getD 0 0)=i at hk|-;simp (config:={implicitDefEqProofs:=false}) [ZcP,ZcK,ZdB,hk,ZeL,ZeN,ZeM,Zij,Zik,Zdx,Zdw,Zio,hb]
theorem fr_4 (c) (s:Int) (g:List Int) (l) (hb:∀j:Nat,inR .u8 (g[j]?.getD 0)) (n:Int) (hk:(Zc c.1 (g.getD 0 0)).1=n):(n=5->(Zvy c s g l).val=some (finX c s g l))/\(n=9->(Zvu c s g l).val=some (finX c s g l))/\(n=16->(Zo7 c s g l).val=some (finX c s g l))/\(n=20->(Zo3 c s g l).val=some (finX c s g l))/\(n=27->(ZoW c s g l).val=some (finX c s g l))/\(n=32->(ZoR c s g l).val=some (finX c s g l))/\(n=36->(ZoN c s g l).val=some (finX c s g l))/\(n=42->(ZoH c s g l).val=some (finX c s g l))/\(n=47->(ZoC c s g l).val=some (finX c s g l)):=by
 refine⟨?_,?_,?_,?_,?_,?_,?_,?_,?_⟩;all_goals intro e;subst e
 all_goals simp only[Zvy,Zvu,Zo7,Zo3,ZoW,ZoR,ZoN,ZoH,ZoC,RT.val,rgx]
 all_goals simp only[qat0,mat0,qat1,mat1,rg0,hk,Zy,Zad,ZaE,ZY,ZZ,ZL,ZM,ZbB,ZbD,ZfR,ZfQ,Zx,Zcd,finX,spOf]
 all_goals generalize Za s=bi
 all_goals cases bi with
 |true=>simp[wPC,wSP]
 |false=>
  generalize (s==5)=bs;simp only[finI,hk,finR,wPC,wSP,wA,wF,fCY,fVCY,ZeJ,flOf,ZO,pcOf,Zbs];generalize Zc c.1 (g.getD 0 0)=i at hk|-;simp (config:={implicitDefEqProofs:=false}) [ZcP,ZcK,ZdB,hk,ZeL,ZeN,ZeM,Zij,Zik,Zdx,Zdw,Zio,hb]
theorem fr_5 (c) (s:Int) (g:List Int) (l) (hb:∀j:Nat,inR .u8 (g[j]?.getD 0)) (n:Int) (hk:(Zc c.1 (g.getD 0 0)).1=n):(n=2->(ZvB c s g l).val=some (finX c s g l))/\(n=12->(Zpb c s g l).val=some (finX c s g l)):=by
 refine⟨?_,?_⟩;all_goals intro e;subst e
 all_goals simp only[ZvB,Zpb,RT.val,rgx]
 all_goals simp only[qat0,mat0,qat1,mat1,rg0,hk,Zy,Zad,ZaE,ZY,ZZ,ZL,ZM,ZbB,ZbD,ZfR,ZfQ,Zx,Zcd,finX,spOf]
 all_goals generalize Za s=bi
 all_goals cases bi with
 |true=>simp[wPC,wSP]
 |false=>
  generalize (s==5)=bs;simp only[finI,hk,finR,wPC,wSP,wA,wF,fCY,fVCY,ZeJ,flOf,ZO,pcOf,Zbs];generalize Zc c.1 (g.getD 0 0)=i at hk|-;generalize (i.2.2.2.1==6)=b0;cases b0<;>simp (config:={implicitDefEqProofs:=false}) [ZcP,ZcK,ZdB,hk,ZeL,ZeN,ZeM,Zij,Zik,Zdx,Zdw,Zio,hb]
theorem fr_6 (c) (s:Int) (g:List Int) (l) (hb:∀j:Nat,inR .u8 (g[j]?.getD 0)) (n:Int) (hk:(Zc c.1 (g.getD 0 0)).1=n):(n=14->(Zo9 c s g l).val=some (finX c s g l))/\(n=15->(Zo8 c s g l).val=some (finX c s g l)):=by
 refine⟨?_,?_⟩;all_goals intro e;subst e
 all_goals simp only[Zo9,Zo8,RT.val,rgx]
 all_goals simp only[qat0,mat0,qat1,mat1,rg0,hk,Zy,Zad,ZaE,ZY,ZZ,ZL,ZM,ZbB,ZbD,ZfR,ZfQ,Zx,Zcd,finX,spOf]
 all_goals generalize Za s=bi
 all_goals cases bi with
 |true=>simp[wPC,wSP]
 |false=>
  generalize (s==5)=bs;simp only[finI,hk,finR,wPC,wSP,wA,wF,fCY,fVCY,ZeJ,flOf,ZO,pcOf,Zbs];generalize Zc c.1 (g.getD 0 0)=i at hk|-;generalize (i.2.2.1==6)=b0;cases b0<;>simp (config:={implicitDefEqProofs:=false}) [ZcP,ZcK,ZdB,hk,ZeL,ZeN,ZeM,Zij,Zik,Zdx,Zdw,Zio,hb]
theorem fr_7 (c) (s:Int) (g:List Int) (l) (hb:∀j:Nat,inR .u8 (g[j]?.getD 0)) (n:Int) (hk:(Zc c.1 (g.getD 0 0)).1=n):(n=24->(ZoZ c s g l).val=some (finX c s g l))/\(n=25->(ZoY c s g l).val=some (finX c s g l))/\(n=26->(ZoX c s g l).val=some (finX c s g l))/\(n=45->(ZoE c s g l).val=some (finX c s g l)):=by
 refine⟨?_,?_,?_,?_⟩;all_goals intro e;subst e
 all_goals simp only[ZoZ,ZoY,ZoX,ZoE,RT.val,rgx]
 all_goals simp only[qat0,mat0,qat1,mat1,rg0,hk,Zy,Zad,ZaE,ZY,ZZ,ZL,ZM,ZbB,ZbD,ZfR,ZfQ,Zx,Zcd,finX,spOf]
 all_goals generalize Za s=bi
 all_goals cases bi with
 |true=>simp[wPC,wSP]
 |false=>
  generalize (s==5)=bs;simp only[finI,hk,finR,wPC,wSP,wA,wF,fCY,fVCY,ZeJ,flOf,ZO,pcOf,Zbs];generalize Zc c.1 (g.getD 0 0)=i at hk|-;generalize ZfP _ _=b0;cases b0<;>simp (config:={implicitDefEqProofs:=false}) [ZcP,ZcK,ZdB,hk,ZeL,ZeN,ZeM,Zij,Zik,Zdx,Zdw,Zio,hb]
theorem fr_8 (c) (s:Int) (g:List Int) (l) (hb:∀j:Nat,inR .u8 (g[j]?.getD 0)) (n:Int) (hk:(Zc c.1 (g.getD 0 0)).1=n):(n=31->(ZoS c s g l).val=some (finX c s g l)):=by
 skip
 all_goals intro e;subst e
 all_goals simp only[ZoS,RT.val,rgx]
 all_goals simp only[qat0,mat0,qat1,mat1,rg0,hk,Zy,Zad,ZaE,ZY,ZZ,ZL,ZM,ZbB,ZbD,ZfR,ZfQ,Zx,Zcd,finX,spOf]
 all_goals generalize Za s=bi
 all_goals cases bi with
 |true=>simp[wPC,wSP]
 |false=>
  generalize (s==5)=bs;simp only[finI,hk,finR,wPC,wSP,wA,wF,fCY,fVCY,ZeJ,flOf,ZO,pcOf,Zbs];generalize Zc c.1 (g.getD 0 0)=i at hk|-;generalize (i.2.2.2.2.1==3)=b0;cases b0<;>simp (config:={implicitDefEqProofs:=false}) [ZcP,ZcK,ZdB,hk,ZeL,ZeN,ZeM,Zij,Zik,Zdx,Zdw,Zio,hb,Zoa,Zn8,RT.val]
theorem fr_9 (c) (s:Int) (g:List Int) (l) (hb:∀j:Nat,inR .u8 (g[j]?.getD 0)) (n:Int) (hk:(Zc c.1 (g.getD 0 0)).1=n):(n=38->(ZoL c s g l).val=some (finX c s g l)):=by
 skip
 all_goals intro e;subst e
 all_goals simp only[ZoL,RT.val,rgx]
 all_goals simp only[qat0,mat0,qat1,mat1,rg0,hk,Zy,Zad,ZaE,ZY,ZZ,ZL,ZM,ZbB,ZbD,ZfR,ZfQ,Zx,Zcd,finX,spOf]
 all_goals generalize Za s=bi
 all_goals cases bi with
 |true=>simp[wPC,wSP]
 |false=>
  generalize (s==5)=bs;simp only[finI,hk,finR,wPC,wSP,wA,wF,fCY,fVCY,ZeJ,flOf,ZO,pcOf,Zbs];generalize Zc c.1 (g.getD 0 0)=i at hk|-;simp[ZcP,ZcK,ZdB,hk,ZI9];rfl
theorem fr_10 (c) (s:Int) (g:List Int) (l) (hb:∀j:Nat,inR .u8 (g[j]?.getD 0)) (n:Int) (hk:(Zc c.1 (g.getD 0 0)).1=n):(n=39->(ZoK c s g l).val=some (finX c s g l)):=by
 skip
 all_goals intro e;subst e
 all_goals simp only[ZoK,RT.val,rgx]
 all_goals simp only[qat0,mat0,qat1,mat1,rg0,hk,Zy,Zad,ZaE,ZY,ZZ,ZL,ZM,ZbB,ZbD,ZfR,ZfQ,Zx,Zcd,finX,spOf]
 all_goals generalize Za s=bi
 all_goals cases bi with
 |true=>simp[wPC,wSP]
 |false=>
  generalize (s==5)=bs;simp only[finI,hk,finR,wPC,wSP,wA,wF,fCY,fVCY,ZeJ,flOf,ZO,pcOf,Zbs];generalize Zc c.1 (g.getD 0 0)=i at hk|-;simp[ZcP,ZcK,ZdB,hk,rSim,ZKP,RT.val]
theorem ZK1 (a:HL ZJ) (h:okHL ZJ a):∃l,Zez Tryz.prog l/\(Ze7 (envX Tryz.prog l [] 79250227772808467515411824639 8) Tryz.f98 ZJ ZEr a).val=some (finX a.1 a.2.1 a.2.2.1 a.2.2.2):=by
 have hk:=ZFI a.1.1 _ (ZFY h.2.2.1);have hb:∀j:Nat,inR .u8 (a.2.2.1[j]?.getD 0):=λj=>by
  cases hj:a.2.2.1[j]? with
  |none=>rw[Zhe];simp
  |some x=>exact h.2.2.1.2 x (List.mem_of_getElem? hj)
 refine⟨ZK2 (Zc a.1.1 (a.2.2.1.getD 0 0)).1,ZHS _,?_⟩;show (EV0 _ a).val=_;have f1:=fr_1 a.1 a.2.1 a.2.2.1 a.2.2.2 hb;have f5:=fr_5 a.1 a.2.1 a.2.2.1 a.2.2.2 hb;have f2:=fr_2 a.1 a.2.1 a.2.2.1 a.2.2.2 hb;have f3:=fr_3 a.1 a.2.1 a.2.2.1 a.2.2.2 hb;have f4:=fr_4 a.1 a.2.1 a.2.2.1 a.2.2.2 hb;have f6:=fr_6 a.1 a.2.1 a.2.2.1 a.2.2.2 hb;have f7:=fr_7 a.1 a.2.1 a.2.2.1 a.2.2.2 hb;have f8:=fr_8 a.1 a.2.1 a.2.2.1 a.2.2.2 hb;have f9:=fr_9 a.1 a.2.1 a.2.2.1 a.2.2.2 hb;have f10:=fr_10 a.1 a.2.1 a.2.2.1 a.2.2.2 hb;rcases ZFH hk.1 hk.2 with e|e|e|e|e|e|e|e|e|e|e|e|e|e|e|e|e|e|e|e|e|e|e|e|e|e|e|e|e|e|e|e|e|e|e|e|e|e|e|e|e|e|e|e|e|e|e
 ·rw[e,ZEq a,((f1 _ e).1 rfl)]
 ·rw[e,ZEp a,((f5 _ e).1 rfl)]
 ·rw[e,ZEo a,((f2 _ e).1 rfl)]
 ·rw[e,ZEn a,((f3 _ e).1 rfl)]
 ·rw[e,ZEm a,((f4 _ e).1 rfl)]
 ·rw[e,ZEl a,((f1 _ e).2.1 rfl)]
 ·rw[e,ZEk a,((f2 _ e).2.1 rfl)]
 ·rw[e,ZEj a,((f3 _ e).2.1 rfl)]
 ·rw[e,ZEi a,((f4 _ e).2.1 rfl)]
 ·rw[e,ZA0 a,((f1 _ e).2.2.1 rfl)]
 ·rw[e,ZAZ a,((f2 _ e).2.2.1 rfl)]
 ·rw[e,ZAY a,((f5 _ e).2 rfl)]
 ·rw[e,ZAX a,((f3 _ e).2.2.1 rfl)]
 ·rw[e,ZAW a,((f6 _ e).1 rfl)]
 ·rw[e,ZAV a,((f6 _ e).2 rfl)]
 ·rw[e,ZAU a,((f4 _ e).2.2.1 rfl)]
 ·rw[e,ZAT a,((f1 _ e).2.2.2.1 rfl)]
 ·rw[e,ZAS a,((f2 _ e).2.2.2.1 rfl)]
 ·rw[e,ZAR a,((f3 _ e).2.2.2.1 rfl)]
 ·rw[e,ZAQ a,((f4 _ e).2.2.2.1 rfl)]
 ·rw[e,ZAP a,((f1 _ e).2.2.2.2.1 rfl)]
 ·rw[e,ZAO a,((f2 _ e).2.2.2.2.1 rfl)]
 ·rw[e,ZAN a,((f3 _ e).2.2.2.2.1 rfl)]
 ·rw[e,ZAM a,((f7 _ e).1 rfl)]
 ·rw[e,ZAL a,((f7 _ e).2.1 rfl)]
 ·rw[e,ZAK a,((f7 _ e).2.2.1 rfl)]
 ·rw[e,ZAJ a,((f4 _ e).2.2.2.2.1 rfl)]
 ·rw[e,ZAI a,((f1 _ e).2.2.2.2.2.1 rfl)]
 ·rw[e,ZAH a,((f2 _ e).2.2.2.2.2.1 rfl)]
 ·rw[e,ZAG a,((f3 _ e).2.2.2.2.2.1 rfl)]
 ·rw[e,ZAF a,((f8 _ e) rfl)]
 ·rw[e,ZAE a,((f4 _ e).2.2.2.2.2.1 rfl)]
 ·rw[e,ZAD a,((f1 _ e).2.2.2.2.2.2.1 rfl)]
 ·rw[e,ZAC a,((f2 _ e).2.2.2.2.2.2.1 rfl)]
 ·rw[e,ZAB a,((f3 _ e).2.2.2.2.2.2.1 rfl)]
 ·rw[e,ZAA a,((f4 _ e).2.2.2.2.2.2.1 rfl)]
 ·rw[e,ZAz a,((f1 _ e).2.2.2.2.2.2.2.1 rfl)]
 ·rw[e,ZAy a,((f9 _ e) rfl)]
 ·rw[e,ZAx a,((f10 _ e) rfl)]
 ·rw[e,ZAw a,((f2 _ e).2.2.2.2.2.2.2.1 rfl)]
 ·rw[e,ZAv a,((f3 _ e).2.2.2.2.2.2.2.1 rfl)]
 ·rw[e,ZAu a,((f4 _ e).2.2.2.2.2.2.2.1 rfl)]
 ·rw[e,ZAt a,((f1 _ e).2.2.2.2.2.2.2.2 rfl)]
 ·rw[e,ZAs a,((f2 _ e).2.2.2.2.2.2.2.2 rfl)]
 ·rw[e,ZAr a,((f7 _ e).2.2.2 rfl)]
 ·rw[e,ZAq a,((f3 _ e).2.2.2.2.2.2.2.2 rfl)]
 ·rw[e,ZAp a,((f4 _ e).2.2.2.2.2.2.2.2 rfl)]
def ZK3:En:=Zi ZJ ZEr (λ_=>none) (λa=>finX a.1 a.2.1 a.2.2.1 a.2.2.2)
theorem ZEh:Zd Tryz.prog 98 ZK3:=Zyx Tryz.func98 rfl (by kernel_rfl) Tryz.call98 λa h _=>ZK1 a h
end
end Go.Proofs.YtghoimllhpjkjaaGreat
open Go.Proofs.Tryz (prog)
open Go.IntKind (u8 u16 i64)
namespace Go.Proofs.YtghoimllhpjkjaaGreat
noncomputable section
abbrev Zxy:List Sh:=[Sh.agg (R.Pq ZW (R.Pq (R.int i64) (R.Pq (R.sl (R.int u8)) (R.Pq (RY) (R.Pq (R.int i64) R.bool)))))]
abbrev Zxz:Rs:=Rs.one (Sh.one (R.int i64))
def Zn5 (c:QT4):RT (Int):=
 .br (decide (c.2.2.2.2.1<1)||decide (c.2.2.2.2.1>9)) (.Lf (1)) (.Lf c.2.2.2.2.1)
def ZU (c:QT4):Int:=(Zn5 c).val
def Zel:En:=Zi Zxy Zxz (λ_=>none) (λa=>ZU a)
theorem Zdd:Zd prog 79 Zel:=
 pureQ 7 [] [] Zxy Zxz trivial Tryz.func79 Tryz.call79 trivial (t:=λa=>Zn5 a)
abbrev Zyn:List Sh:=[Sh.agg ZW,Sh.one (R.int i64)]
abbrev Zyo:Rs:=Rs.one (Sh.agg (RY))
def ZEJ (c:TC) (s:Int):RT TY:=
 .Lf (Zg c s []).1
def ZJO (c:TC) (s:Int):QT10:=(ZEJ c s).val
def Zpi:En:=Zi Zyn Zyo (λ_=>none) (λa=>ZJO a.1 a.2)
theorem ZkK:Zd prog 82 Zpi:=
 pureQ 127 [(42,Zx3)] [] Zyn Zyo ⟨Zon,Tv⟩ Tryz.func82 Tryz.call82 trivial (t:=λa=>ZEJ a.1 a.2)
abbrev ZxB:List Sh:=[Sh.agg (R.Pq ZW (R.Pq (R.int i64) (R.Pq (R.sl (R.int u8)) (R.Pq (RY) (R.Pq (R.int i64) R.bool))))),Sh.one (R.int i64)]
abbrev ZxC:Rs:=Rs.one (Sh.agg (R.Pq ZW (R.Pq (R.int i64) (R.Pq (R.sl (R.int u8)) (R.Pq (RY) (R.Pq (R.int i64) R.bool))))))
def ZDr (c:QT4) (s:Int):RT (QT4):=
 .Lf ((Zw c.1 s,s,[],ZJO (Zw c.1 s) s,c.2.2.2.2))
def ZxD (c:QT4) (s:Int):QT4:=(ZDr c s).val
def Zup:En:=Zi ZxB ZxC (λ_=>none) (λa=>ZxD a.1 a.2)
theorem Zrl:Zd prog 88 Zup:=
 pureQ 31 [(82,Zpi),(97,Zyp)] [] ZxB ZxC ⟨ZkK,ZA4,Tv⟩ Tryz.func88 Tryz.call88 trivial (t:=λa=>ZDr a.1 a.2)
abbrev ZDw:List Sh:=[Sh.agg (R.Pq ZW (R.Pq (R.int i64) (R.Pq (R.sl (R.int u8)) (R.Pq (RY) (R.Pq (R.int i64) R.bool))))),Sh.one (R.int i64),Sh.one (R.int u8)]
abbrev Zus:Rs:=Rs.tup [Sh.agg (RY),Sh.one (R.sl (R.int u8))]
def ZgL (c:QT4) (t:Int) (d:Int):RT (Option (TY×List Int)):=
 let x1:Int:=bif Za2 c.2.2.2.1.1 then d else c.2.2.2.1.2.2.1
 let x2:List Int:=[]++c.2.2.1++[x1]
 .br (t !=3) (.Lf (some ((c.2.2.2.1,c.2.2.1)))) (.br (!Nat.ble (List.length ([]++c.2.2.1)) most||Nat.ble (List.length x2) most) (.br (Nat.ble (List.length ([]++c.2.2.1)) most) (.Lf (some (((c.2.2.2.1.1,c.2.2.2.1.2.1,x1,bif c.2.2.2.1.1==1||c.2.2.2.1.1==8 then ZgR c.1.1 x1 else c.2.2.2.1.2.2.2),x2)))) (.Lf none)) (.Lf none))
def Zgb (c:QT4) (t:Int) (d:Int):TY×List Int:=getO Zus.Df (ZgL c t d).val
def ZdX (c:QT4) (t:Int) (d:Int):Bool:=okB (ZgL c t d).val
def ZDz:En:=Zi ZDw Zus (λa=>some (ZdX a.1 a.2.1 a.2.2)) (λa=>Zgb a.1 a.2.1 a.2.2)
theorem ZxK:Zd prog 89 ZDz:=
 pureP 1023 [(103,ZjU),(116,Zvs)] [] ZDw Zus ⟨ZgK,ZrB,Tv⟩ Tryz.func89 Tryz.call89 trivial (t:=λa=>ZgL a.1 a.2.1 a.2.2)
abbrev ZEs:List Sh:=[Sh.one (R.int i64),Sh.agg (RY)]
abbrev ZEt:Rs:=Rs.one (Sh.one R.bool)
def ZkI (t:Int) (x:QT10):RT (Bool):=
 .br (t==3) (.Lf (decide (x.2.2.2<=3))) (.br (bif t==4 then t==4 else t==5) (.Lf (decide (x.2.2.2<=t))) (.Lf (t==6)))
def ZhI (t:Int) (x:QT10):Bool:=(ZkI t x).val
def ZEu:En:=Zi ZEs ZEt (λ_=>none) (λa=>ZhI a.1 a.2)
theorem Zyi:Zd prog 90 ZEu:=
 pureQ 2143 [] [] ZEs ZEt trivial Tryz.func90 Tryz.call90 trivial (t:=λa=>ZkI a.1 a.2)
abbrev ZmH:List Sh:=[Sh.agg (R.Pq ZW (R.Pq (R.int i64) (R.Pq (R.sl (R.int u8)) (R.Pq (RY) (R.Pq (R.int i64) R.bool)))))]
abbrev ZmI:Rs:=Rs.one (Sh.one R.bool)
def ZgI (c:QT4):RT (Bool):=
 .Lf (c.1.2.2.2.2.1&&c.2.1==0)
def ZgJ (c:QT4):Bool:=(ZgI c).val
def ZjS:En:=Zi ZmH ZmI (λ_=>none) (λa=>ZgJ a)
theorem ZjR:Zd prog 86 ZjS:=
 pureQ 7 [] [] ZmH ZmI trivial Tryz.func86 Tryz.call86 trivial (t:=λa=>ZgI a)
abbrev ZJA:List Sh:=[Sh.agg (R.Pq ZW (R.Pq (R.int i64) (R.Pq (R.sl (R.int u8)) (R.Pq (RY) (R.Pq (R.int i64) R.bool))))),Sh.agg (R.Pq R.bool (R.Pq R.bool rcF7))]
abbrev ZJB:Rs:=Rs.one (Sh.agg (R.Pq ZW (R.Pq (R.int i64) (R.Pq (R.sl (R.int u8)) (R.Pq (RY) (R.Pq (R.int i64) R.bool))))))
def ZK5 (c:QT4) (l:QT0):RT (QT4):=
 let x1:=ZxD (finX c.1 c.2.1 c.2.2.1 l,c.2) (ZcT (finX c.1 c.2.1 c.2.2.1 l) l)
 let x2:=x1.1
 let x3:=x2.2
 let x4:=x3.1
 let x5:=x4.2
 let x6:=x5.2
 let x7:=x6.2
 let x8:=x7.2
 let x9:=x8.2
 let x10:=x9.2
 let x11:=x10.2
 let x12:=x11.1
 let x13:=x12.2
 let x14:=c.1.2.1.2.2.2.2.2.2.2.1.2.2
 let x15:=x13.2
 let x16:=x14.2
 let x17:=x15.2
 let x18:=x16.2
 let x19:=x17.2
 let x20:=x18.2
 let x21:=x19.2
 let x22:=x11.2
 let x23:=x3.2
 let x24:=x23.2
 let x25:=x24.2
 let x26:=x25.2
 let x27:=x26.2
 let x28:=x27.2
 let x29:=x28.2
 let x30:=x29.2
 let x31:=x30.2
 let x32:=x31.2
 let x33:TC:=(bif (Zg c.1 c.2.1 c.2.2.1).2 then c.1.1 else x2.1,(bif (Zg c.1 c.2.1 c.2.2.1).2 then c.1.2.1.1 else x4.1,bif (Zg c.1 c.2.1 c.2.2.1).2 then c.1.2.1.2.1 else x5.1,bif (Zg c.1 c.2.1 c.2.2.1).2 then c.1.2.1.2.2.1 else x6.1,bif (Zg c.1 c.2.1 c.2.2.1).2 then c.1.2.1.2.2.2.1 else x7.1,bif (Zg c.1 c.2.1 c.2.2.1).2 then c.1.2.1.2.2.2.2.1 else x8.1,bif (Zg c.1 c.2.1 c.2.2.1).2 then c.1.2.1.2.2.2.2.2.1 else x9.1,bif (Zg c.1 c.2.1 c.2.2.1).2 then c.1.2.1.2.2.2.2.2.2.1 else x10.1,(bif (Zg c.1 c.2.1 c.2.2.1).2 then c.1.2.1.2.2.2.2.2.2.2.1.1 else x12.1,bif (Zg c.1 c.2.1 c.2.2.1).2 then c.1.2.1.2.2.2.2.2.2.2.1.2.1 else x13.1,bif (Zg c.1 c.2.1 c.2.2.1).2 then x14.1 else x15.1,bif (Zg c.1 c.2.1 c.2.2.1).2 then x16.1 else x17.1,bif (Zg c.1 c.2.1 c.2.2.1).2 then x18.1 else x19.1,bif (Zg c.1 c.2.1 c.2.2.1).2 then x20.1 else x21.1,bif (Zg c.1 c.2.1 c.2.2.1).2 then x20.2 else x21.2),bif (Zg c.1 c.2.1 c.2.2.1).2 then c.1.2.1.2.2.2.2.2.2.2.2.1 else x22.1,bif (Zg c.1 c.2.1 c.2.2.1).2 then c.1.2.1.2.2.2.2.2.2.2.2.2 else x22.2),bif (Zg c.1 c.2.1 c.2.2.1).2 then c.1.2.2.1 else x23.1,bif (Zg c.1 c.2.1 c.2.2.1).2 then c.1.2.2.2.1 else x24.1,bif (Zg c.1 c.2.1 c.2.2.1).2 then c.1.2.2.2.2.1 else x25.1,bif (Zg c.1 c.2.1 c.2.2.1).2 then c.1.2.2.2.2.2.1 else x26.1,bif (Zg c.1 c.2.1 c.2.2.1).2 then c.1.2.2.2.2.2.2.1 else x27.1,bif (Zg c.1 c.2.1 c.2.2.1).2 then c.1.2.2.2.2.2.2.2.1 else x28.1,bif (Zg c.1 c.2.1 c.2.2.1).2 then c.1.2.2.2.2.2.2.2.2.1 else x29.1,bif (Zg c.1 c.2.1 c.2.2.1).2 then c.1.2.2.2.2.2.2.2.2.2.1 else x30.1,bif (Zg c.1 c.2.1 c.2.2.1).2 then c.1.2.2.2.2.2.2.2.2.2.2.1 else x31.1,bif (Zg c.1 c.2.1 c.2.2.1).2 then c.1.2.2.2.2.2.2.2.2.2.2.2.1 else x32.1,bif (Zg c.1 c.2.1 c.2.2.1).2 then c.1.2.2.2.2.2.2.2.2.2.2.2.2 else x32.2)
 let x34:=x1.2
 let x35:Int:=bif (Zg c.1 c.2.1 c.2.2.1).2 then c.2.1 else x34.1
 let x36:=x34.2
 let x37:List Int:=bif (Zg c.1 c.2.1 c.2.2.1).2 then c.2.2.1 else x36.1
 let x38:=x36.2
 let x39:=x38.1
 let x40:=x39.2
 let x41:=x40.2
 let x42:QT10:=(bif (Zg c.1 c.2.1 c.2.2.1).2 then (Zg c.1 c.2.1 c.2.2.1).1.1 else x39.1,bif (Zg c.1 c.2.1 c.2.2.1).2 then (Zg c.1 c.2.1 c.2.2.1).1.2.1 else x40.1,bif (Zg c.1 c.2.1 c.2.2.1).2 then (Zg c.1 c.2.1 c.2.2.1).1.2.2.1 else x41.1,bif (Zg c.1 c.2.1 c.2.2.1).2 then (Zg c.1 c.2.1 c.2.2.1).1.2.2.2 else x41.2)
 let x43:=x38.2
 let x44:=bif (Zg c.1 c.2.1 c.2.2.1).2 then c.2.2.2.2.2 else x43.2
 .Lf ((x33,x35,x37,x42,bif x44 then 8 else bif ZgJ (x33,x35,x37,x42,bif (Zg c.1 c.2.1 c.2.2.1).2 then c.2.2.2.2.1 else x43.1,x44) then 9 else 1,false))
def rEnd (c:QT4) (l:QT0):QT4:=(ZK5 c l).val
def ZMG:En:=Zi ZJA ZJB (λ_=>none) (λa=>rEnd a.1 a.2)
theorem ZK4:Zd prog 91 ZMG:=
 pureQ 1168231104639 [(42,Zx3),(86,ZjS),(87,ZDK),(88,Zup),(98,ZK3)] [] ZJA ZJB ⟨Zon,ZjR,ZxV,Zrl,ZEh,Tv⟩ Tryz.func91 Tryz.call91 trivial (t:=λa=>ZK5 a.1 a.2)
abbrev ZD2:List Sh:=[Sh.one (R.int i64)]
abbrev ZD3:Rs:=Rs.one (Sh.agg (R.Pq ZW (R.Pq (R.int i64) (R.Pq (R.sl (R.int u8)) (R.Pq (RY) (R.Pq (R.int i64) R.bool))))))
def ZKX (chip:Int):RT (QT4):=
 let x1:TR:=(0,0,0,0,0,0,0,(false,false,false,false,false,false,false),0,0)
 let x2:=ZT (chip,x1,false,false,false,0,false,false,false,false,false,false,false)
 .Lf (((x2.1,x1,false,false,false,x2.2.2.2.2.2.1,false,false,false,false,false,false,false),0,[],(1,0,0,4),1,false))
def rNew (chip:Int):QT4:=(ZKX chip).val
def ZMA:En:=Zi ZD2 ZD3 (λ_=>none) (λa=>rNew a)
theorem ZD1:Zd prog 80 ZMA:=
 pureQ 15 [(81,Zuq),(82,Zpi)] [] ZD2 ZD3 ⟨Zro,ZkK,Tv⟩ Tryz.func80 Tryz.call80 trivial (t:=λa=>ZKX a)
abbrev Zpf:List Sh:=[Sh.agg (R.Pq ZW (R.Pq (R.int i64) (R.Pq (R.sl (R.int u8)) (R.Pq (RY) (R.Pq (R.int i64) R.bool))))),Sh.agg (R.Pq R.bool (R.Pq R.bool rcF7)),Sh.one (R.int u8)]
abbrev ZiY:Rs:=Rs.tup [Sh.agg (R.Pq ZW (R.Pq (R.int i64) (R.Pq (R.sl (R.int u8)) (R.Pq (RY) (R.Pq (R.int i64) R.bool))))),Sh.agg (R.Pq (R.int i64) (R.Pq (R.int u16) (R.Pq (R.int u8) (R.Pq R.bool (R.Pq R.bool (R.Pq R.bool (R.Pq R.bool (R.Pq R.bool (R.Pq R.bool (R.Pq R.bool rcF7))))))))))]
def ZhJ (c:QT4) (l:QT0) (d:Int):RT (Option ((QT4)×Int×Int×Int×Bool×Bool×Bool×Bool×Bool×Bool×Bool×Bool×Bool×Bool×Bool×Bool×Bool×Bool)):=
 let x1:QT10:=(bif ZU c==9 then 0 else c.2.2.2.1.1,bif ZU c==9 then c.1.2.1.2.2.2.2.2.2.2.2.2 else c.2.2.2.1.2.1,bif ZU c==9 then 0 else c.2.2.2.1.2.2.1,bif ZU c==9 then 0 else c.2.2.2.1.2.2.2)
 let x2:=c.1.2.2.2.2.2.2.2.2.2.2.2.2
 let x3:QT17:=(Zaw c.1.1 10 x1 0 c.1.2.2.1 x2).2.2.2.2.2.2
 let x4:=x3.2.2.2.2.2.2.2
 let x5:=Zaw c.1.1 (ZU c) x1 d c.1.2.2.1 x2
 let x6:QT4:=(Zf c.1 l,c.2.1,[]++c.2.2.1,c.2.2.2)
 let x7:=ZxD x6 (ZcT (Zf c.1 l) l)
 let x8:=x7.2
 let x9:=x8.2.2
 let x10:Int:=bif l.2.1 then 8 else bif ZcT (Zf c.1 l) l !=0 then 1 else 9
 let x11:=Zgb x6 (ZU c) d
 let x12:=x11.1
 let x13:=ZhI (ZU c) x12
 let x14:=x11.2
 let x15:=rEnd (Zf c.1 l,c.2.1,x14,x12,c.2.2.2.2) l
 let x16:=x15.1
 let x17:=x16.2
 let x18:=x17.1
 let x19:=x18.2
 let x20:=x19.2
 let x21:=x20.2
 let x22:=x21.2
 let x23:=x22.2
 let x24:=x23.2
 let x25:=x24.2
 let x26:=x25.1
 let x27:TF:=(Zf c.1 l).2.1.2.2.2.2.2.2.2.1
 let x28:=x26.2
 let x29:=x27.2
 let x30:=x28.2
 let x31:=x29.2
 let x32:=x30.2
 let x33:=x31.2
 let x34:=x32.2
 let x35:=x33.2
 let x36:=x34.2
 let x37:=x35.2
 let x38:=x25.2
 let x39:Int×Int:=(Zf c.1 l).2.1.2.2.2.2.2.2.2.2
 let x40:=x17.2
 let x41:=x40.2
 let x42:=x41.2
 let x43:=x42.2
 let x44:=x43.2
 let x45:=x44.2
 let x46:=x45.2
 let x47:=x46.2
 let x48:=x47.2
 let x49:QT26:=(Zf c.1 l).2.2.2.2.2.2.2.2.2.2
 let x50:=x48.2
 let x51:=x49.2
 let x52:=x15.2
 let x53:=x52.2
 let x54:=x53.2
 let x55:=x54.1
 let x56:=x55.2
 let x57:=x12.2
 let x58:=x56.2
 let x59:=x57.2
 let x60:=x54.2
 .br l.2.2.1 (.Lf (some (((((ZT c.1).1,((ZT c.1).2.1.1,(ZT c.1).2.1.2.1,(ZT c.1).2.1.2.2.1,(ZT c.1).2.1.2.2.2.1,(ZT c.1).2.1.2.2.2.2.1,(ZT c.1).2.1.2.2.2.2.2.1,(ZT c.1).2.1.2.2.2.2.2.2.1,(ZT c.1).2.1.2.2.2.2.2.2.2.1,(ZT c.1).2.1.2.2.2.2.2.2.2.2.1,0),false,false,false,(ZT c.1).2.2.2.2.2.1,false,false,false,false,false,false,false),0,[],(1,0,0,4),1,false),10,0,0,false,false,false,x3.1,false,false,false,false,false,false,x4.1,false,false,x4.2.2.2)))) (.br (Nat.ble (List.length ([]++c.2.2.1)) most) (.br (ZU c==1) (.Lf (some (((Zf c.1 l,c.2.1,[]++c.2.2.1,c.2.2.2.1,2,c.2.2.2.2.2),x5)))) (.br (bif ZU c==2 then ZU c==2 else ZU c==7) (.Lf (some (((Zf c.1 l,c.2.1,[]++c.2.2.1,c.2.2.2.1,bif l.1|| !Zm c.2.2.2.1.1 then 3 else 7,bif l.1|| !Zm c.2.2.2.1.1 then l.2.1 else c.2.2.2.2.2),x5)))) (.br (ZU c==8) (.Lf (some (((Zf c.1 l,c.2.1,bif l.2.1 then []++c.2.2.1 else []++c.2.2.1,c.2.2.2.1,bif l.2.1 then 8 else bif ZgJ x6 then 9 else 1,c.2.2.2.2.2),x5)))) (.br (ZU c==9) (.br (ZcT (Zf c.1 l) l !=0) (.Lf (some (((x7.1,x8.1,[],x9.1,x10,x9.2.2),x5)))) (.Lf (some (((Zf c.1 l,c.2.1,[]++c.2.2.1,c.2.2.2.1,x10,c.2.2.2.2.2),x5))))) (.br (ZdX x6 (ZU c) d) (.Lf (some ((((bif x13 then x16.1 else (Zf c.1 l).1,(bif x13 then x18.1 else (Zf c.1 l).2.1.1,bif x13 then x19.1 else (Zf c.1 l).2.1.2.1,bif x13 then x20.1 else (Zf c.1 l).2.1.2.2.1,bif x13 then x21.1 else (Zf c.1 l).2.1.2.2.2.1,bif x13 then x22.1 else (Zf c.1 l).2.1.2.2.2.2.1,bif x13 then x23.1 else (Zf c.1 l).2.1.2.2.2.2.2.1,bif x13 then x24.1 else (Zf c.1 l).2.1.2.2.2.2.2.2.1,(bif x13 then x26.1 else x27.1,bif x13 then x28.1 else x29.1,bif x13 then x30.1 else x31.1,bif x13 then x32.1 else x33.1,bif x13 then x34.1 else x35.1,bif x13 then x36.1 else x37.1,bif x13 then x36.2 else x37.2),bif x13 then x38.1 else x39.1,bif x13 then x38.2 else x39.2),bif x13 then x40.1 else (Zf c.1 l).2.2.1,bif x13 then x41.1 else (Zf c.1 l).2.2.2.1,bif x13 then x42.1 else (Zf c.1 l).2.2.2.2.1,bif x13 then x43.1 else (Zf c.1 l).2.2.2.2.2.1,bif x13 then x44.1 else (Zf c.1 l).2.2.2.2.2.2.1,bif x13 then x45.1 else (Zf c.1 l).2.2.2.2.2.2.2.1,bif x13 then x46.1 else (Zf c.1 l).2.2.2.2.2.2.2.2.1,bif x13 then x47.1 else (Zf c.1 l).2.2.2.2.2.2.2.2.2.1,bif x13 then x48.1 else x49.1,bif x13 then x50.1 else x51.1,bif x13 then x50.2 else x51.2),bif x13 then x52.1 else c.2.1,bif x13 then x53.1 else x14,(bif x13 then x55.1 else x12.1,bif x13 then x56.1 else x57.1,bif x13 then x58.1 else x59.1,bif x13 then x58.2 else x59.2),bif x13 then x60.1 else i64.wrap (ZU c+1),bif x13 then x60.2 else c.2.2.2.2.2),x5)))) (.Lf none)))))) (.Lf none))
def ZJM (c:QT4) (l:QT0) (d:Int):(QT4)×Int×Int×Int×Bool×Bool×Bool×Bool×Bool×Bool×Bool×Bool×Bool×Bool×Bool×Bool×Bool×Bool:=getO ZiY.Df (ZhJ c l d).val
def ZEC (c:QT4) (l:QT0) (d:Int):Bool:=okB (ZhJ c l d).val
def ZLd:En:=Zi Zpf ZiY (λa=>some (ZEC a.1 a.2.1 a.2.2)) (λa=>ZJM a.1 a.2.1 a.2.2)
theorem ZEB:Zd Tryz.prog 27 ZLd:=
 pureP 740465775588642560936085758595903342518271 [(79,Zel),(80,ZMA),(81,Zuq),(82,Zpi),(83,ZJi),(84,ZkD),(85,ZrE),(86,ZjS),(87,ZDK),(88,Zup),(89,ZDz),(90,ZEu),(91,ZMG)] [] Zpf ZiY ⟨Zdd,ZD1,Zro,ZkK,ZHE,ZkC,ZvF,ZjR,ZxV,Zrl,ZxK,Zyi,ZK4,Tv⟩ Tryz.func27 Tryz.call27 trivial (t:=λa=>ZhJ a.1 a.2.1 a.2.2)
abbrev LnT:=QT0
abbrev ZfL:=CpuT×Int×List Int×Cyc×Int×Bool
def Z8 (n:Int):Int:=bif decide (n<1)||decide (n>9) then 1 else n
def Znl (c:CpuT) (s:Int):ZfL:=(c,s,[],(Zg c s []).1,1,false)
def idlX (c:CpuT) (s:Int) (h:Bool):Int:=bif h then 8 else bif c.2.2.2.2.1&&s==0 then 9 else 1
def endX (c:CpuT) (s:Int) (g:List Int) (h:Bool) (l:LnT):ZfL:=
 bif (Zg c s g).2 then (c,s,g,(Zg c s g).1,idlX c s h,false) else
 let q:=finX c s g l
 let k:=ZcT q l
 let d:=Zw q k
 (d,k,[],(Zg d k []).1,idlX d k h,false)
def ZaW (c:CpuT) (x:Cyc) (d:Int):Cyc:=
 let v:=bif Za2 x.1 then d else x.2.2.1
 (x.1,x.2.1,v,bif x.1==1||x.1==8 then ZgR c.1 v else x.2.2.2)
def le3 (x:Int):Bool:=decide (x<=3)
def Zs (c:ZfL) (l:LnT) (d:Int):ZfL:=
 let t:=Z8 c.2.2.2.2.1
 let p:=Zf c.1 l
 let s:=c.2.1
 let g:=c.2.2.1
 let x:=c.2.2.2.1
 let h:=c.2.2.2.2.2
 bif l.2.2.1 then Znl (ZT c.1) 0 else
 bif t==1 then (p,s,g,x,2,h) else
 bif t==2||t==7 then (bif l.1|| !Zm x.1 then (p,s,g,x,3,l.2.1) else (p,s,g,x,7,h)) else
 bif t==8 then (p,s,g,x,idlX p s l.2.1,h) else
 bif t==9 then
  (let k:=ZcT p l
   bif k==0 then (p,s,g,x,bif l.2.1 then 8 else 9,h) else
   (Zw p k,k,[],(Zg (Zw p k) k []).1,bif l.2.1 then 8 else 1,h)) else
 bif t==3 then
  (let y:=ZaW p x d
   bif le3 y.2.2.2 then endX p s (g++[y.2.2.1]) h l else (p,s,g++[y.2.2.1],y,4,h)) else
 bif decide (t<x.2.2.2)&& !(t==6) then (p,s,g,x,t+1,h) else endX p s g h l
abbrev PinT:=QT8
def Zl7 (c:ZfL) (t:Int):Cyc:=bif t==9 then (0,c.1.2.1.2.2.2.2.2.2.2.2.2,0,0) else c.2.2.2.1
def ZeW (c:ZfL) (l:LnT) (d:Int):PinT:=
 let t:=Z8 c.2.2.2.2.1
 Zaw c.1.1 (bif l.2.2.1 then 10 else t) (Zl7 c t) (bif l.2.2.1 then 0 else d) c.1.2.2.1 c.1.2.2.2.2.2.2.2.2.2.2.2.2
theorem ZC1 (n:Int):1<=Z8 n/\Z8 n<=9:=by
 unfold Z8;by_cases h:n<1\/n>9
 ·have:(decide (n<1)||decide (n>9))=true:=by simpa using h
  rw[this];simp
 ·have:(decide (n<1)||decide (n>9))=false:=by simpa using h
  rw[this];simp only[Yb];omega
theorem ZqS (c):ZU c=Z8 c.2.2.2.2.1:=rfl
theorem ZqT (c:ZfL) (s):ZxD c s=(Zw c.1 s,s,[],(Zg (Zw c.1 s) s []).1,c.2.2.2.2):=rfl
theorem ZKJ (c:ZfL) (l:LnT):rEnd c l=endX c.1 c.2.1 c.2.2.1 c.2.2.2.2.2 l:=by cases h:(Zg c.1 c.2.1 c.2.2.1).2<;>simp only[rEnd,ZK5,RT.val,h,Ya,Yb,ZqT,endX,ZgJ,ZgI,idlX]
theorem ZLj (chip:Int) (x:Cyc) (i o:Bool):Zaw chip 10 x 0 i o=(10,0,0,false,false,false,(Zaw chip 10 x 0 i o).2.2.2.2.2.2.1,false,false,false,false,false,false,(Zaw chip 10 x 0 i o).2.2.2.2.2.2.2.2.2.2.2.2.2.1,false,false,(Zaw chip 10 x 0 i o).2.2.2.2.2.2.2.2.2.2.2.2.2.2.2.2):=by simp only[Zaw,ZgN,RT.val,Zcd];generalize (chip==2)=b;cases b<;>simp
theorem ZqX (c:CpuT):ZT c=((ZT c).1,((ZT c).2.1.1,(ZT c).2.1.2.1,(ZT c).2.1.2.2.1,(ZT c).2.1.2.2.2.1,(ZT c).2.1.2.2.2.2.1,(ZT c).2.1.2.2.2.2.2.1,(ZT c).2.1.2.2.2.2.2.2.1,(ZT c).2.1.2.2.2.2.2.2.2.1,(ZT c).2.1.2.2.2.2.2.2.2.2.1,0),false,false,false,(ZT c).2.2.2.2.2.1,false,false,false,false,false,false,false):=by simp only[ZT,ZjT,RT.val,Zcd]
theorem ZKb (c:CpuT):Znl (ZT c) 0=(ZT c,0,[],(1,0,0,4),1,false):=by
 simp only[Znl];have:(Zg (ZT c) 0 []).1=(1,0,0,4):=by
  have hp:pcOf (ZT c)=0:=by rw[ZqX];rfl
  simp[Zg,ZdK,Za,ZhH,RT.val,hp];rfl
 rw[this]
theorem len1 {α:Type} (l:List α) (x:α) (h:l.length+1<=most):Nat.ble l.length most=true/\Nat.ble (l++[x]).length most=true:=by rw[YT,YT];simp only[Yf,List.length_cons,List.length_nil];omega
theorem ZHk (c:ZfL) (d:Int) (hg:c.2.2.1.length+1<=most):(ZgL c 3 d).val=some (ZaW c.1 c.2.2.2.1 d,c.2.2.1++[(ZaW c.1 c.2.2.2.1 d).2.2.1]):=by have h:=len1 c.2.2.1 (bif Za2 c.2.2.2.1.1 then d else c.2.2.2.1.2.2.1) hg;simp only[ZgL,RT.val,List.nil_append,h.1,h.2,Yg,Yn,Ya,ZaW,bne_self_eq_false,Yb]
theorem ZjA (c:ZfL) (t d:Int) (ht:t≠3):(ZgL c t d).val=some (c.2.2.2.1,c.2.2.1):=by
 have:(t !=3)=true:=by simpa using ht
 simp only[ZgL,RT.val,this,Ya]
theorem ZM5 (t x:Int):decide (t<x)= !decide (x<=t):=by by_cases h:x<=t<;>simp[h]<;>omega
theorem Zq2 (c:ZfL) (l:LnT) (d:Int) (hg:c.2.2.1.length+1<=most):(ZhJ c l d).val=some (Zs c l d,ZeW c l d):=by
 obtain⟨t1,t2⟩:=ZC1 c.2.2.2.2.1;have hx:Zl7 c (Z8 c.2.2.2.2.1)=(bif Z8 c.2.2.2.2.1==9 then 0 else c.2.2.2.1.1,bif Z8 c.2.2.2.2.1==9 then c.1.2.1.2.2.2.2.2.2.2.2.2 else c.2.2.2.1.2.1,bif Z8 c.2.2.2.2.1==9 then 0 else c.2.2.2.1.2.2.1,bif Z8 c.2.2.2.2.1==9 then 0 else c.2.2.2.1.2.2.2):=by unfold Zl7;cases Z8 c.2.2.2.2.1==9<;>simp only[Ya,Yb,Yg,Yq,YS,YU,YN,YM,Ye,Yz,YC,Yn]
 have hl:Nat.ble c.2.2.1.length most=true:=(len1 c.2.2.1 0 hg).1;cases hr:l.2.2.1 with
 |true=>
  simp only[ZhJ,RT.val,hr,Ya,Zs,ZeW,ZKb,ZqS,<-hx];rw[<-ZLj,<-ZqX]
 |false=>
  simp only[ZhJ,RT.val,hr,Yb,List.nil_append,hl,Ya,ZqS,ZqT,ZKJ,<-hx,ZeW];have:Z8 c.2.2.2.2.1=1\/Z8 c.2.2.2.2.1=2\/Z8 c.2.2.2.2.1=7\/Z8 c.2.2.2.2.1=3\/Z8 c.2.2.2.2.1=4\/Z8 c.2.2.2.2.1=5\/Z8 c.2.2.2.2.1=6\/Z8 c.2.2.2.2.1=8\/Z8 c.2.2.2.2.1=9:=by omega
  have q3:=ZHk (Zf c.1 l,c.2.1,c.2.2.1,c.2.2.2) d hg;rcases this with h|h|h|h|h|h|h|h|h
  ·simp only[Zs,hr,h,Int.reduceBEq,Ya,Yb]
  ·simp only[Zs,hr,h,Int.reduceBEq,Ya,Yb,YC];cases l.1|| !Zm c.2.2.2.1.1<;>simp only[Ya,Yb,Yg,Yq,YS,YU,YN,YM,Ye,Yz,YC,Yn]
  ·simp only[Zs,hr,h,Int.reduceBEq,Ya,Yb,Ye];cases l.1|| !Zm c.2.2.2.1.1<;>simp only[Ya,Yb,Yg,Yq,YS,YU,YN,YM,Ye,Yz,YC,Yn]
  ·have e1:ZdX (Zf c.1 l,c.2.1,c.2.2.1,c.2.2.2) 3 d=true:=by simp only[ZdX,q3,okB]
   have e2:Zgb (Zf c.1 l,c.2.1,c.2.2.1,c.2.2.2) 3 d=(ZaW (Zf c.1 l) c.2.2.2.1 d,c.2.2.1++[(ZaW (Zf c.1 l) c.2.2.2.1 d).2.2.1]):=by simp only[Zgb,q3,getO]
   simp only[Zs,hr,h,Int.reduceBEq,Ya,Yb,Yaa,e1,e2,ZhI,ZkI,RT.val];rw[show decide ((ZaW (Zf c.1 l) c.2.2.2.1 d).2.2.2<=3)=le3 (ZaW (Zf c.1 l) c.2.2.2.1 d).2.2.2 from rfl];cases le3 (ZaW (Zf c.1 l) c.2.2.2.1 d).2.2.2<;>rfl
  ·have q:=ZjA (Zf c.1 l,c.2.1,c.2.2.1,c.2.2.2) 4 d (by decide);have e1:ZdX (Zf c.1 l,c.2.1,c.2.2.1,c.2.2.2) 4 d=true:=by simp only[ZdX,q,okB]
   have e2:Zgb (Zf c.1 l,c.2.1,c.2.2.1,c.2.2.2) 4 d=(c.2.2.2.1,c.2.2.1):=by simp only[Zgb,q,getO]
   simp only[Zs,hr,h,Int.reduceBEq,Ya,Yb,Yaa,Yq,YS,e1,e2,ZhI,ZkI,RT.val,show IntKind.wrap .i64 (4+1)=4+1 from rfl,ZM5];cases decide (c.2.2.2.1.2.2.2<=4)<;>rfl
  ·have q:=ZjA (Zf c.1 l,c.2.1,c.2.2.1,c.2.2.2) 5 d (by decide);have e1:ZdX (Zf c.1 l,c.2.1,c.2.2.1,c.2.2.2) 5 d=true:=by simp only[ZdX,q,okB]
   have e2:Zgb (Zf c.1 l,c.2.1,c.2.2.1,c.2.2.2) 5 d=(c.2.2.2.1,c.2.2.1):=by simp only[Zgb,q,getO]
   simp only[Zs,hr,h,Int.reduceBEq,Ya,Yb,Yaa,Yq,YS,e1,e2,ZhI,ZkI,RT.val,show IntKind.wrap .i64 (5+1)=5+1 from rfl,ZM5];cases decide (c.2.2.2.1.2.2.2<=5)<;>rfl
  ·have q:=ZjA (Zf c.1 l,c.2.1,c.2.2.1,c.2.2.2) 6 d (by decide);have e1:ZdX (Zf c.1 l,c.2.1,c.2.2.1,c.2.2.2) 6 d=true:=by simp only[ZdX,q,okB]
   have e2:Zgb (Zf c.1 l,c.2.1,c.2.2.1,c.2.2.2) 6 d=(c.2.2.2.1,c.2.2.1):=by simp only[Zgb,q,getO]
   simp only[Zs,hr,h,Int.reduceBEq,Ya,Yb,Yaa,Yg,YU,e1,e2,ZhI,ZkI,RT.val]
  ·simp only[Zs,hr,h,Int.reduceBEq,Ya,Yb,Yaa,ZgJ,ZgI,RT.val,idlX];cases l.2.1<;>rfl
  ·have hb:(ZcT (Zf c.1 l) l !=0)= !(ZcT (Zf c.1 l) l==0):=rfl;simp only[Zs,hr,h,Int.reduceBEq,Ya,Yb,Yaa,hb];cases hk:(ZcT (Zf c.1 l) l==0)<;>rfl
def ZDi (c:ZfL):Bool:=Nat.ble (c.2.2.1.length+1) most
theorem ZjD {c:ZfL}:ZDi c=true↔c.2.2.1.length+1<=most:=by simp[ZDi]
def clkX (c:ZfL) (l:LnT) (d:Int):ZfL×PinT:=(Zs c l d,ZeW c l d)
def Zyl:En:=Zi Zpf ZiY (λa=>some (ZDi a.1)) (λa=>clkX a.1 a.2.1 a.2.2)
theorem ZA2:Zd Tryz.prog 27 Zyl:=ZEB.pure_congr
 (λa h hp=>by have h1:=Zq2 a.1 a.2.1 a.2.2 (ZjD.1 (by simpa using hp));simp[ZEC,h1,okB])
 (λa h hp=>by have h1:=Zq2 a.1 a.2.1 a.2.2 (ZjD.1 (by simpa using hp));simp only[ZJM,h1,getO,clkX])
def newX (chip:Int):ZfL:=Znl (ZT (chip,(0,0,0,0,0,0,0,(false,false,false,false,false,false,false),0,0),false,false,false,0,false,false,false,false,false,false,false)) 0
theorem ZKG (chip:Int):rNew chip=newX chip:=by unfold newX;rw[ZKb];simp only[rNew,ZKX,RT.val,ZT,ZjT,Zcd]
def ZJr:En:=Zi ZD2 ZD3 (λ_=>none) (λa=>newX a)
theorem ZHN:Zd Tryz.prog 80 ZJr:=ZD1.tot (λa h=>by simp) (λa h=>ZKG _)
abbrev Zy0:List Sh:=[Sh.one (R.int i64),Sh.one (R.int i64)]
abbrev ZpP:Rs:=Rs.one (Sh.one (R.int i64))
def Zln (x:Int) (n:Int):RT (Option (Int)):=
 .br (IntKind.u64.wrap n !=0) (.Lf (some (i64.wrap (Int.tmod (IntKind.u64.wrap x) (IntKind.u64.wrap n))))) (.Lf none)
def Zy1 (x:Int) (n:Int):Int:=getO ZpP.Df (Zln x n).val
def ZpQ (x:Int) (n:Int):Bool:=okB (Zln x n).val
def ZFz:En:=Zi Zy0 ZpP (λa=>some (ZpQ a.1 a.2)) (λa=>Zy1 a.1 a.2)
theorem ZFx:Zd prog 24 ZFz:=
 pureP 31 [] [] Zy0 ZpP trivial Tryz.func24 Tryz.call24 trivial (t:=λa=>Zln a.1 a.2)
abbrev Zv4:R:=R.Pq (R.sl (R.int i64)) (R.int i64)
abbrev ZFe:List Sh:=[Sh.one (R.int i64)]
abbrev Zv3:Rs:=Rs.one (Sh.one (R.int i64))
def Zk8 (s:List Int×Int) (n:Int):RT (Option (QT15)):=
 let x1:=Ze (i64.wrap (i64.wrap (s.2+1)-1)) (List.length s.1)
 let x2:Int:=R.get (R.int i64) s.1 (i64.wrap (i64.wrap (s.2+1)-1))
 .br (decide (s.2>=iN (List.length s.1))) (.Lf (some ((0,s.1,i64.wrap (s.2+1))))) (.br (!x1||ZpQ x2 n) (.br (x1) (.Lf (some ((Zy1 x2 n,s.1,i64.wrap (s.2+1))))) (.Lf none)) (.Lf none))
def Zb (s:List Int×Int) (n:Int):QT15:=getO (Zv3.Df,Zv4.Df) (Zk8 s n).val
def Zj (s:List Int×Int) (n:Int):Bool:=okB (Zk8 s n).val
def ZbZ:En:=boxE Zv4 ZFe Zv3 (λa=>some (Zj a.1 a.2)) (λa=>Zb a.1 a.2)
theorem ZaI:Zd prog 46 ZbZ:=
 ZbI (P:=prog) (n:=31) (k:=8) (l:=[(24,ZFz)]) (ol:=[]) ⟨ZFx,Tv⟩ Tryz.func46 rfl (by kernel_rfl) Tryz.call46 trivial (rb:=Zv4) (ts:=ZFe) (rs:=Zv3) (t:=λa=>Zk8 a.1 a.2) (λa=>by kernel_rfl)
abbrev Zwa:R:=R.Pq (R.sl (R.int i64)) (R.int i64)
abbrev ZFo:List Sh:=[]
abbrev Zv9:Rs:=Rs.one (Sh.one (R.int u8))
def Zlf (s:List Int×Int):RT (Option (QT15)):=
 let x1:List Int:=[0,1,127,128,255,15,16,153,154,9,102,254,129,85,170,64]
 .br (Zj s 512) (.br (!decide ((Zb s 512).1>=256)||Ze (Int.tmod (Zb s 512).1 16) (List.length x1)) (.br (decide ((Zb s 512).1>=256)) (.Lf (some ((R.get (R.int u8) x1 (Int.tmod (Zb s 512).1 16),(Zb s 512).2)))) (.Lf (some ((u8.wrap (Zb s 512).1,(Zb s 512).2))))) (.Lf none)) (.Lf none)
def Zb8 (s:List Int×Int):QT15:=getO (Zv9.Df,Zwa.Df) (Zlf s).val
def Ze1 (s:List Int×Int):Bool:=okB (Zlf s).val
def ZsC:En:=boxE Zwa ZFo Zv9 (λa=>some (Ze1 a.1)) (λa=>Zb8 a.1)
theorem Zi5:Zd prog 108 ZsC:=
 ZbI (P:=prog) (n:=15) (k:=8) (l:=[(46,ZbZ)]) (ol:=[]) ⟨ZaI,Tv⟩ Tryz.func108 rfl (by kernel_rfl) Tryz.call108 trivial (rb:=Zwa) (ts:=ZFo) (rs:=Zv9) (t:=λa=>Zlf a.1) (λa=>by kernel_rfl)
abbrev ZvX:R:=R.Pq (R.sl (R.int i64)) (R.int i64)
abbrev ZFc:List Sh:=[]
abbrev ZvW:Rs:=Rs.one (Sh.one (R.int u16))
def Zg3 (s:List Int×Int):RT (Option (QT15)):=
 let x1:List Int:=[0,1,65535,65534,32767,32768,255,256]
 let x2:= !(Zb s 5).1==0||(!Zj (Zb s 5).2 8||Ze (Zb (Zb s 5).2 8).1 (List.length x1))
 let x3:= !x2
 let x4:= !(Zb s 5).1==0||Zj (Zb s 5).2 8
 .br (Zj s 5) (.br (x3||(!x4||((Zb s 5).1==0||(!(Zb s 5).1==1||Zj (Zb s 5).2 65536)))) (.br (x3||x4) (.br (x2) (.br ((Zb s 5).1==0) (.Lf (some ((R.get (R.int u16) x1 (Zb (Zb s 5).2 8).1,(Zb (Zb s 5).2 8).2)))) (.br ((Zb s 5).1==1) (.Lf (some ((u16.wrap (Zb (Zb s 5).2 65536).1,(Zb (Zb s 5).2 65536).2)))) (.br (Zj (Zb s 5).2 64) (.Lf (some ((u16.wrap (Zb (Zb s 5).2 64).1,(Zb (Zb s 5).2 64).2)))) (.Lf none)))) (.Lf none)) (.Lf none)) (.Lf none)) (.Lf none)
def Zba (s:List Int×Int):QT15:=getO (ZvW.Df,ZvX.Df) (Zg3 s).val
def ZeB (s:List Int×Int):Bool:=okB (Zg3 s).val
def ZFd:En:=boxE ZvX ZFc ZvW (λa=>some (ZeB a.1)) (λa=>Zba a.1)
theorem ZyN:Zd prog 137 ZFd:=
 ZbI (P:=prog) (n:=4135) (k:=8) (l:=[(46,ZbZ)]) (ol:=[]) ⟨ZaI,Tv⟩ Tryz.func137 rfl (by kernel_rfl) Tryz.call137 trivial (rb:=ZvX) (ts:=ZFc) (rs:=ZvW) (t:=λa=>Zg3 a.1) (λa=>by kernel_rfl)
abbrev Zv8:R:=R.Pq (R.sl (R.int i64)) (R.int i64)
abbrev ZFm:List Sh:=[]
abbrev Zv7:Rs:=Rs.one (Sh.one (R.int i64))
def ZsB (s:List Int×Int):RT (Option (QT15)):=
 .br (Zj s 2) (.Lf (some ((i64.wrap (1+(Zb s 2).1),(Zb s 2).2)))) (.Lf none)
def ZaA (s:List Int×Int):QT15:=getO (Zv7.Df,Zv8.Df) (ZsB s).val
def Zle (s:List Int×Int):Bool:=okB (ZsB s).val
def ZFn:En:=boxE Zv8 ZFm Zv7 (λa=>some (Zle a.1)) (λa=>ZaA a.1)
theorem ZyS:Zd prog 72 ZFn:=
 ZbI (P:=prog) (n:=7) (k:=8) (l:=[(46,ZbZ)]) (ol:=[]) ⟨ZaI,Tv⟩ Tryz.func72 rfl (by kernel_rfl) Tryz.call72 trivial (rb:=Zv8) (ts:=ZFm) (rs:=Zv7) (t:=λa=>ZsB a.1) (λa=>by kernel_rfl)
abbrev Zk7:R:=R.Pq (R.sl (R.int i64)) (R.int i64)
abbrev Zsy:List Sh:=[]
abbrev Zk6:Rs:=Rs.one (Sh.one (R.int u8))
def Zep (s:List Int×Int):RT (Option (QT15)):=
 let x1:List Int:=[251,243,118,205,201,197,227,211,219,54,52,32,48,194,202,255,62,49]
 .br (Zj s 3) (.br (!decide ((Zb s 3).1>0)||Zj (Zb s 3).2 256) (.br (decide ((Zb s 3).1>0)) (.Lf (some ((u8.wrap (Zb (Zb s 3).2 256).1,(Zb (Zb s 3).2 256).2)))) (.br (!Zj (Zb s 3).2 18||Ze (Zb (Zb s 3).2 18).1 (List.length x1)) (.br (Zj (Zb s 3).2 18) (.Lf (some ((R.get (R.int u8) x1 (Zb (Zb s 3).2 18).1,(Zb (Zb s 3).2 18).2)))) (.Lf none)) (.Lf none))) (.Lf none)) (.Lf none)
def Zaa (s:List Int×Int):QT15:=getO (Zk6.Df,Zk7.Df) (Zep s).val
def Zbq (s:List Int×Int):Bool:=okB (Zep s).val
def Zfz:En:=boxE Zk7 Zsy Zk6 (λa=>some (Zbq a.1)) (λa=>Zaa a.1)
theorem Zd2:Zd prog 109 Zfz:=
 ZbI (P:=prog) (n:=7) (k:=8) (l:=[(46,ZbZ)]) (ol:=[]) ⟨ZaI,Tv⟩ Tryz.func109 rfl (by kernel_rfl) Tryz.call109 trivial (rb:=Zk7) (ts:=Zsy) (rs:=Zk6) (t:=λa=>Zep a.1) (λa=>by kernel_rfl)
def NB (s:List Int×Int) (k:Int):Prop:=0<=s.2/\s.2<=k
theorem ZFy (x n:Int) (h0:0<n) (h1:n<=4611686018427387904):ZpQ x n=true/\Zy1 x n=(x%18446744073709551616)%n:=by
 have e:IntKind.wrap .u64 n=n:=ZtC ⟨by simp[IntKind.min,IntKind.signed];omega,by simp[IntKind.max,IntKind.signed,IntKind.bits];omega⟩;have e2:IntKind.wrap .u64 x=x%18446744073709551616:=by simp[IntKind.wrap,IntKind.signed,IntKind.bits]
 have hn:(n !=0)=true:=by simp;omega
 have h2:0<=x%18446744073709551616:=Int.emod_nonneg _ (by decide);have h3:=Int.emod_nonneg (x%18446744073709551616) (b:=n) (by omega);have h4:=Int.emod_lt_of_pos (x%18446744073709551616) (b:=n) h0;have hv:(Zln x n).val=some ((x%18446744073709551616)%n):=by simp only[Zln,RT.val,e,e2,hn,Ya,Int.tmod_eq_emod_of_nonneg h2];rw[Zq _ (by omega) (by omega)]
 exact⟨by simp only[ZpQ,hv];rfl,by simp only[Zy1,hv,getO]⟩
variable {s:List Int×Int} {k:Int}
theorem Zv (h:NB s k) (hk:k<=1000000) (n:Int) (h0:0<n) (h1:n<=4611686018427387904):
  Zj s n=true/\NB (Zb s n).2 (k+1)/\0<=(Zb s n).1/\(Zb s n).1<n:=by
 obtain⟨ha,hb⟩:=h;have e1:IntKind.wrap .i64 (s.2+1)=s.2+1:=Zq _ (by omega) (by omega);have e2:IntKind.wrap .i64 s.2=s.2:=Zq _ (by omega) (by omega);by_cases hl:(s.1.length:Int)<=s.2
 ·have hv:(Zk8 s n).val=some (0,s.1,s.2+1):=by simp[Zk8,RT.val,iN,hl,e1]
  simp only[Zj,Zb,hv,okB,getO,NB];exact⟨trivial,⟨by omega,by omega⟩,by omega,h0⟩
 ·have hr:Ze s.2 s.1.length=true:=ZB.2 ⟨ha,by omega⟩;obtain⟨p1,p2⟩:=ZFy (R.get (R.int i64) s.1 s.2) n h0 h1;have h3:=Int.emod_nonneg (R.get (R.int i64) s.1 s.2%18446744073709551616) (b:=n) (by omega);have h4:=Int.emod_lt_of_pos (R.get (R.int i64) s.1 s.2%18446744073709551616) (b:=n) h0;have hv:(Zk8 s n).val=some ((R.get (R.int i64) s.1 s.2%18446744073709551616)%n,s.1,s.2+1):=by simp[Zk8,RT.val,iN,hl,e1,e2,hr,p1,p2]
  simp only[Zj,Zb,hv,okB,getO,NB];exact⟨trivial,⟨by omega,by omega⟩,h3,h4⟩
theorem Zi6 (h:NB s k) (hk:k<=1000000):Ze1 s=true/\NB (Zb8 s).2 (k+1)/\inR .u8 (Zb8 s).1:=by
 obtain⟨c,b,d0,d1⟩:=Zv h hk 512 (by decide) (by decide);have m0:0<=(Zb s 512).1%16:=Int.emod_nonneg _ (by decide);have m1:(Zb s 512).1%16<16:=Int.emod_lt_of_pos _ (by decide);have ht:Int.tmod (Zb s 512).1 16=(Zb s 512).1%16:=Int.tmod_eq_emod_of_nonneg d0;by_cases hn:256<=(Zb s 512).1
 ·have hv:(Zlf s).val=some (R.get (R.int u8) [0,1,127,128,255,15,16,153,154,9,102,254,129,85,170,64] ((Zb s 512).1%16),(Zb s 512).2):=by simp[Zlf,RT.val,c,hn,ht,Ze,m0,m1]
  simp only[Ze1,Zb8,hv,okB,getO];refine⟨trivial,b,?_⟩;have hall:∀i:Nat,i<16->inR .u8 (([0,1,127,128,255,15,16,153,154,9,102,254,129,85,170,64]:List Int).getD i 0):=by
   intro i hi;have:∀i:Fin 16,decide (0<=([0,1,127,128,255,15,16,153,154,9,102,254,129,85,170,64]:List Int).getD i 0)&&decide (([0,1,127,128,255,15,16,153,154,9,102,254,129,85,170,64]:List Int).getD i 0<=255):=by decide
   have:=this ⟨i,hi⟩;rw[Zhe];simpa using this
  exact hall ((Zb s 512).1%16).toNat (by omega)
 ·have hv:(Zlf s).val=some (IntKind.wrap .u8 (Zb s 512).1,(Zb s 512).2):=by simp[Zlf,RT.val,c,hn]
  simp only[Ze1,Zb8,hv,okB,getO];exact⟨trivial,b,Zb2 _ _⟩
theorem ZIe (h:NB s k) (hk:k<=900000):ZeB s=true/\NB (Zba s).2 (k+2)/\inR .u16 (Zba s).1:=by
 obtain⟨c,b,d0,d1⟩:=Zv h (by omega) 5 (by decide) (by decide);obtain⟨c8,b8,e0,e1⟩:=Zv b (by omega) 8 (by decide) (by decide);obtain⟨c6,b6,_⟩:=Zv b (by omega) 65536 (by decide) (by decide);obtain⟨c4,b4,_⟩:=Zv b (by omega) 64 (by decide) (by decide);have w:∀{t:List Int×Int},NB t (k+1+1)->NB t (k+2):=λh=>⟨h.1,by have:=h.2;omega⟩
 have hr:Ze (Zb (Zb s 5).2 8).1 8=true:=ZB.2 ⟨e0,by omega⟩;by_cases h0:(Zb s 5).1=0
 ·have hv:(Zg3 s).val=some (R.get (R.int u16) [0,1,65535,65534,32767,32768,255,256] (Zb (Zb s 5).2 8).1,(Zb (Zb s 5).2 8).2):=by simp[Zg3,RT.val,c,h0,c8,hr]
  simp only[ZeB,Zba,hv,okB,getO];refine⟨trivial,w b8,?_⟩;have hall:∀i:Nat,i<8->inR .u16 (([0,1,65535,65534,32767,32768,255,256]:List Int).getD i 0):=by
   intro i hi;have:∀i:Fin 8,decide (0<=([0,1,65535,65534,32767,32768,255,256]:List Int).getD i 0)&&decide (([0,1,65535,65534,32767,32768,255,256]:List Int).getD i 0<=65535):=by decide
   have:=this ⟨i,hi⟩;simp only[Yc,YK] at this;exact⟨by simpa [IntKind.min,IntKind.signed] using this.1,by simpa [IntKind.max,IntKind.signed,IntKind.bits] using this.2⟩
  exact hall (Zb (Zb s 5).2 8).1.toNat (by omega)
 ·by_cases h1:(Zb s 5).1=1
  ·have hv:(Zg3 s).val=some (IntKind.wrap .u16 (Zb (Zb s 5).2 65536).1,(Zb (Zb s 5).2 65536).2):=by simp[Zg3,RT.val,c,h1,c6]
   simp only[ZeB,Zba,hv,okB,getO];exact⟨trivial,w b6,Zb2 _ _⟩
  ·have hv:(Zg3 s).val=some (IntKind.wrap .u16 (Zb (Zb s 5).2 64).1,(Zb (Zb s 5).2 64).2):=by
    have g0:((Zb s 5).1==0)=false:=by simpa using h0
    have g1:((Zb s 5).1==1)=false:=by simpa using h1
    simp[Zg3,RT.val,c,g0,g1,c4]
   simp only[ZeB,Zba,hv,okB,getO];exact⟨trivial,w b4,Zb2 _ _⟩
theorem ZIg (h:NB s k) (hk:k<=1000000):Zle s=true/\NB (ZaA s).2 (k+1)/\((ZaA s).1=1\/(ZaA s).1=2):=by
 obtain⟨c,b,d0,d1⟩:=Zv h hk 2 (by decide) (by decide);have hv:(ZsB s).val=some (1+(Zb s 2).1,(Zb s 2).2):=by simp[ZsB,RT.val,c];rw[Zq _ (by omega) (by omega)]
 simp only[Zle,ZaA,hv,okB,getO];exact⟨trivial,b,by omega⟩
theorem ZhT (h:NB s k) (hk:k<=900000):Zbq s=true/\NB (Zaa s).2 (k+2)/\inR .u8 (Zaa s).1:=by
 obtain⟨c,b,d0,d1⟩:=Zv h (by omega) 3 (by decide) (by decide);have w:∀{t:List Int×Int},NB t (k+1+1)->NB t (k+2):=λh=>⟨h.1,by have:=h.2;omega⟩
 by_cases hn:0<(Zb s 3).1
 ·have hk':k+1<=1000001:=by omega
  obtain⟨c2,b2,_⟩:=Zv b (by omega) 256 (by decide) (by decide);have hv:(Zep s).val=some (IntKind.wrap .u8 (Zb (Zb s 3).2 256).1,(Zb (Zb s 3).2 256).2):=by simp[Zep,RT.val,c,hn,c2]
  simp only[Zbq,Zaa,hv,okB,getO];exact⟨trivial,w b2,Zb2 _ _⟩
 ·obtain⟨c2,b2,e0,e1⟩:=Zv b (by omega) 18 (by decide) (by decide);have hr:Ze (Zb (Zb s 3).2 18).1 18=true:=ZB.2 ⟨e0,by omega⟩;have hv:(Zep s).val=some (R.get (R.int u8) [251,243,118,205,201,197,227,211,219,54,52,32,48,194,202,255,62,49] (Zb (Zb s 3).2 18).1,(Zb (Zb s 3).2 18).2):=by simp[Zep,RT.val,c,hn,c2,hr]
  simp only[Zbq,Zaa,hv,okB,getO];refine⟨trivial,w b2,?_⟩;have hall:∀i:Nat,i<18->inR .u8 (([251,243,118,205,201,197,227,211,219,54,52,32,48,194,202,255,62,49]:List Int).getD i 0):=by
   intro i hi;have:∀i:Fin 18,decide (0<=([251,243,118,205,201,197,227,211,219,54,52,32,48,194,202,255,62,49]:List Int).getD i 0)&&decide (([251,243,118,205,201,197,227,211,219,54,52,32,48,194,202,255,62,49]:List Int).getD i 0<=255):=by decide
   have:=this ⟨i,hi⟩;rw[Zhe];simpa using this
  exact hall (Zb (Zb s 3).2 18).1.toNat (by omega)
theorem ZGd (l:List Int):NB (l,0) 0:=⟨by simp,by simp⟩
end
end Go.Proofs.YtghoimllhpjkjaaGreat
