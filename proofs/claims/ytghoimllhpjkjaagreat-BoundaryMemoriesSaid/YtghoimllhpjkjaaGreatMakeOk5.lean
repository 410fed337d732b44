import Derived.Test.YtghoimllhpjkjaaGreatFinRX
import Derived.Test.YtghoimllhpjkjaaGreatFin1
import Derived.Test.YtghoimllhpjkjaaGreatFin2
import Derived.Test.YtghoimllhpjkjaaGreatFin3
import Derived.Test.YtghoimllhpjkjaaGreatFin4
import Derived.Test.YtghoimllhpjkjaaGreatKind47
import Derived.Test.YtghoimllhpjkjaaGreatPinsEq
import Derived.Test.YtghoimllhpjkjaaGreatS3D
import Derived.Test.YtghoimllhpjkjaaGreatProg
open Go Go.S3 Go.Proofs
set_option linter.unusedVariables false
set_option linter.unusedSimpArgs false
set_option maxRecDepth 100000
namespace Go.Proofs.YtghoimllhpjkjaaGreat
noncomputable section
theorem fr_1 (c) (s:Int) (g:List Int) (l) (hb:∀j:Nat,inR .u8 (g[j]?.getD 0)) (n:Int) (hk:(Zb c.1 (g.getD 0 0)).1=n):(n=1->(ZBt c s g l).val=some (finX c s g l))/\(n=6->(ZBo c s g l).val=some (finX c s g l))/\(n=10->(ZtG c s g l).val=some (finX c s g l))/\(n=17->(Ztz c s g l).val=some (finX c s g l))/\(n=21->(Ztv c s g l).val=some (finX c s g l))/\(n=28->(Zto c s g l).val=some (finX c s g l))/\(n=33->(Ztj c s g l).val=some (finX c s g l))/\(n=37->(Ztf c s g l).val=some (finX c s g l))/\(n=43->(Zs9 c s g l).val=some (finX c s g l)):=by
 refine⟨?_,?_,?_,?_,?_,?_,?_,?_,?_⟩
 all_goals intro e;subst e
 all_goals simp only[ZBt,ZBo,ZtG,Ztz,Ztv,Zto,Ztj,Ztf,Zs9,RT.val,rgx]
 all_goals simp only[qat0,mat0,qat1,mat1,rg0,hk,Zw,Z0,Zah,ZI,ZJ,Zz,ZA,ZaS,ZaW,ZcA,Zcz,Zv,ZaU,finX,spOf]
 all_goals generalize Zc s=bi
 all_goals cases bi with
 |true=>simp[wPC,wSP]
 |false=>
  generalize (s==5)=bs
  simp only[finI,hk,finR,wPC,wSP,wA,wF,fCY,fVCY,Zc2,flOf,ZL,pcOf,Zbg]
  generalize Zb c.1 (g.getD 0 0)=i at hk|-
  simp (config:={implicitDefEqProofs:=false}) [Zb5,Zbv,ZbM,hk,Zf7,Zf9,Zf8,Zkr,Zks,ZeA,Zez,Zkw,hb]
theorem fr_2 (c) (s:Int) (g:List Int) (l) (hb:∀j:Nat,inR .u8 (g[j]?.getD 0)) (n:Int) (hk:(Zb c.1 (g.getD 0 0)).1=n):(n=3->(ZBr c s g l).val=some (finX c s g l))/\(n=7->(ZBn c s g l).val=some (finX c s g l))/\(n=11->(ZtF c s g l).val=some (finX c s g l))/\(n=18->(Zty c s g l).val=some (finX c s g l))/\(n=22->(Ztu c s g l).val=some (finX c s g l))/\(n=29->(Ztn c s g l).val=some (finX c s g l))/\(n=34->(Zti c s g l).val=some (finX c s g l))/\(n=40->(Ztc c s g l).val=some (finX c s g l))/\(n=44->(Zs8 c s g l).val=some (finX c s g l)):=by
 refine⟨?_,?_,?_,?_,?_,?_,?_,?_,?_⟩
 all_goals intro e;subst e
 all_goals simp only[ZBr,ZBn,ZtF,Zty,Ztu,Ztn,Zti,Ztc,Zs8,RT.val,rgx]
 all_goals simp only[qat0,mat0,qat1,mat1,rg0,hk,Zw,Z0,Zah,ZI,ZJ,Zz,ZA,ZaS,ZaW,ZcA,Zcz,Zv,ZaU,finX,spOf]
 all_goals generalize Zc s=bi
 all_goals cases bi with
 |true=>simp[wPC,wSP]
 |false=>
  generalize (s==5)=bs
  simp only[finI,hk,finR,wPC,wSP,wA,wF,fCY,fVCY,Zc2,flOf,ZL,pcOf,Zbg]
  generalize Zb c.1 (g.getD 0 0)=i at hk|-
  simp (config:={implicitDefEqProofs:=false}) [Zb5,Zbv,ZbM,hk,Zf7,Zf9,Zf8,Zkr,Zks,ZeA,Zez,Zkw,hb]
theorem fr_3 (c) (s:Int) (g:List Int) (l) (hb:∀j:Nat,inR .u8 (g[j]?.getD 0)) (n:Int) (hk:(Zb c.1 (g.getD 0 0)).1=n):(n=4->(ZBq c s g l).val=some (finX c s g l))/\(n=8->(ZBm c s g l).val=some (finX c s g l))/\(n=13->(ZtD c s g l).val=some (finX c s g l))/\(n=19->(Ztx c s g l).val=some (finX c s g l))/\(n=23->(Ztt c s g l).val=some (finX c s g l))/\(n=30->(Ztm c s g l).val=some (finX c s g l))/\(n=35->(Zth c s g l).val=some (finX c s g l))/\(n=41->(Ztb c s g l).val=some (finX c s g l))/\(n=46->(Zs6 c s g l).val=some (finX c s g l)):=by
 refine⟨?_,?_,?_,?_,?_,?_,?_,?_,?_⟩
 all_goals intro e;subst e
 all_goals simp only[ZBq,ZBm,ZtD,Ztx,Ztt,Ztm,Zth,Ztb,Zs6,RT.val,rgx]
 all_goals simp only[qat0,mat0,qat1,mat1,rg0,hk,Zw,Z0,Zah,ZI,ZJ,Zz,ZA,ZaS,ZaW,ZcA,Zcz,Zv,ZaU,finX,spOf]
 all_goals generalize Zc s=bi
 all_goals cases bi with
 |true=>simp[wPC,wSP]
 |false=>
  generalize (s==5)=bs
  simp only[finI,hk,finR,wPC,wSP,wA,wF,fCY,fVCY,Zc2,flOf,ZL,pcOf,Zbg]
  generalize Zb c.1 (g.getD 0 0)=i at hk|-
  simp (config:={implicitDefEqProofs:=false}) [Zb5,Zbv,ZbM,hk,Zf7,Zf9,Zf8,Zkr,Zks,ZeA,Zez,Zkw,hb]
theorem fr_4 (c) (s:Int) (g:List Int) (l) (hb:∀j:Nat,inR .u8 (g[j]?.getD 0)) (n:Int) (hk:(Zb c.1 (g.getD 0 0)).1=n):(n=5->(ZBp c s g l).val=some (finX c s g l))/\(n=9->(ZBl c s g l).val=some (finX c s g l))/\(n=16->(ZtA c s g l).val=some (finX c s g l))/\(n=20->(Ztw c s g l).val=some (finX c s g l))/\(n=27->(Ztp c s g l).val=some (finX c s g l))/\(n=32->(Ztk c s g l).val=some (finX c s g l))/\(n=36->(Ztg c s g l).val=some (finX c s g l))/\(n=42->(Zta c s g l).val=some (finX c s g l))/\(n=47->(Zs5 c s g l).val=some (finX c s g l)):=by
 refine⟨?_,?_,?_,?_,?_,?_,?_,?_,?_⟩
 all_goals intro e;subst e
 all_goals simp only[ZBp,ZBl,ZtA,Ztw,Ztp,Ztk,Ztg,Zta,Zs5,RT.val,rgx]
 all_goals simp only[qat0,mat0,qat1,mat1,rg0,hk,Zw,Z0,Zah,ZI,ZJ,Zz,ZA,ZaS,ZaW,ZcA,Zcz,Zv,ZaU,finX,spOf]
 all_goals generalize Zc s=bi
 all_goals cases bi with
 |true=>simp[wPC,wSP]
 |false=>
  generalize (s==5)=bs
  simp only[finI,hk,finR,wPC,wSP,wA,wF,fCY,fVCY,Zc2,flOf,ZL,pcOf,Zbg]
  generalize Zb c.1 (g.getD 0 0)=i at hk|-
  simp (config:={implicitDefEqProofs:=false}) [Zb5,Zbv,ZbM,hk,Zf7,Zf9,Zf8,Zkr,Zks,ZeA,Zez,Zkw,hb]
theorem fr_5 (c) (s:Int) (g:List Int) (l) (hb:∀j:Nat,inR .u8 (g[j]?.getD 0)) (n:Int) (hk:(Zb c.1 (g.getD 0 0)).1=n):(n=2->(ZBs c s g l).val=some (finX c s g l))/\(n=12->(ZtE c s g l).val=some (finX c s g l)):=by
 refine⟨?_,?_⟩
 all_goals intro e;subst e
 all_goals simp only[ZBs,ZtE,RT.val,rgx]
 all_goals simp only[qat0,mat0,qat1,mat1,rg0,hk,Zw,Z0,Zah,ZI,ZJ,Zz,ZA,ZaS,ZaW,ZcA,Zcz,Zv,ZaU,finX,spOf]
 all_goals generalize Zc s=bi
 all_goals cases bi with
 |true=>simp[wPC,wSP]
 |false=>
  generalize (s==5)=bs
  simp only[finI,hk,finR,wPC,wSP,wA,wF,fCY,fVCY,Zc2,flOf,ZL,pcOf,Zbg]
  generalize Zb c.1 (g.getD 0 0)=i at hk|-
  generalize (i.2.2.2.1==6)=b0
  cases b0<;>simp (config:={implicitDefEqProofs:=false}) [Zb5,Zbv,ZbM,hk,Zf7,Zf9,Zf8,Zkr,Zks,ZeA,Zez,Zkw,hb]
theorem fr_6 (c) (s:Int) (g:List Int) (l) (hb:∀j:Nat,inR .u8 (g[j]?.getD 0)) (n:Int) (hk:(Zb c.1 (g.getD 0 0)).1=n):(n=14->(ZtC c s g l).val=some (finX c s g l))/\(n=15->(ZtB c s g l).val=some (finX c s g l)):=by
 refine⟨?_,?_⟩
 all_goals intro e;subst e
 all_goals simp only[ZtC,ZtB,RT.val,rgx]
 all_goals simp only[qat0,mat0,qat1,mat1,rg0,hk,Zw,Z0,Zah,ZI,ZJ,Zz,ZA,ZaS,ZaW,ZcA,Zcz,Zv,ZaU,finX,spOf]
 all_goals generalize Zc s=bi
 all_goals cases bi with
 |true=>simp[wPC,wSP]
 |false=>
  generalize (s==5)=bs
  simp only[finI,hk,finR,wPC,wSP,wA,wF,fCY,fVCY,Zc2,flOf,ZL,pcOf,Zbg]
  generalize Zb c.1 (g.getD 0 0)=i at hk|-
  generalize (i.2.2.1==6)=b0
  cases b0<;>simp (config:={implicitDefEqProofs:=false}) [Zb5,Zbv,ZbM,hk,Zf7,Zf9,Zf8,Zkr,Zks,ZeA,Zez,Zkw,hb]
theorem fr_7 (c) (s:Int) (g:List Int) (l) (hb:∀j:Nat,inR .u8 (g[j]?.getD 0)) (n:Int) (hk:(Zb c.1 (g.getD 0 0)).1=n):(n=24->(Zts c s g l).val=some (finX c s g l))/\(n=25->(Ztr c s g l).val=some (finX c s g l))/\(n=26->(Ztq c s g l).val=some (finX c s g l))/\(n=45->(Zs7 c s g l).val=some (finX c s g l)):=by
 refine⟨?_,?_,?_,?_⟩
 all_goals intro e;subst e
 all_goals simp only[Zts,Ztr,Ztq,Zs7,RT.val,rgx]
 all_goals simp only[qat0,mat0,qat1,mat1,rg0,hk,Zw,Z0,Zah,ZI,ZJ,Zz,ZA,ZaS,ZaW,ZcA,Zcz,Zv,ZaU,finX,spOf]
 all_goals generalize Zc s=bi
 all_goals cases bi with
 |true=>simp[wPC,wSP]
 |false=>
  generalize (s==5)=bs
  simp only[finI,hk,finR,wPC,wSP,wA,wF,fCY,fVCY,Zc2,flOf,ZL,pcOf,Zbg]
  generalize Zb c.1 (g.getD 0 0)=i at hk|-
  generalize ZeC _ _=b0
  cases b0<;>simp (config:={implicitDefEqProofs:=false}) [Zb5,Zbv,ZbM,hk,Zf7,Zf9,Zf8,Zkr,Zks,ZeA,Zez,Zkw,hb]
theorem fr_8 (c) (s:Int) (g:List Int) (l) (hb:∀j:Nat,inR .u8 (g[j]?.getD 0)) (n:Int) (hk:(Zb c.1 (g.getD 0 0)).1=n):(n=31->(Ztl c s g l).val=some (finX c s g l)):=by
 skip
 all_goals intro e;subst e
 all_goals simp only[Ztl,RT.val,rgx]
 all_goals simp only[qat0,mat0,qat1,mat1,rg0,hk,Zw,Z0,Zah,ZI,ZJ,Zz,ZA,ZaS,ZaW,ZcA,Zcz,Zv,ZaU,finX,spOf]
 all_goals generalize Zc s=bi
 all_goals cases bi with
 |true=>simp[wPC,wSP]
 |false=>
  generalize (s==5)=bs
  simp only[finI,hk,finR,wPC,wSP,wA,wF,fCY,fVCY,Zc2,flOf,ZL,pcOf,Zbg]
  generalize Zb c.1 (g.getD 0 0)=i at hk|-
  generalize (i.2.2.2.2.1==3)=b0
  cases b0<;>simp (config:={implicitDefEqProofs:=false}) [Zb5,Zbv,ZbM,hk,Zf7,Zf9,Zf8,Zkr,Zks,ZeA,Zez,Zkw,hb,Zge,Zlc,RT.val]
theorem fr_9 (c) (s:Int) (g:List Int) (l) (hb:∀j:Nat,inR .u8 (g[j]?.getD 0)) (n:Int) (hk:(Zb c.1 (g.getD 0 0)).1=n):(n=38->(Zte c s g l).val=some (finX c s g l)):=by
 skip
 all_goals intro e;subst e
 all_goals simp only[Zte,RT.val,rgx]
 all_goals simp only[qat0,mat0,qat1,mat1,rg0,hk,Zw,Z0,Zah,ZI,ZJ,Zz,ZA,ZaS,ZaW,ZcA,Zcz,Zv,ZaU,finX,spOf]
 all_goals generalize Zc s=bi
 all_goals cases bi with
 |true=>simp[wPC,wSP]
 |false=>
  generalize (s==5)=bs
  simp only[finI,hk,finR,wPC,wSP,wA,wF,fCY,fVCY,Zc2,flOf,ZL,pcOf,Zbg]
  generalize Zb c.1 (g.getD 0 0)=i at hk|-
  simp[Zb5,Zbv,ZbM,hk,ZVi]
  rfl
theorem fr_10 (c) (s:Int) (g:List Int) (l) (hb:∀j:Nat,inR .u8 (g[j]?.getD 0)) (n:Int) (hk:(Zb c.1 (g.getD 0 0)).1=n):(n=39->(Ztd c s g l).val=some (finX c s g l)):=by
 skip
 all_goals intro e;subst e
 all_goals simp only[Ztd,RT.val,rgx]
 all_goals simp only[qat0,mat0,qat1,mat1,rg0,hk,Zw,Z0,Zah,ZI,ZJ,Zz,ZA,ZaS,ZaW,ZcA,Zcz,Zv,ZaU,finX,spOf]
 all_goals generalize Zc s=bi
 all_goals cases bi with
 |true=>simp[wPC,wSP]
 |false=>
  generalize (s==5)=bs
  simp only[finI,hk,finR,wPC,wSP,wA,wF,fCY,fVCY,Zc2,flOf,ZL,pcOf,Zbg]
  generalize Zb c.1 (g.getD 0 0)=i at hk|-
  simp[Zb5,Zbv,ZbM,hk,rSim,ZNa,RT.val]
theorem ZXO (a:HL Zn) (h:okHL Zn a):∃l,Zdk Tryz.prog l/\(Zh (envX Tryz.prog l [] 79250227772808467515411824639 8) Tryz.f98 Zn Z7 a).val=some (finX a.1 a.2.1 a.2.2.1 a.2.2.2):=by
 have hk:=Zvw a.1.1 _ (Zvz h.2.2.1)
 have hb:∀j:Nat,inR .u8 (a.2.2.1[j]?.getD 0):=λj=>by
  cases hj:a.2.2.1[j]? with
  |none=>rw[ZgB];simp
  |some x=>exact h.2.2.1.2 x (List.mem_of_getElem? hj)
 refine⟨ZaK (Zb a.1.1 (a.2.2.1.getD 0 0)).1,ZTe _,?_⟩
 rcases Zvv hk.1 hk.2 with e|e|e|e|e|e|e|e|e|e|e|e|e|e|e|e|e|e|e|e|e|e|e|e|e|e|e|e|e|e|e|e|e|e|e|e|e|e|e|e|e|e|e|e|e|e|e
 ·rw[e,ZOc a,((fr_1 a.1 a.2.1 a.2.2.1 a.2.2.2 hb _ e).1 rfl)]
 ·rw[e,ZOb a,((fr_5 a.1 a.2.1 a.2.2.1 a.2.2.2 hb _ e).1 rfl)]
 ·rw[e,ZOa a,((fr_2 a.1 a.2.1 a.2.2.1 a.2.2.2 hb _ e).1 rfl)]
 ·rw[e,ZN9 a,((fr_3 a.1 a.2.1 a.2.2.1 a.2.2.2 hb _ e).1 rfl)]
 ·rw[e,ZN8 a,((fr_4 a.1 a.2.1 a.2.2.1 a.2.2.2 hb _ e).1 rfl)]
 ·rw[e,ZN7 a,((fr_1 a.1 a.2.1 a.2.2.1 a.2.2.2 hb _ e).2.1 rfl)]
 ·rw[e,ZN6 a,((fr_2 a.1 a.2.1 a.2.2.1 a.2.2.2 hb _ e).2.1 rfl)]
 ·rw[e,ZN5 a,((fr_3 a.1 a.2.1 a.2.2.1 a.2.2.2 hb _ e).2.1 rfl)]
 ·rw[e,ZN4 a,((fr_4 a.1 a.2.1 a.2.2.1 a.2.2.2 hb _ e).2.1 rfl)]
 ·rw[e,ZIV a,((fr_1 a.1 a.2.1 a.2.2.1 a.2.2.2 hb _ e).2.2.1 rfl)]
 ·rw[e,ZIU a,((fr_2 a.1 a.2.1 a.2.2.1 a.2.2.2 hb _ e).2.2.1 rfl)]
 ·rw[e,ZIT a,((fr_5 a.1 a.2.1 a.2.2.1 a.2.2.2 hb _ e).2 rfl)]
 ·rw[e,ZIS a,((fr_3 a.1 a.2.1 a.2.2.1 a.2.2.2 hb _ e).2.2.1 rfl)]
 ·rw[e,ZIR a,((fr_6 a.1 a.2.1 a.2.2.1 a.2.2.2 hb _ e).1 rfl)]
 ·rw[e,ZIQ a,((fr_6 a.1 a.2.1 a.2.2.1 a.2.2.2 hb _ e).2 rfl)]
 ·rw[e,ZIP a,((fr_4 a.1 a.2.1 a.2.2.1 a.2.2.2 hb _ e).2.2.1 rfl)]
 ·rw[e,ZIO a,((fr_1 a.1 a.2.1 a.2.2.1 a.2.2.2 hb _ e).2.2.2.1 rfl)]
 ·rw[e,ZIN a,((fr_2 a.1 a.2.1 a.2.2.1 a.2.2.2 hb _ e).2.2.2.1 rfl)]
 ·rw[e,ZIM a,((fr_3 a.1 a.2.1 a.2.2.1 a.2.2.2 hb _ e).2.2.2.1 rfl)]
 ·rw[e,ZIL a,((fr_4 a.1 a.2.1 a.2.2.1 a.2.2.2 hb _ e).2.2.2.1 rfl)]
 ·rw[e,ZIK a,((fr_1 a.1 a.2.1 a.2.2.1 a.2.2.2 hb _ e).2.2.2.2.1 rfl)]
 ·rw[e,ZIJ a,((fr_2 a.1 a.2.1 a.2.2.1 a.2.2.2 hb _ e).2.2.2.2.1 rfl)]
 ·rw[e,ZII a,((fr_3 a.1 a.2.1 a.2.2.1 a.2.2.2 hb _ e).2.2.2.2.1 rfl)]
 ·rw[e,ZIH a,((fr_7 a.1 a.2.1 a.2.2.1 a.2.2.2 hb _ e).1 rfl)]
 ·rw[e,ZIG a,((fr_7 a.1 a.2.1 a.2.2.1 a.2.2.2 hb _ e).2.1 rfl)]
 ·rw[e,ZIF a,((fr_7 a.1 a.2.1 a.2.2.1 a.2.2.2 hb _ e).2.2.1 rfl)]
 ·rw[e,ZIE a,((fr_4 a.1 a.2.1 a.2.2.1 a.2.2.2 hb _ e).2.2.2.2.1 rfl)]
 ·rw[e,ZID a,((fr_1 a.1 a.2.1 a.2.2.1 a.2.2.2 hb _ e).2.2.2.2.2.1 rfl)]
 ·rw[e,ZIC a,((fr_2 a.1 a.2.1 a.2.2.1 a.2.2.2 hb _ e).2.2.2.2.2.1 rfl)]
 ·rw[e,ZIB a,((fr_3 a.1 a.2.1 a.2.2.1 a.2.2.2 hb _ e).2.2.2.2.2.1 rfl)]
 ·rw[e,ZIA a,((fr_8 a.1 a.2.1 a.2.2.1 a.2.2.2 hb _ e) rfl)]
 ·rw[e,ZIz a,((fr_4 a.1 a.2.1 a.2.2.1 a.2.2.2 hb _ e).2.2.2.2.2.1 rfl)]
 ·rw[e,ZIy a,((fr_1 a.1 a.2.1 a.2.2.1 a.2.2.2 hb _ e).2.2.2.2.2.2.1 rfl)]
 ·rw[e,ZIx a,((fr_2 a.1 a.2.1 a.2.2.1 a.2.2.2 hb _ e).2.2.2.2.2.2.1 rfl)]
 ·rw[e,ZIw a,((fr_3 a.1 a.2.1 a.2.2.1 a.2.2.2 hb _ e).2.2.2.2.2.2.1 rfl)]
 ·rw[e,ZIv a,((fr_4 a.1 a.2.1 a.2.2.1 a.2.2.2 hb _ e).2.2.2.2.2.2.1 rfl)]
 ·rw[e,ZIu a,((fr_1 a.1 a.2.1 a.2.2.1 a.2.2.2 hb _ e).2.2.2.2.2.2.2.1 rfl)]
 ·rw[e,ZIt a,((fr_9 a.1 a.2.1 a.2.2.1 a.2.2.2 hb _ e) rfl)]
 ·rw[e,ZIs a,((fr_10 a.1 a.2.1 a.2.2.1 a.2.2.2 hb _ e) rfl)]
 ·rw[e,ZIr a,((fr_2 a.1 a.2.1 a.2.2.1 a.2.2.2 hb _ e).2.2.2.2.2.2.2.1 rfl)]
 ·rw[e,ZIq a,((fr_3 a.1 a.2.1 a.2.2.1 a.2.2.2 hb _ e).2.2.2.2.2.2.2.1 rfl)]
 ·rw[e,ZIp a,((fr_4 a.1 a.2.1 a.2.2.1 a.2.2.2 hb _ e).2.2.2.2.2.2.2.1 rfl)]
 ·rw[e,ZIo a,((fr_1 a.1 a.2.1 a.2.2.1 a.2.2.2 hb _ e).2.2.2.2.2.2.2.2 rfl)]
 ·rw[e,ZIn a,((fr_2 a.1 a.2.1 a.2.2.1 a.2.2.2 hb _ e).2.2.2.2.2.2.2.2 rfl)]
 ·rw[e,ZIm a,((fr_7 a.1 a.2.1 a.2.2.1 a.2.2.2 hb _ e).2.2.2 rfl)]
 ·rw[e,ZIl a,((fr_3 a.1 a.2.1 a.2.2.1 a.2.2.2 hb _ e).2.2.2.2.2.2.2.2 rfl)]
 ·rw[e,ZIk a,((fr_4 a.1 a.2.1 a.2.2.1 a.2.2.2 hb _ e).2.2.2.2.2.2.2.2 rfl)]
def ZXP:Entry:=Zg Zn Z7 (λ_=>none) (λa=>finX a.1 a.2.1 a.2.2.1 a.2.2.2)
theorem ZN3:Za Tryz.prog 98 ZXP:=Zll Tryz.func98 rfl (by kernel_rfl) Tryz.call98 λa h _=>ZXO a h
theorem fp_1 (c) (s:Int) (g:List Int) (l) (n:Int) (hk:(Zb c.1 (g.getD 0 0)).1=n):(n=1->(ZCO c s g l).val=some (finX c s g l))/\(n=6->(ZCJ c s g l).val=some (finX c s g l))/\(n=10->(Zu6 c s g l).val=some (finX c s g l))/\(n=17->(ZuZ c s g l).val=some (finX c s g l))/\(n=21->(ZuV c s g l).val=some (finX c s g l))/\(n=28->(ZuO c s g l).val=some (finX c s g l))/\(n=33->(ZuJ c s g l).val=some (finX c s g l))/\(n=37->(ZuF c s g l).val=some (finX c s g l))/\(n=43->(Zuz c s g l).val=some (finX c s g l)):=by
 refine⟨?_,?_,?_,?_,?_,?_,?_,?_,?_⟩
 all_goals intro e;subst e
 all_goals simp only[ZCO,ZCJ,Zu6,ZuZ,ZuV,ZuO,ZuJ,ZuF,Zuz,RT.val,rgx]
 all_goals simp only[qat0,mat0,qat1,mat1,rg0,hk,Zw,Z0,Zah,ZI,ZJ,Zz,ZA,ZaS,ZaW,ZcA,Zcz,Zv,ZaU,finX,spOf]
 all_goals generalize Zc s=bi
 all_goals cases bi with
 |true=>simp[wPC,wSP]
 |false=>
  generalize (s==5)=bs
  simp only[finI,hk,finR,wPC,wSP,wA,wF,fCY,fVCY,Zc2,flOf,ZL,pcOf,Zbg]
  generalize Zb c.1 (g.getD 0 0)=i at hk|-
  simp (config:={implicitDefEqProofs:=false}) [Zb5,Zbv,ZbM,hk]
theorem fp_2 (c) (s:Int) (g:List Int) (l) (n:Int) (hk:(Zb c.1 (g.getD 0 0)).1=n):(n=3->(ZCM c s g l).val=some (finX c s g l))/\(n=7->(ZCI c s g l).val=some (finX c s g l))/\(n=11->(Zu5 c s g l).val=some (finX c s g l))/\(n=18->(ZuY c s g l).val=some (finX c s g l))/\(n=22->(ZuU c s g l).val=some (finX c s g l))/\(n=29->(ZuN c s g l).val=some (finX c s g l))/\(n=34->(ZuI c s g l).val=some (finX c s g l))/\(n=40->(ZuC c s g l).val=some (finX c s g l))/\(n=44->(Zuy c s g l).val=some (finX c s g l)):=by
 refine⟨?_,?_,?_,?_,?_,?_,?_,?_,?_⟩
 all_goals intro e;subst e
 all_goals simp only[ZCM,ZCI,Zu5,ZuY,ZuU,ZuN,ZuI,ZuC,Zuy,RT.val,rgx]
 all_goals simp only[qat0,mat0,qat1,mat1,rg0,hk,Zw,Z0,Zah,ZI,ZJ,Zz,ZA,ZaS,ZaW,ZcA,Zcz,Zv,ZaU,finX,spOf]
 all_goals generalize Zc s=bi
 all_goals cases bi with
 |true=>simp[wPC,wSP]
 |false=>
  generalize (s==5)=bs
  simp only[finI,hk,finR,wPC,wSP,wA,wF,fCY,fVCY,Zc2,flOf,ZL,pcOf,Zbg]
  generalize Zb c.1 (g.getD 0 0)=i at hk|-
  simp (config:={implicitDefEqProofs:=false}) [Zb5,Zbv,ZbM,hk]
theorem fp_3 (c) (s:Int) (g:List Int) (l) (n:Int) (hk:(Zb c.1 (g.getD 0 0)).1=n):(n=4->(ZCL c s g l).val=some (finX c s g l))/\(n=8->(ZCH c s g l).val=some (finX c s g l))/\(n=13->(Zu3 c s g l).val=some (finX c s g l))/\(n=19->(ZuX c s g l).val=some (finX c s g l))/\(n=23->(ZuT c s g l).val=some (finX c s g l))/\(n=30->(ZuM c s g l).val=some (finX c s g l))/\(n=35->(ZuH c s g l).val=some (finX c s g l))/\(n=41->(ZuB c s g l).val=some (finX c s g l))/\(n=46->(Zuw c s g l).val=some (finX c s g l)):=by
 refine⟨?_,?_,?_,?_,?_,?_,?_,?_,?_⟩
 all_goals intro e;subst e
 all_goals simp only[ZCL,ZCH,Zu3,ZuX,ZuT,ZuM,ZuH,ZuB,Zuw,RT.val,rgx]
 all_goals simp only[qat0,mat0,qat1,mat1,rg0,hk,Zw,Z0,Zah,ZI,ZJ,Zz,ZA,ZaS,ZaW,ZcA,Zcz,Zv,ZaU,finX,spOf]
 all_goals generalize Zc s=bi
 all_goals cases bi with
 |true=>simp[wPC,wSP]
 |false=>
  generalize (s==5)=bs
  simp only[finI,hk,finR,wPC,wSP,wA,wF,fCY,fVCY,Zc2,flOf,ZL,pcOf,Zbg]
  generalize Zb c.1 (g.getD 0 0)=i at hk|-
  simp (config:={implicitDefEqProofs:=false}) [Zb5,Zbv,ZbM,hk]
theorem fp_4 (c) (s:Int) (g:List Int) (l) (n:Int) (hk:(Zb c.1 (g.getD 0 0)).1=n):(n=5->(ZCK c s g l).val=some (finX c s g l))/\(n=9->(ZCG c s g l).val=some (finX c s g l))/\(n=16->(Zu0 c s g l).val=some (finX c s g l))/\(n=20->(ZuW c s g l).val=some (finX c s g l))/\(n=27->(ZuP c s g l).val=some (finX c s g l))/\(n=32->(ZuK c s g l).val=some (finX c s g l))/\(n=36->(ZuG c s g l).val=some (finX c s g l))/\(n=42->(ZuA c s g l).val=some (finX c s g l))/\(n=47->(Zuv c s g l).val=some (finX c s g l)):=by
 refine⟨?_,?_,?_,?_,?_,?_,?_,?_,?_⟩
 all_goals intro e;subst e
 all_goals simp only[ZCK,ZCG,Zu0,ZuW,ZuP,ZuK,ZuG,ZuA,Zuv,RT.val,rgx]
 all_goals simp only[qat0,mat0,qat1,mat1,rg0,hk,Zw,Z0,Zah,ZI,ZJ,Zz,ZA,ZaS,ZaW,ZcA,Zcz,Zv,ZaU,finX,spOf]
 all_goals generalize Zc s=bi
 all_goals cases bi with
 |true=>simp[wPC,wSP]
 |false=>
  generalize (s==5)=bs
  simp only[finI,hk,finR,wPC,wSP,wA,wF,fCY,fVCY,Zc2,flOf,ZL,pcOf,Zbg]
  generalize Zb c.1 (g.getD 0 0)=i at hk|-
  simp (config:={implicitDefEqProofs:=false}) [Zb5,Zbv,ZbM,hk]
theorem fp_5 (c) (s:Int) (g:List Int) (l) (n:Int) (hk:(Zb c.1 (g.getD 0 0)).1=n):(n=2->(ZCN c s g l).val=some (finX c s g l))/\(n=12->(Zu4 c s g l).val=some (finX c s g l)):=by
 refine⟨?_,?_⟩
 all_goals intro e;subst e
 all_goals simp only[ZCN,Zu4,RT.val,rgx]
 all_goals simp only[qat0,mat0,qat1,mat1,rg0,hk,Zw,Z0,Zah,ZI,ZJ,Zz,ZA,ZaS,ZaW,ZcA,Zcz,Zv,ZaU,finX,spOf]
 all_goals generalize Zc s=bi
 all_goals cases bi with
 |true=>simp[wPC,wSP]
 |false=>
  generalize (s==5)=bs
  simp only[finI,hk,finR,wPC,wSP,wA,wF,fCY,fVCY,Zc2,flOf,ZL,pcOf,Zbg]
  generalize Zb c.1 (g.getD 0 0)=i at hk|-
  generalize (i.2.2.2.1==6)=b0
  cases b0<;>simp (config:={implicitDefEqProofs:=false}) [Zb5,Zbv,ZbM,hk]
theorem fp_6 (c) (s:Int) (g:List Int) (l) (n:Int) (hk:(Zb c.1 (g.getD 0 0)).1=n):(n=14->(Zu2 c s g l).val=some (finX c s g l))/\(n=15->(Zu1 c s g l).val=some (finX c s g l)):=by
 refine⟨?_,?_⟩
 all_goals intro e;subst e
 all_goals simp only[Zu2,Zu1,RT.val,rgx]
 all_goals simp only[qat0,mat0,qat1,mat1,rg0,hk,Zw,Z0,Zah,ZI,ZJ,Zz,ZA,ZaS,ZaW,ZcA,Zcz,Zv,ZaU,finX,spOf]
 all_goals generalize Zc s=bi
 all_goals cases bi with
 |true=>simp[wPC,wSP]
 |false=>
  generalize (s==5)=bs
  simp only[finI,hk,finR,wPC,wSP,wA,wF,fCY,fVCY,Zc2,flOf,ZL,pcOf,Zbg]
  generalize Zb c.1 (g.getD 0 0)=i at hk|-
  generalize (i.2.2.1==6)=b0
  cases b0<;>simp (config:={implicitDefEqProofs:=false}) [Zb5,Zbv,ZbM,hk]
theorem fp_7 (c) (s:Int) (g:List Int) (l) (n:Int) (hk:(Zb c.1 (g.getD 0 0)).1=n):(n=24->(ZuS c s g l).val=some (finX c s g l))/\(n=25->(ZuR c s g l).val=some (finX c s g l))/\(n=26->(ZuQ c s g l).val=some (finX c s g l))/\(n=45->(Zux c s g l).val=some (finX c s g l)):=by
 refine⟨?_,?_,?_,?_⟩
 all_goals intro e;subst e
 all_goals simp only[ZuS,ZuR,ZuQ,Zux,RT.val,rgx]
 all_goals simp only[qat0,mat0,qat1,mat1,rg0,hk,Zw,Z0,Zah,ZI,ZJ,Zz,ZA,ZaS,ZaW,ZcA,Zcz,Zv,ZaU,finX,spOf]
 all_goals generalize Zc s=bi
 all_goals cases bi with
 |true=>simp[wPC,wSP]
 |false=>
  generalize (s==5)=bs
  simp only[finI,hk,finR,wPC,wSP,wA,wF,fCY,fVCY,Zc2,flOf,ZL,pcOf,Zbg]
  generalize Zb c.1 (g.getD 0 0)=i at hk|-
  generalize ZeC _ _=b0
  cases b0<;>simp (config:={implicitDefEqProofs:=false}) [Zb5,Zbv,ZbM,hk]
theorem fp_8 (c) (s:Int) (g:List Int) (l) (n:Int) (hk:(Zb c.1 (g.getD 0 0)).1=n):(n=31->(ZuL c s g l).val=some (finX c s g l)):=by
 skip
 all_goals intro e;subst e
 all_goals simp only[ZuL,RT.val,rgx]
 all_goals simp only[qat0,mat0,qat1,mat1,rg0,hk,Zw,Z0,Zah,ZI,ZJ,Zz,ZA,ZaS,ZaW,ZcA,Zcz,Zv,ZaU,finX,spOf]
 all_goals generalize Zc s=bi
 all_goals cases bi with
 |true=>simp[wPC,wSP]
 |false=>
  generalize (s==5)=bs
  simp only[finI,hk,finR,wPC,wSP,wA,wF,fCY,fVCY,Zc2,flOf,ZL,pcOf,Zbg]
  generalize Zb c.1 (g.getD 0 0)=i at hk|-
  generalize (i.2.2.2.2.1==3)=b0
  cases b0<;>simp (config:={implicitDefEqProofs:=false}) [Zb5,Zbv,ZbM,hk]
theorem fp_9 (c) (s:Int) (g:List Int) (l) (n:Int) (hk:(Zb c.1 (g.getD 0 0)).1=n):(n=38->(ZuE c s g l).val=some (finX c s g l)):=by
 skip
 all_goals intro e;subst e
 all_goals simp only[ZuE,RT.val,rgx]
 all_goals simp only[qat0,mat0,qat1,mat1,rg0,hk,Zw,Z0,Zah,ZI,ZJ,Zz,ZA,ZaS,ZaW,ZcA,Zcz,Zv,ZaU,finX,spOf]
 all_goals generalize Zc s=bi
 all_goals cases bi with
 |true=>simp[wPC,wSP]
 |false=>
  generalize (s==5)=bs
  simp only[finI,hk,finR,wPC,wSP,wA,wF,fCY,fVCY,Zc2,flOf,ZL,pcOf,Zbg]
  generalize Zb c.1 (g.getD 0 0)=i at hk|-
  simp[Zb5,Zbv,ZbM,hk,ZVi]
theorem fp_10 (c) (s:Int) (g:List Int) (l) (n:Int) (hk:(Zb c.1 (g.getD 0 0)).1=n):(n=39->(ZuD c s g l).val=some (finX c s g l)):=by
 skip
 all_goals intro e;subst e
 all_goals simp only[ZuD,RT.val,rgx]
 all_goals simp only[qat0,mat0,qat1,mat1,rg0,hk,Zw,Z0,Zah,ZI,ZJ,Zz,ZA,ZaS,ZaW,ZcA,Zcz,Zv,ZaU,finX,spOf]
 all_goals generalize Zc s=bi
 all_goals cases bi with
 |true=>simp[wPC,wSP]
 |false=>
  generalize (s==5)=bs
  simp only[finI,hk,finR,wPC,wSP,wA,wF,fCY,fVCY,Zc2,flOf,ZL,pcOf,Zbg]
  generalize Zb c.1 (g.getD 0 0)=i at hk|-
  simp[Zb5,Zbv,ZbM,hk,rSim,ZNa,RT.val]
theorem ZYA (a:HL Zo) (h:okHL Zo a):∃l,Zdk Tryz.prog l/\(Zh (envX Tryz.prog l [] 1023 8) Tryz.f111 Zo Z9 a).val=some (finX a.1 a.2.1 a.2.2.1 a.2.2.2):=by
 have hk:=Zvw a.1.1 _ (Zvz h.2.2.1)
 refine⟨ZaL (Zb a.1.1 (a.2.2.1.getD 0 0)).1,ZTN _,?_⟩
 rcases Zvv hk.1 hk.2 with e|e|e|e|e|e|e|e|e|e|e|e|e|e|e|e|e|e|e|e|e|e|e|e|e|e|e|e|e|e|e|e|e|e|e|e|e|e|e|e|e|e|e|e|e|e|e
 ·rw[e,ZPU a,((fp_1 a.1 a.2.1 a.2.2.1 a.2.2.2 _ e).1 rfl)]
 ·rw[e,ZPT a,((fp_5 a.1 a.2.1 a.2.2.1 a.2.2.2 _ e).1 rfl)]
 ·rw[e,ZPS a,((fp_2 a.1 a.2.1 a.2.2.1 a.2.2.2 _ e).1 rfl)]
 ·rw[e,ZPR a,((fp_3 a.1 a.2.1 a.2.2.1 a.2.2.2 _ e).1 rfl)]
 ·rw[e,ZPQ a,((fp_4 a.1 a.2.1 a.2.2.1 a.2.2.2 _ e).1 rfl)]
 ·rw[e,ZPP a,((fp_1 a.1 a.2.1 a.2.2.1 a.2.2.2 _ e).2.1 rfl)]
 ·rw[e,ZPO a,((fp_2 a.1 a.2.1 a.2.2.1 a.2.2.2 _ e).2.1 rfl)]
 ·rw[e,ZPN a,((fp_3 a.1 a.2.1 a.2.2.1 a.2.2.2 _ e).2.1 rfl)]
 ·rw[e,ZPM a,((fp_4 a.1 a.2.1 a.2.2.1 a.2.2.2 _ e).2.1 rfl)]
 ·rw[e,ZJ3 a,((fp_1 a.1 a.2.1 a.2.2.1 a.2.2.2 _ e).2.2.1 rfl)]
 ·rw[e,ZJ2 a,((fp_2 a.1 a.2.1 a.2.2.1 a.2.2.2 _ e).2.2.1 rfl)]
 ·rw[e,ZJ1 a,((fp_5 a.1 a.2.1 a.2.2.1 a.2.2.2 _ e).2 rfl)]
 ·rw[e,ZJ0 a,((fp_3 a.1 a.2.1 a.2.2.1 a.2.2.2 _ e).2.2.1 rfl)]
 ·rw[e,ZJZ a,((fp_6 a.1 a.2.1 a.2.2.1 a.2.2.2 _ e).1 rfl)]
 ·rw[e,ZJY a,((fp_6 a.1 a.2.1 a.2.2.1 a.2.2.2 _ e).2 rfl)]
 ·rw[e,ZJX a,((fp_4 a.1 a.2.1 a.2.2.1 a.2.2.2 _ e).2.2.1 rfl)]
 ·rw[e,ZJW a,((fp_1 a.1 a.2.1 a.2.2.1 a.2.2.2 _ e).2.2.2.1 rfl)]
 ·rw[e,ZJV a,((fp_2 a.1 a.2.1 a.2.2.1 a.2.2.2 _ e).2.2.2.1 rfl)]
 ·rw[e,ZJU a,((fp_3 a.1 a.2.1 a.2.2.1 a.2.2.2 _ e).2.2.2.1 rfl)]
 ·rw[e,ZJT a,((fp_4 a.1 a.2.1 a.2.2.1 a.2.2.2 _ e).2.2.2.1 rfl)]
 ·rw[e,ZJS a,((fp_1 a.1 a.2.1 a.2.2.1 a.2.2.2 _ e).2.2.2.2.1 rfl)]
 ·rw[e,ZJR a,((fp_2 a.1 a.2.1 a.2.2.1 a.2.2.2 _ e).2.2.2.2.1 rfl)]
 ·rw[e,ZJQ a,((fp_3 a.1 a.2.1 a.2.2.1 a.2.2.2 _ e).2.2.2.2.1 rfl)]
 ·rw[e,ZJP a,((fp_7 a.1 a.2.1 a.2.2.1 a.2.2.2 _ e).1 rfl)]
 ·rw[e,ZJO a,((fp_7 a.1 a.2.1 a.2.2.1 a.2.2.2 _ e).2.1 rfl)]
 ·rw[e,ZJN a,((fp_7 a.1 a.2.1 a.2.2.1 a.2.2.2 _ e).2.2.1 rfl)]
 ·rw[e,ZJM a,((fp_4 a.1 a.2.1 a.2.2.1 a.2.2.2 _ e).2.2.2.2.1 rfl)]
 ·rw[e,ZJL a,((fp_1 a.1 a.2.1 a.2.2.1 a.2.2.2 _ e).2.2.2.2.2.1 rfl)]
 ·rw[e,ZJK a,((fp_2 a.1 a.2.1 a.2.2.1 a.2.2.2 _ e).2.2.2.2.2.1 rfl)]
 ·rw[e,ZJJ a,((fp_3 a.1 a.2.1 a.2.2.1 a.2.2.2 _ e).2.2.2.2.2.1 rfl)]
 ·rw[e,ZJI a,((fp_8 a.1 a.2.1 a.2.2.1 a.2.2.2 _ e) rfl)]
 ·rw[e,ZJH a,((fp_4 a.1 a.2.1 a.2.2.1 a.2.2.2 _ e).2.2.2.2.2.1 rfl)]
 ·rw[e,ZJG a,((fp_1 a.1 a.2.1 a.2.2.1 a.2.2.2 _ e).2.2.2.2.2.2.1 rfl)]
 ·rw[e,ZJF a,((fp_2 a.1 a.2.1 a.2.2.1 a.2.2.2 _ e).2.2.2.2.2.2.1 rfl)]
 ·rw[e,ZJE a,((fp_3 a.1 a.2.1 a.2.2.1 a.2.2.2 _ e).2.2.2.2.2.2.1 rfl)]
 ·rw[e,ZJD a,((fp_4 a.1 a.2.1 a.2.2.1 a.2.2.2 _ e).2.2.2.2.2.2.1 rfl)]
 ·rw[e,ZJC a,((fp_1 a.1 a.2.1 a.2.2.1 a.2.2.2 _ e).2.2.2.2.2.2.2.1 rfl)]
 ·rw[e,ZJB a,((fp_9 a.1 a.2.1 a.2.2.1 a.2.2.2 _ e) rfl)]
 ·rw[e,ZJA a,((fp_10 a.1 a.2.1 a.2.2.1 a.2.2.2 _ e) rfl)]
 ·rw[e,ZJz a,((fp_2 a.1 a.2.1 a.2.2.1 a.2.2.2 _ e).2.2.2.2.2.2.2.1 rfl)]
 ·rw[e,ZJy a,((fp_3 a.1 a.2.1 a.2.2.1 a.2.2.2 _ e).2.2.2.2.2.2.2.1 rfl)]
 ·rw[e,ZJx a,((fp_4 a.1 a.2.1 a.2.2.1 a.2.2.2 _ e).2.2.2.2.2.2.2.1 rfl)]
 ·rw[e,ZJw a,((fp_1 a.1 a.2.1 a.2.2.1 a.2.2.2 _ e).2.2.2.2.2.2.2.2 rfl)]
 ·rw[e,ZJv a,((fp_2 a.1 a.2.1 a.2.2.1 a.2.2.2 _ e).2.2.2.2.2.2.2.2 rfl)]
 ·rw[e,ZJu a,((fp_7 a.1 a.2.1 a.2.2.1 a.2.2.2 _ e).2.2.2 rfl)]
 ·rw[e,ZJt a,((fp_3 a.1 a.2.1 a.2.2.1 a.2.2.2 _ e).2.2.2.2.2.2.2.2 rfl)]
 ·rw[e,ZJs a,((fp_4 a.1 a.2.1 a.2.2.1 a.2.2.2 _ e).2.2.2.2.2.2.2.2 rfl)]
def Z0v:Entry:=Zg Zo Z9 (λ_=>none) (λa=>finX a.1 a.2.1 a.2.2.1 a.2.2.2)
theorem ZYz:Za Tryz.prog 111 Z0v:=Zll Tryz.func111 rfl (by kernel_rfl) Tryz.call111 λa h _=>ZYA a h
theorem Zqy (c op:Int) (h:c≠2):Zb c op=Zb 0 op:=by unfold Zb;rw[Zmj c op h]
theorem ZBD (c op:Int) (h:c≠2):Zq9 c op=Zq9 0 op:=by
 have h1:(c==2)=false:=by simpa using h
 have h0:((0:Int)==2)=false:=rfl
 simp only[Zq9,ZCE,RT.val,Zqy c op h,h1,h0]
theorem Zz0 (c op:Int) (h:c≠2):ZfL c op=ZfL 0 op:=by
 have h1:rOn c=false:=by simpa [ZaU] using h
 have h0:rOn 0=false:=rfl
 simp only[ZfL,ZBi,RT.val,Zqy c op h,h1,h0]
def firT (c op:Int):Bool:=Zq9 c op==ZfL c op
theorem ZUo (c op:Int) (h:inR .u8 op):Zq9 c op=ZfL c op:=by
 by_cases hc:c=2
 ·subst hc;exact eq_of_beq (ZfH (firT 2) (by kernel_rfl) op h)
 ·rw[ZBD c op hc,Zz0 c op hc];exact eq_of_beq (ZfH (firT 0) (by kernel_rfl) op h)
def Zuu:Entry:=Zg Zus Zut (λ_=>none) (λa=>ZfL a.1 a.2)
theorem Zq8:Za Tryz.prog 115 Zuu:=ZPJ.tot (λa h=>by simp) (λa h=>ZUo _ _ h.2)
end
end Go.Proofs.YtghoimllhpjkjaaGreat
open Go.Proofs.Tryz (prog)
open Go.IntKind (u8 u16 i64)
namespace Go.Proofs.YtghoimllhpjkjaaGreat
noncomputable section
abbrev ZE3:List Sh:=[Sh.agg (R.pair ZF (R.pair (R.int i64) (R.pair (R.sl (R.int u8)) (R.pair (RY) (R.pair (R.int i64) R.bool)))))]
abbrev ZE4:Rs:=Rs.one (Sh.one (R.int i64))
def Zsy (c:QT5):RT (Int):=
 .br (decide (c.2.2.2.2.1<1)||decide (c.2.2.2.2.1>9)) (.leaf (1)) (.leaf c.2.2.2.2.1)
def Z3 (c:QT5):Int:=(Zsy c).val
def Zfr:Entry:=Zg ZE3 ZE4 (λ_=>none) (λa=>Z3 a)
theorem Zec:Za prog 79 Zfr:=
 pureQ 7 [] [] ZE3 ZE4 trivial Tryz.func79 Tryz.call79 trivial (t:=λa=>Zsy a)
abbrev ZFT:List Sh:=[Sh.agg ZF,Sh.one (R.int i64)]
abbrev ZFU:Rs:=Rs.one (Sh.agg (RY))
def ZOu (c:TC) (s:Int):RT TY:=
 .leaf (Zj c s []).1
def ZVU (c:TC) (s:Int):QT12:=(ZOu c s).val
def ZtL:Entry:=Zg ZFT ZFU (λ_=>none) (λa=>ZVU a.1 a.2)
theorem Znq:Za prog 82 ZtL:=
 pureQ 127 [(42,ZFw)] [] ZFT ZFU ⟨ZsQ,Tv⟩ Tryz.func82 Tryz.call82 trivial (t:=λa=>ZOu a.1 a.2)
abbrev ZE5:List Sh:=[Sh.agg (R.pair ZF (R.pair (R.int i64) (R.pair (R.sl (R.int u8)) (R.pair (RY) (R.pair (R.int i64) R.bool))))),Sh.one (R.int i64)]
abbrev ZE6:Rs:=Rs.one (Sh.agg (R.pair ZF (R.pair (R.int i64) (R.pair (R.sl (R.int u8)) (R.pair (RY) (R.pair (R.int i64) R.bool))))))
def ZNb (c:QT5) (s:Int):RT (QT5):=
 .leaf ((Zu c.1 s,s,[],ZVU (Zu c.1 s) s,c.2.2.2.2))
def ZE7 (c:QT5) (s:Int):QT5:=(ZNb c s).val
def ZAf:Entry:=Zg ZE5 ZE6 (λ_=>none) (λa=>ZE7 a.1 a.2)
theorem Zxf:Za prog 88 ZAf:=
 pureQ 31 [(82,ZtL),(97,ZFV)] [] ZE5 ZE6 ⟨Znq,ZIY,Tv⟩ Tryz.func88 Tryz.call88 trivial (t:=λa=>ZNb a.1 a.2)
abbrev ZNk:List Sh:=[Sh.agg (R.pair ZF (R.pair (R.int i64) (R.pair (R.sl (R.int u8)) (R.pair (RY) (R.pair (R.int i64) R.bool))))),Sh.one (R.int i64),Sh.one (R.int u8)]
abbrev ZAj:Rs:=Rs.tup [Sh.agg (RY),Sh.one (R.sl (R.int u8))]
def Zir (c:QT5) (t:Int) (d:Int):RT (Option (TY×List Int)):=
 let x1:Int:=bif ZcG c.2.2.2.1.1 then d else c.2.2.2.1.2.2.1
 let x2:List Int:=[]++c.2.2.1++[x1]
 .br (t !=3) (.leaf (some ((c.2.2.2.1,c.2.2.1)))) (.br (!Nat.ble (List.length ([]++c.2.2.1)) most||Nat.ble (List.length x2) most) (.br (Nat.ble (List.length ([]++c.2.2.1)) most) (.leaf (some (((c.2.2.2.1.1,c.2.2.2.1.2.1,x1,bif c.2.2.2.1.1==1||c.2.2.2.1.1==8 then ZfL c.1.1 x1 else c.2.2.2.1.2.2.2),x2)))) (.leaf none)) (.leaf none))
def ZhJ (c:QT5) (t:Int) (d:Int):TY×List Int:=getO ZAj.dflt (Zir c t d).val
def ZeZ (c:QT5) (t:Int) (d:Int):Bool:=okB (Zir c t d).val
def ZNn:Entry:=Zg ZNk ZAj (λa=>some (ZeZ a.1 a.2.1 a.2.2)) (λa=>ZhJ a.1 a.2.1 a.2.2)
theorem ZFe:Za prog 89 ZNn:=
 pureP 1023 [(103,Zmw),(116,ZBj)] [] ZNk ZAj ⟨Ziq,Zxv,Tv⟩ Tryz.func89 Tryz.call89 trivial (t:=λa=>Zir a.1 a.2.1 a.2.2)
abbrev ZOd:List Sh:=[Sh.one (R.int i64),Sh.agg (RY)]
abbrev ZOe:Rs:=Rs.one (Sh.one R.bool)
def Zno (t:Int) (x:QT12):RT (Bool):=
 .br (t==3) (.leaf (decide (x.2.2.2<=3))) (.br (bif t==4 then t==4 else t==5) (.leaf (decide (x.2.2.2<=t))) (.leaf (t==6)))
def ZjH (t:Int) (x:QT12):Bool:=(Zno t x).val
def ZOf:Entry:=Zg ZOd ZOe (λ_=>none) (λa=>ZjH a.1 a.2)
theorem ZFM:Za prog 90 ZOf:=
 pureQ 2143 [] [] ZOd ZOe trivial Tryz.func90 Tryz.call90 trivial (t:=λa=>Zno a.1 a.2)
abbrev ZqJ:List Sh:=[Sh.agg (R.pair ZF (R.pair (R.int i64) (R.pair (R.sl (R.int u8)) (R.pair (RY) (R.pair (R.int i64) R.bool)))))]
abbrev ZqK:Rs:=Rs.one (Sh.one R.bool)
def Zio (c:QT5):RT (Bool):=
 .leaf (c.1.2.2.2.2.1&&c.2.1==0)
def Zip (c:QT5):Bool:=(Zio c).val
def Zmu:Entry:=Zg ZqJ ZqK (λ_=>none) (λa=>Zip a)
theorem Zmt:Za prog 86 Zmu:=
 pureQ 7 [] [] ZqJ ZqK trivial Tryz.func86 Tryz.call86 trivial (t:=λa=>Zio a)
abbrev ZVI:List Sh:=[Sh.agg (R.pair ZF (R.pair (R.int i64) (R.pair (R.sl (R.int u8)) (R.pair (RY) (R.pair (R.int i64) R.bool))))),Sh.agg (R.pair R.bool (R.pair R.bool rcF7))]
abbrev ZVJ:Rs:=Rs.one (Sh.agg (R.pair ZF (R.pair (R.int i64) (R.pair (R.sl (R.int u8)) (R.pair (RY) (R.pair (R.int i64) R.bool))))))
def ZXR (c:QT5) (l:QT0):RT (QT5):=
 let x1:=ZE7 (finX c.1 c.2.1 c.2.2.1 l,c.2) (ZfP (finX c.1 c.2.1 c.2.2.1 l) l)
 let x2:=x1.1
 let x3:=x2.2
 let x4:=x3.1
 let x5:=x4.2
 let x6:=x5.2
 let x7:=x6.2
 let x8:=x7.2
 let x9:=x8.2
 let x10:=x9.2
 let x11:=x10.2
 let x12:=x11.1
 let x13:=x12.2
 let x14:=c.1.2.1.2.2.2.2.2.2.2.1.2.2
 let x15:=x13.2
 let x16:=x14.2
 let x17:=x15.2
 let x18:=x16.2
 let x19:=x17.2
 let x20:=x18.2
 let x21:=x19.2
 let x22:=x11.2
 let x23:=x3.2
 let x24:=x23.2
 let x25:=x24.2
 let x26:=x25.2
 let x27:=x26.2
 let x28:=x27.2
 let x29:=x28.2
 let x30:=x29.2
 let x31:=x30.2
 let x32:=x31.2
 let x33:TC:=(bif (Zj c.1 c.2.1 c.2.2.1).2 then c.1.1 else x2.1,(bif (Zj c.1 c.2.1 c.2.2.1).2 then c.1.2.1.1 else x4.1,bif (Zj c.1 c.2.1 c.2.2.1).2 then c.1.2.1.2.1 else x5.1,bif (Zj c.1 c.2.1 c.2.2.1).2 then c.1.2.1.2.2.1 else x6.1,bif (Zj c.1 c.2.1 c.2.2.1).2 then c.1.2.1.2.2.2.1 else x7.1,bif (Zj c.1 c.2.1 c.2.2.1).2 then c.1.2.1.2.2.2.2.1 else x8.1,bif (Zj c.1 c.2.1 c.2.2.1).2 then c.1.2.1.2.2.2.2.2.1 else x9.1,bif (Zj c.1 c.2.1 c.2.2.1).2 then c.1.2.1.2.2.2.2.2.2.1 else x10.1,(bif (Zj c.1 c.2.1 c.2.2.1).2 then c.1.2.1.2.2.2.2.2.2.2.1.1 else x12.1,bif (Zj c.1 c.2.1 c.2.2.1).2 then c.1.2.1.2.2.2.2.2.2.2.1.2.1 else x13.1,bif (Zj c.1 c.2.1 c.2.2.1).2 then x14.1 else x15.1,bif (Zj c.1 c.2.1 c.2.2.1).2 then x16.1 else x17.1,bif (Zj c.1 c.2.1 c.2.2.1).2 then x18.1 else x19.1,bif (Zj c.1 c.2.1 c.2.2.1).2 then x20.1 else x21.1,bif (Zj c.1 c.2.1 c.2.2.1).2 then x20.2 else x21.2),bif (Zj c.1 c.2.1 c.2.2.1).2 then c.1.2.1.2.2.2.2.2.2.2.2.1 else x22.1,bif (Zj c.1 c.2.1 c.2.2.1).2 then c.1.2.1.2.2.2.2.2.2.2.2.2 else x22.2),bif (Zj c.1 c.2.1 c.2.2.1).2 then c.1.2.2.1 else x23.1,bif (Zj c.1 c.2.1 c.2.2.1).2 then c.1.2.2.2.1 else x24.1,bif (Zj c.1 c.2.1 c.2.2.1).2 then c.1.2.2.2.2.1 else x25.1,bif (Zj c.1 c.2.1 c.2.2.1).2 then c.1.2.2.2.2.2.1 else x26.1,bif (Zj c.1 c.2.1 c.2.2.1).2 then c.1.2.2.2.2.2.2.1 else x27.1,bif (Zj c.1 c.2.1 c.2.2.1).2 then c.1.2.2.2.2.2.2.2.1 else x28.1,bif (Zj c.1 c.2.1 c.2.2.1).2 then c.1.2.2.2.2.2.2.2.2.1 else x29.1,bif (Zj c.1 c.2.1 c.2.2.1).2 then c.1.2.2.2.2.2.2.2.2.2.1 else x30.1,bif (Zj c.1 c.2.1 c.2.2.1).2 then c.1.2.2.2.2.2.2.2.2.2.2.1 else x31.1,bif (Zj c.1 c.2.1 c.2.2.1).2 then c.1.2.2.2.2.2.2.2.2.2.2.2.1 else x32.1,bif (Zj c.1 c.2.1 c.2.2.1).2 then c.1.2.2.2.2.2.2.2.2.2.2.2.2 else x32.2)
 let x34:=x1.2
 let x35:Int:=bif (Zj c.1 c.2.1 c.2.2.1).2 then c.2.1 else x34.1
 let x36:=x34.2
 let x37:List Int:=bif (Zj c.1 c.2.1 c.2.2.1).2 then c.2.2.1 else x36.1
 let x38:=x36.2
 let x39:=x38.1
 let x40:=x39.2
 let x41:=x40.2
 let x42:QT12:=(bif (Zj c.1 c.2.1 c.2.2.1).2 then (Zj c.1 c.2.1 c.2.2.1).1.1 else x39.1,bif (Zj c.1 c.2.1 c.2.2.1).2 then (Zj c.1 c.2.1 c.2.2.1).1.2.1 else x40.1,bif (Zj c.1 c.2.1 c.2.2.1).2 then (Zj c.1 c.2.1 c.2.2.1).1.2.2.1 else x41.1,bif (Zj c.1 c.2.1 c.2.2.1).2 then (Zj c.1 c.2.1 c.2.2.1).1.2.2.2 else x41.2)
 let x43:=x38.2
 let x44:=bif (Zj c.1 c.2.1 c.2.2.1).2 then c.2.2.2.2.2 else x43.2
 .leaf ((x33,x35,x37,x42,bif x44 then 8 else bif Zip (x33,x35,x37,x42,bif (Zj c.1 c.2.1 c.2.2.1).2 then c.2.2.2.2.1 else x43.1,x44) then 9 else 1,false))
def rEnd (c:QT5) (l:QT0):QT5:=(ZXR c l).val
def Z0d:Entry:=Zg ZVI ZVJ (λ_=>none) (λa=>rEnd a.1 a.2)
theorem ZXQ:Za prog 91 Z0d:=
 pureQ 1168231104639 [(42,ZFw),(86,Zmu),(87,ZNy),(88,ZAf),(98,ZXP)] [] ZVI ZVJ ⟨ZsQ,Zmt,ZFp,Zxf,ZN3,Tv⟩ Tryz.func91 Tryz.call91 trivial (t:=λa=>ZXR a.1 a.2)
abbrev ZNP:List Sh:=[Sh.one (R.int i64)]
abbrev ZNQ:Rs:=Rs.one (Sh.agg (R.pair ZF (R.pair (R.int i64) (R.pair (R.sl (R.int u8)) (R.pair (RY) (R.pair (R.int i64) R.bool))))))
def ZXI (chip:Int):RT (QT5):=
 let x1:TR:=(0,0,0,0,0,0,0,(false,false,false,false,false,false,false),0,0)
 let x2:=ZO (chip,x1,false,false,false,0,false,false,false,false,false,false,false)
 .leaf (((x2.1,x1,false,false,false,x2.2.2.2.2.2.1,false,false,false,false,false,false,false),0,[],(1,0,0,4),1,false))
def rNew (chip:Int):QT5:=(ZXI chip).val
def ZZ9:Entry:=Zg ZNP ZNQ (λ_=>none) (λa=>rNew a)
theorem ZNO:Za prog 80 ZZ9:=
 pureQ 15 [(81,ZsD),(82,ZtL)] [] ZNP ZNQ ⟨Zmv,Znq,Tv⟩ Tryz.func80 Tryz.call80 trivial (t:=λa=>ZXI a)
abbrev ZtI:List Sh:=[Sh.agg (R.pair ZF (R.pair (R.int i64) (R.pair (R.sl (R.int u8)) (R.pair (RY) (R.pair (R.int i64) R.bool))))),Sh.agg (R.pair R.bool (R.pair R.bool rcF7)),Sh.one (R.int u8)]
abbrev Zlk:Rs:=Rs.tup [Sh.agg (R.pair ZF (R.pair (R.int i64) (R.pair (R.sl (R.int u8)) (R.pair (RY) (R.pair (R.int i64) R.bool))))),Sh.agg (R.pair (R.int i64) (R.pair (R.int u16) (R.pair (R.int u8) (R.pair R.bool (R.pair R.bool (R.pair R.bool (R.pair R.bool (R.pair R.bool (R.pair R.bool (R.pair R.bool rcF7))))))))))]
def ZjI (c:QT5) (l:QT0) (d:Int):RT (Option ((QT5)×Int×Int×Int×Bool×Bool×Bool×Bool×Bool×Bool×Bool×Bool×Bool×Bool×Bool×Bool×Bool×Bool)):=
 let x1:QT12:=(bif Z3 c==9 then 0 else c.2.2.2.1.1,bif Z3 c==9 then c.1.2.1.2.2.2.2.2.2.2.2.2 else c.2.2.2.1.2.1,bif Z3 c==9 then 0 else c.2.2.2.1.2.2.1,bif Z3 c==9 then 0 else c.2.2.2.1.2.2.2)
 let x2:=c.1.2.2.2.2.2.2.2.2.2.2.2.2
 let x3:QT22:=(Zmy c.1.1 10 x1 0 c.1.2.2.1 x2).2.2.2.2.2.2
 let x4:=x3.2.2.2.2.2.2.2
 let x5:=Zmy c.1.1 (Z3 c) x1 d c.1.2.2.1 x2
 let x6:QT5:=(Zm c.1 l,c.2.1,[]++c.2.2.1,c.2.2.2)
 let x7:=ZE7 x6 (ZfP (Zm c.1 l) l)
 let x8:=x7.2
 let x9:=x8.2.2
 let x10:Int:=bif l.2.1 then 8 else bif ZfP (Zm c.1 l) l !=0 then 1 else 9
 let x11:=ZhJ x6 (Z3 c) d
 let x12:=x11.1
 let x13:=ZjH (Z3 c) x12
 let x14:=x11.2
 let x15:=rEnd (Zm c.1 l,c.2.1,x14,x12,c.2.2.2.2) l
 let x16:=x15.1
 let x17:=x16.2
 let x18:=x17.1
 let x19:=x18.2
 let x20:=x19.2
 let x21:=x20.2
 let x22:=x21.2
 let x23:=x22.2
 let x24:=x23.2
 let x25:=x24.2
 let x26:=x25.1
 let x27:TF:=(Zm c.1 l).2.1.2.2.2.2.2.2.2.1
 let x28:=x26.2
 let x29:=x27.2
 let x30:=x28.2
 let x31:=x29.2
 let x32:=x30.2
 let x33:=x31.2
 let x34:=x32.2
 let x35:=x33.2
 let x36:=x34.2
 let x37:=x35.2
 let x38:=x25.2
 let x39:Int×Int:=(Zm c.1 l).2.1.2.2.2.2.2.2.2.2
 let x40:=x17.2
 let x41:=x40.2
 let x42:=x41.2
 let x43:=x42.2
 let x44:=x43.2
 let x45:=x44.2
 let x46:=x45.2
 let x47:=x46.2
 let x48:=x47.2
 let x49:Bool×Bool×Bool:=(Zm c.1 l).2.2.2.2.2.2.2.2.2.2
 let x50:=x48.2
 let x51:=x49.2
 let x52:=x15.2
 let x53:=x52.2
 let x54:=x53.2
 let x55:=x54.1
 let x56:=x55.2
 let x57:=x12.2
 let x58:=x56.2
 let x59:=x57.2
 let x60:=x54.2
 .br l.2.2.1 (.leaf (some (((((ZO c.1).1,((ZO c.1).2.1.1,(ZO c.1).2.1.2.1,(ZO c.1).2.1.2.2.1,(ZO c.1).2.1.2.2.2.1,(ZO c.1).2.1.2.2.2.2.1,(ZO c.1).2.1.2.2.2.2.2.1,(ZO c.1).2.1.2.2.2.2.2.2.1,(ZO c.1).2.1.2.2.2.2.2.2.2.1,(ZO c.1).2.1.2.2.2.2.2.2.2.2.1,0),false,false,false,(ZO c.1).2.2.2.2.2.1,false,false,false,false,false,false,false),0,[],(1,0,0,4),1,false),10,0,0,false,false,false,x3.1,false,false,false,false,false,false,x4.1,false,false,x4.2.2.2)))) (.br (Nat.ble (List.length ([]++c.2.2.1)) most) (.br (Z3 c==1) (.leaf (some (((Zm c.1 l,c.2.1,[]++c.2.2.1,c.2.2.2.1,2,c.2.2.2.2.2),x5)))) (.br (bif Z3 c==2 then Z3 c==2 else Z3 c==7) (.leaf (some (((Zm c.1 l,c.2.1,[]++c.2.2.1,c.2.2.2.1,bif l.1|| !Zao c.2.2.2.1.1 then 3 else 7,bif l.1|| !Zao c.2.2.2.1.1 then l.2.1 else c.2.2.2.2.2),x5)))) (.br (Z3 c==8) (.leaf (some (((Zm c.1 l,c.2.1,bif l.2.1 then []++c.2.2.1 else []++c.2.2.1,c.2.2.2.1,bif l.2.1 then 8 else bif Zip x6 then 9 else 1,c.2.2.2.2.2),x5)))) (.br (Z3 c==9) (.br (ZfP (Zm c.1 l) l !=0) (.leaf (some (((x7.1,x8.1,[],x9.1,x10,x9.2.2),x5)))) (.leaf (some (((Zm c.1 l,c.2.1,[]++c.2.2.1,c.2.2.2.1,x10,c.2.2.2.2.2),x5))))) (.br (ZeZ x6 (Z3 c) d) (.leaf (some ((((bif x13 then x16.1 else (Zm c.1 l).1,(bif x13 then x18.1 else (Zm c.1 l).2.1.1,bif x13 then x19.1 else (Zm c.1 l).2.1.2.1,bif x13 then x20.1 else (Zm c.1 l).2.1.2.2.1,bif x13 then x21.1 else (Zm c.1 l).2.1.2.2.2.1,bif x13 then x22.1 else (Zm c.1 l).2.1.2.2.2.2.1,bif x13 then x23.1 else (Zm c.1 l).2.1.2.2.2.2.2.1,bif x13 then x24.1 else (Zm c.1 l).2.1.2.2.2.2.2.2.1,(bif x13 then x26.1 else x27.1,bif x13 then x28.1 else x29.1,bif x13 then x30.1 else x31.1,bif x13 then x32.1 else x33.1,bif x13 then x34.1 else x35.1,bif x13 then x36.1 else x37.1,bif x13 then x36.2 else x37.2),bif x13 then x38.1 else x39.1,bif x13 then x38.2 else x39.2),bif x13 then x40.1 else (Zm c.1 l).2.2.1,bif x13 then x41.1 else (Zm c.1 l).2.2.2.1,bif x13 then x42.1 else (Zm c.1 l).2.2.2.2.1,bif x13 then x43.1 else (Zm c.1 l).2.2.2.2.2.1,bif x13 then x44.1 else (Zm c.1 l).2.2.2.2.2.2.1,bif x13 then x45.1 else (Zm c.1 l).2.2.2.2.2.2.2.1,bif x13 then x46.1 else (Zm c.1 l).2.2.2.2.2.2.2.2.1,bif x13 then x47.1 else (Zm c.1 l).2.2.2.2.2.2.2.2.2.1,bif x13 then x48.1 else x49.1,bif x13 then x50.1 else x51.1,bif x13 then x50.2 else x51.2),bif x13 then x52.1 else c.2.1,bif x13 then x53.1 else x14,(bif x13 then x55.1 else x12.1,bif x13 then x56.1 else x57.1,bif x13 then x58.1 else x59.1,bif x13 then x58.2 else x59.2),bif x13 then x60.1 else i64.wrap (Z3 c+1),bif x13 then x60.2 else c.2.2.2.2.2),x5)))) (.leaf none)))))) (.leaf none))
def ZVS (c:QT5) (l:QT0) (d:Int):(QT5)×Int×Int×Int×Bool×Bool×Bool×Bool×Bool×Bool×Bool×Bool×Bool×Bool×Bool×Bool×Bool×Bool:=getO Zlk.dflt (ZjI c l d).val
def ZOo (c:QT5) (l:QT0) (d:Int):Bool:=okB (ZjI c l d).val
def ZX3:Entry:=Zg ZtI Zlk (λa=>some (ZOo a.1 a.2.1 a.2.2)) (λa=>ZVS a.1 a.2.1 a.2.2)
theorem ZOn:Za Tryz.prog 27 ZX3:=
 pureP 740465775588642560936085758595903342518271 [(79,Zfr),(80,ZZ9),(81,ZsD),(82,ZtL),(83,ZVr),(84,Znh),(85,ZxA),(86,Zmu),(87,ZNy),(88,ZAf),(89,ZNn),(90,ZOf),(91,Z0d)] [] ZtI Zlk ⟨Zec,ZNO,Zmv,Znq,ZS0,Zng,ZBw,Zmt,ZFp,Zxf,ZFe,ZFM,ZXQ,Tv⟩ Tryz.func27 Tryz.call27 trivial (t:=λa=>ZjI a.1 a.2.1 a.2.2)
abbrev LnT:=QT0
abbrev Zhm:=CpuT×Int×List Int×Cyc×Int×Bool
def ZaD (n:Int):Int:=bif decide (n<1)||decide (n>9) then 1 else n
def Zza (c:CpuT) (s:Int):Zhm:=(c,s,[],(Zj c s []).1,1,false)
def idlX (c:CpuT) (s:Int) (h:Bool):Int:=bif h then 8 else bif c.2.2.2.2.1&&s==0 then 9 else 1
def endX (c:CpuT) (s:Int) (g:List Int) (h:Bool) (l:LnT):Zhm:=
 bif (Zj c s g).2 then (c,s,g,(Zj c s g).1,idlX c s h,false) else
 let q:=finX c s g l
 let k:=ZfP q l
 let d:=Zu q k
 (d,k,[],(Zj d k []).1,idlX d k h,false)
def Zcg (c:CpuT) (x:Cyc) (d:Int):Cyc:=
 let v:=bif ZcG x.1 then d else x.2.2.1
 (x.1,x.2.1,v,bif x.1==1||x.1==8 then ZfL c.1 v else x.2.2.2)
def le3 (x:Int):Bool:=decide (x<=3)
def Zac (c:Zhm) (l:LnT) (d:Int):Zhm:=
 let t:=ZaD c.2.2.2.2.1
 let p:=Zm c.1 l
 let s:=c.2.1
 let g:=c.2.2.1
 let x:=c.2.2.2.1
 let h:=c.2.2.2.2.2
 bif l.2.2.1 then Zza (ZO c.1) 0 else
 bif t==1 then (p,s,g,x,2,h) else
 bif t==2||t==7 then (bif l.1|| !Zao x.1 then (p,s,g,x,3,l.2.1) else (p,s,g,x,7,h)) else
 bif t==8 then (p,s,g,x,idlX p s l.2.1,h) else
 bif t==9 then
  (let k:=ZfP p l
   bif k==0 then (p,s,g,x,bif l.2.1 then 8 else 9,h) else
   (Zu p k,k,[],(Zj (Zu p k) k []).1,bif l.2.1 then 8 else 1,h)) else
 bif t==3 then
  (let y:=Zcg p x d
   bif le3 y.2.2.2 then endX p s (g++[y.2.2.1]) h l else (p,s,g++[y.2.2.1],y,4,h)) else
 bif decide (t<x.2.2.2)&& !(t==6) then (p,s,g,x,t+1,h) else endX p s g h l
abbrev PinT:=QT11
def ZZb (c:Zhm) (t:Int):Cyc:=bif t==9 then (0,c.1.2.1.2.2.2.2.2.2.2.2.2,0,0) else c.2.2.2.1
def ZtW (c:Zhm) (l:LnT) (d:Int):PinT:=
 let t:=ZaD c.2.2.2.2.1
 Zmy c.1.1 (bif l.2.2.1 then 10 else t) (ZZb c t) (bif l.2.2.1 then 0 else d) c.1.2.2.1 c.1.2.2.2.2.2.2.2.2.2.2.2.2
theorem ZMC (n:Int):1<=ZaD n/\ZaD n<=9:=by
 unfold ZaD
 by_cases h:n<1\/n>9
 ·have:(decide (n<1)||decide (n>9))=true:=by simpa using h
  rw[this];simp
 ·have:(decide (n<1)||decide (n>9))=false:=by simpa using h
  rw[this];simp only[cond_false];omega
theorem ZwN (c):Z3 c=ZaD c.2.2.2.2.1:=rfl
theorem ZwO (c:Zhm) (s):ZE7 c s=(Zu c.1 s,s,[],(Zj (Zu c.1 s) s []).1,c.2.2.2.2):=rfl
theorem ZXu (c:Zhm) (l:LnT):rEnd c l=endX c.1 c.2.1 c.2.2.1 c.2.2.2.2.2 l:=by
 cases h:(Zj c.1 c.2.1 c.2.2.1).2<;>simp only[rEnd,ZXR,RT.val,h,cond_true,cond_false,ZwO,endX,Zip,Zio,idlX]
theorem ZX7 (chip:Int) (x:Cyc) (i o:Bool):Zmy chip 10 x 0 i o=(10,0,0,false,false,false,(Zmy chip 10 x 0 i o).2.2.2.2.2.2.1,false,false,false,false,false,false,(Zmy chip 10 x 0 i o).2.2.2.2.2.2.2.2.2.2.2.2.2.1,false,false,(Zmy chip 10 x 0 i o).2.2.2.2.2.2.2.2.2.2.2.2.2.2.2.2):=by
 simp only[Zmy,ZFo,RT.val,ZaU]
 generalize (chip==2)=b
 cases b<;>simp
theorem ZwU (c:CpuT):ZO c=((ZO c).1,((ZO c).2.1.1,(ZO c).2.1.2.1,(ZO c).2.1.2.2.1,(ZO c).2.1.2.2.2.1,(ZO c).2.1.2.2.2.2.1,(ZO c).2.1.2.2.2.2.2.1,(ZO c).2.1.2.2.2.2.2.2.1,(ZO c).2.1.2.2.2.2.2.2.2.1,(ZO c).2.1.2.2.2.2.2.2.2.2.1,0),false,false,false,(ZO c).2.2.2.2.2.1,false,false,false,false,false,false,false):=by
 simp only[ZO,ZjD,RT.val,ZaU]
theorem ZWB (c:CpuT):Zza (ZO c) 0=(ZO c,0,[],(1,0,0,4),1,false):=by
 simp only[Zza]
 have:(Zj (ZO c) 0 []).1=(1,0,0,4):=by
  have hp:pcOf (ZO c)=0:=by rw[ZwU];rfl
  simp[Zj,Zgo,Zc,ZjF,RT.val,hp];rfl
 rw[this]
theorem len1 {α:Type} (l:List α) (x:α) (h:l.length+1<=most):Nat.ble l.length most=true/\Nat.ble (l++[x]).length most=true:=by
 rw[Nat.ble_eq,Nat.ble_eq];simp only[List.length_append,List.length_cons,List.length_nil];omega
theorem ZSD (c:Zhm) (d:Int) (hg:c.2.2.1.length+1<=most):(Zir c 3 d).val=some (Zcg c.1 c.2.2.2.1 d,c.2.2.1++[(Zcg c.1 c.2.2.2.1 d).2.2.1]):=by
 have h:=len1 c.2.2.1 (bif ZcG c.2.2.2.1.1 then d else c.2.2.2.1.2.2.1) hg
 simp only[Zir,RT.val,List.nil_append,h.1,h.2,Bool.not_true,Bool.false_or,cond_true,Zcg,bne_self_eq_false,cond_false]
theorem Zme (c:Zhm) (t d:Int) (ht:t≠3):(Zir c t d).val=some (c.2.2.2.1,c.2.2.1):=by
 have:(t !=3)=true:=by simpa using ht
 simp only[Zir,RT.val,this,cond_true]
theorem Z0I (t x:Int):decide (t<x)= !decide (x<=t):=by by_cases h:x<=t<;>simp[h]<;>omega
theorem ZwW (c:Zhm) (l:LnT) (d:Int) (hg:c.2.2.1.length+1<=most):(ZjI c l d).val=some (Zac c l d,ZtW c l d):=by
 obtain⟨t1,t2⟩:=ZMC c.2.2.2.2.1
 have hx:ZZb c (ZaD c.2.2.2.2.1)=(bif ZaD c.2.2.2.2.1==9 then 0 else c.2.2.2.1.1,bif ZaD c.2.2.2.2.1==9 then c.1.2.1.2.2.2.2.2.2.2.2.2 else c.2.2.2.1.2.1,bif ZaD c.2.2.2.2.1==9 then 0 else c.2.2.2.1.2.2.1,bif ZaD c.2.2.2.2.1==9 then 0 else c.2.2.2.1.2.2.2):=by
  unfold ZZb;cases ZaD c.2.2.2.2.1==9<;>simp only[cond_true,cond_false,Bool.not_true,Bool.not_false,Bool.and_true,Bool.and_false,Bool.false_and,Bool.true_and,Bool.or_true,Bool.or_false,Bool.true_or,Bool.false_or]
 have hl:Nat.ble c.2.2.1.length most=true:=(len1 c.2.2.1 0 hg).1
 cases hr:l.2.2.1 with
 |true=>
  simp only[ZjI,RT.val,hr,cond_true,Zac,ZtW,ZWB,ZwN,<-hx]
  rw[<-ZX7,<-ZwU]
 |false=>
  simp only[ZjI,RT.val,hr,cond_false,List.nil_append,hl,cond_true,ZwN,ZwO,ZXu,<-hx,ZtW]
  have:ZaD c.2.2.2.2.1=1\/ZaD c.2.2.2.2.1=2\/ZaD c.2.2.2.2.1=7\/ZaD c.2.2.2.2.1=3\/ZaD c.2.2.2.2.1=4\/ZaD c.2.2.2.2.1=5\/ZaD c.2.2.2.2.1=6\/ZaD c.2.2.2.2.1=8\/ZaD c.2.2.2.2.1=9:=by omega
  have q3:=ZSD (Zm c.1 l,c.2.1,c.2.2.1,c.2.2.2) d hg
  rcases this with h|h|h|h|h|h|h|h|h
  ·simp only[Zac,hr,h,Int.reduceBEq,cond_true,cond_false]
  ·simp only[Zac,hr,h,Int.reduceBEq,cond_true,cond_false,Bool.true_or]
   cases l.1|| !Zao c.2.2.2.1.1<;>simp only[cond_true,cond_false,Bool.not_true,Bool.not_false,Bool.and_true,Bool.and_false,Bool.false_and,Bool.true_and,Bool.or_true,Bool.or_false,Bool.true_or,Bool.false_or]
  ·simp only[Zac,hr,h,Int.reduceBEq,cond_true,cond_false,Bool.or_true]
   cases l.1|| !Zao c.2.2.2.1.1<;>simp only[cond_true,cond_false,Bool.not_true,Bool.not_false,Bool.and_true,Bool.and_false,Bool.false_and,Bool.true_and,Bool.or_true,Bool.or_false,Bool.true_or,Bool.false_or]
  ·have e1:ZeZ (Zm c.1 l,c.2.1,c.2.2.1,c.2.2.2) 3 d=true:=by simp only[ZeZ,q3,okB]
   have e2:ZhJ (Zm c.1 l,c.2.1,c.2.2.1,c.2.2.2) 3 d=(Zcg (Zm c.1 l) c.2.2.2.1 d,c.2.2.1++[(Zcg (Zm c.1 l) c.2.2.2.1 d).2.2.1]):=by simp only[ZhJ,q3,getO]
   simp only[Zac,hr,h,Int.reduceBEq,cond_true,cond_false,Bool.or_self,e1,e2,ZjH,Zno,RT.val]
   rw[show decide ((Zcg (Zm c.1 l) c.2.2.2.1 d).2.2.2<=3)=le3 (Zcg (Zm c.1 l) c.2.2.2.1 d).2.2.2 from rfl]
   cases le3 (Zcg (Zm c.1 l) c.2.2.2.1 d).2.2.2<;>rfl
  ·have q:=Zme (Zm c.1 l,c.2.1,c.2.2.1,c.2.2.2) 4 d (by decide)
   have e1:ZeZ (Zm c.1 l,c.2.1,c.2.2.1,c.2.2.2) 4 d=true:=by simp only[ZeZ,q,okB]
   have e2:ZhJ (Zm c.1 l,c.2.1,c.2.2.1,c.2.2.2) 4 d=(c.2.2.2.1,c.2.2.1):=by simp only[ZhJ,q,getO]
   simp only[Zac,hr,h,Int.reduceBEq,cond_true,cond_false,Bool.or_self,Bool.not_false,Bool.and_true,e1,e2,ZjH,Zno,RT.val,show IntKind.wrap .i64 (4+1)=4+1 from rfl,Z0I]
   cases decide (c.2.2.2.1.2.2.2<=4)<;>rfl
  ·have q:=Zme (Zm c.1 l,c.2.1,c.2.2.1,c.2.2.2) 5 d (by decide)
   have e1:ZeZ (Zm c.1 l,c.2.1,c.2.2.1,c.2.2.2) 5 d=true:=by simp only[ZeZ,q,okB]
   have e2:ZhJ (Zm c.1 l,c.2.1,c.2.2.1,c.2.2.2) 5 d=(c.2.2.2.1,c.2.2.1):=by simp only[ZhJ,q,getO]
   simp only[Zac,hr,h,Int.reduceBEq,cond_true,cond_false,Bool.or_self,Bool.not_false,Bool.and_true,e1,e2,ZjH,Zno,RT.val,show IntKind.wrap .i64 (5+1)=5+1 from rfl,Z0I]
   cases decide (c.2.2.2.1.2.2.2<=5)<;>rfl
  ·have q:=Zme (Zm c.1 l,c.2.1,c.2.2.1,c.2.2.2) 6 d (by decide)
   have e1:ZeZ (Zm c.1 l,c.2.1,c.2.2.1,c.2.2.2) 6 d=true:=by simp only[ZeZ,q,okB]
   have e2:ZhJ (Zm c.1 l,c.2.1,c.2.2.1,c.2.2.2) 6 d=(c.2.2.2.1,c.2.2.1):=by simp only[ZhJ,q,getO]
   simp only[Zac,hr,h,Int.reduceBEq,cond_true,cond_false,Bool.or_self,Bool.not_true,Bool.and_false,e1,e2,ZjH,Zno,RT.val]
  ·simp only[Zac,hr,h,Int.reduceBEq,cond_true,cond_false,Bool.or_self,Zip,Zio,RT.val,idlX]
   cases l.2.1<;>rfl
  ·have hb:(ZfP (Zm c.1 l) l !=0)= !(ZfP (Zm c.1 l) l==0):=rfl
   simp only[Zac,hr,h,Int.reduceBEq,cond_true,cond_false,Bool.or_self,hb]
   cases hk:(ZfP (Zm c.1 l) l==0)<;>rfl
def ZM0 (c:Zhm):Bool:=Nat.ble (c.2.2.1.length+1) most
theorem Zmh {c:Zhm}:ZM0 c=true↔c.2.2.1.length+1<=most:=by simp[ZM0]
def clkX (c:Zhm) (l:LnT) (d:Int):Zhm×PinT:=(Zac c l d,ZtW c l d)
def ZFQ:Entry:=Zg ZtI Zlk (λa=>some (ZM0 a.1)) (λa=>clkX a.1 a.2.1 a.2.2)
theorem ZIX:Za Tryz.prog 27 ZFQ:=ZOn.pure_congr
 (λa h hp=>by have h1:=ZwW a.1 a.2.1 a.2.2 (Zmh.1 (by simpa using hp));simp[ZOo,h1,okB])
 (λa h hp=>by have h1:=ZwW a.1 a.2.1 a.2.2 (Zmh.1 (by simpa using hp));simp only[ZVS,h1,getO,clkX])
def newX (chip:Int):Zhm:=Zza (ZO (chip,(0,0,0,0,0,0,0,(false,false,false,false,false,false,false),0,0),false,false,false,0,false,false,false,false,false,false,false)) 0
theorem ZXr (chip:Int):rNew chip=newX chip:=by
 unfold newX
 rw[ZWB]
 simp only[rNew,ZXI,RT.val,ZO,ZjD,ZaU]
def ZVz:Entry:=Zg ZNP ZNQ (λ_=>none) (λa=>newX a)
theorem ZS9:Za Tryz.prog 80 ZVz:=ZNO.tot (λa h=>by simp) (λa h=>ZXr _)
abbrev ZGX:List Sh:=[Sh.one (R.int i64),Sh.one (R.int i64)]
abbrev Zvp:Rs:=Rs.one (Sh.one (R.int i64))
def ZoX (x:Int) (n:Int):RT (Option (Int)):=
 .br (IntKind.u64.wrap n !=0) (.leaf (some (i64.wrap (Int.tmod (IntKind.u64.wrap x) (IntKind.u64.wrap n))))) (.leaf none)
def ZGY (x:Int) (n:Int):Int:=getO Zvp.dflt (ZoX x n).val
def Zvq (x:Int) (n:Int):Bool:=okB (ZoX x n).val
def ZQL:Entry:=Zg ZGX Zvp (λa=>some (Zvq a.1 a.2)) (λa=>ZGY a.1 a.2)
theorem ZQJ:Za prog 24 ZQL:=
 pureP 31 [] [] ZGX Zvp trivial Tryz.func24 Tryz.call24 trivial (t:=λa=>ZoX a.1 a.2)
abbrev ZC8:R:=R.pair (R.sl (R.int i64)) (R.int i64)
abbrev ZQm:List Sh:=[Sh.one (R.int i64)]
abbrev ZC7:Rs:=Rs.one (Sh.one (R.int i64))
def ZoF (s:List Int×Int) (n:Int):RT (Option (QT20)):=
 let x1:=Zf (i64.wrap (i64.wrap (s.2+1)-1)) (List.length s.1)
 let x2:Int:=R.get (R.int i64) s.1 (i64.wrap (i64.wrap (s.2+1)-1))
 .br (decide (s.2>=iN (List.length s.1))) (.leaf (some ((0,s.1,i64.wrap (s.2+1))))) (.br (!x1||Zvq x2 n) (.br (x1) (.leaf (some ((ZGY x2 n,s.1,i64.wrap (s.2+1))))) (.leaf none)) (.leaf none))
def Zd (s:List Int×Int) (n:Int):QT20:=getO (ZC7.dflt,ZC8.dflt) (ZoF s n).val
def Zp (s:List Int×Int) (n:Int):Bool:=okB (ZoF s n).val
def ZcK:Entry:=boxE ZC8 ZQm ZC7 (λa=>some (Zp a.1 a.2)) (λa=>Zd a.1 a.2)
theorem Zbf:Za prog 46 ZcK:=
 Zcs (P:=prog) (n:=31) (k:=8) (l:=[(24,ZQL)]) (ol:=[]) ⟨ZQJ,Tv⟩ Tryz.func46 rfl (by kernel_rfl) Tryz.call46 trivial (rb:=ZC8) (ts:=ZQm) (rs:=ZC7) (t:=λa=>ZoF a.1 a.2) (λa=>by kernel_rfl)
abbrev ZDg:R:=R.pair (R.sl (R.int i64)) (R.int i64)
abbrev ZQu:List Sh:=[]
abbrev ZDf:Rs:=Rs.one (Sh.one (R.int u8))
def ZoM (s:List Int×Int):RT (Option (QT20)):=
 let x1:List Int:=[0,1,127,128,255,15,16,153,154,9,102,254,129,85,170,64]
 .br (Zp s 512) (.br (!decide ((Zd s 512).1>=256)||Zf (Int.tmod (Zd s 512).1 16) (List.length x1)) (.br (decide ((Zd s 512).1>=256)) (.leaf (some ((R.get (R.int u8) x1 (Int.tmod (Zd s 512).1 16),(Zd s 512).2)))) (.leaf (some ((u8.wrap (Zd s 512).1,(Zd s 512).2))))) (.leaf none)) (.leaf none)
def ZcT (s:List Int×Int):QT20:=getO (ZDf.dflt,ZDg.dflt) (ZoM s).val
def Zgv (s:List Int×Int):Bool:=okB (ZoM s).val
def Zyh:Entry:=boxE ZDg ZQu ZDf (λa=>some (Zgv a.1)) (λa=>ZcT a.1)
theorem Zlu:Za prog 108 Zyh:=
 Zcs (P:=prog) (n:=15) (k:=8) (l:=[(46,ZcK)]) (ol:=[]) ⟨Zbf,Tv⟩ Tryz.func108 rfl (by kernel_rfl) Tryz.call108 trivial (rb:=ZDg) (ts:=ZQu) (rs:=ZDf) (t:=λa=>ZoM a.1) (λa=>by kernel_rfl)
abbrev ZC1:R:=R.pair (R.sl (R.int i64)) (R.int i64)
abbrev ZQk:List Sh:=[]
abbrev ZC0:Rs:=Rs.one (Sh.one (R.int u16))
def ZiO (s:List Int×Int):RT (Option (QT20)):=
 let x1:List Int:=[0,1,65535,65534,32767,32768,255,256]
 let x2:= !(Zd s 5).1==0||(!Zp (Zd s 5).2 8||Zf (Zd (Zd s 5).2 8).1 (List.length x1))
 let x3:= !x2
 let x4:= !(Zd s 5).1==0||Zp (Zd s 5).2 8
 .br (Zp s 5) (.br (x3||(!x4||((Zd s 5).1==0||(!(Zd s 5).1==1||Zp (Zd s 5).2 65536)))) (.br (x3||x4) (.br (x2) (.br ((Zd s 5).1==0) (.leaf (some ((R.get (R.int u16) x1 (Zd (Zd s 5).2 8).1,(Zd (Zd s 5).2 8).2)))) (.br ((Zd s 5).1==1) (.leaf (some ((u16.wrap (Zd (Zd s 5).2 65536).1,(Zd (Zd s 5).2 65536).2)))) (.br (Zp (Zd s 5).2 64) (.leaf (some ((u16.wrap (Zd (Zd s 5).2 64).1,(Zd (Zd s 5).2 64).2)))) (.leaf none)))) (.leaf none)) (.leaf none)) (.leaf none)) (.leaf none)
def ZaV (s:List Int×Int):QT20:=getO (ZC0.dflt,ZC1.dflt) (ZiO s).val
def ZfM (s:List Int×Int):Bool:=okB (ZiO s).val
def ZQl:Entry:=boxE ZC1 ZQk ZC0 (λa=>some (ZfM a.1)) (λa=>ZaV a.1)
theorem ZGG:Za prog 137 ZQl:=
 Zcs (P:=prog) (n:=4135) (k:=8) (l:=[(46,ZcK)]) (ol:=[]) ⟨Zbf,Tv⟩ Tryz.func137 rfl (by kernel_rfl) Tryz.call137 trivial (rb:=ZC1) (ts:=ZQk) (rs:=ZC0) (t:=λa=>ZiO a.1) (λa=>by kernel_rfl)
abbrev ZDe:R:=R.pair (R.sl (R.int i64)) (R.int i64)
abbrev ZQs:List Sh:=[]
abbrev ZDd:Rs:=Rs.one (Sh.one (R.int i64))
def Zyg (s:List Int×Int):RT (Option (QT20)):=
 .br (Zp s 2) (.leaf (some ((i64.wrap (1+(Zd s 2).1),(Zd s 2).2)))) (.leaf none)
def Za4 (s:List Int×Int):QT20:=getO (ZDd.dflt,ZDe.dflt) (Zyg s).val
def ZoL (s:List Int×Int):Bool:=okB (Zyg s).val
def ZQt:Entry:=boxE ZDe ZQs ZDd (λa=>some (ZoL a.1)) (λa=>Za4 a.1)
theorem ZGM:Za prog 72 ZQt:=
 Zcs (P:=prog) (n:=7) (k:=8) (l:=[(46,ZcK)]) (ol:=[]) ⟨Zbf,Tv⟩ Tryz.func72 rfl (by kernel_rfl) Tryz.call72 trivial (rb:=ZDe) (ts:=ZQs) (rs:=ZDd) (t:=λa=>Zyg a.1) (λa=>by kernel_rfl)
abbrev ZoE:R:=R.pair (R.sl (R.int i64)) (R.int i64)
abbrev Zyd:List Sh:=[]
abbrev ZoD:Rs:=Rs.one (Sh.one (R.int u8))
def Zfw (s:List Int×Int):RT (Option (QT20)):=
 let x1:List Int:=[251,243,118,205,201,197,227,211,219,54,52,32,48,194,202,255,62,49]
 .br (Zp s 3) (.br (!decide ((Zd s 3).1>0)||Zp (Zd s 3).2 256) (.br (decide ((Zd s 3).1>0)) (.leaf (some ((u8.wrap (Zd (Zd s 3).2 256).1,(Zd (Zd s 3).2 256).2)))) (.br (!Zp (Zd s 3).2 18||Zf (Zd (Zd s 3).2 18).1 (List.length x1)) (.br (Zp (Zd s 3).2 18) (.leaf (some ((R.get (R.int u8) x1 (Zd (Zd s 3).2 18).1,(Zd (Zd s 3).2 18).2)))) (.leaf none)) (.leaf none))) (.leaf none)) (.leaf none)
def Zau (s:List Int×Int):QT20:=getO (ZoD.dflt,ZoE.dflt) (Zfw s).val
def Zcd (s:List Int×Int):Bool:=okB (Zfw s).val
def Zg6:Entry:=boxE ZoE Zyd ZoD (λa=>some (Zcd a.1)) (λa=>Zau a.1)
theorem Ze1:Za prog 109 Zg6:=
 Zcs (P:=prog) (n:=7) (k:=8) (l:=[(46,ZcK)]) (ol:=[]) ⟨Zbf,Tv⟩ Tryz.func109 rfl (by kernel_rfl) Tryz.call109 trivial (rb:=ZoE) (ts:=Zyd) (rs:=ZoD) (t:=λa=>Zfw a.1) (λa=>by kernel_rfl)
def NB (s:List Int×Int) (k:Int):Prop:=0<=s.2/\s.2<=k
theorem ZQK (x n:Int) (h0:0<n) (h1:n<=4611686018427387904):Zvq x n=true/\ZGY x n=(x%18446744073709551616)%n:=by
 have e:IntKind.wrap .u64 n=n:=ZlG ⟨by simp[IntKind.min,IntKind.signed];omega,by simp[IntKind.max,IntKind.signed,IntKind.bits];omega⟩
 have e2:IntKind.wrap .u64 x=x%18446744073709551616:=by simp[IntKind.wrap,IntKind.signed,IntKind.bits]
 have hn:(n !=0)=true:=by simp;omega
 have h2:0<=x%18446744073709551616:=Int.emod_nonneg _ (by decide)
 have h3:=Int.emod_nonneg (x%18446744073709551616) (b:=n) (by omega)
 have h4:=Int.emod_lt_of_pos (x%18446744073709551616) (b:=n) h0
 have hv:(ZoX x n).val=some ((x%18446744073709551616)%n):=by
  simp only[ZoX,RT.val,e,e2,hn,cond_true,Int.tmod_eq_emod_of_nonneg h2]
  rw[wrap_i64 _ (by omega) (by omega)]
 exact⟨by simp only[Zvq,hv];rfl,by simp only[ZGY,hv,getO]⟩
theorem Zy {s:List Int×Int} {k:Int} (h:NB s k) (hk:k<=1000000) (n:Int) (h0:0<n) (h1:n<=4611686018427387904):
  Zp s n=true/\NB (Zd s n).2 (k+1)/\0<=(Zd s n).1/\(Zd s n).1<n:=by
 obtain⟨ha,hb⟩:=h
 have e1:IntKind.wrap .i64 (s.2+1)=s.2+1:=wrap_i64 _ (by omega) (by omega)
 have e2:IntKind.wrap .i64 s.2=s.2:=wrap_i64 _ (by omega) (by omega)
 by_cases hl:(s.1.length:Int)<=s.2
 ·have hv:(ZoF s n).val=some (0,s.1,s.2+1):=by simp[ZoF,RT.val,iN,hl,e1]
  simp only[Zp,Zd,hv,okB,getO,NB]
  exact⟨trivial,⟨by omega,by omega⟩,by omega,h0⟩
 ·have hr:Zf s.2 s.1.length=true:=ZK.2 ⟨ha,by omega⟩
  obtain⟨p1,p2⟩:=ZQK (R.get (R.int i64) s.1 s.2) n h0 h1
  have h3:=Int.emod_nonneg (R.get (R.int i64) s.1 s.2%18446744073709551616) (b:=n) (by omega)
  have h4:=Int.emod_lt_of_pos (R.get (R.int i64) s.1 s.2%18446744073709551616) (b:=n) h0
  have hv:(ZoF s n).val=some ((R.get (R.int i64) s.1 s.2%18446744073709551616)%n,s.1,s.2+1):=by simp[ZoF,RT.val,iN,hl,e1,e2,hr,p1,p2]
  simp only[Zp,Zd,hv,okB,getO,NB]
  exact⟨trivial,⟨by omega,by omega⟩,h3,h4⟩
theorem Zlv {s:List Int×Int} {k:Int} (h:NB s k) (hk:k<=1000000):Zgv s=true/\NB (ZcT s).2 (k+1)/\inR .u8 (ZcT s).1:=by
 obtain⟨c,b,d0,d1⟩:=Zy h hk 512 (by decide) (by decide)
 have m0:0<=(Zd s 512).1%16:=Int.emod_nonneg _ (by decide)
 have m1:(Zd s 512).1%16<16:=Int.emod_lt_of_pos _ (by decide)
 have ht:Int.tmod (Zd s 512).1 16=(Zd s 512).1%16:=Int.tmod_eq_emod_of_nonneg d0
 by_cases hn:256<=(Zd s 512).1
 ·have hv:(ZoM s).val=some (R.get (R.int u8) [0,1,127,128,255,15,16,153,154,9,102,254,129,85,170,64] ((Zd s 512).1%16),(Zd s 512).2):=by
   simp[ZoM,RT.val,c,hn,ht,Zf,m0,m1]
  simp only[Zgv,ZcT,hv,okB,getO]
  refine⟨trivial,b,?_⟩
  have hall:∀i:Nat,i<16->inR .u8 (([0,1,127,128,255,15,16,153,154,9,102,254,129,85,170,64]:List Int).getD i 0):=by
   intro i hi
   have:∀i:Fin 16,decide (0<=([0,1,127,128,255,15,16,153,154,9,102,254,129,85,170,64]:List Int).getD i 0)&&decide (([0,1,127,128,255,15,16,153,154,9,102,254,129,85,170,64]:List Int).getD i 0<=255):=by decide
   have:=this ⟨i,hi⟩
   rw[ZgB];simpa using this
  exact hall ((Zd s 512).1%16).toNat (by omega)
 ·have hv:(ZoM s).val=some (IntKind.wrap .u8 (Zd s 512).1,(Zd s 512).2):=by simp[ZoM,RT.val,c,hn]
  simp only[Zgv,ZcT,hv,okB,getO]
  exact⟨trivial,b,Zbh _ _⟩
theorem ZGH {s:List Int×Int} {k:Int} (h:NB s k) (hk:k<=900000):ZfM s=true/\NB (ZaV s).2 (k+2)/\inR .u16 (ZaV s).1:=by
 obtain⟨c,b,d0,d1⟩:=Zy h (by omega) 5 (by decide) (by decide)
 obtain⟨c8,b8,e0,e1⟩:=Zy b (by omega) 8 (by decide) (by decide)
 obtain⟨c6,b6,_⟩:=Zy b (by omega) 65536 (by decide) (by decide)
 obtain⟨c4,b4,_⟩:=Zy b (by omega) 64 (by decide) (by decide)
 have w:∀{t:List Int×Int},NB t (k+1+1)->NB t (k+2):=λh=>⟨h.1,by have:=h.2;omega⟩
 have hr:Zf (Zd (Zd s 5).2 8).1 8=true:=ZK.2 ⟨e0,by omega⟩
 by_cases h0:(Zd s 5).1=0
 ·have hv:(ZiO s).val=some (R.get (R.int u16) [0,1,65535,65534,32767,32768,255,256] (Zd (Zd s 5).2 8).1,(Zd (Zd s 5).2 8).2):=by
   simp[ZiO,RT.val,c,h0,c8,hr]
  simp only[ZfM,ZaV,hv,okB,getO]
  refine⟨trivial,w b8,?_⟩
  have hall:∀i:Nat,i<8->inR .u16 (([0,1,65535,65534,32767,32768,255,256]:List Int).getD i 0):=by
   intro i hi
   have:∀i:Fin 8,decide (0<=([0,1,65535,65534,32767,32768,255,256]:List Int).getD i 0)&&decide (([0,1,65535,65534,32767,32768,255,256]:List Int).getD i 0<=65535):=by decide
   have:=this ⟨i,hi⟩
   simp only[Bool.and_eq_true,decide_eq_true_eq] at this
   exact⟨by simpa [IntKind.min,IntKind.signed] using this.1,by simpa [IntKind.max,IntKind.signed,IntKind.bits] using this.2⟩
  exact hall (Zd (Zd s 5).2 8).1.toNat (by omega)
 ·by_cases h1:(Zd s 5).1=1
  ·have hv:(ZiO s).val=some (IntKind.wrap .u16 (Zd (Zd s 5).2 65536).1,(Zd (Zd s 5).2 65536).2):=by simp[ZiO,RT.val,c,h1,c6]
   simp only[ZfM,ZaV,hv,okB,getO]
   exact⟨trivial,w b6,Zbh _ _⟩
  ·have hv:(ZiO s).val=some (IntKind.wrap .u16 (Zd (Zd s 5).2 64).1,(Zd (Zd s 5).2 64).2):=by
    have g0:((Zd s 5).1==0)=false:=by simpa using h0
    have g1:((Zd s 5).1==1)=false:=by simpa using h1
    simp[ZiO,RT.val,c,g0,g1,c4]
   simp only[ZfM,ZaV,hv,okB,getO]
   exact⟨trivial,w b4,Zbh _ _⟩
theorem ZT4 {s:List Int×Int} {k:Int} (h:NB s k) (hk:k<=1000000):ZoL s=true/\NB (Za4 s).2 (k+1)/\((Za4 s).1=1\/(Za4 s).1=2):=by
 obtain⟨c,b,d0,d1⟩:=Zy h hk 2 (by decide) (by decide)
 have hv:(Zyg s).val=some (1+(Zd s 2).1,(Zd s 2).2):=by simp[Zyg,RT.val,c];rw[wrap_i64 _ (by omega) (by omega)]
 simp only[ZoL,Za4,hv,okB,getO]
 exact⟨trivial,b,by omega⟩
theorem ZjW {s:List Int×Int} {k:Int} (h:NB s k) (hk:k<=900000):Zcd s=true/\NB (Zau s).2 (k+2)/\inR .u8 (Zau s).1:=by
 obtain⟨c,b,d0,d1⟩:=Zy h (by omega) 3 (by decide) (by decide)
 have w:∀{t:List Int×Int},NB t (k+1+1)->NB t (k+2):=λh=>⟨h.1,by have:=h.2;omega⟩
 by_cases hn:0<(Zd s 3).1
 ·have hk':k+1<=1000001:=by omega
  obtain⟨c2,b2,_⟩:=Zy b (by omega) 256 (by decide) (by decide)
  have hv:(Zfw s).val=some (IntKind.wrap .u8 (Zd (Zd s 3).2 256).1,(Zd (Zd s 3).2 256).2):=by simp[Zfw,RT.val,c,hn,c2]
  simp only[Zcd,Zau,hv,okB,getO]
  exact⟨trivial,w b2,Zbh _ _⟩
 ·obtain⟨c2,b2,e0,e1⟩:=Zy b (by omega) 18 (by decide) (by decide)
  have hr:Zf (Zd (Zd s 3).2 18).1 18=true:=ZK.2 ⟨e0,by omega⟩
  have hv:(Zfw s).val=some (R.get (R.int u8) [251,243,118,205,201,197,227,211,219,54,52,32,48,194,202,255,62,49] (Zd (Zd s 3).2 18).1,(Zd (Zd s 3).2 18).2):=by
   simp[Zfw,RT.val,c,hn,c2,hr]
  simp only[Zcd,Zau,hv,okB,getO]
  refine⟨trivial,w b2,?_⟩
  have hall:∀i:Nat,i<18->inR .u8 (([251,243,118,205,201,197,227,211,219,54,52,32,48,194,202,255,62,49]:List Int).getD i 0):=by
   intro i hi
   have:∀i:Fin 18,decide (0<=([251,243,118,205,201,197,227,211,219,54,52,32,48,194,202,255,62,49]:List Int).getD i 0)&&decide (([251,243,118,205,201,197,227,211,219,54,52,32,48,194,202,255,62,49]:List Int).getD i 0<=255):=by decide
   have:=this ⟨i,hi⟩
   rw[ZgB];simpa using this
  exact hall (Zd (Zd s 3).2 18).1.toNat (by omega)
theorem ZRc (l:List Int):NB (l,0) 0:=⟨by simp,by simp⟩
end
end Go.Proofs.YtghoimllhpjkjaaGreat
