import Derived.Test.YtpnjbfjomebppaaGreatFinRX
import Derived.Test.YtpnjbfjomebppaaGreatFin1
import Derived.Test.YtpnjbfjomebppaaGreatFin2
import Derived.Test.YtpnjbfjomebppaaGreatFin3
import Derived.Test.YtpnjbfjomebppaaGreatFin4
open Go Go.S3 Go.Proofs
set_option linter.unusedVariables false
set_option linter.unusedSimpArgs false
set_option maxRecDepth 100000
namespace Go.Proofs.YtpnjbfjomebppaaGreat
noncomputable section
theorem fr_1 (c) (s:Int) (g:List Int) (l) (hb:∀j:Nat,inR .u8 (g[j]?.getD 0)) (n:Int) (hk:(Zc c.1 (g.getD 0 0)).1=n):(n=1->(Zv9 c s g l).val=some (finX c s g l))/\(n=6->(Zv4 c s g l).val=some (finX c s g l))/\(n=10->(ZpE c s g l).val=some (finX c s g l))/\(n=17->(Zpx c s g l).val=some (finX c s g l))/\(n=21->(Zpt c s g l).val=some (finX c s g l))/\(n=28->(Zpm c s g l).val=some (finX c s g l))/\(n=33->(Zph c s g l).val=some (finX c s g l))/\(n=37->(Zpd c s g l).val=some (finX c s g l))/\(n=43->(Zo7 c s g l).val=some (finX c s g l)):=by
 refine⟨?_,?_,?_,?_,?_,?_,?_,?_,?_⟩;all_goals intro e;subst e
 all_goals simp only[Zv9,Zv4,ZpE,Zpx,Zpt,Zpm,Zph,Zpd,Zo7,RT.val,rgx]
 all_goals simp only[qat0,mat0,qat1,mat1,rg0,hk,Zz,Zag,ZaM,ZY,ZZ,ZL,ZM,ZbK,ZbN,Zf6,Zf5,Zy,Zcm,finX,spOf]
 all_goals generalize Za s=bi
 all_goals cases bi with
 |true=>simp[wPC,wSP]
 |false=>
  generalize (s==5)=bs;simp only[finI,hk,finR,wPC,wSP,wA,wF,fCY,fVCY,ZeU,flOf,ZO,pcOf,ZbB];generalize Zc c.1 (g.getD 0 0)=i at hk|-;simp (config:={implicitDefEqProofs:=false}) [Zc2,ZcW,ZdL,hk,ZeW,ZeY,ZeX,ZiG,ZiH,ZdI,ZdH,ZiK,hb]
theorem fr_2 (c) (s:Int) (g:List Int) (l) (hb:∀j:Nat,inR .u8 (g[j]?.getD 0)) (n:Int) (hk:(Zc c.1 (g.getD 0 0)).1=n):(n=3->(Zv7 c s g l).val=some (finX c s g l))/\(n=7->(Zv3 c s g l).val=some (finX c s g l))/\(n=11->(ZpD c s g l).val=some (finX c s g l))/\(n=18->(Zpw c s g l).val=some (finX c s g l))/\(n=22->(Zps c s g l).val=some (finX c s g l))/\(n=29->(Zpl c s g l).val=some (finX c s g l))/\(n=34->(Zpg c s g l).val=some (finX c s g l))/\(n=40->(Zpa c s g l).val=some (finX c s g l))/\(n=44->(Zo6 c s g l).val=some (finX c s g l)):=by
 refine⟨?_,?_,?_,?_,?_,?_,?_,?_,?_⟩;all_goals intro e;subst e
 all_goals simp only[Zv7,Zv3,ZpD,Zpw,Zps,Zpl,Zpg,Zpa,Zo6,RT.val,rgx]
 all_goals simp only[qat0,mat0,qat1,mat1,rg0,hk,Zz,Zag,ZaM,ZY,ZZ,ZL,ZM,ZbK,ZbN,Zf6,Zf5,Zy,Zcm,finX,spOf]
 all_goals generalize Za s=bi
 all_goals cases bi with
 |true=>simp[wPC,wSP]
 |false=>
  generalize (s==5)=bs;simp only[finI,hk,finR,wPC,wSP,wA,wF,fCY,fVCY,ZeU,flOf,ZO,pcOf,ZbB];generalize Zc c.1 (g.getD 0 0)=i at hk|-;simp (config:={implicitDefEqProofs:=false}) [Zc2,ZcW,ZdL,hk,ZeW,ZeY,ZeX,ZiG,ZiH,ZdI,ZdH,ZiK,hb]
theorem fr_3 (c) (s:Int) (g:List Int) (l) (hb:∀j:Nat,inR .u8 (g[j]?.getD 0)) (n:Int) (hk:(Zc c.1 (g.getD 0 0)).1=n):(n=4->(Zv6 c s g l).val=some (finX c s g l))/\(n=8->(Zv2 c s g l).val=some (finX c s g l))/\(n=13->(ZpB c s g l).val=some (finX c s g l))/\(n=19->(Zpv c s g l).val=some (finX c s g l))/\(n=23->(Zpr c s g l).val=some (finX c s g l))/\(n=30->(Zpk c s g l).val=some (finX c s g l))/\(n=35->(Zpf c s g l).val=some (finX c s g l))/\(n=41->(Zo9 c s g l).val=some (finX c s g l))/\(n=46->(Zo4 c s g l).val=some (finX c s g l)):=by
 refine⟨?_,?_,?_,?_,?_,?_,?_,?_,?_⟩;all_goals intro e;subst e
 all_goals simp only[Zv6,Zv2,ZpB,Zpv,Zpr,Zpk,Zpf,Zo9,Zo4,RT.val,rgx]
 all_goals simp only[qat0,mat0,qat1,mat1,rg0,hk,Zz,Zag,ZaM,ZY,ZZ,ZL,ZM,ZbK,ZbN,Zf6,Zf5,Zy,Zcm,finX,spOf]
 all_goals generalize Za s=bi
 all_goals cases bi with
 |true=>simp[wPC,wSP]
 |false=>
  generalize (s==5)=bs;simp only[finI,hk,finR,wPC,wSP,wA,wF,fCY,fVCY,ZeU,flOf,ZO,pcOf,ZbB];generalize Zc c.1 (g.getD 0 0)=i at hk|-;simp (config:={implicitDefEqProofs:=false}) [Zc2,ZcW,ZdL,hk,ZeW,ZeY,ZeX,ZiG,ZiH,ZdI,ZdH,ZiK,hb]
theorem fr_4 (c) (s:Int) (g:List Int) (l) (hb:∀j:Nat,inR .u8 (g[j]?.getD 0)) (n:Int) (hk:(Zc c.1 (g.getD 0 0)).1=n):(n=5->(Zv5 c s g l).val=some (finX c s g l))/\(n=9->(Zv1 c s g l).val=some (finX c s g l))/\(n=16->(Zpy c s g l).val=some (finX c s g l))/\(n=20->(Zpu c s g l).val=some (finX c s g l))/\(n=27->(Zpn c s g l).val=some (finX c s g l))/\(n=32->(Zpi c s g l).val=some (finX c s g l))/\(n=36->(Zpe c s g l).val=some (finX c s g l))/\(n=42->(Zo8 c s g l).val=some (finX c s g l))/\(n=47->(Zo3 c s g l).val=some (finX c s g l)):=by
 refine⟨?_,?_,?_,?_,?_,?_,?_,?_,?_⟩;all_goals intro e;subst e
 all_goals simp only[Zv5,Zv1,Zpy,Zpu,Zpn,Zpi,Zpe,Zo8,Zo3,RT.val,rgx]
 all_goals simp only[qat0,mat0,qat1,mat1,rg0,hk,Zz,Zag,ZaM,ZY,ZZ,ZL,ZM,ZbK,ZbN,Zf6,Zf5,Zy,Zcm,finX,spOf]
 all_goals generalize Za s=bi
 all_goals cases bi with
 |true=>simp[wPC,wSP]
 |false=>
  generalize (s==5)=bs;simp only[finI,hk,finR,wPC,wSP,wA,wF,fCY,fVCY,ZeU,flOf,ZO,pcOf,ZbB];generalize Zc c.1 (g.getD 0 0)=i at hk|-;simp (config:={implicitDefEqProofs:=false}) [Zc2,ZcW,ZdL,hk,ZeW,ZeY,ZeX,ZiG,ZiH,ZdI,ZdH,ZiK,hb]
theorem fr_5 (c) (s:Int) (g:List Int) (l) (hb:∀j:Nat,inR .u8 (g[j]?.getD 0)) (n:Int) (hk:(Zc c.1 (g.getD 0 0)).1=n):(n=2->(Zv8 c s g l).val=some (finX c s g l))/\(n=12->(ZpC c s g l).val=some (finX c s g l)):=by
 refine⟨?_,?_⟩;all_goals intro e;subst e
 all_goals simp only[Zv8,ZpC,RT.val,rgx]
 all_goals simp only[qat0,mat0,qat1,mat1,rg0,hk,Zz,Zag,ZaM,ZY,ZZ,ZL,ZM,ZbK,ZbN,Zf6,Zf5,Zy,Zcm,finX,spOf]
 all_goals generalize Za s=bi
 all_goals cases bi with
 |true=>simp[wPC,wSP]
 |false=>
  generalize (s==5)=bs;simp only[finI,hk,finR,wPC,wSP,wA,wF,fCY,fVCY,ZeU,flOf,ZO,pcOf,ZbB];generalize Zc c.1 (g.getD 0 0)=i at hk|-;generalize (i.2.2.2.1==6)=b0;cases b0<;>simp (config:={implicitDefEqProofs:=false}) [Zc2,ZcW,ZdL,hk,ZeW,ZeY,ZeX,ZiG,ZiH,ZdI,ZdH,ZiK,hb]
theorem fr_6 (c) (s:Int) (g:List Int) (l) (hb:∀j:Nat,inR .u8 (g[j]?.getD 0)) (n:Int) (hk:(Zc c.1 (g.getD 0 0)).1=n):(n=14->(ZpA c s g l).val=some (finX c s g l))/\(n=15->(Zpz c s g l).val=some (finX c s g l)):=by
 refine⟨?_,?_⟩;all_goals intro e;subst e
 all_goals simp only[ZpA,Zpz,RT.val,rgx]
 all_goals simp only[qat0,mat0,qat1,mat1,rg0,hk,Zz,Zag,ZaM,ZY,ZZ,ZL,ZM,ZbK,ZbN,Zf6,Zf5,Zy,Zcm,finX,spOf]
 all_goals generalize Za s=bi
 all_goals cases bi with
 |true=>simp[wPC,wSP]
 |false=>
  generalize (s==5)=bs;simp only[finI,hk,finR,wPC,wSP,wA,wF,fCY,fVCY,ZeU,flOf,ZO,pcOf,ZbB];generalize Zc c.1 (g.getD 0 0)=i at hk|-;generalize (i.2.2.1==6)=b0;cases b0<;>simp (config:={implicitDefEqProofs:=false}) [Zc2,ZcW,ZdL,hk,ZeW,ZeY,ZeX,ZiG,ZiH,ZdI,ZdH,ZiK,hb]
theorem fr_7 (c) (s:Int) (g:List Int) (l) (hb:∀j:Nat,inR .u8 (g[j]?.getD 0)) (n:Int) (hk:(Zc c.1 (g.getD 0 0)).1=n):(n=24->(Zpq c s g l).val=some (finX c s g l))/\(n=25->(Zpp c s g l).val=some (finX c s g l))/\(n=26->(Zpo c s g l).val=some (finX c s g l))/\(n=45->(Zo5 c s g l).val=some (finX c s g l)):=by
 refine⟨?_,?_,?_,?_⟩;all_goals intro e;subst e
 all_goals simp only[Zpq,Zpp,Zpo,Zo5,RT.val,rgx]
 all_goals simp only[qat0,mat0,qat1,mat1,rg0,hk,Zz,Zag,ZaM,ZY,ZZ,ZL,ZM,ZbK,ZbN,Zf6,Zf5,Zy,Zcm,finX,spOf]
 all_goals generalize Za s=bi
 all_goals cases bi with
 |true=>simp[wPC,wSP]
 |false=>
  generalize (s==5)=bs;simp only[finI,hk,finR,wPC,wSP,wA,wF,fCY,fVCY,ZeU,flOf,ZO,pcOf,ZbB];generalize Zc c.1 (g.getD 0 0)=i at hk|-;generalize Zf4 _ _=b0;cases b0<;>simp (config:={implicitDefEqProofs:=false}) [Zc2,ZcW,ZdL,hk,ZeW,ZeY,ZeX,ZiG,ZiH,ZdI,ZdH,ZiK,hb]
theorem fr_8 (c) (s:Int) (g:List Int) (l) (hb:∀j:Nat,inR .u8 (g[j]?.getD 0)) (n:Int) (hk:(Zc c.1 (g.getD 0 0)).1=n):(n=31->(Zpj c s g l).val=some (finX c s g l)):=by
 skip
 all_goals intro e;subst e
 all_goals simp only[Zpj,RT.val,rgx]
 all_goals simp only[qat0,mat0,qat1,mat1,rg0,hk,Zz,Zag,ZaM,ZY,ZZ,ZL,ZM,ZbK,ZbN,Zf6,Zf5,Zy,Zcm,finX,spOf]
 all_goals generalize Za s=bi
 all_goals cases bi with
 |true=>simp[wPC,wSP]
 |false=>
  generalize (s==5)=bs;simp only[finI,hk,finR,wPC,wSP,wA,wF,fCY,fVCY,ZeU,flOf,ZO,pcOf,ZbB];generalize Zc c.1 (g.getD 0 0)=i at hk|-;generalize (i.2.2.2.2.1==3)=b0;cases b0<;>simp (config:={implicitDefEqProofs:=false}) [Zc2,ZcW,ZdL,hk,ZeW,ZeY,ZeX,ZiG,ZiH,ZdI,ZdH,ZiK,hb,ZoB,Zoz,RT.val]
theorem fr_9 (c) (s:Int) (g:List Int) (l) (hb:∀j:Nat,inR .u8 (g[j]?.getD 0)) (n:Int) (hk:(Zc c.1 (g.getD 0 0)).1=n):(n=38->(Zpc c s g l).val=some (finX c s g l)):=by
 skip
 all_goals intro e;subst e
 all_goals simp only[Zpc,RT.val,rgx]
 all_goals simp only[qat0,mat0,qat1,mat1,rg0,hk,Zz,Zag,ZaM,ZY,ZZ,ZL,ZM,ZbK,ZbN,Zf6,Zf5,Zy,Zcm,finX,spOf]
 all_goals generalize Za s=bi
 all_goals cases bi with
 |true=>simp[wPC,wSP]
 |false=>
  generalize (s==5)=bs;simp only[finI,hk,finR,wPC,wSP,wA,wF,fCY,fVCY,ZeU,flOf,ZO,pcOf,ZbB];generalize Zc c.1 (g.getD 0 0)=i at hk|-;simp[Zc2,ZcW,ZdL,hk,ZJY];rfl
theorem fr_10 (c) (s:Int) (g:List Int) (l) (hb:∀j:Nat,inR .u8 (g[j]?.getD 0)) (n:Int) (hk:(Zc c.1 (g.getD 0 0)).1=n):(n=39->(Zpb c s g l).val=some (finX c s g l)):=by
 skip
 all_goals intro e;subst e
 all_goals simp only[Zpb,RT.val,rgx]
 all_goals simp only[qat0,mat0,qat1,mat1,rg0,hk,Zz,Zag,ZaM,ZY,ZZ,ZL,ZM,ZbK,ZbN,Zf6,Zf5,Zy,Zcm,finX,spOf]
 all_goals generalize Za s=bi
 all_goals cases bi with
 |true=>simp[wPC,wSP]
 |false=>
  generalize (s==5)=bs;simp only[finI,hk,finR,wPC,wSP,wA,wF,fCY,fVCY,ZeU,flOf,ZO,pcOf,ZbB];generalize Zc c.1 (g.getD 0 0)=i at hk|-;simp[Zc2,ZcW,ZdL,hk,rSim,ZLI,RT.val]
theorem ZLU (a:HL ZJ) (h:okHL ZJ a):∃l,ZeK Tryz.prog l/\(Zfk (envX Tryz.prog l [] 79250227772808467515411824639 8) Tryz.f164 ZJ ZE8 a).val=some (finX a.1 a.2.1 a.2.2.1 a.2.2.2):=by
 have hk:=ZGr a.1.1 _ (ZGI h.2.2.1);have hb:∀j:Nat,inR .u8 (a.2.2.1[j]?.getD 0):=λj=>by
  cases hj:a.2.2.1[j]? with
  |none=>rw[Zhx];simp
  |some x=>exact h.2.2.1.2 x (List.mem_of_getElem? hj)
 refine⟨ZLV (Zc a.1.1 (a.2.2.1.getD 0 0)).1,ZIE _,?_⟩;show (EV0 _ a).val=_;have f1:=fr_1 a.1 a.2.1 a.2.2.1 a.2.2.2 hb;have f5:=fr_5 a.1 a.2.1 a.2.2.1 a.2.2.2 hb;have f2:=fr_2 a.1 a.2.1 a.2.2.1 a.2.2.2 hb;have f3:=fr_3 a.1 a.2.1 a.2.2.1 a.2.2.2 hb;have f4:=fr_4 a.1 a.2.1 a.2.2.1 a.2.2.2 hb;have f6:=fr_6 a.1 a.2.1 a.2.2.1 a.2.2.2 hb;have f7:=fr_7 a.1 a.2.1 a.2.2.1 a.2.2.2 hb;have f8:=fr_8 a.1 a.2.1 a.2.2.1 a.2.2.2 hb;have f9:=fr_9 a.1 a.2.1 a.2.2.1 a.2.2.2 hb;have f10:=fr_10 a.1 a.2.1 a.2.2.1 a.2.2.2 hb;rcases ZGq hk.1 hk.2 with e|e|e|e|e|e|e|e|e|e|e|e|e|e|e|e|e|e|e|e|e|e|e|e|e|e|e|e|e|e|e|e|e|e|e|e|e|e|e|e|e|e|e|e|e|e|e
 ·rw[e,ZE7 a,((f1 _ e).1 rfl)]
 ·rw[e,ZE6 a,((f5 _ e).1 rfl)]
 ·rw[e,ZE5 a,((f2 _ e).1 rfl)]
 ·rw[e,ZE4 a,((f3 _ e).1 rfl)]
 ·rw[e,ZE3 a,((f4 _ e).1 rfl)]
 ·rw[e,ZE2 a,((f1 _ e).2.1 rfl)]
 ·rw[e,ZE1 a,((f2 _ e).2.1 rfl)]
 ·rw[e,ZE0 a,((f3 _ e).2.1 rfl)]
 ·rw[e,ZEZ a,((f4 _ e).2.1 rfl)]
 ·rw[e,ZBF a,((f1 _ e).2.2.1 rfl)]
 ·rw[e,ZBE a,((f2 _ e).2.2.1 rfl)]
 ·rw[e,ZBD a,((f5 _ e).2 rfl)]
 ·rw[e,ZBC a,((f3 _ e).2.2.1 rfl)]
 ·rw[e,ZBB a,((f6 _ e).1 rfl)]
 ·rw[e,ZBA a,((f6 _ e).2 rfl)]
 ·rw[e,ZBz a,((f4 _ e).2.2.1 rfl)]
 ·rw[e,ZBy a,((f1 _ e).2.2.2.1 rfl)]
 ·rw[e,ZBx a,((f2 _ e).2.2.2.1 rfl)]
 ·rw[e,ZBw a,((f3 _ e).2.2.2.1 rfl)]
 ·rw[e,ZBv a,((f4 _ e).2.2.2.1 rfl)]
 ·rw[e,ZBu a,((f1 _ e).2.2.2.2.1 rfl)]
 ·rw[e,ZBt a,((f2 _ e).2.2.2.2.1 rfl)]
 ·rw[e,ZBs a,((f3 _ e).2.2.2.2.1 rfl)]
 ·rw[e,ZBr a,((f7 _ e).1 rfl)]
 ·rw[e,ZBq a,((f7 _ e).2.1 rfl)]
 ·rw[e,ZBp a,((f7 _ e).2.2.1 rfl)]
 ·rw[e,ZBo a,((f4 _ e).2.2.2.2.1 rfl)]
 ·rw[e,ZBn a,((f1 _ e).2.2.2.2.2.1 rfl)]
 ·rw[e,ZBm a,((f2 _ e).2.2.2.2.2.1 rfl)]
 ·rw[e,ZBl a,((f3 _ e).2.2.2.2.2.1 rfl)]
 ·rw[e,ZBk a,((f8 _ e) rfl)]
 ·rw[e,ZBj a,((f4 _ e).2.2.2.2.2.1 rfl)]
 ·rw[e,ZBi a,((f1 _ e).2.2.2.2.2.2.1 rfl)]
 ·rw[e,ZBh a,((f2 _ e).2.2.2.2.2.2.1 rfl)]
 ·rw[e,ZBg a,((f3 _ e).2.2.2.2.2.2.1 rfl)]
 ·rw[e,ZBf a,((f4 _ e).2.2.2.2.2.2.1 rfl)]
 ·rw[e,ZBe a,((f1 _ e).2.2.2.2.2.2.2.1 rfl)]
 ·rw[e,ZBd a,((f9 _ e) rfl)]
 ·rw[e,ZBc a,((f10 _ e) rfl)]
 ·rw[e,ZBb a,((f2 _ e).2.2.2.2.2.2.2.1 rfl)]
 ·rw[e,ZBa a,((f3 _ e).2.2.2.2.2.2.2.1 rfl)]
 ·rw[e,ZA9 a,((f4 _ e).2.2.2.2.2.2.2.1 rfl)]
 ·rw[e,ZA8 a,((f1 _ e).2.2.2.2.2.2.2.2 rfl)]
 ·rw[e,ZA7 a,((f2 _ e).2.2.2.2.2.2.2.2 rfl)]
 ·rw[e,ZA6 a,((f7 _ e).2.2.2 rfl)]
 ·rw[e,ZA5 a,((f3 _ e).2.2.2.2.2.2.2.2 rfl)]
 ·rw[e,ZA4 a,((f4 _ e).2.2.2.2.2.2.2.2 rfl)]
def ZLW:En:=Zi ZJ ZE8 (λ_=>none) (λa=>finX a.1 a.2.1 a.2.2.1 a.2.2.2)
theorem ZEY:Zd Tryz.prog 164 ZLW:=Zy8 Tryz.func164 rfl (by kernel_rfl) Tryz.call164 λa h _=>ZLU a h
end
end Go.Proofs.YtpnjbfjomebppaaGreat
open Go.Proofs.Tryz (prog)
open Go.IntKind (u8 u16 i64)
namespace Go.Proofs.YtpnjbfjomebppaaGreat
noncomputable section
abbrev Zx9:List Sh:=[Sh.agg (R.Pq ZX (R.Pq (R.int i64) (R.Pq (R.sl (R.int u8)) (R.Pq (RY) (R.Pq (R.int i64) R.bool)))))]
abbrev Zya:Rs:=Rs.one (Sh.one (R.int i64))
def Zow (c:QT4):RT (Int):=
 .br (decide (c.2.2.2.2.1<1)||decide (c.2.2.2.2.1>9)) (.Lf (1)) (.Lf c.2.2.2.2.1)
def ZU (c:QT4):Int:=(Zow c).val
def Zev:En:=Zi Zx9 Zya (λ_=>none) (λa=>ZU a)
theorem Zdp:Zd prog 109 Zev:=
 pureQ 7 [] [] Zx9 Zya trivial Tryz.func109 Tryz.call109 trivial (t:=λa=>Zow a)
abbrev ZyY:List Sh:=[Sh.agg ZX,Sh.one (R.int i64)]
abbrev ZyZ:Rs:=Rs.one (Sh.agg (RY))
def ZFq (c:TC) (s:Int):RT TY:=
 .Lf (Zg c s []).1
def ZKD (c:TC) (s:Int):QT11:=(ZFq c s).val
def ZpJ:En:=Zi ZyY ZyZ (λ_=>none) (λa=>ZKD a.1 a.2)
theorem Zk4:Zd prog 173 ZpJ:=
 pureQ 127 [(166,ZyE)] [] ZyY ZyZ ⟨ZoO,Tv⟩ Tryz.func173 Tryz.call173 trivial (t:=λa=>ZFq a.1 a.2)
abbrev Zyc:List Sh:=[Sh.agg (R.Pq ZX (R.Pq (R.int i64) (R.Pq (R.sl (R.int u8)) (R.Pq (RY) (R.Pq (R.int i64) R.bool))))),Sh.one (R.int i64)]
abbrev Zyd:Rs:=Rs.one (Sh.agg (R.Pq ZX (R.Pq (R.int i64) (R.Pq (R.sl (R.int u8)) (R.Pq (RY) (R.Pq (R.int i64) R.bool))))))
def ZD8 (c:QT4) (s:Int):RT (QT4):=
 .Lf ((Zx c.1 s,s,[],ZKD (Zx c.1 s) s,c.2.2.2.2))
def Zye (c:QT4) (s:Int):QT4:=(ZD8 c s).val
def ZuX:En:=Zi Zyc Zyd (λ_=>none) (λa=>Zye a.1 a.2)
theorem ZrT:Zd prog 262 ZuX:=
 pureQ 31 [(163,Zy0),(173,ZpJ)] [] Zyc Zyd ⟨ZBJ,Zk4,Tv⟩ Tryz.func262 Tryz.call262 trivial (t:=λa=>ZD8 a.1 a.2)
abbrev ZEd:List Sh:=[Sh.agg (R.Pq ZX (R.Pq (R.int i64) (R.Pq (R.sl (R.int u8)) (R.Pq (RY) (R.Pq (R.int i64) R.bool))))),Sh.one (R.int i64),Sh.one (R.int u8)]
abbrev Zu0:Rs:=Rs.tup [Sh.agg (RY),Sh.one (R.sl (R.int u8))]
def Zg2 (c:QT4) (t:Int) (d:Int):RT (Option (TY×List Int)):=
 let x1:Int:=bif Zba c.2.2.2.1.1 then d else c.2.2.2.1.2.2.1
 let x2:List Int:=[]++c.2.2.1++[x1]
 .br (t !=3) (.Lf (some ((c.2.2.2.1,c.2.2.1)))) (.br (!Nat.ble (List.length ([]++c.2.2.1)) most||Nat.ble (List.length x2) most) (.br (Nat.ble (List.length ([]++c.2.2.1)) most) (.Lf (some (((c.2.2.2.1.1,c.2.2.2.1.2.1,x1,bif c.2.2.2.1.1==1||c.2.2.2.1.1==8 then Zg8 c.1.1 x1 else c.2.2.2.1.2.2.2),x2)))) (.Lf none)) (.Lf none))
def Zgo (c:QT4) (t:Int) (d:Int):TY×List Int:=getO Zu0.Df (Zg2 c t d).val
def Zd7 (c:QT4) (t:Int) (d:Int):Bool:=okB (Zg2 c t d).val
def ZEg:En:=Zi ZEd Zu0 (λa=>some (Zd7 a.1 a.2.1 a.2.2)) (λa=>Zgo a.1 a.2.1 a.2.2)
theorem Zyl:Zd prog 263 ZEg:=
 pureP 1023 [(167,Zkd),(168,ZvZ)] [] ZEd Zu0 ⟨Zg1,Zr7,Tv⟩ Tryz.func263 Tryz.call263 trivial (t:=λa=>Zg2 a.1 a.2.1 a.2.2)
abbrev ZE9:List Sh:=[Sh.one (R.int i64),Sh.agg (RY)]
abbrev ZFa:Rs:=Rs.one (Sh.one R.bool)
def Zk2 (t:Int) (x:QT11):RT (Bool):=
 .br (t==3) (.Lf (decide (x.2.2.2<=3))) (.br (bif t==4 then t==4 else t==5) (.Lf (decide (x.2.2.2<=t))) (.Lf (t==6)))
def Zh4 (t:Int) (x:QT11):Bool:=(Zk2 t x).val
def ZFb:En:=Zi ZE9 ZFa (λ_=>none) (λa=>Zh4 a.1 a.2)
theorem ZyT:Zd prog 264 ZFb:=
 pureQ 2143 [] [] ZE9 ZFa trivial Tryz.func264 Tryz.call264 trivial (t:=λa=>Zk2 a.1 a.2)
abbrev Zm4:List Sh:=[Sh.agg (R.Pq ZX (R.Pq (R.int i64) (R.Pq (R.sl (R.int u8)) (R.Pq (RY) (R.Pq (R.int i64) R.bool)))))]
abbrev Zm5:Rs:=Rs.one (Sh.one R.bool)
def ZgZ (c:QT4):RT (Bool):=
 .Lf (c.1.2.2.2.2.1&&c.2.1==0)
def Zg0 (c:QT4):Bool:=(ZgZ c).val
def Zkb:En:=Zi Zm4 Zm5 (λ_=>none) (λa=>Zg0 a)
theorem Zka:Zd prog 260 Zkb:=
 pureQ 7 [] [] Zm4 Zm5 trivial Tryz.func260 Tryz.call260 trivial (t:=λa=>ZgZ a)
abbrev ZKp:List Sh:=[Sh.agg (R.Pq ZX (R.Pq (R.int i64) (R.Pq (R.sl (R.int u8)) (R.Pq (RY) (R.Pq (R.int i64) R.bool))))),Sh.agg (R.Pq R.bool (R.Pq R.bool rcF7))]
abbrev ZKq:Rs:=Rs.one (Sh.agg (R.Pq ZX (R.Pq (R.int i64) (R.Pq (R.sl (R.int u8)) (R.Pq (RY) (R.Pq (R.int i64) R.bool))))))
def ZLY (c:QT4) (l:QT0):RT (QT4):=
 let x1:=Zye (finX c.1 c.2.1 c.2.2.1 l,c.2) (Zc5 (finX c.1 c.2.1 c.2.2.1 l) l)
 let x2:=x1.1
 let x3:=x2.2
 let x4:=x3.1
 let x5:=x4.2
 let x6:=x5.2
 let x7:=x6.2
 let x8:=x7.2
 let x9:=x8.2
 let x10:=x9.2
 let x11:=x10.2
 let x12:=x11.1
 let x13:=x12.2
 let x14:=c.1.2.1.2.2.2.2.2.2.2.1.2.2
 let x15:=x13.2
 let x16:=x14.2
 let x17:=x15.2
 let x18:=x16.2
 let x19:=x17.2
 let x20:=x18.2
 let x21:=x19.2
 let x22:=x11.2
 let x23:=x3.2
 let x24:=x23.2
 let x25:=x24.2
 let x26:=x25.2
 let x27:=x26.2
 let x28:=x27.2
 let x29:=x28.2
 let x30:=x29.2
 let x31:=x30.2
 let x32:=x31.2
 let x33:TC:=(bif (Zg c.1 c.2.1 c.2.2.1).2 then c.1.1 else x2.1,(bif (Zg c.1 c.2.1 c.2.2.1).2 then c.1.2.1.1 else x4.1,bif (Zg c.1 c.2.1 c.2.2.1).2 then c.1.2.1.2.1 else x5.1,bif (Zg c.1 c.2.1 c.2.2.1).2 then c.1.2.1.2.2.1 else x6.1,bif (Zg c.1 c.2.1 c.2.2.1).2 then c.1.2.1.2.2.2.1 else x7.1,bif (Zg c.1 c.2.1 c.2.2.1).2 then c.1.2.1.2.2.2.2.1 else x8.1,bif (Zg c.1 c.2.1 c.2.2.1).2 then c.1.2.1.2.2.2.2.2.1 else x9.1,bif (Zg c.1 c.2.1 c.2.2.1).2 then c.1.2.1.2.2.2.2.2.2.1 else x10.1,(bif (Zg c.1 c.2.1 c.2.2.1).2 then c.1.2.1.2.2.2.2.2.2.2.1.1 else x12.1,bif (Zg c.1 c.2.1 c.2.2.1).2 then c.1.2.1.2.2.2.2.2.2.2.1.2.1 else x13.1,bif (Zg c.1 c.2.1 c.2.2.1).2 then x14.1 else x15.1,bif (Zg c.1 c.2.1 c.2.2.1).2 then x16.1 else x17.1,bif (Zg c.1 c.2.1 c.2.2.1).2 then x18.1 else x19.1,bif (Zg c.1 c.2.1 c.2.2.1).2 then x20.1 else x21.1,bif (Zg c.1 c.2.1 c.2.2.1).2 then x20.2 else x21.2),bif (Zg c.1 c.2.1 c.2.2.1).2 then c.1.2.1.2.2.2.2.2.2.2.2.1 else x22.1,bif (Zg c.1 c.2.1 c.2.2.1).2 then c.1.2.1.2.2.2.2.2.2.2.2.2 else x22.2),bif (Zg c.1 c.2.1 c.2.2.1).2 then c.1.2.2.1 else x23.1,bif (Zg c.1 c.2.1 c.2.2.1).2 then c.1.2.2.2.1 else x24.1,bif (Zg c.1 c.2.1 c.2.2.1).2 then c.1.2.2.2.2.1 else x25.1,bif (Zg c.1 c.2.1 c.2.2.1).2 then c.1.2.2.2.2.2.1 else x26.1,bif (Zg c.1 c.2.1 c.2.2.1).2 then c.1.2.2.2.2.2.2.1 else x27.1,bif (Zg c.1 c.2.1 c.2.2.1).2 then c.1.2.2.2.2.2.2.2.1 else x28.1,bif (Zg c.1 c.2.1 c.2.2.1).2 then c.1.2.2.2.2.2.2.2.2.1 else x29.1,bif (Zg c.1 c.2.1 c.2.2.1).2 then c.1.2.2.2.2.2.2.2.2.2.1 else x30.1,bif (Zg c.1 c.2.1 c.2.2.1).2 then c.1.2.2.2.2.2.2.2.2.2.2.1 else x31.1,bif (Zg c.1 c.2.1 c.2.2.1).2 then c.1.2.2.2.2.2.2.2.2.2.2.2.1 else x32.1,bif (Zg c.1 c.2.1 c.2.2.1).2 then c.1.2.2.2.2.2.2.2.2.2.2.2.2 else x32.2)
 let x34:=x1.2
 let x35:Int:=bif (Zg c.1 c.2.1 c.2.2.1).2 then c.2.1 else x34.1
 let x36:=x34.2
 let x37:List Int:=bif (Zg c.1 c.2.1 c.2.2.1).2 then c.2.2.1 else x36.1
 let x38:=x36.2
 let x39:=x38.1
 let x40:=x39.2
 let x41:=x40.2
 let x42:QT11:=(bif (Zg c.1 c.2.1 c.2.2.1).2 then (Zg c.1 c.2.1 c.2.2.1).1.1 else x39.1,bif (Zg c.1 c.2.1 c.2.2.1).2 then (Zg c.1 c.2.1 c.2.2.1).1.2.1 else x40.1,bif (Zg c.1 c.2.1 c.2.2.1).2 then (Zg c.1 c.2.1 c.2.2.1).1.2.2.1 else x41.1,bif (Zg c.1 c.2.1 c.2.2.1).2 then (Zg c.1 c.2.1 c.2.2.1).1.2.2.2 else x41.2)
 let x43:=x38.2
 let x44:=bif (Zg c.1 c.2.1 c.2.2.1).2 then c.2.2.2.2.2 else x43.2
 .Lf ((x33,x35,x37,x42,bif x44 then 8 else bif Zg0 (x33,x35,x37,x42,bif (Zg c.1 c.2.1 c.2.2.1).2 then c.2.2.2.2.1 else x43.1,x44) then 9 else 1,false))
def rEnd (c:QT4) (l:QT0):QT4:=(ZLY c l).val
def ZNC:En:=Zi ZKp ZKq (λ_=>none) (λa=>rEnd a.1 a.2)
theorem ZLX:Zd prog 265 ZNC:=
 pureQ 1168231104639 [(164,ZLW),(166,ZyE),(260,Zkb),(261,ZEr),(262,ZuX)] [] ZKp ZKq ⟨ZEY,ZoO,Zka,Zyw,ZrT,Tv⟩ Tryz.func265 Tryz.call265 trivial (t:=λa=>ZLY a.1 a.2)
abbrev ZEJ:List Sh:=[Sh.one (R.int i64)]
abbrev ZEK:Rs:=Rs.one (Sh.agg (R.Pq ZX (R.Pq (R.int i64) (R.Pq (R.sl (R.int u8)) (R.Pq (RY) (R.Pq (R.int i64) R.bool))))))
def ZLQ (chip:Int):RT (QT4):=
 let x1:TR:=(0,0,0,0,0,0,0,(false,false,false,false,false,false,false),0,0)
 let x2:=ZT (chip,x1,false,false,false,0,false,false,false,false,false,false,false)
 .Lf (((x2.1,x1,false,false,false,x2.2.2.2.2.2.1,false,false,false,false,false,false,false),0,[],(1,0,0,4),1,false))
def rNew (chip:Int):QT4:=(ZLQ chip).val
def ZNw:En:=Zi ZEJ ZEK (λ_=>none) (λa=>rNew a)
theorem ZEI:Zd prog 100 ZNw:=
 pureQ 15 [(96,ZuY),(173,ZpJ)] [] ZEJ ZEK ⟨ZrU,Zk4,Tv⟩ Tryz.func100 Tryz.call100 trivial (t:=λa=>ZLQ a)
abbrev ZpG:List Sh:=[Sh.agg (R.Pq ZX (R.Pq (R.int i64) (R.Pq (R.sl (R.int u8)) (R.Pq (RY) (R.Pq (R.int i64) R.bool))))),Sh.agg (R.Pq R.bool (R.Pq R.bool rcF7)),Sh.one (R.int u8)]
abbrev Zjk:Rs:=Rs.tup [Sh.agg (R.Pq ZX (R.Pq (R.int i64) (R.Pq (R.sl (R.int u8)) (R.Pq (RY) (R.Pq (R.int i64) R.bool))))),Sh.agg (R.Pq (R.int i64) (R.Pq (R.int u16) (R.Pq (R.int u8) (R.Pq R.bool (R.Pq R.bool (R.Pq R.bool (R.Pq R.bool (R.Pq R.bool (R.Pq R.bool (R.Pq R.bool rcF7))))))))))]
def Zh5 (c:QT4) (l:QT0) (d:Int):RT (Option ((QT4)×Int×Int×Int×Bool×Bool×Bool×Bool×Bool×Bool×Bool×Bool×Bool×Bool×Bool×Bool×Bool×Bool)):=
 let x1:QT11:=(bif ZU c==9 then 0 else c.2.2.2.1.1,bif ZU c==9 then c.1.2.1.2.2.2.2.2.2.2.2.2 else c.2.2.2.1.2.1,bif ZU c==9 then 0 else c.2.2.2.1.2.2.1,bif ZU c==9 then 0 else c.2.2.2.1.2.2.2)
 let x2:=c.1.2.2.2.2.2.2.2.2.2.2.2.2
 let x3:QT17:=(ZaE c.1.1 10 x1 0 c.1.2.2.1 x2).2.2.2.2.2.2
 let x4:=x3.2.2.2.2.2.2.2
 let x5:=ZaE c.1.1 (ZU c) x1 d c.1.2.2.1 x2
 let x6:QT4:=(Zf c.1 l,c.2.1,[]++c.2.2.1,c.2.2.2)
 let x7:=Zye x6 (Zc5 (Zf c.1 l) l)
 let x8:=x7.2
 let x9:=x8.2.2
 let x10:Int:=bif l.2.1 then 8 else bif Zc5 (Zf c.1 l) l !=0 then 1 else 9
 let x11:=Zgo x6 (ZU c) d
 let x12:=x11.1
 let x13:=Zh4 (ZU c) x12
 let x14:=x11.2
 let x15:=rEnd (Zf c.1 l,c.2.1,x14,x12,c.2.2.2.2) l
 let x16:=x15.1
 let x17:=x16.2
 let x18:=x17.1
 let x19:=x18.2
 let x20:=x19.2
 let x21:=x20.2
 let x22:=x21.2
 let x23:=x22.2
 let x24:=x23.2
 let x25:=x24.2
 let x26:=x25.1
 let x27:TF:=(Zf c.1 l).2.1.2.2.2.2.2.2.2.1
 let x28:=x26.2
 let x29:=x27.2
 let x30:=x28.2
 let x31:=x29.2
 let x32:=x30.2
 let x33:=x31.2
 let x34:=x32.2
 let x35:=x33.2
 let x36:=x34.2
 let x37:=x35.2
 let x38:=x25.2
 let x39:Int×Int:=(Zf c.1 l).2.1.2.2.2.2.2.2.2.2
 let x40:=x17.2
 let x41:=x40.2
 let x42:=x41.2
 let x43:=x42.2
 let x44:=x43.2
 let x45:=x44.2
 let x46:=x45.2
 let x47:=x46.2
 let x48:=x47.2
 let x49:QT28:=(Zf c.1 l).2.2.2.2.2.2.2.2.2.2
 let x50:=x48.2
 let x51:=x49.2
 let x52:=x15.2
 let x53:=x52.2
 let x54:=x53.2
 let x55:=x54.1
 let x56:=x55.2
 let x57:=x12.2
 let x58:=x56.2
 let x59:=x57.2
 let x60:=x54.2
 .br l.2.2.1 (.Lf (some (((((ZT c.1).1,((ZT c.1).2.1.1,(ZT c.1).2.1.2.1,(ZT c.1).2.1.2.2.1,(ZT c.1).2.1.2.2.2.1,(ZT c.1).2.1.2.2.2.2.1,(ZT c.1).2.1.2.2.2.2.2.1,(ZT c.1).2.1.2.2.2.2.2.2.1,(ZT c.1).2.1.2.2.2.2.2.2.2.1,(ZT c.1).2.1.2.2.2.2.2.2.2.2.1,0),false,false,false,(ZT c.1).2.2.2.2.2.1,false,false,false,false,false,false,false),0,[],(1,0,0,4),1,false),10,0,0,false,false,false,x3.1,false,false,false,false,false,false,x4.1,false,false,x4.2.2.2)))) (.br (Nat.ble (List.length ([]++c.2.2.1)) most) (.br (ZU c==1) (.Lf (some (((Zf c.1 l,c.2.1,[]++c.2.2.1,c.2.2.2.1,2,c.2.2.2.2.2),x5)))) (.br (bif ZU c==2 then ZU c==2 else ZU c==7) (.Lf (some (((Zf c.1 l,c.2.1,[]++c.2.2.1,c.2.2.2.1,bif l.1|| !Zk c.2.2.2.1.1 then 3 else 7,bif l.1|| !Zk c.2.2.2.1.1 then l.2.1 else c.2.2.2.2.2),x5)))) (.br (ZU c==8) (.Lf (some (((Zf c.1 l,c.2.1,bif l.2.1 then []++c.2.2.1 else []++c.2.2.1,c.2.2.2.1,bif l.2.1 then 8 else bif Zg0 x6 then 9 else 1,c.2.2.2.2.2),x5)))) (.br (ZU c==9) (.br (Zc5 (Zf c.1 l) l !=0) (.Lf (some (((x7.1,x8.1,[],x9.1,x10,x9.2.2),x5)))) (.Lf (some (((Zf c.1 l,c.2.1,[]++c.2.2.1,c.2.2.2.1,x10,c.2.2.2.2.2),x5))))) (.br (Zd7 x6 (ZU c) d) (.Lf (some ((((bif x13 then x16.1 else (Zf c.1 l).1,(bif x13 then x18.1 else (Zf c.1 l).2.1.1,bif x13 then x19.1 else (Zf c.1 l).2.1.2.1,bif x13 then x20.1 else (Zf c.1 l).2.1.2.2.1,bif x13 then x21.1 else (Zf c.1 l).2.1.2.2.2.1,bif x13 then x22.1 else (Zf c.1 l).2.1.2.2.2.2.1,bif x13 then x23.1 else (Zf c.1 l).2.1.2.2.2.2.2.1,bif x13 then x24.1 else (Zf c.1 l).2.1.2.2.2.2.2.2.1,(bif x13 then x26.1 else x27.1,bif x13 then x28.1 else x29.1,bif x13 then x30.1 else x31.1,bif x13 then x32.1 else x33.1,bif x13 then x34.1 else x35.1,bif x13 then x36.1 else x37.1,bif x13 then x36.2 else x37.2),bif x13 then x38.1 else x39.1,bif x13 then x38.2 else x39.2),bif x13 then x40.1 else (Zf c.1 l).2.2.1,bif x13 then x41.1 else (Zf c.1 l).2.2.2.1,bif x13 then x42.1 else (Zf c.1 l).2.2.2.2.1,bif x13 then x43.1 else (Zf c.1 l).2.2.2.2.2.1,bif x13 then x44.1 else (Zf c.1 l).2.2.2.2.2.2.1,bif x13 then x45.1 else (Zf c.1 l).2.2.2.2.2.2.2.1,bif x13 then x46.1 else (Zf c.1 l).2.2.2.2.2.2.2.2.1,bif x13 then x47.1 else (Zf c.1 l).2.2.2.2.2.2.2.2.2.1,bif x13 then x48.1 else x49.1,bif x13 then x50.1 else x51.1,bif x13 then x50.2 else x51.2),bif x13 then x52.1 else c.2.1,bif x13 then x53.1 else x14,(bif x13 then x55.1 else x12.1,bif x13 then x56.1 else x57.1,bif x13 then x58.1 else x59.1,bif x13 then x58.2 else x59.2),bif x13 then x60.1 else i64.wrap (ZU c+1),bif x13 then x60.2 else c.2.2.2.2.2),x5)))) (.Lf none)))))) (.Lf none))
def ZKB (c:QT4) (l:QT0) (d:Int):(QT4)×Int×Int×Int×Bool×Bool×Bool×Bool×Bool×Bool×Bool×Bool×Bool×Bool×Bool×Bool×Bool×Bool:=getO Zjk.Df (Zh5 c l d).val
def ZFj (c:QT4) (l:QT0) (d:Int):Bool:=okB (Zh5 c l d).val
def ZL6:En:=Zi ZpG Zjk (λa=>some (ZFj a.1 a.2.1 a.2.2)) (λa=>ZKB a.1 a.2.1 a.2.2)
theorem ZFi:Zd Tryz.prog 178 ZL6:=
 pureP 740465775588642560936085758595903342518271 [(58,Zhc),(96,ZuY),(100,ZNw),(109,Zev),(173,ZpJ),(187,ZkX),(259,ZJ7),(260,Zkb),(261,ZEr),(262,ZuX),(263,ZEg),(264,ZFb),(265,ZNC)] [] ZpG Zjk ⟨Zgp,ZrU,ZEI,Zdp,Zk4,ZkW,ZIq,Zka,Zyw,ZrT,Zyl,ZyT,ZLX,Tv⟩ Tryz.func178 Tryz.call178 trivial (t:=λa=>Zh5 a.1 a.2.1 a.2.2)
abbrev LnT:=QT0
abbrev Zf0:=CpuT×Int×List Int×Cyc×Int×Bool
def Zab (n:Int):Int:=bif decide (n<1)||decide (n>9) then 1 else n
def ZnK (c:CpuT) (s:Int):Zf0:=(c,s,[],(Zg c s []).1,1,false)
def idlX (c:CpuT) (s:Int) (h:Bool):Int:=bif h then 8 else bif c.2.2.2.2.1&&s==0 then 9 else 1
def endX (c:CpuT) (s:Int) (g:List Int) (h:Bool) (l:LnT):Zf0:=
 bif (Zg c s g).2 then (c,s,g,(Zg c s g).1,idlX c s h,false) else
 let q:=finX c s g l
 let k:=Zc5 q l
 let d:=Zx q k
 (d,k,[],(Zg d k []).1,idlX d k h,false)
def Za4 (c:CpuT) (x:Cyc) (d:Int):Cyc:=
 let v:=bif Zba x.1 then d else x.2.2.1
 (x.1,x.2.1,v,bif x.1==1||x.1==8 then Zg8 c.1 v else x.2.2.2)
def le3 (x:Int):Bool:=decide (x<=3)
def Zs (c:Zf0) (l:LnT) (d:Int):Zf0:=
 let t:=Zab c.2.2.2.2.1
 let p:=Zf c.1 l
 let s:=c.2.1
 let g:=c.2.2.1
 let x:=c.2.2.2.1
 let h:=c.2.2.2.2.2
 bif l.2.2.1 then ZnK (ZT c.1) 0 else
 bif t==1 then (p,s,g,x,2,h) else
 bif t==2||t==7 then (bif l.1|| !Zk x.1 then (p,s,g,x,3,l.2.1) else (p,s,g,x,7,h)) else
 bif t==8 then (p,s,g,x,idlX p s l.2.1,h) else
 bif t==9 then
  (let k:=Zc5 p l
   bif k==0 then (p,s,g,x,bif l.2.1 then 8 else 9,h) else
   (Zx p k,k,[],(Zg (Zx p k) k []).1,bif l.2.1 then 8 else 1,h)) else
 bif t==3 then
  (let y:=Za4 p x d
   bif le3 y.2.2.2 then endX p s (g++[y.2.2.1]) h l else (p,s,g++[y.2.2.1],y,4,h)) else
 bif decide (t<x.2.2.2)&& !(t==6) then (p,s,g,x,t+1,h) else endX p s g h l
abbrev PinT:=QT8
def Zms (c:Zf0) (t:Int):Cyc:=bif t==9 then (0,c.1.2.1.2.2.2.2.2.2.2.2.2,0,0) else c.2.2.2.1
def Ze9 (c:Zf0) (l:LnT) (d:Int):PinT:=
 let t:=Zab c.2.2.2.2.1
 ZaE c.1.1 (bif l.2.2.1 then 10 else t) (Zms c t) (bif l.2.2.1 then 0 else d) c.1.2.2.1 c.1.2.2.2.2.2.2.2.2.2.2.2.2
theorem ZDI (n:Int):1<=Zab n/\Zab n<=9:=by
 unfold Zab;by_cases h:n<1\/n>9
 ·have:(decide (n<1)||decide (n>9))=true:=by simpa using h
  rw[this];simp
 ·have:(decide (n<1)||decide (n>9))=false:=by simpa using h
  rw[this];simp only[Yb];omega
theorem Zrn (c):ZU c=Zab c.2.2.2.2.1:=rfl
theorem Zro (c:Zf0) (s):Zye c s=(Zx c.1 s,s,[],(Zg (Zx c.1 s) s []).1,c.2.2.2.2):=rfl
theorem ZLC (c:Zf0) (l:LnT):rEnd c l=endX c.1 c.2.1 c.2.2.1 c.2.2.2.2.2 l:=by cases h:(Zg c.1 c.2.1 c.2.2.1).2<;>simp only[rEnd,ZLY,RT.val,h,Ya,Yb,Zro,endX,Zg0,ZgZ,idlX]
theorem ZMc (chip:Int) (x:Cyc) (i o:Bool):ZaE chip 10 x 0 i o=(10,0,0,false,false,false,(ZaE chip 10 x 0 i o).2.2.2.2.2.2.1,false,false,false,false,false,false,(ZaE chip 10 x 0 i o).2.2.2.2.2.2.2.2.2.2.2.2.2.1,false,false,(ZaE chip 10 x 0 i o).2.2.2.2.2.2.2.2.2.2.2.2.2.2.2.2):=by simp only[ZaE,Zg4,RT.val,Zcm];generalize (chip==2)=b;cases b<;>simp
theorem Zrs (c:CpuT):ZT c=((ZT c).1,((ZT c).2.1.1,(ZT c).2.1.2.1,(ZT c).2.1.2.2.1,(ZT c).2.1.2.2.2.1,(ZT c).2.1.2.2.2.2.1,(ZT c).2.1.2.2.2.2.2.1,(ZT c).2.1.2.2.2.2.2.2.1,(ZT c).2.1.2.2.2.2.2.2.2.1,(ZT c).2.1.2.2.2.2.2.2.2.2.1,0),false,false,false,(ZT c).2.2.2.2.2.1,false,false,false,false,false,false,false):=by simp only[ZT,Zkc,RT.val,Zcm]
theorem ZK3 (c:CpuT):ZnK (ZT c) 0=(ZT c,0,[],(1,0,0,4),1,false):=by
 simp only[ZnK];have:(Zg (ZT c) 0 []).1=(1,0,0,4):=by
  have hp:pcOf (ZT c)=0:=by rw[Zrs];rfl
  simp[Zg,ZdV,Za,Zh3,RT.val,hp];rfl
 rw[this]
theorem len1 {α:Type} (l:List α) (x:α) (h:l.length+1<=most):Nat.ble l.length most=true/\Nat.ble (l++[x]).length most=true:=by rw[YU,YU];simp only[Yh,List.length_cons,List.length_nil];omega
theorem ZH6 (c:Zf0) (d:Int) (hg:c.2.2.1.length+1<=most):(Zg2 c 3 d).val=some (Za4 c.1 c.2.2.2.1 d,c.2.2.1++[(Za4 c.1 c.2.2.2.1 d).2.2.1]):=by have h:=len1 c.2.2.1 (bif Zba c.2.2.2.1.1 then d else c.2.2.2.1.2.2.1) hg;simp only[Zg2,RT.val,List.nil_append,h.1,h.2,Yf,Yk,Ya,Za4,bne_self_eq_false,Yb]
theorem ZjS (c:Zf0) (t d:Int) (ht:t≠3):(Zg2 c t d).val=some (c.2.2.2.1,c.2.2.1):=by
 have:(t !=3)=true:=by simpa using ht
 simp only[Zg2,RT.val,this,Ya]
theorem ZN1 (t x:Int):decide (t<x)= !decide (x<=t):=by by_cases h:x<=t<;>simp[h]<;>omega
theorem Zrx (c:Zf0) (l:LnT) (d:Int) (hg:c.2.2.1.length+1<=most):(Zh5 c l d).val=some (Zs c l d,Ze9 c l d):=by
 obtain⟨t1,t2⟩:=ZDI c.2.2.2.2.1;have hx:Zms c (Zab c.2.2.2.2.1)=(bif Zab c.2.2.2.2.1==9 then 0 else c.2.2.2.1.1,bif Zab c.2.2.2.2.1==9 then c.1.2.1.2.2.2.2.2.2.2.2.2 else c.2.2.2.1.2.1,bif Zab c.2.2.2.2.1==9 then 0 else c.2.2.2.1.2.2.1,bif Zab c.2.2.2.2.1==9 then 0 else c.2.2.2.1.2.2.2):=by unfold Zms;cases Zab c.2.2.2.2.1==9<;>simp only[Ya,Yb,Yf,Yl,YO,YP,YD,YL,Ye,Yw,Yt,Yk]
 have hl:Nat.ble c.2.2.1.length most=true:=(len1 c.2.2.1 0 hg).1;cases hr:l.2.2.1 with
 |true=>
  simp only[Zh5,RT.val,hr,Ya,Zs,Ze9,ZK3,Zrn,<-hx];rw[<-ZMc,<-Zrs]
 |false=>
  simp only[Zh5,RT.val,hr,Yb,List.nil_append,hl,Ya,Zrn,Zro,ZLC,<-hx,Ze9];have:Zab c.2.2.2.2.1=1\/Zab c.2.2.2.2.1=2\/Zab c.2.2.2.2.1=7\/Zab c.2.2.2.2.1=3\/Zab c.2.2.2.2.1=4\/Zab c.2.2.2.2.1=5\/Zab c.2.2.2.2.1=6\/Zab c.2.2.2.2.1=8\/Zab c.2.2.2.2.1=9:=by omega
  have q3:=ZH6 (Zf c.1 l,c.2.1,c.2.2.1,c.2.2.2) d hg;rcases this with h|h|h|h|h|h|h|h|h
  ·simp only[Zs,hr,h,Int.reduceBEq,Ya,Yb]
  ·simp only[Zs,hr,h,Int.reduceBEq,Ya,Yb,Yt];cases l.1|| !Zk c.2.2.2.1.1<;>simp only[Ya,Yb,Yf,Yl,YO,YP,YD,YL,Ye,Yw,Yt,Yk]
  ·simp only[Zs,hr,h,Int.reduceBEq,Ya,Yb,Ye];cases l.1|| !Zk c.2.2.2.1.1<;>simp only[Ya,Yb,Yf,Yl,YO,YP,YD,YL,Ye,Yw,Yt,Yk]
  ·have e1:Zd7 (Zf c.1 l,c.2.1,c.2.2.1,c.2.2.2) 3 d=true:=by simp only[Zd7,q3,okB]
   have e2:Zgo (Zf c.1 l,c.2.1,c.2.2.1,c.2.2.2) 3 d=(Za4 (Zf c.1 l) c.2.2.2.1 d,c.2.2.1++[(Za4 (Zf c.1 l) c.2.2.2.1 d).2.2.1]):=by simp only[Zgo,q3,getO]
   simp only[Zs,hr,h,Int.reduceBEq,Ya,Yb,Y9,e1,e2,Zh4,Zk2,RT.val];rw[show decide ((Za4 (Zf c.1 l) c.2.2.2.1 d).2.2.2<=3)=le3 (Za4 (Zf c.1 l) c.2.2.2.1 d).2.2.2 from rfl];cases le3 (Za4 (Zf c.1 l) c.2.2.2.1 d).2.2.2<;>rfl
  ·have q:=ZjS (Zf c.1 l,c.2.1,c.2.2.1,c.2.2.2) 4 d (by decide);have e1:Zd7 (Zf c.1 l,c.2.1,c.2.2.1,c.2.2.2) 4 d=true:=by simp only[Zd7,q,okB]
   have e2:Zgo (Zf c.1 l,c.2.1,c.2.2.1,c.2.2.2) 4 d=(c.2.2.2.1,c.2.2.1):=by simp only[Zgo,q,getO]
   simp only[Zs,hr,h,Int.reduceBEq,Ya,Yb,Y9,Yl,YO,e1,e2,Zh4,Zk2,RT.val,show IntKind.wrap .i64 (4+1)=4+1 from rfl,ZN1];cases decide (c.2.2.2.1.2.2.2<=4)<;>rfl
  ·have q:=ZjS (Zf c.1 l,c.2.1,c.2.2.1,c.2.2.2) 5 d (by decide);have e1:Zd7 (Zf c.1 l,c.2.1,c.2.2.1,c.2.2.2) 5 d=true:=by simp only[Zd7,q,okB]
   have e2:Zgo (Zf c.1 l,c.2.1,c.2.2.1,c.2.2.2) 5 d=(c.2.2.2.1,c.2.2.1):=by simp only[Zgo,q,getO]
   simp only[Zs,hr,h,Int.reduceBEq,Ya,Yb,Y9,Yl,YO,e1,e2,Zh4,Zk2,RT.val,show IntKind.wrap .i64 (5+1)=5+1 from rfl,ZN1];cases decide (c.2.2.2.1.2.2.2<=5)<;>rfl
  ·have q:=ZjS (Zf c.1 l,c.2.1,c.2.2.1,c.2.2.2) 6 d (by decide);have e1:Zd7 (Zf c.1 l,c.2.1,c.2.2.1,c.2.2.2) 6 d=true:=by simp only[Zd7,q,okB]
   have e2:Zgo (Zf c.1 l,c.2.1,c.2.2.1,c.2.2.2) 6 d=(c.2.2.2.1,c.2.2.1):=by simp only[Zgo,q,getO]
   simp only[Zs,hr,h,Int.reduceBEq,Ya,Yb,Y9,Yf,YP,e1,e2,Zh4,Zk2,RT.val]
  ·simp only[Zs,hr,h,Int.reduceBEq,Ya,Yb,Y9,Zg0,ZgZ,RT.val,idlX];cases l.2.1<;>rfl
  ·have hb:(Zc5 (Zf c.1 l) l !=0)= !(Zc5 (Zf c.1 l) l==0):=rfl;simp only[Zs,hr,h,Int.reduceBEq,Ya,Yb,Y9,hb];cases hk:(Zc5 (Zf c.1 l) l==0)<;>rfl
def ZDZ (c:Zf0):Bool:=Nat.ble (c.2.2.1.length+1) most
theorem ZjV {c:Zf0}:ZDZ c=true↔c.2.2.1.length+1<=most:=by simp[ZDZ]
def clkX (c:Zf0) (l:LnT) (d:Int):Zf0×PinT:=(Zs c l d,Ze9 c l d)
def ZyW:En:=Zi ZpG Zjk (λa=>some (ZDZ a.1)) (λa=>clkX a.1 a.2.1 a.2.2)
theorem ZBH:Zd Tryz.prog 178 ZyW:=ZFi.pure_congr
 (λa h hp=>by have h1:=Zrx a.1 a.2.1 a.2.2 (ZjV.1 (by simpa using hp));simp[ZFj,h1,okB])
 (λa h hp=>by have h1:=Zrx a.1 a.2.1 a.2.2 (ZjV.1 (by simpa using hp));simp only[ZKB,h1,getO,clkX])
def newX (chip:Int):Zf0:=ZnK (ZT (chip,(0,0,0,0,0,0,0,(false,false,false,false,false,false,false),0,0),false,false,false,0,false,false,false,false,false,false,false)) 0
theorem ZLz (chip:Int):rNew chip=newX chip:=by unfold newX;rw[ZK3];simp only[rNew,ZLQ,RT.val,ZT,Zkc,Zcm]
def ZKg:En:=Zi ZEJ ZEK (λ_=>none) (λa=>newX a)
theorem ZIz:Zd Tryz.prog 100 ZKg:=ZEI.tot (λa h=>by simp) (λa h=>ZLz _)
abbrev ZzD:List Sh:=[Sh.one (R.int i64),Sh.one (R.int i64)]
abbrev Zqi:Rs:=Rs.one (Sh.one (R.int i64))
def ZlI (x:Int) (n:Int):RT (Option (Int)):=
 .br (IntKind.u64.wrap n !=0) (.Lf (some (i64.wrap (Int.tmod (IntKind.u64.wrap x) (IntKind.u64.wrap n))))) (.Lf none)
def ZzE (x:Int) (n:Int):Int:=getO Zqi.Df (ZlI x n).val
def Zqj (x:Int) (n:Int):Bool:=okB (ZlI x n).val
def ZGi:En:=Zi ZzD Zqi (λa=>some (Zqj a.1 a.2)) (λa=>ZzE a.1 a.2)
theorem ZGg:Zd prog 47 ZGi:=
 pureP 31 [] [] ZzD Zqi trivial Tryz.func47 Tryz.call47 trivial (t:=λa=>ZlI a.1 a.2)
abbrev ZwB:R:=R.Pq (R.sl (R.int i64)) (R.int i64)
abbrev ZFX:List Sh:=[Sh.one (R.int i64)]
abbrev ZwA:Rs:=Rs.one (Sh.one (R.int i64))
def Zls (s:List Int×Int) (n:Int):RT (Option (QT15)):=
 let x1:=Ze (i64.wrap (i64.wrap (s.2+1)-1)) (List.length s.1)
 let x2:Int:=R.get (R.int i64) s.1 (i64.wrap (i64.wrap (s.2+1)-1))
 .br (decide (s.2>=iN (List.length s.1))) (.Lf (some ((0,s.1,i64.wrap (s.2+1))))) (.br (!x1||Zqj x2 n) (.br (x1) (.Lf (some ((ZzE x2 n,s.1,i64.wrap (s.2+1))))) (.Lf none)) (.Lf none))
def Zb (s:List Int×Int) (n:Int):QT15:=getO (ZwA.Df,ZwB.Df) (Zls s n).val
def Zj (s:List Int×Int) (n:Int):Bool:=okB (Zls s n).val
def ZbL:En:=boxE ZwB ZFX ZwA (λa=>some (Zj a.1 a.2)) (λa=>Zb a.1 a.2)
theorem Zau:Zd prog 68 ZbL:=
 ZbU (P:=prog) (n:=31) (k:=8) (l:=[(47,ZGi)]) (ol:=[]) ⟨ZGg,Tv⟩ Tryz.func68 rfl (by kernel_rfl) Tryz.call68 trivial (rb:=ZwB) (ts:=ZFX) (rs:=ZwA) (t:=λa=>Zls a.1 a.2) (λa=>by kernel_rfl)
abbrev ZwH:R:=R.Pq (R.sl (R.int i64)) (R.int i64)
abbrev ZF7:List Sh:=[]
abbrev ZwG:Rs:=Rs.one (Sh.one (R.int u8))
def Zlz (s:List Int×Int):RT (Option (QT15)):=
 let x1:List Int:=[0,1,127,128,255,15,16,153,154,9,102,254,129,85,170,64]
 .br (Zj s 512) (.br (!decide ((Zb s 512).1>=256)||Ze (Int.tmod (Zb s 512).1 16) (List.length x1)) (.br (decide ((Zb s 512).1>=256)) (.Lf (some ((R.get (R.int u8) x1 (Int.tmod (Zb s 512).1 16),(Zb s 512).2)))) (.Lf (some ((u8.wrap (Zb s 512).1,(Zb s 512).2))))) (.Lf none)) (.Lf none)
def Zcb (s:List Int×Int):QT15:=getO (ZwG.Df,ZwH.Df) (Zlz s).val
def ZeM (s:List Int×Int):Bool:=okB (Zlz s).val
def ZlA:En:=boxE ZwH ZF7 ZwG (λa=>some (ZeM a.1)) (λa=>Zcb a.1)
theorem ZfO:Zd prog 71 ZlA:=
 ZbU (P:=prog) (n:=15) (k:=8) (l:=[(68,ZbL)]) (ol:=[]) ⟨Zau,Tv⟩ Tryz.func71 rfl (by kernel_rfl) Tryz.call71 trivial (rb:=ZwH) (ts:=ZF7) (rs:=ZwG) (t:=λa=>Zlz a.1) (λa=>by kernel_rfl)
abbrev Zwu:R:=R.Pq (R.sl (R.int i64)) (R.int i64)
abbrev ZFW:List Sh:=[]
abbrev Zwt:Rs:=Rs.one (Sh.one (R.int u16))
def Zhm (s:List Int×Int):RT (Option (QT15)):=
 let x1:List Int:=[0,1,65535,65534,32767,32768,255,256]
 let x2:= !(Zb s 5).1==0||(!Zj (Zb s 5).2 8||Ze (Zb (Zb s 5).2 8).1 (List.length x1))
 let x3:= !x2
 let x4:= !(Zb s 5).1==0||Zj (Zb s 5).2 8
 .br (Zj s 5) (.br (x3||(!x4||((Zb s 5).1==0||(!(Zb s 5).1==1||Zj (Zb s 5).2 65536)))) (.br (x3||x4) (.br (x2) (.br ((Zb s 5).1==0) (.Lf (some ((R.get (R.int u16) x1 (Zb (Zb s 5).2 8).1,(Zb (Zb s 5).2 8).2)))) (.br ((Zb s 5).1==1) (.Lf (some ((u16.wrap (Zb (Zb s 5).2 65536).1,(Zb (Zb s 5).2 65536).2)))) (.br (Zj (Zb s 5).2 64) (.Lf (some ((u16.wrap (Zb (Zb s 5).2 64).1,(Zb (Zb s 5).2 64).2)))) (.Lf none)))) (.Lf none)) (.Lf none)) (.Lf none)) (.Lf none)
def Zbg (s:List Int×Int):QT15:=getO (Zwt.Df,Zwu.Df) (Zhm s).val
def Zea (s:List Int×Int):Bool:=okB (Zhm s).val
def Zs1:En:=boxE Zwu ZFW Zwt (λa=>some (Zea a.1)) (λa=>Zbg a.1)
theorem Zjq:Zd prog 70 Zs1:=
 ZbU (P:=prog) (n:=4135) (k:=8) (l:=[(68,ZbL)]) (ol:=[]) ⟨Zau,Tv⟩ Tryz.func70 rfl (by kernel_rfl) Tryz.call70 trivial (rb:=Zwu) (ts:=ZFW) (rs:=Zwt) (t:=λa=>Zhm a.1) (λa=>by kernel_rfl)
abbrev ZwF:R:=R.Pq (R.sl (R.int i64)) (R.int i64)
abbrev ZF5:List Sh:=[]
abbrev ZwE:Rs:=Rs.one (Sh.one (R.int i64))
def Zs8 (s:List Int×Int):RT (Option (QT15)):=
 .br (Zj s 2) (.Lf (some ((i64.wrap (1+(Zb s 2).1),(Zb s 2).2)))) (.Lf none)
def ZaJ (s:List Int×Int):QT15:=getO (ZwE.Df,ZwF.Df) (Zs8 s).val
def Zly (s:List Int×Int):Bool:=okB (Zs8 s).val
def ZF6:En:=boxE ZwF ZF5 ZwE (λa=>some (Zly a.1)) (λa=>ZaJ a.1)
theorem Zzv:Zd prog 122 ZF6:=
 ZbU (P:=prog) (n:=7) (k:=8) (l:=[(68,ZbL)]) (ol:=[]) ⟨Zau,Tv⟩ Tryz.func122 rfl (by kernel_rfl) Tryz.call122 trivial (rb:=ZwF) (ts:=ZF5) (rs:=ZwE) (t:=λa=>Zs8 a.1) (λa=>by kernel_rfl)
abbrev Zlr:R:=R.Pq (R.sl (R.int i64)) (R.int i64)
abbrev Zs5:List Sh:=[]
abbrev Zlq:Rs:=Rs.one (Sh.one (R.int u8))
def Zez (s:List Int×Int):RT (Option (QT15)):=
 let x1:List Int:=[251,243,118,205,201,197,227,211,219,54,52,32,48,194,202,255,62,49]
 .br (Zj s 3) (.br (!decide ((Zb s 3).1>0)||Zj (Zb s 3).2 256) (.br (decide ((Zb s 3).1>0)) (.Lf (some ((u8.wrap (Zb (Zb s 3).2 256).1,(Zb (Zb s 3).2 256).2)))) (.br (!Zj (Zb s 3).2 18||Ze (Zb (Zb s 3).2 18).1 (List.length x1)) (.br (Zj (Zb s 3).2 18) (.Lf (some ((R.get (R.int u8) x1 (Zb (Zb s 3).2 18).1,(Zb (Zb s 3).2 18).2)))) (.Lf none)) (.Lf none))) (.Lf none)) (.Lf none)
def Zac (s:List Int×Int):QT15:=getO (Zlq.Df,Zlr.Df) (Zez s).val
def Zbz (s:List Int×Int):Bool:=okB (Zez s).val
def ZfM:En:=boxE Zlr Zs5 Zlq (λa=>some (Zbz a.1)) (λa=>Zac a.1)
theorem Zed:Zd prog 119 ZfM:=
 ZbU (P:=prog) (n:=7) (k:=8) (l:=[(68,ZbL)]) (ol:=[]) ⟨Zau,Tv⟩ Tryz.func119 rfl (by kernel_rfl) Tryz.call119 trivial (rb:=Zlr) (ts:=Zs5) (rs:=Zlq) (t:=λa=>Zez a.1) (λa=>by kernel_rfl)
def NB (s:List Int×Int) (k:Int):Prop:=0<=s.2/\s.2<=k
theorem ZGh (x n:Int) (h0:0<n) (h1:n<=4611686018427387904):Zqj x n=true/\ZzE x n=(x%18446744073709551616)%n:=by
 have e:IntKind.wrap .u64 n=n:=Zua ⟨by simp[IntKind.min,IntKind.signed];omega,by simp[IntKind.max,IntKind.signed,IntKind.bits];omega⟩;have e2:IntKind.wrap .u64 x=x%18446744073709551616:=by simp[IntKind.wrap,IntKind.signed,IntKind.bits]
 have hn:(n !=0)=true:=by simp;omega
 have h2:0<=x%18446744073709551616:=Int.emod_nonneg _ (by decide);have h3:=Int.emod_nonneg (x%18446744073709551616) (b:=n) (by omega);have h4:=Int.emod_lt_of_pos (x%18446744073709551616) (b:=n) h0;have hv:(ZlI x n).val=some ((x%18446744073709551616)%n):=by simp only[ZlI,RT.val,e,e2,hn,Ya,Int.tmod_eq_emod_of_nonneg h2];rw[Zv _ (by omega) (by omega)]
 exact⟨by simp only[Zqj,hv];rfl,by simp only[ZzE,hv,getO]⟩
variable {s:List Int×Int} {k:Int}
theorem Zn (h:NB s k) (hk:k<=1000000) (n:Int) (h0:0<n) (h1:n<=4611686018427387904):
  Zj s n=true/\NB (Zb s n).2 (k+1)/\0<=(Zb s n).1/\(Zb s n).1<n:=by
 obtain⟨ha,hb⟩:=h;have e1:IntKind.wrap .i64 (s.2+1)=s.2+1:=Zv _ (by omega) (by omega);have e2:IntKind.wrap .i64 s.2=s.2:=Zv _ (by omega) (by omega);by_cases hl:(s.1.length:Int)<=s.2
 ·have hv:(Zls s n).val=some (0,s.1,s.2+1):=by simp[Zls,RT.val,iN,hl,e1]
  simp only[Zj,Zb,hv,okB,getO,NB];exact⟨trivial,⟨by omega,by omega⟩,by omega,h0⟩
 ·have hr:Ze s.2 s.1.length=true:=Zw.2 ⟨ha,by omega⟩;obtain⟨p1,p2⟩:=ZGh (R.get (R.int i64) s.1 s.2) n h0 h1;have h3:=Int.emod_nonneg (R.get (R.int i64) s.1 s.2%18446744073709551616) (b:=n) (by omega);have h4:=Int.emod_lt_of_pos (R.get (R.int i64) s.1 s.2%18446744073709551616) (b:=n) h0;have hv:(Zls s n).val=some ((R.get (R.int i64) s.1 s.2%18446744073709551616)%n,s.1,s.2+1):=by simp[Zls,RT.val,iN,hl,e1,e2,hr,p1,p2]
  simp only[Zj,Zb,hv,okB,getO,NB];exact⟨trivial,⟨by omega,by omega⟩,h3,h4⟩
theorem Zhp (h:NB s k) (hk:k<=1000000):ZeM s=true/\NB (Zcb s).2 (k+1)/\inR .u8 (Zcb s).1:=by
 obtain⟨c,b,d0,d1⟩:=Zn h hk 512 (by decide) (by decide);have m0:0<=(Zb s 512).1%16:=Int.emod_nonneg _ (by decide);have m1:(Zb s 512).1%16<16:=Int.emod_lt_of_pos _ (by decide);have ht:Int.tmod (Zb s 512).1 16=(Zb s 512).1%16:=Int.tmod_eq_emod_of_nonneg d0;by_cases hn:256<=(Zb s 512).1
 ·have hv:(Zlz s).val=some (R.get (R.int u8) [0,1,127,128,255,15,16,153,154,9,102,254,129,85,170,64] ((Zb s 512).1%16),(Zb s 512).2):=by simp[Zlz,RT.val,c,hn,ht,Ze,m0,m1]
  simp only[ZeM,Zcb,hv,okB,getO];refine⟨trivial,b,?_⟩;have hall:∀i:Nat,i<16->inR .u8 (([0,1,127,128,255,15,16,153,154,9,102,254,129,85,170,64]:List Int).getD i 0):=by
   intro i hi;have:∀i:Fin 16,decide (0<=([0,1,127,128,255,15,16,153,154,9,102,254,129,85,170,64]:List Int).getD i 0)&&decide (([0,1,127,128,255,15,16,153,154,9,102,254,129,85,170,64]:List Int).getD i 0<=255):=by decide
   have:=this ⟨i,hi⟩;rw[Zhx];simpa using this
  exact hall ((Zb s 512).1%16).toNat (by omega)
 ·have hv:(Zlz s).val=some (IntKind.wrap .u8 (Zb s 512).1,(Zb s 512).2):=by simp[Zlz,RT.val,c,hn]
  simp only[ZeM,Zcb,hv,okB,getO];exact⟨trivial,b,Zcd _ _⟩
theorem Zzp (h:NB s k) (hk:k<=900000):Zea s=true/\NB (Zbg s).2 (k+2)/\inR .u16 (Zbg s).1:=by
 obtain⟨c,b,d0,d1⟩:=Zn h (by omega) 5 (by decide) (by decide);obtain⟨c8,b8,e0,e1⟩:=Zn b (by omega) 8 (by decide) (by decide);obtain⟨c6,b6,_⟩:=Zn b (by omega) 65536 (by decide) (by decide);obtain⟨c4,b4,_⟩:=Zn b (by omega) 64 (by decide) (by decide);have w:∀{t:List Int×Int},NB t (k+1+1)->NB t (k+2):=λh=>⟨h.1,by have:=h.2;omega⟩
 have hr:Ze (Zb (Zb s 5).2 8).1 8=true:=Zw.2 ⟨e0,by omega⟩;by_cases h0:(Zb s 5).1=0
 ·have hv:(Zhm s).val=some (R.get (R.int u16) [0,1,65535,65534,32767,32768,255,256] (Zb (Zb s 5).2 8).1,(Zb (Zb s 5).2 8).2):=by simp[Zhm,RT.val,c,h0,c8,hr]
  simp only[Zea,Zbg,hv,okB,getO];refine⟨trivial,w b8,?_⟩;have hall:∀i:Nat,i<8->inR .u16 (([0,1,65535,65534,32767,32768,255,256]:List Int).getD i 0):=by
   intro i hi;have:∀i:Fin 8,decide (0<=([0,1,65535,65534,32767,32768,255,256]:List Int).getD i 0)&&decide (([0,1,65535,65534,32767,32768,255,256]:List Int).getD i 0<=65535):=by decide
   have:=this ⟨i,hi⟩;simp only[Yc,YF] at this;exact⟨by simpa [IntKind.min,IntKind.signed] using this.1,by simpa [IntKind.max,IntKind.signed,IntKind.bits] using this.2⟩
  exact hall (Zb (Zb s 5).2 8).1.toNat (by omega)
 ·by_cases h1:(Zb s 5).1=1
  ·have hv:(Zhm s).val=some (IntKind.wrap .u16 (Zb (Zb s 5).2 65536).1,(Zb (Zb s 5).2 65536).2):=by simp[Zhm,RT.val,c,h1,c6]
   simp only[Zea,Zbg,hv,okB,getO];exact⟨trivial,w b6,Zcd _ _⟩
  ·have hv:(Zhm s).val=some (IntKind.wrap .u16 (Zb (Zb s 5).2 64).1,(Zb (Zb s 5).2 64).2):=by
    have g0:((Zb s 5).1==0)=false:=by simpa using h0
    have g1:((Zb s 5).1==1)=false:=by simpa using h1
    simp[Zhm,RT.val,c,g0,g1,c4]
   simp only[Zea,Zbg,hv,okB,getO];exact⟨trivial,w b4,Zcd _ _⟩
theorem ZI0 (h:NB s k) (hk:k<=1000000):Zly s=true/\NB (ZaJ s).2 (k+1)/\((ZaJ s).1=1\/(ZaJ s).1=2):=by
 obtain⟨c,b,d0,d1⟩:=Zn h hk 2 (by decide) (by decide);have hv:(Zs8 s).val=some (1+(Zb s 2).1,(Zb s 2).2):=by simp[Zs8,RT.val,c];rw[Zv _ (by omega) (by omega)]
 simp only[Zly,ZaJ,hv,okB,getO];exact⟨trivial,b,by omega⟩
theorem Zih (h:NB s k) (hk:k<=900000):Zbz s=true/\NB (Zac s).2 (k+2)/\inR .u8 (Zac s).1:=by
 obtain⟨c,b,d0,d1⟩:=Zn h (by omega) 3 (by decide) (by decide);have w:∀{t:List Int×Int},NB t (k+1+1)->NB t (k+2):=λh=>⟨h.1,by have:=h.2;omega⟩
 by_cases hn:0<(Zb s 3).1
 ·have hk':k+1<=1000001:=by omega
  obtain⟨c2,b2,_⟩:=Zn b (by omega) 256 (by decide) (by decide);have hv:(Zez s).val=some (IntKind.wrap .u8 (Zb (Zb s 3).2 256).1,(Zb (Zb s 3).2 256).2):=by simp[Zez,RT.val,c,hn,c2]
  simp only[Zbz,Zac,hv,okB,getO];exact⟨trivial,w b2,Zcd _ _⟩
 ·obtain⟨c2,b2,e0,e1⟩:=Zn b (by omega) 18 (by decide) (by decide);have hr:Ze (Zb (Zb s 3).2 18).1 18=true:=Zw.2 ⟨e0,by omega⟩;have hv:(Zez s).val=some (R.get (R.int u8) [251,243,118,205,201,197,227,211,219,54,52,32,48,194,202,255,62,49] (Zb (Zb s 3).2 18).1,(Zb (Zb s 3).2 18).2):=by simp[Zez,RT.val,c,hn,c2,hr]
  simp only[Zbz,Zac,hv,okB,getO];refine⟨trivial,w b2,?_⟩;have hall:∀i:Nat,i<18->inR .u8 (([251,243,118,205,201,197,227,211,219,54,52,32,48,194,202,255,62,49]:List Int).getD i 0):=by
   intro i hi;have:∀i:Fin 18,decide (0<=([251,243,118,205,201,197,227,211,219,54,52,32,48,194,202,255,62,49]:List Int).getD i 0)&&decide (([251,243,118,205,201,197,227,211,219,54,52,32,48,194,202,255,62,49]:List Int).getD i 0<=255):=by decide
   have:=this ⟨i,hi⟩;rw[Zhx];simpa using this
  exact hall (Zb (Zb s 3).2 18).1.toNat (by omega)
theorem ZGV (l:List Int):NB (l,0) 0:=⟨by simp,by simp⟩
end
end Go.Proofs.YtpnjbfjomebppaaGreat
