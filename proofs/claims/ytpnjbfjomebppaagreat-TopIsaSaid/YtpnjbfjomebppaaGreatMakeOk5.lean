import Derived.Test.YtpnjbfjomebppaaGreatFinRX
import Derived.Test.YtpnjbfjomebppaaGreatFin1
import Derived.Test.YtpnjbfjomebppaaGreatFin2
import Derived.Test.YtpnjbfjomebppaaGreatFin3
import Derived.Test.YtpnjbfjomebppaaGreatFin4
open Go Go.S3 Go.Proofs
set_option linter.unusedVariables false
set_option linter.unusedSimpArgs false
set_option maxRecDepth 100000
namespace Go.Proofs.YtpnjbfjomebppaaGreat
noncomputable section
theorem fp_1 (c) (s:Int) (g:List Int) (l) (n:Int) (hk:(Zc c.1 (g.getD 0 0)).1=n):(n=1->(ZCe c s g l).val=some (finX c s g l))/\(n=6->(ZB9 c s g l).val=some (finX c s g l))/\(n=10->(ZuI c s g l).val=some (finX c s g l))/\(n=17->(ZuB c s g l).val=some (finX c s g l))/\(n=21->(Zux c s g l).val=some (finX c s g l))/\(n=28->(Zuq c s g l).val=some (finX c s g l))/\(n=33->(Zul c s g l).val=some (finX c s g l))/\(n=37->(Zuh c s g l).val=some (finX c s g l))/\(n=43->(Zub c s g l).val=some (finX c s g l)):=by
 refine⟨?_,?_,?_,?_,?_,?_,?_,?_,?_⟩;all_goals intro e;subst e
 all_goals simp only[ZCe,ZB9,ZuI,ZuB,Zux,Zuq,Zul,Zuh,Zub,RT.val,rgx]
 all_goals simp only[qat0,mat0,qat1,mat1,rg0,hk,ZJ,Zat,Za8,Zad,Zae,Z0,Z1,Zcw,ZcA,Zh1,Zh0,ZI,Zby,finX,spOf]
 all_goals generalize Zd s=bi
 all_goals cases bi with
 |true=>simp[wPC,wSP]
 |false=>
  generalize (s==5)=bs;simp only[finI,hk,finR,wPC,wSP,wA,wF,fCY,fVCY,ZgA,flOf,Z3,pcOf,Zcj];generalize Zc c.1 (g.getD 0 0)=i at hk|-;simp (config:={implicitDefEqProofs:=false}) [ZdW,ZdO,ZeV,hk]
theorem fp_2 (c) (s:Int) (g:List Int) (l) (n:Int) (hk:(Zc c.1 (g.getD 0 0)).1=n):(n=3->(ZCc c s g l).val=some (finX c s g l))/\(n=7->(ZB8 c s g l).val=some (finX c s g l))/\(n=11->(ZuH c s g l).val=some (finX c s g l))/\(n=18->(ZuA c s g l).val=some (finX c s g l))/\(n=22->(Zuw c s g l).val=some (finX c s g l))/\(n=29->(Zup c s g l).val=some (finX c s g l))/\(n=34->(Zuk c s g l).val=some (finX c s g l))/\(n=40->(Zue c s g l).val=some (finX c s g l))/\(n=44->(Zua c s g l).val=some (finX c s g l)):=by
 refine⟨?_,?_,?_,?_,?_,?_,?_,?_,?_⟩;all_goals intro e;subst e
 all_goals simp only[ZCc,ZB8,ZuH,ZuA,Zuw,Zup,Zuk,Zue,Zua,RT.val,rgx]
 all_goals simp only[qat0,mat0,qat1,mat1,rg0,hk,ZJ,Zat,Za8,Zad,Zae,Z0,Z1,Zcw,ZcA,Zh1,Zh0,ZI,Zby,finX,spOf]
 all_goals generalize Zd s=bi
 all_goals cases bi with
 |true=>simp[wPC,wSP]
 |false=>
  generalize (s==5)=bs;simp only[finI,hk,finR,wPC,wSP,wA,wF,fCY,fVCY,ZgA,flOf,Z3,pcOf,Zcj];generalize Zc c.1 (g.getD 0 0)=i at hk|-;simp (config:={implicitDefEqProofs:=false}) [ZdW,ZdO,ZeV,hk]
theorem fp_3 (c) (s:Int) (g:List Int) (l) (n:Int) (hk:(Zc c.1 (g.getD 0 0)).1=n):(n=4->(ZCb c s g l).val=some (finX c s g l))/\(n=8->(ZB7 c s g l).val=some (finX c s g l))/\(n=13->(ZuF c s g l).val=some (finX c s g l))/\(n=19->(Zuz c s g l).val=some (finX c s g l))/\(n=23->(Zuv c s g l).val=some (finX c s g l))/\(n=30->(Zuo c s g l).val=some (finX c s g l))/\(n=35->(Zuj c s g l).val=some (finX c s g l))/\(n=41->(Zud c s g l).val=some (finX c s g l))/\(n=46->(Zt8 c s g l).val=some (finX c s g l)):=by
 refine⟨?_,?_,?_,?_,?_,?_,?_,?_,?_⟩;all_goals intro e;subst e
 all_goals simp only[ZCb,ZB7,ZuF,Zuz,Zuv,Zuo,Zuj,Zud,Zt8,RT.val,rgx]
 all_goals simp only[qat0,mat0,qat1,mat1,rg0,hk,ZJ,Zat,Za8,Zad,Zae,Z0,Z1,Zcw,ZcA,Zh1,Zh0,ZI,Zby,finX,spOf]
 all_goals generalize Zd s=bi
 all_goals cases bi with
 |true=>simp[wPC,wSP]
 |false=>
  generalize (s==5)=bs;simp only[finI,hk,finR,wPC,wSP,wA,wF,fCY,fVCY,ZgA,flOf,Z3,pcOf,Zcj];generalize Zc c.1 (g.getD 0 0)=i at hk|-;simp (config:={implicitDefEqProofs:=false}) [ZdW,ZdO,ZeV,hk]
theorem fp_4 (c) (s:Int) (g:List Int) (l) (n:Int) (hk:(Zc c.1 (g.getD 0 0)).1=n):(n=5->(ZCa c s g l).val=some (finX c s g l))/\(n=9->(ZB6 c s g l).val=some (finX c s g l))/\(n=16->(ZuC c s g l).val=some (finX c s g l))/\(n=20->(Zuy c s g l).val=some (finX c s g l))/\(n=27->(Zur c s g l).val=some (finX c s g l))/\(n=32->(Zum c s g l).val=some (finX c s g l))/\(n=36->(Zui c s g l).val=some (finX c s g l))/\(n=42->(Zuc c s g l).val=some (finX c s g l))/\(n=47->(Zt7 c s g l).val=some (finX c s g l)):=by
 refine⟨?_,?_,?_,?_,?_,?_,?_,?_,?_⟩;all_goals intro e;subst e
 all_goals simp only[ZCa,ZB6,ZuC,Zuy,Zur,Zum,Zui,Zuc,Zt7,RT.val,rgx]
 all_goals simp only[qat0,mat0,qat1,mat1,rg0,hk,ZJ,Zat,Za8,Zad,Zae,Z0,Z1,Zcw,ZcA,Zh1,Zh0,ZI,Zby,finX,spOf]
 all_goals generalize Zd s=bi
 all_goals cases bi with
 |true=>simp[wPC,wSP]
 |false=>
  generalize (s==5)=bs;simp only[finI,hk,finR,wPC,wSP,wA,wF,fCY,fVCY,ZgA,flOf,Z3,pcOf,Zcj];generalize Zc c.1 (g.getD 0 0)=i at hk|-;simp (config:={implicitDefEqProofs:=false}) [ZdW,ZdO,ZeV,hk]
theorem fp_5 (c) (s:Int) (g:List Int) (l) (n:Int) (hk:(Zc c.1 (g.getD 0 0)).1=n):(n=2->(ZCd c s g l).val=some (finX c s g l))/\(n=12->(ZuG c s g l).val=some (finX c s g l)):=by
 refine⟨?_,?_⟩;all_goals intro e;subst e
 all_goals simp only[ZCd,ZuG,RT.val,rgx]
 all_goals simp only[qat0,mat0,qat1,mat1,rg0,hk,ZJ,Zat,Za8,Zad,Zae,Z0,Z1,Zcw,ZcA,Zh1,Zh0,ZI,Zby,finX,spOf]
 all_goals generalize Zd s=bi
 all_goals cases bi with
 |true=>simp[wPC,wSP]
 |false=>
  generalize (s==5)=bs;simp only[finI,hk,finR,wPC,wSP,wA,wF,fCY,fVCY,ZgA,flOf,Z3,pcOf,Zcj];generalize Zc c.1 (g.getD 0 0)=i at hk|-;generalize (i.2.2.2.1==6)=b0;cases b0<;>simp (config:={implicitDefEqProofs:=false}) [ZdW,ZdO,ZeV,hk]
theorem fp_6 (c) (s:Int) (g:List Int) (l) (n:Int) (hk:(Zc c.1 (g.getD 0 0)).1=n):(n=14->(ZuE c s g l).val=some (finX c s g l))/\(n=15->(ZuD c s g l).val=some (finX c s g l)):=by
 refine⟨?_,?_⟩;all_goals intro e;subst e
 all_goals simp only[ZuE,ZuD,RT.val,rgx]
 all_goals simp only[qat0,mat0,qat1,mat1,rg0,hk,ZJ,Zat,Za8,Zad,Zae,Z0,Z1,Zcw,ZcA,Zh1,Zh0,ZI,Zby,finX,spOf]
 all_goals generalize Zd s=bi
 all_goals cases bi with
 |true=>simp[wPC,wSP]
 |false=>
  generalize (s==5)=bs;simp only[finI,hk,finR,wPC,wSP,wA,wF,fCY,fVCY,ZgA,flOf,Z3,pcOf,Zcj];generalize Zc c.1 (g.getD 0 0)=i at hk|-;generalize (i.2.2.1==6)=b0;cases b0<;>simp (config:={implicitDefEqProofs:=false}) [ZdW,ZdO,ZeV,hk]
theorem fp_7 (c) (s:Int) (g:List Int) (l) (n:Int) (hk:(Zc c.1 (g.getD 0 0)).1=n):(n=24->(Zuu c s g l).val=some (finX c s g l))/\(n=25->(Zut c s g l).val=some (finX c s g l))/\(n=26->(Zus c s g l).val=some (finX c s g l))/\(n=45->(Zt9 c s g l).val=some (finX c s g l)):=by
 refine⟨?_,?_,?_,?_⟩;all_goals intro e;subst e
 all_goals simp only[Zuu,Zut,Zus,Zt9,RT.val,rgx]
 all_goals simp only[qat0,mat0,qat1,mat1,rg0,hk,ZJ,Zat,Za8,Zad,Zae,Z0,Z1,Zcw,ZcA,Zh1,Zh0,ZI,Zby,finX,spOf]
 all_goals generalize Zd s=bi
 all_goals cases bi with
 |true=>simp[wPC,wSP]
 |false=>
  generalize (s==5)=bs;simp only[finI,hk,finR,wPC,wSP,wA,wF,fCY,fVCY,ZgA,flOf,Z3,pcOf,Zcj];generalize Zc c.1 (g.getD 0 0)=i at hk|-;generalize Zgf _ _=b0;cases b0<;>simp (config:={implicitDefEqProofs:=false}) [ZdW,ZdO,ZeV,hk]
theorem fp_8 (c) (s:Int) (g:List Int) (l) (n:Int) (hk:(Zc c.1 (g.getD 0 0)).1=n):(n=31->(Zun c s g l).val=some (finX c s g l)):=by
 skip
 all_goals intro e;subst e
 all_goals simp only[Zun,RT.val,rgx]
 all_goals simp only[qat0,mat0,qat1,mat1,rg0,hk,ZJ,Zat,Za8,Zad,Zae,Z0,Z1,Zcw,ZcA,Zh1,Zh0,ZI,Zby,finX,spOf]
 all_goals generalize Zd s=bi
 all_goals cases bi with
 |true=>simp[wPC,wSP]
 |false=>
  generalize (s==5)=bs;simp only[finI,hk,finR,wPC,wSP,wA,wF,fCY,fVCY,ZgA,flOf,Z3,pcOf,Zcj];generalize Zc c.1 (g.getD 0 0)=i at hk|-;generalize (i.2.2.2.2.1==3)=b0;cases b0<;>simp (config:={implicitDefEqProofs:=false}) [ZdW,ZdO,ZeV,hk]
theorem fp_9 (c) (s:Int) (g:List Int) (l) (n:Int) (hk:(Zc c.1 (g.getD 0 0)).1=n):(n=38->(Zug c s g l).val=some (finX c s g l)):=by
 skip
 all_goals intro e;subst e
 all_goals simp only[Zug,RT.val,rgx]
 all_goals simp only[qat0,mat0,qat1,mat1,rg0,hk,ZJ,Zat,Za8,Zad,Zae,Z0,Z1,Zcw,ZcA,Zh1,Zh0,ZI,Zby,finX,spOf]
 all_goals generalize Zd s=bi
 all_goals cases bi with
 |true=>simp[wPC,wSP]
 |false=>
  generalize (s==5)=bs;simp only[finI,hk,finR,wPC,wSP,wA,wF,fCY,fVCY,ZgA,flOf,Z3,pcOf,Zcj];generalize Zc c.1 (g.getD 0 0)=i at hk|-;simp[ZdW,ZdO,ZeV,hk,ZTR]
theorem fp_10 (c) (s:Int) (g:List Int) (l) (n:Int) (hk:(Zc c.1 (g.getD 0 0)).1=n):(n=39->(Zuf c s g l).val=some (finX c s g l)):=by
 skip
 all_goals intro e;subst e
 all_goals simp only[Zuf,RT.val,rgx]
 all_goals simp only[qat0,mat0,qat1,mat1,rg0,hk,ZJ,Zat,Za8,Zad,Zae,Z0,Z1,Zcw,ZcA,Zh1,Zh0,ZI,Zby,finX,spOf]
 all_goals generalize Zd s=bi
 all_goals cases bi with
 |true=>simp[wPC,wSP]
 |false=>
  generalize (s==5)=bs;simp only[finI,hk,finR,wPC,wSP,wA,wF,fCY,fVCY,ZgA,flOf,Z3,pcOf,Zcj];generalize Zc c.1 (g.getD 0 0)=i at hk|-;simp[ZdW,ZdO,ZeV,hk,rSim,ZRh,RT.val]
theorem ZWI (a:HL ZS) (h:okHL ZS a):∃l,Zd5 Tryz.prog l/\(Zha (envX Tryz.prog l [] 1023 8) Tryz.f85 ZS ZMx a).val=some (finX a.1 a.2.1 a.2.2.1 a.2.2.2):=by
 have hk:=ZOT a.1.1 _ (ZPf h.2.2.1);refine⟨ZWJ (Zc a.1.1 (a.2.2.1.getD 0 0)).1,ZSi _,?_⟩;show (EV0 _ a).val=_;rcases ZOS hk.1 hk.2 with e|e|e|e|e|e|e|e|e|e|e|e|e|e|e|e|e|e|e|e|e|e|e|e|e|e|e|e|e|e|e|e|e|e|e|e|e|e|e|e|e|e|e|e|e|e|e
 ·rw[e,ZNJ a,((fp_1 a.1 a.2.1 a.2.2.1 a.2.2.2 _ e).1 rfl)]
 ·rw[e,ZNI a,((fp_5 a.1 a.2.1 a.2.2.1 a.2.2.2 _ e).1 rfl)]
 ·rw[e,ZNH a,((fp_2 a.1 a.2.1 a.2.2.1 a.2.2.2 _ e).1 rfl)]
 ·rw[e,ZNG a,((fp_3 a.1 a.2.1 a.2.2.1 a.2.2.2 _ e).1 rfl)]
 ·rw[e,ZNF a,((fp_4 a.1 a.2.1 a.2.2.1 a.2.2.2 _ e).1 rfl)]
 ·rw[e,ZNE a,((fp_1 a.1 a.2.1 a.2.2.1 a.2.2.2 _ e).2.1 rfl)]
 ·rw[e,ZND a,((fp_2 a.1 a.2.1 a.2.2.1 a.2.2.2 _ e).2.1 rfl)]
 ·rw[e,ZNC a,((fp_3 a.1 a.2.1 a.2.2.1 a.2.2.2 _ e).2.1 rfl)]
 ·rw[e,ZNB a,((fp_4 a.1 a.2.1 a.2.2.1 a.2.2.2 _ e).2.1 rfl)]
 ·rw[e,ZIn a,((fp_1 a.1 a.2.1 a.2.2.1 a.2.2.2 _ e).2.2.1 rfl)]
 ·rw[e,ZIm a,((fp_2 a.1 a.2.1 a.2.2.1 a.2.2.2 _ e).2.2.1 rfl)]
 ·rw[e,ZIl a,((fp_5 a.1 a.2.1 a.2.2.1 a.2.2.2 _ e).2 rfl)]
 ·rw[e,ZIk a,((fp_3 a.1 a.2.1 a.2.2.1 a.2.2.2 _ e).2.2.1 rfl)]
 ·rw[e,ZIj a,((fp_6 a.1 a.2.1 a.2.2.1 a.2.2.2 _ e).1 rfl)]
 ·rw[e,ZIi a,((fp_6 a.1 a.2.1 a.2.2.1 a.2.2.2 _ e).2 rfl)]
 ·rw[e,ZIh a,((fp_4 a.1 a.2.1 a.2.2.1 a.2.2.2 _ e).2.2.1 rfl)]
 ·rw[e,ZIg a,((fp_1 a.1 a.2.1 a.2.2.1 a.2.2.2 _ e).2.2.2.1 rfl)]
 ·rw[e,ZIf a,((fp_2 a.1 a.2.1 a.2.2.1 a.2.2.2 _ e).2.2.2.1 rfl)]
 ·rw[e,ZIe a,((fp_3 a.1 a.2.1 a.2.2.1 a.2.2.2 _ e).2.2.2.1 rfl)]
 ·rw[e,ZId a,((fp_4 a.1 a.2.1 a.2.2.1 a.2.2.2 _ e).2.2.2.1 rfl)]
 ·rw[e,ZIc a,((fp_1 a.1 a.2.1 a.2.2.1 a.2.2.2 _ e).2.2.2.2.1 rfl)]
 ·rw[e,ZIb a,((fp_2 a.1 a.2.1 a.2.2.1 a.2.2.2 _ e).2.2.2.2.1 rfl)]
 ·rw[e,ZIa a,((fp_3 a.1 a.2.1 a.2.2.1 a.2.2.2 _ e).2.2.2.2.1 rfl)]
 ·rw[e,ZH9 a,((fp_7 a.1 a.2.1 a.2.2.1 a.2.2.2 _ e).1 rfl)]
 ·rw[e,ZH8 a,((fp_7 a.1 a.2.1 a.2.2.1 a.2.2.2 _ e).2.1 rfl)]
 ·rw[e,ZH7 a,((fp_7 a.1 a.2.1 a.2.2.1 a.2.2.2 _ e).2.2.1 rfl)]
 ·rw[e,ZH6 a,((fp_4 a.1 a.2.1 a.2.2.1 a.2.2.2 _ e).2.2.2.2.1 rfl)]
 ·rw[e,ZH5 a,((fp_1 a.1 a.2.1 a.2.2.1 a.2.2.2 _ e).2.2.2.2.2.1 rfl)]
 ·rw[e,ZH4 a,((fp_2 a.1 a.2.1 a.2.2.1 a.2.2.2 _ e).2.2.2.2.2.1 rfl)]
 ·rw[e,ZH3 a,((fp_3 a.1 a.2.1 a.2.2.1 a.2.2.2 _ e).2.2.2.2.2.1 rfl)]
 ·rw[e,ZH2 a,((fp_8 a.1 a.2.1 a.2.2.1 a.2.2.2 _ e) rfl)]
 ·rw[e,ZH1 a,((fp_4 a.1 a.2.1 a.2.2.1 a.2.2.2 _ e).2.2.2.2.2.1 rfl)]
 ·rw[e,ZH0 a,((fp_1 a.1 a.2.1 a.2.2.1 a.2.2.2 _ e).2.2.2.2.2.2.1 rfl)]
 ·rw[e,ZHZ a,((fp_2 a.1 a.2.1 a.2.2.1 a.2.2.2 _ e).2.2.2.2.2.2.1 rfl)]
 ·rw[e,ZHY a,((fp_3 a.1 a.2.1 a.2.2.1 a.2.2.2 _ e).2.2.2.2.2.2.1 rfl)]
 ·rw[e,ZHX a,((fp_4 a.1 a.2.1 a.2.2.1 a.2.2.2 _ e).2.2.2.2.2.2.1 rfl)]
 ·rw[e,ZHW a,((fp_1 a.1 a.2.1 a.2.2.1 a.2.2.2 _ e).2.2.2.2.2.2.2.1 rfl)]
 ·rw[e,ZHV a,((fp_9 a.1 a.2.1 a.2.2.1 a.2.2.2 _ e) rfl)]
 ·rw[e,ZHU a,((fp_10 a.1 a.2.1 a.2.2.1 a.2.2.2 _ e) rfl)]
 ·rw[e,ZHT a,((fp_2 a.1 a.2.1 a.2.2.1 a.2.2.2 _ e).2.2.2.2.2.2.2.1 rfl)]
 ·rw[e,ZHS a,((fp_3 a.1 a.2.1 a.2.2.1 a.2.2.2 _ e).2.2.2.2.2.2.2.1 rfl)]
 ·rw[e,ZHR a,((fp_4 a.1 a.2.1 a.2.2.1 a.2.2.2 _ e).2.2.2.2.2.2.2.1 rfl)]
 ·rw[e,ZHQ a,((fp_1 a.1 a.2.1 a.2.2.1 a.2.2.2 _ e).2.2.2.2.2.2.2.2 rfl)]
 ·rw[e,ZHP a,((fp_2 a.1 a.2.1 a.2.2.1 a.2.2.2 _ e).2.2.2.2.2.2.2.2 rfl)]
 ·rw[e,ZHO a,((fp_7 a.1 a.2.1 a.2.2.1 a.2.2.2 _ e).2.2.2 rfl)]
 ·rw[e,ZHN a,((fp_3 a.1 a.2.1 a.2.2.1 a.2.2.2 _ e).2.2.2.2.2.2.2.2 rfl)]
 ·rw[e,ZHM a,((fp_4 a.1 a.2.1 a.2.2.1 a.2.2.2 _ e).2.2.2.2.2.2.2.2 rfl)]
def ZCf:En:=Zi ZS ZMx (λ_=>none) (λa=>finX a.1 a.2.1 a.2.2.1 a.2.2.2)
theorem Zt6:Zb Tryz.prog 85 ZCf:=ZEJ Tryz.func85 rfl (by kernel_rfl) Tryz.call85 λa h _=>ZWI a h
theorem Zq0 (c op:Int) (h:c≠2):Zc c op=Zc 0 op:=by unfold Zc;rw[Zni c op h]
theorem ZAP (c op:Int) (h:c≠2):Zrs c op=Zrs 0 op:=by
 have h1:(c==2)=false:=by simpa using h
 have h0:((0:Int)==2)=false:=rfl;simp only[Zrs,ZB4,RT.val,Zq0 c op h,h1,h0]
theorem Zz8 (c op:Int) (h:c≠2):ZgK c op=ZgK 0 op:=by
 have h1:rOn c=false:=by simpa [Zby] using h
 have h0:rOn 0=false:=rfl;simp only[ZgK,ZLw,RT.val,Zq0 c op h,h1,h0]
def firT (c op:Int):Bool:=Zrs c op==ZgK c op
theorem ZS1 (c op:Int) (h:inR .u8 op):Zrs c op=ZgK c op:=by
 by_cases hc:c=2
 ·subst hc;exact eq_of_beq (Zf8 (firT 2) (by kernel_rfl) op h)
 ·rw[ZAP c op hc,Zz8 c op hc];exact eq_of_beq (Zf8 (firT 0) (by kernel_rfl) op h)
def Zmf:En:=Zi ZxR ZUd (λ_=>none) (λa=>ZgK a.1 a.2)
theorem ZkC:Zb Tryz.prog 84 Zmf:=ZNz.tot (λa h=>by simp) (λa h=>ZS1 _ _ h.2)
end
end Go.Proofs.YtpnjbfjomebppaaGreat
open Go.Proofs.Tryz (prog)
open Go.IntKind (u8 u16 i64)
namespace Go.Proofs.YtpnjbfjomebppaaGreat
noncomputable section
def ZMv (c:QT5):RT (Int):=
 .br (decide (c.2.2.2.2.1<1)||decide (c.2.2.2.2.1>9))
 (.Lf (1))
 (.Lf c.2.2.2.2.1)
def ZbK (c:QT5):Int:=(ZMv c).val
def ZnX:En:=Zi ZN1 ZUd (λ_=>none) (λa=>ZbK a)
theorem ZnW:Zb prog 136 ZnX:=
 pureQ 7 [] [] _ _ trivial Tryz.func136 Tryz.call136 trivial
abbrev ZNr:List Sh:=[Sh.agg (R.Pq Z8 (R.Pq Kc (R.Pq (R.sl Ka) (R.Pq (RY) (R.Pq Kc R.bool))))),So R.bool]
def ZNs (c:QT5) (h:Bool):RT (Int):=
 .br (h)
 (.Lf (8))
 (.br (c.1.2.2.2.2.1&&c.2.1==0)
  (.Lf (9))
  (.Lf (1)))
def Zx5 (c:QT5) (h:Bool):Int:=(ZNs c h).val
def ZFv:En:=Zi ZNr ZUd (λ_=>none) (λa=>Zx5 a.1 a.2)
theorem ZFu:Zb prog 193 ZFv:=
 pureQ 191 [] [] _ _ trivial Tryz.func193 Tryz.call193 trivial
abbrev Zrk:List Sh:=[So Kc,So R.bool]
def ZnP (s:Int) (h:Bool):RT (Int):=
 .br (h)
 (.Lf (8))
 (.br (s==0)
  (.Lf (9))
  (.Lf (1)))
def Zl8 (s:Int) (h:Bool):Int:=(ZnP s h).val
def ZxN:En:=Zi Zrk ZUd (λ_=>none) (λa=>Zl8 a.1 a.2)
theorem ZAV:Zb prog 196 ZxN:=
 pureQ 191 [] [] _ _ trivial Tryz.func196 Tryz.call196 trivial
abbrev ZFc:List Sh:=[Sh.agg (R.Pq Z8 (R.Pq Kc (R.Pq (R.sl Ka) (R.Pq (RY) (R.Pq Kc R.bool))))),So Kc]
abbrev ZFd:Rs:=Rs.one (Sh.agg (R.Pq Z8 (R.Pq Kc (R.Pq (R.sl Ka) (R.Pq (RY) (R.Pq Kc R.bool))))))
def ZMD (c:QT5) (s:Int):RT (QT5):=
 .Lf ((Zj c.1 s,s,[],(Zh (Zj c.1 s) s []).1,c.2.2.2.2))
def ZxX (c:QT5) (s:Int):QT5:=(ZMD c s).val
def ZtB:En:=Zi ZFc ZFd (λ_=>none) (λa=>ZxX a.1 a.2)
theorem ZxW:Zb prog 195 ZtB:=
 pureQ 31 [(81,ZdA),(82,Zh3)] [] _ _ ⟨Zdi,ZfR,Tv⟩ Tryz.func195 Tryz.call195 trivial
def ZN4 (c:TC) (s:Int):RT (QT5):=
 .Lf ((c,s,[],(Zh c s []).1,1,false))
def Zfl (c:TC) (s:Int):QT5:=(ZN4 c s).val
def ZCj:En:=Zi ZoT ZFd (λ_=>none) (λa=>Zfl a.1 a.2)
theorem Zyc:Zb prog 172 ZCj:=
 pureQ 127 [(82,Zh3)] [] _ _ ⟨ZfR,Tv⟩ Tryz.func172 Tryz.call172 trivial
def ZsO (c:QT5):RT (Int):=
 .br (decide (c.2.2.2.2.1<1)||decide (c.2.2.2.2.1>9))
 (.Lf (1))
 (.Lf c.2.2.2.2.1)
def Zp (c:QT5):Int:=(ZsO c).val
def ZLy (t:Int) (x:QT18):RT (Bool):=
 .br (t==3)
 (.Lf (decide (x.2.2.2<=3)))
 (.br (bif t==4 then t==4 else t==5)
  (.Lf (decide (x.2.2.2<=t)))
  (.Lf (t==6)))
def Zi5 (t:Int) (x:QT18):Bool:=(ZLy t x).val
def ZWz (chip:Int):RT (QT5):=
 let x1:TR:=(0,0,0,0,0,0,0,(false,false,false,false,false,false,false),0,0)
 let x2:TC:=(Zfl (ZC (chip,x1,false,false,false,0,false,false,false,false,false,false,false)) 0).1
 .Lf (((x2.1,x1,false,false,false,x2.2.2.2.2.2.1,false,false,false,false,false,false,false),0,[],(1,0,0,4),1,false))
def pNew (chip:Int):QT5:=(ZWz chip).val
def pNewE:En:=Zi ZxT ZFd (λ_=>none) (λa=>pNew a)
theorem ZWy:Zb prog 97 pNewE:=
 pureQ 7 [(80,Zjo),(172,ZCj)] [] _ _ ⟨Zhw,Zyc,Tv⟩ Tryz.func97 Tryz.call97 trivial
def ZlA:En:=.tree (Zx (envX prog [(82,Zh3),(85,ZCf),(193,ZFv),(194,ZtI),(195,ZtB)] [] 1023 8) Tryz.f192)
theorem Zqu:Zb prog 192 ZlA:=Z5 ⟨ZfR,Zt6,ZFu,Zx0,ZxW,Tv⟩ Tryz.func192 rfl (by kernel_rfl) Tryz.call192 trivial
abbrev ZN7:List Sh:=[Sh.agg (R.Pq Z8 (R.Pq Kc (R.Pq (R.sl Ka) (R.Pq (RY) (R.Pq Kc R.bool))))),Sh.agg (R.Pq R.bool (R.Pq R.bool rcF7)),So Ka]
abbrev ZFL:Rs:=Rs.tup [Sh.agg (R.Pq Z8 (R.Pq Kc (R.Pq (R.sl Ka) (R.Pq (RY) (R.Pq Kc R.bool))))),Sh.agg (R.Pq R.bool (R.Pq Z8 (R.Pq (R.sl Ka) (R.Pq (RY) Z8))))]
def ZN8 (c:QT5) (l:QT1) (d:Int):RT (Option ((QT5)×Bool×TC×List Int×TY×TC)):=
 let x1:Int:=bif ZaS c.2.2.2.1.1 then d else c.2.2.2.1.2.2.1
 let x2:List Int:=c.2.2.1++[x1]
 let x3:TC:=(0,(0,0,0,0,0,0,0,(false,false,false,false,false,false,false),0,0),false,false,false,0,false,false,false,false,false,false,false)
 let x4:Bool×TC×List Int×TY×TC:=(false,x3,[],c.2.2.2.1,Zg c.1 l)
 let x5:Int:=bif c.2.2.2.1.1==1||c.2.2.2.1.1==8 then ZgK (Zg c.1 l).1 x1 else c.2.2.2.1.2.2.2
 let x6:QT18:=(c.2.2.2.1.1,c.2.2.2.1.2.1,x1,x5)
 let x7:TY×TC:=(x6,Zg c.1 l)
 let x8:Bool×TC×List Int×TY×TC:=(false,x3,[],x7)
 let x9:=Zh (Zg c.1 l) c.2.1 x2
 let x10:=x9.1
 let x11:=finX (Zg c.1 l) c.2.1 x2 l
 let x12:=ZxX (x11,c.2.1,x2,x6,c.2.2.2.2) (ZbI x11 l)
 let x13:=x12.2
 let x14:=x13.2.2
 let x15:=ZxX (finX (Zg c.1 l) c.2.1 c.2.2.1 l,c.2) (ZbI (finX (Zg c.1 l) c.2.1 c.2.2.1 l) l)
 let x16:=x15.2
 let x17:=x16.2.2
 let x18:=ZxX (Zg c.1 l,c.2) (ZbI (Zg c.1 l) l)
 let x19:=x18.2
 let x20:=x19.2.2
 .br (Nat.ble (Le c.2.2.1) most) (.br (ZbK c==1||((bif ZbK c==2 then ZbK c==2 else ZbK c==7)||(!ZbK c==3||Nat.ble (Le x2) most))) (.br (ZbK c==1) (Ls (((Zg c.1 l,c.2.1,c.2.2.1,c.2.2.2.1,2,c.2.2.2.2.2),x4))) (.br (bif ZbK c==2 then ZbK c==2 else ZbK c==7) (Ls (((Zg c.1 l,c.2.1,c.2.2.1,c.2.2.2.1,bif Zq c.2.2.2.1.1&& !l.1 then 7 else 3,bif Zq c.2.2.2.1.1&& !l.1 then c.2.2.2.2.2 else l.2.1),x4))) (.br (ZbK c==3) (.br (decide (x5>3)) (Ls (((Zg c.1 l,c.2.1,x2,x6,4,c.2.2.2.2.2),x8))) (.br x9.2 (Ls (((Zg c.1 l,c.2.1,x2,x10,Zx5 (Zg c.1 l,c.2.1,x2,x10,c.2.2.2.2) c.2.2.2.2.2,false),x8))) (Ls (((x12.1,x13.1,[],x14.1,Zx5 x12 x14.2.2,false),true,x11,x2,x7))))) (.br (bif ZbK c==4 then ZbK c==4 else bif ZbK c==5 then ZbK c==5 else ZbK c==6) (.br (decide (c.2.2.2.1.2.2.2>ZbK c)&&ZbK c !=6) (Ls (((Zg c.1 l,c.2.1,c.2.2.1,c.2.2.2.1,i64.wrap (ZbK c+1),c.2.2.2.2.2),x4))) (.br (Zh (Zg c.1 l) c.2.1 c.2.2.1).2 (Ls (((Zg c.1 l,c.2.1,c.2.2.1,(Zh (Zg c.1 l) c.2.1 c.2.2.1).1,Zx5 (Zg c.1 l,c.2.1,c.2.2.1,(Zh (Zg c.1 l) c.2.1 c.2.2.1).1,c.2.2.2.2) c.2.2.2.2.2,false),x4))) (Ls (((x15.1,x16.1,[],x17.1,Zx5 x15 x17.2.2,false),true,finX (Zg c.1 l) c.2.1 c.2.2.1 l,c.2.2.1,c.2.2.2.1,Zg c.1 l))))) (.br (ZbK c==8) (Ls (((Zg c.1 l,c.2.1,c.2.2.1,c.2.2.2.1,Zx5 (Zg c.1 l,c.2) l.2.1,c.2.2.2.2.2),x4))) (.br (ZbK c==9) (.br (ZbI (Zg c.1 l) l !=0) (Ls (((x18.1,x19.1,[],x20.1,Zl8 (ZbI (Zg c.1 l) l) l.2.1,x20.2.2),x4))) (Ls (((Zg c.1 l,c.2.1,c.2.2.1,c.2.2.2.1,Zl8 (ZbI (Zg c.1 l) l) l.2.1,c.2.2.2.2.2),x4)))) (Ls (((Zg c.1 l,c.2),x4))))))))) Ln) Ln
def pAdv (c:QT5) (l:QT1) (d:Int):(QT5)×Bool×TC×List Int×TY×TC:=getO ZFL.Df (ZN8 c l d).val
def ZN9 (c:QT5) (l:QT1) (d:Int):Bool:=okB (ZN8 c l d).val
def ZZa:En:=Zi ZN7 ZFL (λa=>some (ZN9 a.1 a.2.1 a.2.2)) (λa=>pAdv a.1 a.2.1 a.2.2)
theorem ZN6:Zb prog 130 ZZa:=
 pureP 2679225218618052313454186380042176511 [(83,ZcV),(84,Zmf),(120,Zlc),(136,ZnX),(189,Zrv),(191,ZFp),(192,ZlA),(193,ZFv),(194,ZtI),(195,ZtB),(196,ZxN)] [] _ _ ⟨Zdh,ZkC,Zp4,ZnW,Zyd,ZHJ,Zqu,ZFu,Zx0,ZxW,ZAV,Tv⟩ Tryz.func130 Tryz.call130 trivial
abbrev Zmh:Rs:=Rs.tup [Sh.agg (R.Pq Z8 (R.Pq Kc (R.Pq (R.sl Ka) (R.Pq (RY) (R.Pq Kc R.bool))))),Sh.agg (R.Pq Kc (R.Pq Kb (R.Pq Ka (R.Pq R.bool (R.Pq R.bool (R.Pq R.bool (R.Pq R.bool (R.Pq R.bool (R.Pq R.bool (R.Pq R.bool rcF7))))))))))]
def ZkD (c:QT5) (l:QT1) (d:Int):RT (Option ((QT5)×Int×Int×Int×Bool×Bool×Bool×Bool×Bool×Bool×Bool×Bool×Bool×Bool×Bool×Bool×Bool×Bool)):=
 let x1:Int×TF×Int×Int:=(Zfl (ZC c.1) 0).1.2.1.2.2.2.2.2.2
 let x2:=x1.2
 let x3:TY×Int×Int×Bool×Bool:=(c.2.2.2.1,d,c.1.2.1.2.2.2.2.2.2.2.2.2,c.1.2.2.1,c.1.2.2.2.2.2.2.2.2.2.2.2.2)
 .br l.2.2.1 (Ls (((((Zfl (ZC c.1) 0).1.1,((Zfl (ZC c.1) 0).1.2.1.1,(Zfl (ZC c.1) 0).1.2.1.2.1,(Zfl (ZC c.1) 0).1.2.1.2.2.1,(Zfl (ZC c.1) 0).1.2.1.2.2.2.1,(Zfl (ZC c.1) 0).1.2.1.2.2.2.2.1,(Zfl (ZC c.1) 0).1.2.1.2.2.2.2.2.1,x1.1,x2.1,x2.2.1,0),false,false,false,(Zfl (ZC c.1) 0).1.2.2.2.2.2.1,false,false,false,false,false,false,false),0,[],(1,0,0,4),1,false),ZMU c.1.1 (10,x3)))) (.br (ZN9 c l d) (Ls (((pAdv c l d).1,ZMU c.1.1 (ZbK c,x3)))) Ln)
def ZUl (c:QT5) (l:QT1) (d:Int):(QT5)×Int×Int×Int×Bool×Bool×Bool×Bool×Bool×Bool×Bool×Bool×Bool×Bool×Bool×Bool×Bool×Bool:=getO Zmh.Df (ZkD c l d).val
def ZN0 (c:QT5) (l:QT1) (d:Int):Bool:=okB (ZkD c l d).val
def ZWW:En:=Zi ZN7 Zmh (λa=>some (ZN0 a.1 a.2.1 a.2.2)) (λa=>ZUl a.1 a.2.1 a.2.2)
theorem ZNZ:Zb prog 138 ZWW:=
 pureP 2047 [(79,ZUa),(80,Zjo),(130,ZZa),(136,ZnX),(172,ZCj)] [] _ _ ⟨ZR3,Zhw,ZN6,ZnW,Zyc,Tv⟩ Tryz.func138 Tryz.call138 trivial
abbrev LnT:=QT1
abbrev ZhS:=CpuT×Int×List Int×Cyc×Int×Bool
def ZM (n:Int):Int:=bif decide (n<1)||decide (n>9) then 1 else n
def Zp6 (c:CpuT) (s:Int):ZhS:=(c,s,[],(Zh c s []).1,1,false)
def idlX (c:CpuT) (s:Int) (h:Bool):Int:=bif h then 8 else bif c.2.2.2.2.1&&s==0 then 9 else 1
def endX (c:CpuT) (s:Int) (g:List Int) (h:Bool) (l:LnT):ZhS:=
 bif (Zh c s g).2 then (c,s,g,(Zh c s g).1,idlX c s h,false) else
 let q:=finX c s g l
 let k:=ZbI q l
 let d:=Zj q k
 (d,k,[],(Zh d k []).1,idlX d k h,false)
def ZaH (c:CpuT) (x:Cyc) (d:Int):Cyc:=
 let v:=bif ZaS x.1 then d else x.2.2.1
 (x.1,x.2.1,v,bif x.1==1||x.1==8 then ZgK c.1 v else x.2.2.2)
def le3 (x:Int):Bool:=decide (x<=3)
def Zk (c:ZhS) (l:LnT) (d:Int):ZhS:=
 let t:=ZM c.2.2.2.2.1
 let p:=Zg c.1 l
 let s:=c.2.1
 let g:=c.2.2.1
 let x:=c.2.2.2.1
 let h:=c.2.2.2.2.2
 bif l.2.2.1 then Zp6 (ZC c.1) 0 else
 bif t==1 then (p,s,g,x,2,h) else
 bif t==2||t==7 then (bif l.1|| !Zq x.1 then (p,s,g,x,3,l.2.1) else (p,s,g,x,7,h)) else
 bif t==8 then (p,s,g,x,idlX p s l.2.1,h) else
 bif t==9 then
  (let k:=ZbI p l
   bif k==0 then (p,s,g,x,bif l.2.1 then 8 else 9,h) else
   (Zj p k,k,[],(Zh (Zj p k) k []).1,bif l.2.1 then 8 else 1,h)) else
 bif t==3 then
  (let y:=ZaH p x d
   bif le3 y.2.2.2 then endX p s (g++[y.2.2.1]) h l else (p,s,g++[y.2.2.1],y,4,h)) else
 bif decide (t<x.2.2.2)&& !(t==6) then (p,s,g,x,t+1,h) else endX p s g h l
abbrev PinT:=QT10
def ZXz (c:ZhS) (t:Int):Cyc:=bif t==9 then (0,c.1.2.1.2.2.2.2.2.2.2.2.2,0,0) else c.2.2.2.1
def ZcT (c:ZhS) (l:LnT) (d:Int):PinT:=
 let t:=ZM c.2.2.2.2.1
 Znp c.1.1 (bif l.2.2.1 then 10 else t) (ZXz c t) (bif l.2.2.1 then 0 else d) c.1.2.2.1 c.1.2.2.2.2.2.2.2.2.2.2.2.2
theorem Zwl (n:Int):1<=ZM n/\ZM n<=9:=by
 unfold ZM;by_cases h:n<1\/n>9
 ·have:(decide (n<1)||decide (n>9))=true:=by simpa using h
  rw[this];simp
 ·have:(decide (n<1)||decide (n>9))=false:=by simpa using h
  rw[this];simp only[Yb];omega
theorem Zxz (c):ZbK c=ZM c.2.2.2.2.1:=rfl
theorem ZLR (c:ZhS) (s):ZxX c s=(Zj c.1 s,s,[],(Zh (Zj c.1 s) s []).1,c.2.2.2.2):=rfl
theorem ZRI (c:ZhS) (h:Bool):Zx5 c h=idlX c.1 c.2.1 h:=by simp only[Zx5,ZNs,idlX,RT.val]
theorem ZYT (chip:Int) (x y:Cyc) (d:Int) (i o:Bool):Znp chip 10 x d i o=Znp chip 10 y 0 i o:=by simp only[Znp,ZwI,RT.val,Zby];generalize (chip==2)=b;cases b<;>simp
theorem ZwB (c:CpuT):ZC c=((ZC c).1,((ZC c).2.1.1,(ZC c).2.1.2.1,(ZC c).2.1.2.2.1,(ZC c).2.1.2.2.2.1,(ZC c).2.1.2.2.2.2.1,(ZC c).2.1.2.2.2.2.2.1,(ZC c).2.1.2.2.2.2.2.2.1,(ZC c).2.1.2.2.2.2.2.2.2.1,(ZC c).2.1.2.2.2.2.2.2.2.2.1,0),false,false,false,(ZC c).2.2.2.2.2.1,false,false,false,false,false,false,false):=by simp only[ZC,Zno,RT.val,Zby]
theorem ZUO (c:CpuT):Zp6 (ZC c) 0=(ZC c,0,[],(1,0,0,4),1,false):=by
 simp only[Zp6];have:(Zh (ZC c) 0 []).1=(1,0,0,4):=by
  have hp:pcOf (ZC c)=0:=by rw[ZwB];rfl
  simp[Zh,ZeO,Zd,Zq7,RT.val,hp];rfl
 rw[this]
theorem len1 {α:Type} (l:List α) (x:α) (h:l.length+1<=most):Nat.ble l.length most=true/\Nat.ble (l++[x]).length most=true:=by rw[YG,YG];simp only[Yd,List.length_cons,List.length_nil];omega
abbrev ChgT:=Bool×CpuT×List Int×Cyc×CpuT
abbrev cpu0:CpuT:=(0,(0,0,0,0,0,0,0,(false,false,false,false,false,false,false),0,0),false,false,false,0,false,false,false,false,false,false,false)
def ZaJ (c:ZhS) (l:LnT) (d:Int):ChgT:=
 let t:=ZM c.2.2.2.2.1
 let p:=Zg c.1 l
 let s:=c.2.1
 let g:=c.2.2.1
 let x:=c.2.2.2.1
 bif t==3 then
  (let y:=ZaH p x d
   bif le3 y.2.2.2&& !(Zh p s (g++[y.2.2.1])).2 then (true,finX p s (g++[y.2.2.1]) l,g++[y.2.2.1],y,p) else (false,cpu0,[],y,p)) else
 bif (t==4||(t==5||t==6))&&(!(decide (t<x.2.2.2)&& !(t==6))&& !(Zh p s g).2) then (true,finX p s g l,g,x,p) else (false,cpu0,[],x,p)
theorem gt3 (x:Int):decide (x>3)= !le3 x:=by unfold le3;by_cases h:x<=3<;>simp[h]<;>omega
theorem ZCn (c:ZhS) (l:LnT) (d:Int) (hg:c.2.2.1.length+1<=most) (hr:l.2.2.1=false):(ZN8 c l d).val=some (Zk c l d,ZaJ c l d):=by
 have h1:=λx=>len1 c.2.2.1 x hg
 obtain⟨t1,t2⟩:=Zwl c.2.2.2.2.1;unfold ZN8 Zk ZaJ;simp only[Zxz,hr,Yb,RT.val,(h1 0).1,(h1 _).2,Ya,Yi,ZLR,ZRI,endX,ZaH,idlX,Zl8,ZnP,gt3];have:ZM c.2.2.2.2.1=1\/ZM c.2.2.2.2.1=2\/ZM c.2.2.2.2.1=7\/ZM c.2.2.2.2.1=3\/ZM c.2.2.2.2.1=4\/ZM c.2.2.2.2.1=5\/ZM c.2.2.2.2.1=6\/ZM c.2.2.2.2.1=8\/ZM c.2.2.2.2.1=9:=by omega
 rcases this with h|h|h|h|h|h|h|h|h<;>simp only[h,Int.reduceBEq,Int.reduceBNe,Ya,Yb,Yj,Yy,Yag,YW,YY,YT,Yf,Yl,gt_iff_lt,show IntKind.wrap .i64 (4+1)=4+1 from rfl,show IntKind.wrap .i64 (5+1)=5+1 from rfl]
 ·cases Zq c.2.2.2.1.1<;>cases l.1<;>rfl
 ·cases Zq c.2.2.2.1.1<;>cases l.1<;>rfl
 ·cases hA:le3 (ZaH (Zg c.1 l) c.2.2.2.1 d).2.2.2<;>cases hB:(Zh (Zg c.1 l) c.2.1 (c.2.2.1++[(ZaH (Zg c.1 l) c.2.2.2.1 d).2.2.1])).2<;>simp only[ZaH] at hA hB<;>simp only[hA,hB,Ya,Yb,Yf,Yl,YY,Yag,YW]<;>with_reducible rfl
 ·cases decide (4<c.2.2.2.1.2.2.2)<;>cases (Zh (Zg c.1 l) c.2.1 c.2.2.1).2<;>rfl
 ·cases decide (5<c.2.2.2.1.2.2.2)<;>cases (Zh (Zg c.1 l) c.2.1 c.2.2.1).2<;>rfl
 ·cases (Zh (Zg c.1 l) c.2.1 c.2.2.1).2<;>rfl
 ·have hb:(ZbI (Zg c.1 l) l !=0)= !(ZbI (Zg c.1 l) l==0):=rfl;rw[hb];cases hk:(ZbI (Zg c.1 l) l==0)<;>rfl
theorem ZxJ (c:ZhS) (l:LnT) (d:Int) (hg:c.2.2.1.length+1<=most):(ZkD c l d).val=some (Zk c l d,ZcT c l d):=by
 obtain⟨t1,t2⟩:=Zwl c.2.2.2.2.1;cases hr:l.2.2.1 with
 |true=>
  have hb:Zfl (ZC c.1) 0=(ZC c.1,0,[],(Zh (ZC c.1) 0 []).1,1,false):=rfl;simp only[ZkD,RT.val,hr,Ya,Zk,ZcT,ZUO,hb];rw[<-ZwB,ZMj c.1.1 10 (by decide) (by decide) c.2.2.2.1 d 0 _ _ _ (λh=>absurd rfl h),ZYT c.1.1 _ (ZXz c (ZM c.2.2.2.2.1)) 0]
 |false=>
  have h:=ZCn c l d hg hr;have h1:ZN9 c l d=true:=by simp only[ZN9,h,okB]
  have h2:(pAdv c l d).1=Zk c l d:=by simp only[pAdv,h,getO]
  simp only[ZkD,RT.val,hr,Yb,h1,Ya,h2,ZcT,Zxz];rw[ZMj c.1.1 (ZM c.2.2.2.2.1) t1 (by omega) c.2.2.2.1 d d _ _ _ (λ_=>rfl)];simp only[ZXz]
def Zng (c:ZhS):Bool:=Nat.ble (c.2.2.1.length+1) most
theorem ZgE {c:ZhS}:Zng c=true↔c.2.2.1.length+1<=most:=by simp[Zng]
def clkX (c:ZhS) (l:LnT) (d:Int):ZhS×PinT:=(Zk c l d,ZcT c l d)
def ZuM:En:=Zi ZN7 Zmh (λa=>some (Zng a.1)) (λa=>clkX a.1 a.2.1 a.2.2)
theorem ZIp:Zb Tryz.prog 138 ZuM:=ZNZ.pure_congr
 (λa h hp=>by have h1:=ZxJ a.1 a.2.1 a.2.2 (ZgE.1 (by simpa using hp));simp[ZN0,h1,okB])
 (λa h hp=>by have h1:=ZxJ a.1 a.2.1 a.2.2 (ZgE.1 (by simpa using hp));simp only[ZUl,h1,getO,clkX])
def ZOa:En:=Zi ZN7 ZFL (λa=>some (Zng a.1&& !a.2.1.2.2.1)) (λa=>(Zk a.1 a.2.1 a.2.2,ZaJ a.1 a.2.1 a.2.2))
theorem ZSt:Zb Tryz.prog 130 ZOa:=ZN6.pure_congr
 (λa h hp=>by
  have hp:(Zng a.1&& !a.2.1.2.2.1)=true:=by simpa using hp
  simp only[Yc,YK] at hp
  have h1:=ZCn a.1 a.2.1 a.2.2 (ZgE.1 hp.1) hp.2;simp[ZN9,h1,okB])
 (λa h hp=>by
  have hp:(Zng a.1&& !a.2.1.2.2.1)=true:=by simpa using hp
  simp only[Yc,YK] at hp
  have h1:=ZCn a.1 a.2.1 a.2.2 (ZgE.1 hp.1) hp.2;simp only[pAdv,h1,getO])
def newX (chip:Int):ZhS:=Zp6 (ZC (chip,(0,0,0,0,0,0,0,(false,false,false,false,false,false,false),0,0),false,false,false,0,false,false,false,false,false,false,false)) 0
theorem ZV3 (chip:Int):pNew chip=newX chip:=by
 have hb:∀c,Zfl c 0=Zp6 c 0:=λ_=>rfl
 unfold newX;simp only[pNew,ZWz,RT.val,hb];rw[ZUO];simp only[ZC,Zno,RT.val,Zby]
def ZNd:En:=Zi ZxT ZFd (λ_=>none) (λa=>newX a)
theorem ZSc:Zb Tryz.prog 97 ZNd:=ZWy.tot (λa h=>by simp) (λa h=>ZV3 _)
abbrev ZF2:List Sh:=[So Kc,So Kc]
def Zpm (x:Int) (n:Int):RT (Option (Int)):=
 .br (IntKind.u64.wrap n !=0) (Ls (i64.wrap (Int.tmod (IntKind.u64.wrap x) (IntKind.u64.wrap n)))) Ln
def ZF3 (x:Int) (n:Int):Int:=getO ZUd.Df (Zpm x n).val
def Zu7 (x:Int) (n:Int):Bool:=okB (Zpm x n).val
def ZOI:En:=Zi ZF2 ZUd (λa=>some (Zu7 a.1 a.2)) (λa=>ZF3 a.1 a.2)
theorem ZOG:Zb prog 47 ZOI:=
 pureP 31 [] [] _ _ trivial Tryz.func47 Tryz.call47 trivial
abbrev ZCB:R:=R.Pq (R.sl Kc) Kc
def Zo6 (s:List Int×Int) (n:Int):RT (Option (QT26)):=
 let x1:=Zf (i64.wrap (i64.wrap (s.2+1)-1)) (Le s.1)
 let x2:Int:=R.get Kc s.1 (i64.wrap (i64.wrap (s.2+1)-1))
 .br (decide (s.2>=iN (Le s.1))) (Ls ((0,s.1,i64.wrap (s.2+1)))) (.br (!x1||Zu7 x2 n) (.br (x1) (Ls ((ZF3 x2 n,s.1,i64.wrap (s.2+1)))) Ln) Ln)
def Za (s:List Int×Int) (n:Int):QT26:=getO (ZUd.Df,ZCB.Df) (Zo6 s n).val
def Zl (s:List Int×Int) (n:Int):Bool:=okB (Zo6 s n).val
def Zcy:En:=boxE ZCB ZxT ZUd (λa=>some (Zl a.1 a.2)) (λa=>Za a.1 a.2)
theorem ZaM:Zb prog 68 Zcy:=
 Zcm (P:=prog) (n:=31) (k:=8) (l:=[(47,ZOI)]) (ol:=[]) ⟨ZOG,Tv⟩ Tryz.func68 rfl (by kernel_rfl) Tryz.call68 trivial (rb:=ZCB) (ts:=ZxT) (rs:=ZUd) (t:=λa=>Zo6 a.1 a.2) (λa=>by kernel_rfl)
def Zpd (s:List Int×Int):RT (Option (QT26)):=
 let x1:List Int:=[0,1,127,128,255,15,16,153,154,9,102,254,129,85,170,64]
 .br (Zl s 512) (.br (!decide ((Za s 512).1>=256)||Zf (Int.tmod (Za s 512).1 16) (Le x1)) (.br (decide ((Za s 512).1>=256)) (Ls ((R.get Ka x1 (Int.tmod (Za s 512).1 16),(Za s 512).2))) (Ls ((u8.wrap (Za s 512).1,(Za s 512).2)))) Ln) Ln
def Zc6 (s:List Int×Int):QT26:=getO (ZN3.Df,ZCB.Df) (Zpd s).val
def ZgX (s:List Int×Int):Bool:=okB (Zpd s).val
def Zyw:En:=boxE ZCB Zxw ZN3 (λa=>some (ZgX a.1)) (λa=>Zc6 a.1)
theorem Zmn:Zb prog 71 Zyw:=
 Zcm (P:=prog) (n:=15) (k:=8) (l:=[(68,Zcy)]) (ol:=[]) ⟨ZaM,Tv⟩ Tryz.func71 rfl (by kernel_rfl) Tryz.call71 trivial (rb:=ZCB) (ts:=Zxw) (rs:=ZN3) (t:=λa=>Zpd a.1) (λa=>by kernel_rfl)
def Zju (s:List Int×Int):RT (Option (QT26)):=
 let x1:List Int:=[0,1,65535,65534,32767,32768,255,256]
 let x2:= !(Za s 5).1==0||(!Zl (Za s 5).2 8||Zf (Za (Za s 5).2 8).1 (Le x1))
 let x3:= !x2
 let x4:= !(Za s 5).1==0||Zl (Za s 5).2 8
 .br (Zl s 5) (.br (x3||(!x4||((Za s 5).1==0||(!(Za s 5).1==1||Zl (Za s 5).2 65536)))) (.br (x3||x4) (.br (x2) (.br ((Za s 5).1==0) (Ls ((R.get Kb x1 (Za (Za s 5).2 8).1,(Za (Za s 5).2 8).2))) (.br ((Za s 5).1==1) (Ls ((u16.wrap (Za (Za s 5).2 65536).1,(Za (Za s 5).2 65536).2))) (.br (Zl (Za s 5).2 64) (Ls ((u16.wrap (Za (Za s 5).2 64).1,(Za (Za s 5).2 64).2))) Ln))) Ln) Ln) Ln) Ln
def ZaX (s:List Int×Int):QT26:=getO (ZB2.Df,ZCB.Df) (Zju s).val
def Zgg (s:List Int×Int):Bool:=okB (Zju s).val
def ZOm:En:=boxE ZCB Zxw ZB2 (λa=>some (Zgg a.1)) (λa=>ZaX a.1)
theorem ZFP:Zb prog 70 ZOm:=
 Zcm (P:=prog) (n:=4135) (k:=8) (l:=[(68,Zcy)]) (ol:=[]) ⟨ZaM,Tv⟩ Tryz.func70 rfl (by kernel_rfl) Tryz.call70 trivial (rb:=ZCB) (ts:=Zxw) (rs:=ZB2) (t:=λa=>Zju a.1) (λa=>by kernel_rfl)
def Zyv (s:List Int×Int):RT (Option (QT26)):=
 .br (Zl s 2) (Ls ((i64.wrap (1+(Za s 2).1),(Za s 2).2))) Ln
def Za6 (s:List Int×Int):QT26:=getO (ZUd.Df,ZCB.Df) (Zyv s).val
def Zpc (s:List Int×Int):Bool:=okB (Zyv s).val
def ZOu:En:=boxE ZCB Zxw ZUd (λa=>some (Zpc a.1)) (λa=>Za6 a.1)
theorem ZFV:Zb prog 122 ZOu:=
 Zcm (P:=prog) (n:=7) (k:=8) (l:=[(68,Zcy)]) (ol:=[]) ⟨ZaM,Tv⟩ Tryz.func122 rfl (by kernel_rfl) Tryz.call122 trivial (rb:=ZCB) (ts:=Zxw) (rs:=ZUd) (t:=λa=>Zyv a.1) (λa=>by kernel_rfl)
def ZfU (s:List Int×Int):RT (Option (QT26)):=
 let x1:List Int:=[251,243,118,205,201,197,227,211,219,54,52,32,48,194,202,255,62,49]
 .br (Zl s 3) (.br (!decide ((Za s 3).1>0)||Zl (Za s 3).2 256) (.br (decide ((Za s 3).1>0)) (Ls ((u8.wrap (Za (Za s 3).2 256).1,(Za (Za s 3).2 256).2))) (.br (!Zl (Za s 3).2 18||Zf (Za (Za s 3).2 18).1 (Le x1)) (.br (Zl (Za s 3).2 18) (Ls ((R.get Ka x1 (Za (Za s 3).2 18).1,(Za (Za s 3).2 18).2))) Ln) Ln)) Ln) Ln
def Zap (s:List Int×Int):QT26:=getO (ZN3.Df,ZCB.Df) (ZfU s).val
def Zch (s:List Int×Int):Bool:=okB (ZfU s).val
def ZhC:En:=boxE ZCB Zxw ZN3 (λa=>some (Zch a.1)) (λa=>Zap a.1)
theorem Zfo:Zb prog 119 ZhC:=
 Zcm (P:=prog) (n:=7) (k:=8) (l:=[(68,Zcy)]) (ol:=[]) ⟨ZaM,Tv⟩ Tryz.func119 rfl (by kernel_rfl) Tryz.call119 trivial (rb:=ZCB) (ts:=Zxw) (rs:=ZN3) (t:=λa=>ZfU a.1) (λa=>by kernel_rfl)
def NB (s:List Int×Int) (k:Int):Prop:=0<=s.2/\s.2<=k
theorem ZOH (x n:Int) (h0:0<n) (h1:n<=4611686018427387904):Zu7 x n=true/\ZF3 x n=(x%18446744073709551616)%n:=by
 have e:IntKind.wrap .u64 n=n:=ZrZ ⟨by simp[IntKind.min,IntKind.signed];omega,by simp[IntKind.max,IntKind.signed,IntKind.bits];omega⟩;have e2:IntKind.wrap .u64 x=x%18446744073709551616:=by simp[IntKind.wrap,IntKind.signed,IntKind.bits]
 have hn:(n !=0)=true:=by simp;omega
 have h2:0<=x%18446744073709551616:=Int.emod_nonneg _ (by decide);have h3:=Int.emod_nonneg (x%18446744073709551616) (b:=n) (by omega);have h4:=Int.emod_lt_of_pos (x%18446744073709551616) (b:=n) h0;have hv:(Zpm x n).val=some ((x%18446744073709551616)%n):=by simp only[Zpm,RT.val,e,e2,hn,Ya,Int.tmod_eq_emod_of_nonneg h2];rw[wrap_i64 _ (by omega) (by omega)]
 exact⟨by simp only[Zu7,hv];rfl,by simp only[ZF3,hv,getO]⟩
variable {s:List Int×Int} {k:Int}
theorem Zs (h:NB s k) (hk:k<=1000000) (n:Int) (h0:0<n) (h1:n<=4611686018427387904):
  Zl s n=true/\NB (Za s n).2 (k+1)/\0<=(Za s n).1/\(Za s n).1<n:=by
 obtain⟨ha,hb⟩:=h;have e1:IntKind.wrap .i64 (s.2+1)=s.2+1:=wrap_i64 _ (by omega) (by omega);have e2:IntKind.wrap .i64 s.2=s.2:=wrap_i64 _ (by omega) (by omega);by_cases hl:(s.1.length:Int)<=s.2
 ·have hv:(Zo6 s n).val=some (0,s.1,s.2+1):=by simp[Zo6,RT.val,iN,Le,hl,e1]
  simp only[Zl,Za,hv,okB,getO,NB];exact⟨trivial,⟨by omega,by omega⟩,by omega,h0⟩
 ·have hr:Zf s.2 s.1.length=true:=ZT.2 ⟨ha,by omega⟩;obtain⟨p1,p2⟩:=ZOH (R.get (R.int i64) s.1 s.2) n h0 h1;have h3:=Int.emod_nonneg (R.get (R.int i64) s.1 s.2%18446744073709551616) (b:=n) (by omega);have h4:=Int.emod_lt_of_pos (R.get (R.int i64) s.1 s.2%18446744073709551616) (b:=n) h0;have hv:(Zo6 s n).val=some ((R.get (R.int i64) s.1 s.2%18446744073709551616)%n,s.1,s.2+1):=by simp[Zo6,RT.val,iN,Le,hl,e1,e2,hr,p1,p2]
  simp only[Zl,Za,hv,okB,getO,NB];exact⟨trivial,⟨by omega,by omega⟩,h3,h4⟩
theorem Zmo (h:NB s k) (hk:k<=1000000):ZgX s=true/\NB (Zc6 s).2 (k+1)/\inR .u8 (Zc6 s).1:=by
 obtain⟨c,b,d0,d1⟩:=Zs h hk 512 (by decide) (by decide);have m0:0<=(Za s 512).1%16:=Int.emod_nonneg _ (by decide);have m1:(Za s 512).1%16<16:=Int.emod_lt_of_pos _ (by decide);have ht:Int.tmod (Za s 512).1 16=(Za s 512).1%16:=Int.tmod_eq_emod_of_nonneg d0;by_cases hn:256<=(Za s 512).1
 ·have hv:(Zpd s).val=some (R.get (R.int u8) [0,1,127,128,255,15,16,153,154,9,102,254,129,85,170,64] ((Za s 512).1%16),(Za s 512).2):=by simp[Zpd,RT.val,c,hn,ht,Zf,m0,m1]
  simp only[ZgX,Zc6,hv,okB,getO];refine⟨trivial,b,?_⟩;have hall:∀i:Nat,i<16->inR .u8 (([0,1,127,128,255,15,16,153,154,9,102,254,129,85,170,64]:List Int).getD i 0):=by
   intro i hi;have:∀i:Fin 16,decide (0<=([0,1,127,128,255,15,16,153,154,9,102,254,129,85,170,64]:List Int).getD i 0)&&decide (([0,1,127,128,255,15,16,153,154,9,102,254,129,85,170,64]:List Int).getD i 0<=255):=by decide
   have:=this ⟨i,hi⟩;rw[Zh5];simpa using this
  exact hall ((Za s 512).1%16).toNat (by omega)
 ·have hv:(Zpd s).val=some (IntKind.wrap .u8 (Za s 512).1,(Za s 512).2):=by simp[Zpd,RT.val,c,hn]
  simp only[ZgX,Zc6,hv,okB,getO];exact⟨trivial,b,Zau _ _⟩
theorem ZFQ (h:NB s k) (hk:k<=900000):Zgg s=true/\NB (ZaX s).2 (k+2)/\inR .u16 (ZaX s).1:=by
 obtain⟨c,b,d0,d1⟩:=Zs h (by omega) 5 (by decide) (by decide);obtain⟨c8,b8,e0,e1⟩:=Zs b (by omega) 8 (by decide) (by decide);obtain⟨c6,b6,_⟩:=Zs b (by omega) 65536 (by decide) (by decide);obtain⟨c4,b4,_⟩:=Zs b (by omega) 64 (by decide) (by decide);have w:∀{t:List Int×Int},NB t (k+1+1)->NB t (k+2):=λh=>⟨h.1,by have:=h.2;omega⟩
 have hr:Zf (Za (Za s 5).2 8).1 8=true:=ZT.2 ⟨e0,by omega⟩;by_cases h0:(Za s 5).1=0
 ·have hv:(Zju s).val=some (R.get (R.int u16) [0,1,65535,65534,32767,32768,255,256] (Za (Za s 5).2 8).1,(Za (Za s 5).2 8).2):=by simp[Zju,RT.val,c,h0,c8,hr]
  simp only[Zgg,ZaX,hv,okB,getO];refine⟨trivial,w b8,?_⟩;have hall:∀i:Nat,i<8->inR .u16 (([0,1,65535,65534,32767,32768,255,256]:List Int).getD i 0):=by
   intro i hi;have:∀i:Fin 8,decide (0<=([0,1,65535,65534,32767,32768,255,256]:List Int).getD i 0)&&decide (([0,1,65535,65534,32767,32768,255,256]:List Int).getD i 0<=65535):=by decide
   have:=this ⟨i,hi⟩;simp only[Yc,Yk] at this;exact⟨by simpa [IntKind.min,IntKind.signed] using this.1,by simpa [IntKind.max,IntKind.signed,IntKind.bits] using this.2⟩
  exact hall (Za (Za s 5).2 8).1.toNat (by omega)
 ·by_cases h1:(Za s 5).1=1
  ·have hv:(Zju s).val=some (IntKind.wrap .u16 (Za (Za s 5).2 65536).1,(Za (Za s 5).2 65536).2):=by simp[Zju,RT.val,c,h1,c6]
   simp only[Zgg,ZaX,hv,okB,getO];exact⟨trivial,w b6,Zau _ _⟩
  ·have hv:(Zju s).val=some (IntKind.wrap .u16 (Za (Za s 5).2 64).1,(Za (Za s 5).2 64).2):=by
    have g0:((Za s 5).1==0)=false:=by simpa using h0
    have g1:((Za s 5).1==1)=false:=by simpa using h1
    simp[Zju,RT.val,c,g0,g1,c4]
   simp only[Zgg,ZaX,hv,okB,getO];exact⟨trivial,w b4,Zau _ _⟩
theorem ZSB (h:NB s k) (hk:k<=1000000):Zpc s=true/\NB (Za6 s).2 (k+1)/\((Za6 s).1=1\/(Za6 s).1=2):=by
 obtain⟨c,b,d0,d1⟩:=Zs h hk 2 (by decide) (by decide);have hv:(Zyv s).val=some (1+(Za s 2).1,(Za s 2).2):=by simp[Zyv,RT.val,c];rw[wrap_i64 _ (by omega) (by omega)]
 simp only[Zpc,Za6,hv,okB,getO];exact⟨trivial,b,by omega⟩
theorem ZkO (h:NB s k) (hk:k<=900000):Zch s=true/\NB (Zap s).2 (k+2)/\inR .u8 (Zap s).1:=by
 obtain⟨c,b,d0,d1⟩:=Zs h (by omega) 3 (by decide) (by decide);have w:∀{t:List Int×Int},NB t (k+1+1)->NB t (k+2):=λh=>⟨h.1,by have:=h.2;omega⟩
 by_cases hn:0<(Za s 3).1
 ·have hk':k+1<=1000001:=by omega
  obtain⟨c2,b2,_⟩:=Zs b (by omega) 256 (by decide) (by decide);have hv:(ZfU s).val=some (IntKind.wrap .u8 (Za (Za s 3).2 256).1,(Za (Za s 3).2 256).2):=by simp[ZfU,RT.val,c,hn,c2]
  simp only[Zch,Zap,hv,okB,getO];exact⟨trivial,w b2,Zau _ _⟩
 ·obtain⟨c2,b2,e0,e1⟩:=Zs b (by omega) 18 (by decide) (by decide);have hr:Zf (Za (Za s 3).2 18).1 18=true:=ZT.2 ⟨e0,by omega⟩;have hv:(ZfU s).val=some (R.get (R.int u8) [251,243,118,205,201,197,227,211,219,54,52,32,48,194,202,255,62,49] (Za (Za s 3).2 18).1,(Za (Za s 3).2 18).2):=by simp[ZfU,RT.val,c,hn,c2,hr]
  simp only[Zch,Zap,hv,okB,getO];refine⟨trivial,w b2,?_⟩;have hall:∀i:Nat,i<18->inR .u8 (([251,243,118,205,201,197,227,211,219,54,52,32,48,194,202,255,62,49]:List Int).getD i 0):=by
   intro i hi;have:∀i:Fin 18,decide (0<=([251,243,118,205,201,197,227,211,219,54,52,32,48,194,202,255,62,49]:List Int).getD i 0)&&decide (([251,243,118,205,201,197,227,211,219,54,52,32,48,194,202,255,62,49]:List Int).getD i 0<=255):=by decide
   have:=this ⟨i,hi⟩;rw[Zh5];simpa using this
  exact hall (Za (Za s 3).2 18).1.toNat (by omega)
theorem ZCZ (l:List Int):NB (l,0) 0:=⟨by simp,by simp⟩
