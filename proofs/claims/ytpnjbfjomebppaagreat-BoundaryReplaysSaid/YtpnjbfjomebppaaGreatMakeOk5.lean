import Derived.Test.YtpnjbfjomebppaaGreatFinRX
import Derived.Test.YtpnjbfjomebppaaGreatFin1
import Derived.Test.YtpnjbfjomebppaaGreatFin2
import Derived.Test.YtpnjbfjomebppaaGreatFin3
import Derived.Test.YtpnjbfjomebppaaGreatFin4
open Go Go.S3 Go.Proofs
set_option linter.unusedVariables false
set_option linter.unusedSimpArgs false
set_option maxRecDepth 100000
namespace Go.Proofs.YtpnjbfjomebppaaGreat
noncomputable section
theorem fr_1 (c) (s:Int) (g:List Int) (l) (hb:∀j:Nat,inR .u8 (g[j]?.getD 0)) (n:Int) (hk:(Zb c.1 (g.getD 0 0)).1=n):(n=1->(ZCG c s g l).val=some (finX c s g l))/\(n=6->(ZCB c s g l).val=some (finX c s g l))/\(n=10->(Zux c s g l).val=some (finX c s g l))/\(n=17->(Zuq c s g l).val=some (finX c s g l))/\(n=21->(Zum c s g l).val=some (finX c s g l))/\(n=28->(Zuf c s g l).val=some (finX c s g l))/\(n=33->(Zua c s g l).val=some (finX c s g l))/\(n=37->(Zt6 c s g l).val=some (finX c s g l))/\(n=43->(Zt0 c s g l).val=some (finX c s g l)):=by
 refine⟨?_,?_,?_,?_,?_,?_,?_,?_,?_⟩;all_goals intro e;subst e
 all_goals simp only[ZCG,ZCB,Zux,Zuq,Zum,Zuf,Zua,Zt6,Zt0,RT.val,rgx]
 all_goals simp only[qat0,mat0,qat1,mat1,rg0,hk,Zq,ZX,Z5,ZD,ZE,Zt,Zu,ZaK,ZaN,Zcg,Zcf,Zp,ZaM,finX,spOf]
 all_goals generalize Zc s=bi
 all_goals cases bi with
 |true=>simp[wPC,wSP]
 |false=>
  generalize (s==5)=bs;simp only[finI,hk,finR,wPC,wSP,wA,wF,fCY,fVCY,ZcL,flOf,ZH,pcOf,Za3];generalize Zb c.1 (g.getD 0 0)=i at hk|-;simp (config:={implicitDefEqProofs:=false}) [ZbM,Zbi,Zby,hk,Zga,Zgc,Zgb,ZkV,ZkW,Zel,Zek,Zk0,hb]
theorem fr_2 (c) (s:Int) (g:List Int) (l) (hb:∀j:Nat,inR .u8 (g[j]?.getD 0)) (n:Int) (hk:(Zb c.1 (g.getD 0 0)).1=n):(n=3->(ZCE c s g l).val=some (finX c s g l))/\(n=7->(ZCA c s g l).val=some (finX c s g l))/\(n=11->(Zuw c s g l).val=some (finX c s g l))/\(n=18->(Zup c s g l).val=some (finX c s g l))/\(n=22->(Zul c s g l).val=some (finX c s g l))/\(n=29->(Zue c s g l).val=some (finX c s g l))/\(n=34->(Zt9 c s g l).val=some (finX c s g l))/\(n=40->(Zt3 c s g l).val=some (finX c s g l))/\(n=44->(ZtZ c s g l).val=some (finX c s g l)):=by
 refine⟨?_,?_,?_,?_,?_,?_,?_,?_,?_⟩;all_goals intro e;subst e
 all_goals simp only[ZCE,ZCA,Zuw,Zup,Zul,Zue,Zt9,Zt3,ZtZ,RT.val,rgx]
 all_goals simp only[qat0,mat0,qat1,mat1,rg0,hk,Zq,ZX,Z5,ZD,ZE,Zt,Zu,ZaK,ZaN,Zcg,Zcf,Zp,ZaM,finX,spOf]
 all_goals generalize Zc s=bi
 all_goals cases bi with
 |true=>simp[wPC,wSP]
 |false=>
  generalize (s==5)=bs;simp only[finI,hk,finR,wPC,wSP,wA,wF,fCY,fVCY,ZcL,flOf,ZH,pcOf,Za3];generalize Zb c.1 (g.getD 0 0)=i at hk|-;simp (config:={implicitDefEqProofs:=false}) [ZbM,Zbi,Zby,hk,Zga,Zgc,Zgb,ZkV,ZkW,Zel,Zek,Zk0,hb]
theorem fr_3 (c) (s:Int) (g:List Int) (l) (hb:∀j:Nat,inR .u8 (g[j]?.getD 0)) (n:Int) (hk:(Zb c.1 (g.getD 0 0)).1=n):(n=4->(ZCD c s g l).val=some (finX c s g l))/\(n=8->(ZCz c s g l).val=some (finX c s g l))/\(n=13->(Zuu c s g l).val=some (finX c s g l))/\(n=19->(Zuo c s g l).val=some (finX c s g l))/\(n=23->(Zuk c s g l).val=some (finX c s g l))/\(n=30->(Zud c s g l).val=some (finX c s g l))/\(n=35->(Zt8 c s g l).val=some (finX c s g l))/\(n=41->(Zt2 c s g l).val=some (finX c s g l))/\(n=46->(ZtX c s g l).val=some (finX c s g l)):=by
 refine⟨?_,?_,?_,?_,?_,?_,?_,?_,?_⟩;all_goals intro e;subst e
 all_goals simp only[ZCD,ZCz,Zuu,Zuo,Zuk,Zud,Zt8,Zt2,ZtX,RT.val,rgx]
 all_goals simp only[qat0,mat0,qat1,mat1,rg0,hk,Zq,ZX,Z5,ZD,ZE,Zt,Zu,ZaK,ZaN,Zcg,Zcf,Zp,ZaM,finX,spOf]
 all_goals generalize Zc s=bi
 all_goals cases bi with
 |true=>simp[wPC,wSP]
 |false=>
  generalize (s==5)=bs;simp only[finI,hk,finR,wPC,wSP,wA,wF,fCY,fVCY,ZcL,flOf,ZH,pcOf,Za3];generalize Zb c.1 (g.getD 0 0)=i at hk|-;simp (config:={implicitDefEqProofs:=false}) [ZbM,Zbi,Zby,hk,Zga,Zgc,Zgb,ZkV,ZkW,Zel,Zek,Zk0,hb]
theorem fr_4 (c) (s:Int) (g:List Int) (l) (hb:∀j:Nat,inR .u8 (g[j]?.getD 0)) (n:Int) (hk:(Zb c.1 (g.getD 0 0)).1=n):(n=5->(ZCC c s g l).val=some (finX c s g l))/\(n=9->(ZCy c s g l).val=some (finX c s g l))/\(n=16->(Zur c s g l).val=some (finX c s g l))/\(n=20->(Zun c s g l).val=some (finX c s g l))/\(n=27->(Zug c s g l).val=some (finX c s g l))/\(n=32->(Zub c s g l).val=some (finX c s g l))/\(n=36->(Zt7 c s g l).val=some (finX c s g l))/\(n=42->(Zt1 c s g l).val=some (finX c s g l))/\(n=47->(ZtW c s g l).val=some (finX c s g l)):=by
 refine⟨?_,?_,?_,?_,?_,?_,?_,?_,?_⟩;all_goals intro e;subst e
 all_goals simp only[ZCC,ZCy,Zur,Zun,Zug,Zub,Zt7,Zt1,ZtW,RT.val,rgx]
 all_goals simp only[qat0,mat0,qat1,mat1,rg0,hk,Zq,ZX,Z5,ZD,ZE,Zt,Zu,ZaK,ZaN,Zcg,Zcf,Zp,ZaM,finX,spOf]
 all_goals generalize Zc s=bi
 all_goals cases bi with
 |true=>simp[wPC,wSP]
 |false=>
  generalize (s==5)=bs;simp only[finI,hk,finR,wPC,wSP,wA,wF,fCY,fVCY,ZcL,flOf,ZH,pcOf,Za3];generalize Zb c.1 (g.getD 0 0)=i at hk|-;simp (config:={implicitDefEqProofs:=false}) [ZbM,Zbi,Zby,hk,Zga,Zgc,Zgb,ZkV,ZkW,Zel,Zek,Zk0,hb]
theorem fr_5 (c) (s:Int) (g:List Int) (l) (hb:∀j:Nat,inR .u8 (g[j]?.getD 0)) (n:Int) (hk:(Zb c.1 (g.getD 0 0)).1=n):(n=2->(ZCF c s g l).val=some (finX c s g l))/\(n=12->(Zuv c s g l).val=some (finX c s g l)):=by
 refine⟨?_,?_⟩;all_goals intro e;subst e
 all_goals simp only[ZCF,Zuv,RT.val,rgx]
 all_goals simp only[qat0,mat0,qat1,mat1,rg0,hk,Zq,ZX,Z5,ZD,ZE,Zt,Zu,ZaK,ZaN,Zcg,Zcf,Zp,ZaM,finX,spOf]
 all_goals generalize Zc s=bi
 all_goals cases bi with
 |true=>simp[wPC,wSP]
 |false=>
  generalize (s==5)=bs;simp only[finI,hk,finR,wPC,wSP,wA,wF,fCY,fVCY,ZcL,flOf,ZH,pcOf,Za3];generalize Zb c.1 (g.getD 0 0)=i at hk|-;generalize (i.2.2.2.1==6)=b0;cases b0<;>simp (config:={implicitDefEqProofs:=false}) [ZbM,Zbi,Zby,hk,Zga,Zgc,Zgb,ZkV,ZkW,Zel,Zek,Zk0,hb]
theorem fr_6 (c) (s:Int) (g:List Int) (l) (hb:∀j:Nat,inR .u8 (g[j]?.getD 0)) (n:Int) (hk:(Zb c.1 (g.getD 0 0)).1=n):(n=14->(Zut c s g l).val=some (finX c s g l))/\(n=15->(Zus c s g l).val=some (finX c s g l)):=by
 refine⟨?_,?_⟩;all_goals intro e;subst e
 all_goals simp only[Zut,Zus,RT.val,rgx]
 all_goals simp only[qat0,mat0,qat1,mat1,rg0,hk,Zq,ZX,Z5,ZD,ZE,Zt,Zu,ZaK,ZaN,Zcg,Zcf,Zp,ZaM,finX,spOf]
 all_goals generalize Zc s=bi
 all_goals cases bi with
 |true=>simp[wPC,wSP]
 |false=>
  generalize (s==5)=bs;simp only[finI,hk,finR,wPC,wSP,wA,wF,fCY,fVCY,ZcL,flOf,ZH,pcOf,Za3];generalize Zb c.1 (g.getD 0 0)=i at hk|-;generalize (i.2.2.1==6)=b0;cases b0<;>simp (config:={implicitDefEqProofs:=false}) [ZbM,Zbi,Zby,hk,Zga,Zgc,Zgb,ZkV,ZkW,Zel,Zek,Zk0,hb]
theorem fr_7 (c) (s:Int) (g:List Int) (l) (hb:∀j:Nat,inR .u8 (g[j]?.getD 0)) (n:Int) (hk:(Zb c.1 (g.getD 0 0)).1=n):(n=24->(Zuj c s g l).val=some (finX c s g l))/\(n=25->(Zui c s g l).val=some (finX c s g l))/\(n=26->(Zuh c s g l).val=some (finX c s g l))/\(n=45->(ZtY c s g l).val=some (finX c s g l)):=by
 refine⟨?_,?_,?_,?_⟩;all_goals intro e;subst e
 all_goals simp only[Zuj,Zui,Zuh,ZtY,RT.val,rgx]
 all_goals simp only[qat0,mat0,qat1,mat1,rg0,hk,Zq,ZX,Z5,ZD,ZE,Zt,Zu,ZaK,ZaN,Zcg,Zcf,Zp,ZaM,finX,spOf]
 all_goals generalize Zc s=bi
 all_goals cases bi with
 |true=>simp[wPC,wSP]
 |false=>
  generalize (s==5)=bs;simp only[finI,hk,finR,wPC,wSP,wA,wF,fCY,fVCY,ZcL,flOf,ZH,pcOf,Za3];generalize Zb c.1 (g.getD 0 0)=i at hk|-;generalize Zen _ _=b0;cases b0<;>simp (config:={implicitDefEqProofs:=false}) [ZbM,Zbi,Zby,hk,Zga,Zgc,Zgb,ZkV,ZkW,Zel,Zek,Zk0,hb]
theorem fr_8 (c) (s:Int) (g:List Int) (l) (hb:∀j:Nat,inR .u8 (g[j]?.getD 0)) (n:Int) (hk:(Zb c.1 (g.getD 0 0)).1=n):(n=31->(Zuc c s g l).val=some (finX c s g l)):=by
 skip
 all_goals intro e;subst e
 all_goals simp only[Zuc,RT.val,rgx]
 all_goals simp only[qat0,mat0,qat1,mat1,rg0,hk,Zq,ZX,Z5,ZD,ZE,Zt,Zu,ZaK,ZaN,Zcg,Zcf,Zp,ZaM,finX,spOf]
 all_goals generalize Zc s=bi
 all_goals cases bi with
 |true=>simp[wPC,wSP]
 |false=>
  generalize (s==5)=bs;simp only[finI,hk,finR,wPC,wSP,wA,wF,fCY,fVCY,ZcL,flOf,ZH,pcOf,Za3];generalize Zb c.1 (g.getD 0 0)=i at hk|-;generalize (i.2.2.2.2.1==3)=b0;cases b0<;>simp (config:={implicitDefEqProofs:=false}) [ZbM,Zbi,Zby,hk,Zga,Zgc,Zgb,ZkV,ZkW,Zel,Zek,Zk0,hb,Zgh,ZlC,RT.val]
theorem fr_9 (c) (s:Int) (g:List Int) (l) (hb:∀j:Nat,inR .u8 (g[j]?.getD 0)) (n:Int) (hk:(Zb c.1 (g.getD 0 0)).1=n):(n=38->(Zt5 c s g l).val=some (finX c s g l)):=by
 skip
 all_goals intro e;subst e
 all_goals simp only[Zt5,RT.val,rgx]
 all_goals simp only[qat0,mat0,qat1,mat1,rg0,hk,Zq,ZX,Z5,ZD,ZE,Zt,Zu,ZaK,ZaN,Zcg,Zcf,Zp,ZaM,finX,spOf]
 all_goals generalize Zc s=bi
 all_goals cases bi with
 |true=>simp[wPC,wSP]
 |false=>
  generalize (s==5)=bs;simp only[finI,hk,finR,wPC,wSP,wA,wF,fCY,fVCY,ZcL,flOf,ZH,pcOf,Za3];generalize Zb c.1 (g.getD 0 0)=i at hk|-;simp[ZbM,Zbi,Zby,hk,ZWH];rfl
theorem fr_10 (c) (s:Int) (g:List Int) (l) (hb:∀j:Nat,inR .u8 (g[j]?.getD 0)) (n:Int) (hk:(Zb c.1 (g.getD 0 0)).1=n):(n=39->(Zt4 c s g l).val=some (finX c s g l)):=by
 skip
 all_goals intro e;subst e
 all_goals simp only[Zt4,RT.val,rgx]
 all_goals simp only[qat0,mat0,qat1,mat1,rg0,hk,Zq,ZX,Z5,ZD,ZE,Zt,Zu,ZaK,ZaN,Zcg,Zcf,Zp,ZaM,finX,spOf]
 all_goals generalize Zc s=bi
 all_goals cases bi with
 |true=>simp[wPC,wSP]
 |false=>
  generalize (s==5)=bs;simp only[finI,hk,finR,wPC,wSP,wA,wF,fCY,fVCY,ZcL,flOf,ZH,pcOf,Za3];generalize Zb c.1 (g.getD 0 0)=i at hk|-;simp[ZbM,Zbi,Zby,hk,rSim,ZOo,RT.val]
theorem ZZc (a:HL ZU) (h:okHL ZU a):∃l,Zc3 Tryz.prog l/\(Zez (envX Tryz.prog l [] 79250227772808467515411824639 8) Tryz.f164 ZU ZQe a).val=some (finX a.1 a.2.1 a.2.2.1 a.2.2.2):=by
 have hk:=Zws a.1.1 _ (Zww h.2.2.1);have hb:∀j:Nat,inR .u8 (a.2.2.1[j]?.getD 0):=λj=>by
  cases hj:a.2.2.1[j]? with
  |none=>rw[ZgH];simp
  |some x=>exact h.2.2.1.2 x (List.mem_of_getElem? hj)
 refine⟨ZZd (Zb a.1.1 (a.2.2.1.getD 0 0)).1,ZUE _,?_⟩;show (EV2 _ a).val=_;have f1:=fr_1 a.1 a.2.1 a.2.2.1 a.2.2.2 hb;have f5:=fr_5 a.1 a.2.1 a.2.2.1 a.2.2.2 hb;have f2:=fr_2 a.1 a.2.1 a.2.2.1 a.2.2.2 hb;have f3:=fr_3 a.1 a.2.1 a.2.2.1 a.2.2.2 hb;have f4:=fr_4 a.1 a.2.1 a.2.2.1 a.2.2.2 hb;have f6:=fr_6 a.1 a.2.1 a.2.2.1 a.2.2.2 hb;have f7:=fr_7 a.1 a.2.1 a.2.2.1 a.2.2.2 hb;have f8:=fr_8 a.1 a.2.1 a.2.2.1 a.2.2.2 hb;have f9:=fr_9 a.1 a.2.1 a.2.2.1 a.2.2.2 hb;have f10:=fr_10 a.1 a.2.1 a.2.2.1 a.2.2.2 hb;rcases Zwr hk.1 hk.2 with e|e|e|e|e|e|e|e|e|e|e|e|e|e|e|e|e|e|e|e|e|e|e|e|e|e|e|e|e|e|e|e|e|e|e|e|e|e|e|e|e|e|e|e|e|e|e
 ·rw[e,ZPs a,((f1 _ e).1 rfl)]
 ·rw[e,ZPr a,((f5 _ e).1 rfl)]
 ·rw[e,ZPq a,((f2 _ e).1 rfl)]
 ·rw[e,ZPp a,((f3 _ e).1 rfl)]
 ·rw[e,ZPo a,((f4 _ e).1 rfl)]
 ·rw[e,ZPn a,((f1 _ e).2.1 rfl)]
 ·rw[e,ZPm a,((f2 _ e).2.1 rfl)]
 ·rw[e,ZPl a,((f3 _ e).2.1 rfl)]
 ·rw[e,ZPk a,((f4 _ e).2.1 rfl)]
 ·rw[e,ZKb a,((f1 _ e).2.2.1 rfl)]
 ·rw[e,ZKa a,((f2 _ e).2.2.1 rfl)]
 ·rw[e,ZJ9 a,((f5 _ e).2 rfl)]
 ·rw[e,ZJ8 a,((f3 _ e).2.2.1 rfl)]
 ·rw[e,ZJ7 a,((f6 _ e).1 rfl)]
 ·rw[e,ZJ6 a,((f6 _ e).2 rfl)]
 ·rw[e,ZJ5 a,((f4 _ e).2.2.1 rfl)]
 ·rw[e,ZJ4 a,((f1 _ e).2.2.2.1 rfl)]
 ·rw[e,ZJ3 a,((f2 _ e).2.2.2.1 rfl)]
 ·rw[e,ZJ2 a,((f3 _ e).2.2.2.1 rfl)]
 ·rw[e,ZJ1 a,((f4 _ e).2.2.2.1 rfl)]
 ·rw[e,ZJ0 a,((f1 _ e).2.2.2.2.1 rfl)]
 ·rw[e,ZJZ a,((f2 _ e).2.2.2.2.1 rfl)]
 ·rw[e,ZJY a,((f3 _ e).2.2.2.2.1 rfl)]
 ·rw[e,ZJX a,((f7 _ e).1 rfl)]
 ·rw[e,ZJW a,((f7 _ e).2.1 rfl)]
 ·rw[e,ZJV a,((f7 _ e).2.2.1 rfl)]
 ·rw[e,ZJU a,((f4 _ e).2.2.2.2.1 rfl)]
 ·rw[e,ZJT a,((f1 _ e).2.2.2.2.2.1 rfl)]
 ·rw[e,ZJS a,((f2 _ e).2.2.2.2.2.1 rfl)]
 ·rw[e,ZJR a,((f3 _ e).2.2.2.2.2.1 rfl)]
 ·rw[e,ZJQ a,((f8 _ e) rfl)]
 ·rw[e,ZJP a,((f4 _ e).2.2.2.2.2.1 rfl)]
 ·rw[e,ZJO a,((f1 _ e).2.2.2.2.2.2.1 rfl)]
 ·rw[e,ZJN a,((f2 _ e).2.2.2.2.2.2.1 rfl)]
 ·rw[e,ZJM a,((f3 _ e).2.2.2.2.2.2.1 rfl)]
 ·rw[e,ZJL a,((f4 _ e).2.2.2.2.2.2.1 rfl)]
 ·rw[e,ZJK a,((f1 _ e).2.2.2.2.2.2.2.1 rfl)]
 ·rw[e,ZJJ a,((f9 _ e) rfl)]
 ·rw[e,ZJI a,((f10 _ e) rfl)]
 ·rw[e,ZJH a,((f2 _ e).2.2.2.2.2.2.2.1 rfl)]
 ·rw[e,ZJG a,((f3 _ e).2.2.2.2.2.2.2.1 rfl)]
 ·rw[e,ZJF a,((f4 _ e).2.2.2.2.2.2.2.1 rfl)]
 ·rw[e,ZJE a,((f1 _ e).2.2.2.2.2.2.2.2 rfl)]
 ·rw[e,ZJD a,((f2 _ e).2.2.2.2.2.2.2.2 rfl)]
 ·rw[e,ZJC a,((f7 _ e).2.2.2 rfl)]
 ·rw[e,ZJB a,((f3 _ e).2.2.2.2.2.2.2.2 rfl)]
 ·rw[e,ZJA a,((f4 _ e).2.2.2.2.2.2.2.2 rfl)]
def ZUF:En:=Zg ZU ZQe (λ_=>none) (λa=>finX a.1 a.2.1 a.2.2.1 a.2.2.2)
theorem ZCx:Za Tryz.prog 164 ZUF:=ZlM Tryz.func164 rfl (by kernel_rfl) Tryz.call164 λa h _=>ZZc a h
theorem fp_1 (c) (s:Int) (g:List Int) (l) (n:Int) (hk:(Zb c.1 (g.getD 0 0)).1=n):(n=1->(ZD3 c s g l).val=some (finX c s g l))/\(n=6->(ZDY c s g l).val=some (finX c s g l))/\(n=10->(ZvX c s g l).val=some (finX c s g l))/\(n=17->(ZvQ c s g l).val=some (finX c s g l))/\(n=21->(ZvM c s g l).val=some (finX c s g l))/\(n=28->(ZvF c s g l).val=some (finX c s g l))/\(n=33->(ZvA c s g l).val=some (finX c s g l))/\(n=37->(Zvw c s g l).val=some (finX c s g l))/\(n=43->(Zvq c s g l).val=some (finX c s g l)):=by
 refine⟨?_,?_,?_,?_,?_,?_,?_,?_,?_⟩;all_goals intro e;subst e
 all_goals simp only[ZD3,ZDY,ZvX,ZvQ,ZvM,ZvF,ZvA,Zvw,Zvq,RT.val,rgx]
 all_goals simp only[qat0,mat0,qat1,mat1,rg0,hk,Zq,ZX,Z5,ZD,ZE,Zt,Zu,ZaK,ZaN,Zcg,Zcf,Zp,ZaM,finX,spOf]
 all_goals generalize Zc s=bi
 all_goals cases bi with
 |true=>simp[wPC,wSP]
 |false=>
  generalize (s==5)=bs;simp only[finI,hk,finR,wPC,wSP,wA,wF,fCY,fVCY,ZcL,flOf,ZH,pcOf,Za3];generalize Zb c.1 (g.getD 0 0)=i at hk|-;simp (config:={implicitDefEqProofs:=false}) [ZbM,Zbi,Zby,hk]
theorem fp_2 (c) (s:Int) (g:List Int) (l) (n:Int) (hk:(Zb c.1 (g.getD 0 0)).1=n):(n=3->(ZD1 c s g l).val=some (finX c s g l))/\(n=7->(ZDX c s g l).val=some (finX c s g l))/\(n=11->(ZvW c s g l).val=some (finX c s g l))/\(n=18->(ZvP c s g l).val=some (finX c s g l))/\(n=22->(ZvL c s g l).val=some (finX c s g l))/\(n=29->(ZvE c s g l).val=some (finX c s g l))/\(n=34->(Zvz c s g l).val=some (finX c s g l))/\(n=40->(Zvt c s g l).val=some (finX c s g l))/\(n=44->(Zvp c s g l).val=some (finX c s g l)):=by
 refine⟨?_,?_,?_,?_,?_,?_,?_,?_,?_⟩;all_goals intro e;subst e
 all_goals simp only[ZD1,ZDX,ZvW,ZvP,ZvL,ZvE,Zvz,Zvt,Zvp,RT.val,rgx]
 all_goals simp only[qat0,mat0,qat1,mat1,rg0,hk,Zq,ZX,Z5,ZD,ZE,Zt,Zu,ZaK,ZaN,Zcg,Zcf,Zp,ZaM,finX,spOf]
 all_goals generalize Zc s=bi
 all_goals cases bi with
 |true=>simp[wPC,wSP]
 |false=>
  generalize (s==5)=bs;simp only[finI,hk,finR,wPC,wSP,wA,wF,fCY,fVCY,ZcL,flOf,ZH,pcOf,Za3];generalize Zb c.1 (g.getD 0 0)=i at hk|-;simp (config:={implicitDefEqProofs:=false}) [ZbM,Zbi,Zby,hk]
theorem fp_3 (c) (s:Int) (g:List Int) (l) (n:Int) (hk:(Zb c.1 (g.getD 0 0)).1=n):(n=4->(ZD0 c s g l).val=some (finX c s g l))/\(n=8->(ZDW c s g l).val=some (finX c s g l))/\(n=13->(ZvU c s g l).val=some (finX c s g l))/\(n=19->(ZvO c s g l).val=some (finX c s g l))/\(n=23->(ZvK c s g l).val=some (finX c s g l))/\(n=30->(ZvD c s g l).val=some (finX c s g l))/\(n=35->(Zvy c s g l).val=some (finX c s g l))/\(n=41->(Zvs c s g l).val=some (finX c s g l))/\(n=46->(Zvn c s g l).val=some (finX c s g l)):=by
 refine⟨?_,?_,?_,?_,?_,?_,?_,?_,?_⟩;all_goals intro e;subst e
 all_goals simp only[ZD0,ZDW,ZvU,ZvO,ZvK,ZvD,Zvy,Zvs,Zvn,RT.val,rgx]
 all_goals simp only[qat0,mat0,qat1,mat1,rg0,hk,Zq,ZX,Z5,ZD,ZE,Zt,Zu,ZaK,ZaN,Zcg,Zcf,Zp,ZaM,finX,spOf]
 all_goals generalize Zc s=bi
 all_goals cases bi with
 |true=>simp[wPC,wSP]
 |false=>
  generalize (s==5)=bs;simp only[finI,hk,finR,wPC,wSP,wA,wF,fCY,fVCY,ZcL,flOf,ZH,pcOf,Za3];generalize Zb c.1 (g.getD 0 0)=i at hk|-;simp (config:={implicitDefEqProofs:=false}) [ZbM,Zbi,Zby,hk]
theorem fp_4 (c) (s:Int) (g:List Int) (l) (n:Int) (hk:(Zb c.1 (g.getD 0 0)).1=n):(n=5->(ZDZ c s g l).val=some (finX c s g l))/\(n=9->(ZDV c s g l).val=some (finX c s g l))/\(n=16->(ZvR c s g l).val=some (finX c s g l))/\(n=20->(ZvN c s g l).val=some (finX c s g l))/\(n=27->(ZvG c s g l).val=some (finX c s g l))/\(n=32->(ZvB c s g l).val=some (finX c s g l))/\(n=36->(Zvx c s g l).val=some (finX c s g l))/\(n=42->(Zvr c s g l).val=some (finX c s g l))/\(n=47->(Zvm c s g l).val=some (finX c s g l)):=by
 refine⟨?_,?_,?_,?_,?_,?_,?_,?_,?_⟩;all_goals intro e;subst e
 all_goals simp only[ZDZ,ZDV,ZvR,ZvN,ZvG,ZvB,Zvx,Zvr,Zvm,RT.val,rgx]
 all_goals simp only[qat0,mat0,qat1,mat1,rg0,hk,Zq,ZX,Z5,ZD,ZE,Zt,Zu,ZaK,ZaN,Zcg,Zcf,Zp,ZaM,finX,spOf]
 all_goals generalize Zc s=bi
 all_goals cases bi with
 |true=>simp[wPC,wSP]
 |false=>
  generalize (s==5)=bs;simp only[finI,hk,finR,wPC,wSP,wA,wF,fCY,fVCY,ZcL,flOf,ZH,pcOf,Za3];generalize Zb c.1 (g.getD 0 0)=i at hk|-;simp (config:={implicitDefEqProofs:=false}) [ZbM,Zbi,Zby,hk]
theorem fp_5 (c) (s:Int) (g:List Int) (l) (n:Int) (hk:(Zb c.1 (g.getD 0 0)).1=n):(n=2->(ZD2 c s g l).val=some (finX c s g l))/\(n=12->(ZvV c s g l).val=some (finX c s g l)):=by
 refine⟨?_,?_⟩;all_goals intro e;subst e
 all_goals simp only[ZD2,ZvV,RT.val,rgx]
 all_goals simp only[qat0,mat0,qat1,mat1,rg0,hk,Zq,ZX,Z5,ZD,ZE,Zt,Zu,ZaK,ZaN,Zcg,Zcf,Zp,ZaM,finX,spOf]
 all_goals generalize Zc s=bi
 all_goals cases bi with
 |true=>simp[wPC,wSP]
 |false=>
  generalize (s==5)=bs;simp only[finI,hk,finR,wPC,wSP,wA,wF,fCY,fVCY,ZcL,flOf,ZH,pcOf,Za3];generalize Zb c.1 (g.getD 0 0)=i at hk|-;generalize (i.2.2.2.1==6)=b0;cases b0<;>simp (config:={implicitDefEqProofs:=false}) [ZbM,Zbi,Zby,hk]
theorem fp_6 (c) (s:Int) (g:List Int) (l) (n:Int) (hk:(Zb c.1 (g.getD 0 0)).1=n):(n=14->(ZvT c s g l).val=some (finX c s g l))/\(n=15->(ZvS c s g l).val=some (finX c s g l)):=by
 refine⟨?_,?_⟩;all_goals intro e;subst e
 all_goals simp only[ZvT,ZvS,RT.val,rgx]
 all_goals simp only[qat0,mat0,qat1,mat1,rg0,hk,Zq,ZX,Z5,ZD,ZE,Zt,Zu,ZaK,ZaN,Zcg,Zcf,Zp,ZaM,finX,spOf]
 all_goals generalize Zc s=bi
 all_goals cases bi with
 |true=>simp[wPC,wSP]
 |false=>
  generalize (s==5)=bs;simp only[finI,hk,finR,wPC,wSP,wA,wF,fCY,fVCY,ZcL,flOf,ZH,pcOf,Za3];generalize Zb c.1 (g.getD 0 0)=i at hk|-;generalize (i.2.2.1==6)=b0;cases b0<;>simp (config:={implicitDefEqProofs:=false}) [ZbM,Zbi,Zby,hk]
theorem fp_7 (c) (s:Int) (g:List Int) (l) (n:Int) (hk:(Zb c.1 (g.getD 0 0)).1=n):(n=24->(ZvJ c s g l).val=some (finX c s g l))/\(n=25->(ZvI c s g l).val=some (finX c s g l))/\(n=26->(ZvH c s g l).val=some (finX c s g l))/\(n=45->(Zvo c s g l).val=some (finX c s g l)):=by
 refine⟨?_,?_,?_,?_⟩;all_goals intro e;subst e
 all_goals simp only[ZvJ,ZvI,ZvH,Zvo,RT.val,rgx]
 all_goals simp only[qat0,mat0,qat1,mat1,rg0,hk,Zq,ZX,Z5,ZD,ZE,Zt,Zu,ZaK,ZaN,Zcg,Zcf,Zp,ZaM,finX,spOf]
 all_goals generalize Zc s=bi
 all_goals cases bi with
 |true=>simp[wPC,wSP]
 |false=>
  generalize (s==5)=bs;simp only[finI,hk,finR,wPC,wSP,wA,wF,fCY,fVCY,ZcL,flOf,ZH,pcOf,Za3];generalize Zb c.1 (g.getD 0 0)=i at hk|-;generalize Zen _ _=b0;cases b0<;>simp (config:={implicitDefEqProofs:=false}) [ZbM,Zbi,Zby,hk]
theorem fp_8 (c) (s:Int) (g:List Int) (l) (n:Int) (hk:(Zb c.1 (g.getD 0 0)).1=n):(n=31->(ZvC c s g l).val=some (finX c s g l)):=by
 skip
 all_goals intro e;subst e
 all_goals simp only[ZvC,RT.val,rgx]
 all_goals simp only[qat0,mat0,qat1,mat1,rg0,hk,Zq,ZX,Z5,ZD,ZE,Zt,Zu,ZaK,ZaN,Zcg,Zcf,Zp,ZaM,finX,spOf]
 all_goals generalize Zc s=bi
 all_goals cases bi with
 |true=>simp[wPC,wSP]
 |false=>
  generalize (s==5)=bs;simp only[finI,hk,finR,wPC,wSP,wA,wF,fCY,fVCY,ZcL,flOf,ZH,pcOf,Za3];generalize Zb c.1 (g.getD 0 0)=i at hk|-;generalize (i.2.2.2.2.1==3)=b0;cases b0<;>simp (config:={implicitDefEqProofs:=false}) [ZbM,Zbi,Zby,hk]
theorem fp_9 (c) (s:Int) (g:List Int) (l) (n:Int) (hk:(Zb c.1 (g.getD 0 0)).1=n):(n=38->(Zvv c s g l).val=some (finX c s g l)):=by
 skip
 all_goals intro e;subst e
 all_goals simp only[Zvv,RT.val,rgx]
 all_goals simp only[qat0,mat0,qat1,mat1,rg0,hk,Zq,ZX,Z5,ZD,ZE,Zt,Zu,ZaK,ZaN,Zcg,Zcf,Zp,ZaM,finX,spOf]
 all_goals generalize Zc s=bi
 all_goals cases bi with
 |true=>simp[wPC,wSP]
 |false=>
  generalize (s==5)=bs;simp only[finI,hk,finR,wPC,wSP,wA,wF,fCY,fVCY,ZcL,flOf,ZH,pcOf,Za3];generalize Zb c.1 (g.getD 0 0)=i at hk|-;simp[ZbM,Zbi,Zby,hk,ZWH]
theorem fp_10 (c) (s:Int) (g:List Int) (l) (n:Int) (hk:(Zb c.1 (g.getD 0 0)).1=n):(n=39->(Zvu c s g l).val=some (finX c s g l)):=by
 skip
 all_goals intro e;subst e
 all_goals simp only[Zvu,RT.val,rgx]
 all_goals simp only[qat0,mat0,qat1,mat1,rg0,hk,Zq,ZX,Z5,ZD,ZE,Zt,Zu,ZaK,ZaN,Zcg,Zcf,Zp,ZaM,finX,spOf]
 all_goals generalize Zc s=bi
 all_goals cases bi with
 |true=>simp[wPC,wSP]
 |false=>
  generalize (s==5)=bs;simp only[finI,hk,finR,wPC,wSP,wA,wF,fCY,fVCY,ZcL,flOf,ZH,pcOf,Za3];generalize Zb c.1 (g.getD 0 0)=i at hk|-;simp[ZbM,Zbi,Zby,hk,rSim,ZOo,RT.val]
theorem ZZY (a:HL ZU) (h:okHL ZU a):∃l,Zc3 Tryz.prog l/\(Zez (envX Tryz.prog l [] 1023 8) Tryz.f85 ZU ZQe a).val=some (finX a.1 a.2.1 a.2.2.1 a.2.2.2):=by
 have hk:=Zws a.1.1 _ (Zww h.2.2.1);refine⟨ZZZ (Zb a.1.1 (a.2.2.1.getD 0 0)).1,ZVf _,?_⟩;show (EV0 _ a).val=_;rcases Zwr hk.1 hk.2 with e|e|e|e|e|e|e|e|e|e|e|e|e|e|e|e|e|e|e|e|e|e|e|e|e|e|e|e|e|e|e|e|e|e|e|e|e|e|e|e|e|e|e|e|e|e|e
 ·rw[e,ZRc a,((fp_1 a.1 a.2.1 a.2.2.1 a.2.2.2 _ e).1 rfl)]
 ·rw[e,ZRb a,((fp_5 a.1 a.2.1 a.2.2.1 a.2.2.2 _ e).1 rfl)]
 ·rw[e,ZRa a,((fp_2 a.1 a.2.1 a.2.2.1 a.2.2.2 _ e).1 rfl)]
 ·rw[e,ZQ9 a,((fp_3 a.1 a.2.1 a.2.2.1 a.2.2.2 _ e).1 rfl)]
 ·rw[e,ZQ8 a,((fp_4 a.1 a.2.1 a.2.2.1 a.2.2.2 _ e).1 rfl)]
 ·rw[e,ZQ7 a,((fp_1 a.1 a.2.1 a.2.2.1 a.2.2.2 _ e).2.1 rfl)]
 ·rw[e,ZQ6 a,((fp_2 a.1 a.2.1 a.2.2.1 a.2.2.2 _ e).2.1 rfl)]
 ·rw[e,ZQ5 a,((fp_3 a.1 a.2.1 a.2.2.1 a.2.2.2 _ e).2.1 rfl)]
 ·rw[e,ZQ4 a,((fp_4 a.1 a.2.1 a.2.2.1 a.2.2.2 _ e).2.1 rfl)]
 ·rw[e,ZLh a,((fp_1 a.1 a.2.1 a.2.2.1 a.2.2.2 _ e).2.2.1 rfl)]
 ·rw[e,ZLg a,((fp_2 a.1 a.2.1 a.2.2.1 a.2.2.2 _ e).2.2.1 rfl)]
 ·rw[e,ZLf a,((fp_5 a.1 a.2.1 a.2.2.1 a.2.2.2 _ e).2 rfl)]
 ·rw[e,ZLe a,((fp_3 a.1 a.2.1 a.2.2.1 a.2.2.2 _ e).2.2.1 rfl)]
 ·rw[e,ZLd a,((fp_6 a.1 a.2.1 a.2.2.1 a.2.2.2 _ e).1 rfl)]
 ·rw[e,ZLc a,((fp_6 a.1 a.2.1 a.2.2.1 a.2.2.2 _ e).2 rfl)]
 ·rw[e,ZLb a,((fp_4 a.1 a.2.1 a.2.2.1 a.2.2.2 _ e).2.2.1 rfl)]
 ·rw[e,ZLa a,((fp_1 a.1 a.2.1 a.2.2.1 a.2.2.2 _ e).2.2.2.1 rfl)]
 ·rw[e,ZK9 a,((fp_2 a.1 a.2.1 a.2.2.1 a.2.2.2 _ e).2.2.2.1 rfl)]
 ·rw[e,ZK8 a,((fp_3 a.1 a.2.1 a.2.2.1 a.2.2.2 _ e).2.2.2.1 rfl)]
 ·rw[e,ZK7 a,((fp_4 a.1 a.2.1 a.2.2.1 a.2.2.2 _ e).2.2.2.1 rfl)]
 ·rw[e,ZK6 a,((fp_1 a.1 a.2.1 a.2.2.1 a.2.2.2 _ e).2.2.2.2.1 rfl)]
 ·rw[e,ZK5 a,((fp_2 a.1 a.2.1 a.2.2.1 a.2.2.2 _ e).2.2.2.2.1 rfl)]
 ·rw[e,ZK4 a,((fp_3 a.1 a.2.1 a.2.2.1 a.2.2.2 _ e).2.2.2.2.1 rfl)]
 ·rw[e,ZK3 a,((fp_7 a.1 a.2.1 a.2.2.1 a.2.2.2 _ e).1 rfl)]
 ·rw[e,ZK2 a,((fp_7 a.1 a.2.1 a.2.2.1 a.2.2.2 _ e).2.1 rfl)]
 ·rw[e,ZK1 a,((fp_7 a.1 a.2.1 a.2.2.1 a.2.2.2 _ e).2.2.1 rfl)]
 ·rw[e,ZK0 a,((fp_4 a.1 a.2.1 a.2.2.1 a.2.2.2 _ e).2.2.2.2.1 rfl)]
 ·rw[e,ZKZ a,((fp_1 a.1 a.2.1 a.2.2.1 a.2.2.2 _ e).2.2.2.2.2.1 rfl)]
 ·rw[e,ZKY a,((fp_2 a.1 a.2.1 a.2.2.1 a.2.2.2 _ e).2.2.2.2.2.1 rfl)]
 ·rw[e,ZKX a,((fp_3 a.1 a.2.1 a.2.2.1 a.2.2.2 _ e).2.2.2.2.2.1 rfl)]
 ·rw[e,ZKW a,((fp_8 a.1 a.2.1 a.2.2.1 a.2.2.2 _ e) rfl)]
 ·rw[e,ZKV a,((fp_4 a.1 a.2.1 a.2.2.1 a.2.2.2 _ e).2.2.2.2.2.1 rfl)]
 ·rw[e,ZKU a,((fp_1 a.1 a.2.1 a.2.2.1 a.2.2.2 _ e).2.2.2.2.2.2.1 rfl)]
 ·rw[e,ZKT a,((fp_2 a.1 a.2.1 a.2.2.1 a.2.2.2 _ e).2.2.2.2.2.2.1 rfl)]
 ·rw[e,ZKS a,((fp_3 a.1 a.2.1 a.2.2.1 a.2.2.2 _ e).2.2.2.2.2.2.1 rfl)]
 ·rw[e,ZKR a,((fp_4 a.1 a.2.1 a.2.2.1 a.2.2.2 _ e).2.2.2.2.2.2.1 rfl)]
 ·rw[e,ZKQ a,((fp_1 a.1 a.2.1 a.2.2.1 a.2.2.2 _ e).2.2.2.2.2.2.2.1 rfl)]
 ·rw[e,ZKP a,((fp_9 a.1 a.2.1 a.2.2.1 a.2.2.2 _ e) rfl)]
 ·rw[e,ZKO a,((fp_10 a.1 a.2.1 a.2.2.1 a.2.2.2 _ e) rfl)]
 ·rw[e,ZKN a,((fp_2 a.1 a.2.1 a.2.2.1 a.2.2.2 _ e).2.2.2.2.2.2.2.1 rfl)]
 ·rw[e,ZKM a,((fp_3 a.1 a.2.1 a.2.2.1 a.2.2.2 _ e).2.2.2.2.2.2.2.1 rfl)]
 ·rw[e,ZKL a,((fp_4 a.1 a.2.1 a.2.2.1 a.2.2.2 _ e).2.2.2.2.2.2.2.1 rfl)]
 ·rw[e,ZKK a,((fp_1 a.1 a.2.1 a.2.2.1 a.2.2.2 _ e).2.2.2.2.2.2.2.2 rfl)]
 ·rw[e,ZKJ a,((fp_2 a.1 a.2.1 a.2.2.1 a.2.2.2 _ e).2.2.2.2.2.2.2.2 rfl)]
 ·rw[e,ZKI a,((fp_7 a.1 a.2.1 a.2.2.1 a.2.2.2 _ e).2.2.2 rfl)]
 ·rw[e,ZKH a,((fp_3 a.1 a.2.1 a.2.2.1 a.2.2.2 _ e).2.2.2.2.2.2.2.2 rfl)]
 ·rw[e,ZKG a,((fp_4 a.1 a.2.1 a.2.2.1 a.2.2.2 _ e).2.2.2.2.2.2.2.2 rfl)]
def Z1Z:En:=Zg ZU ZQe (λ_=>none) (λa=>finX a.1 a.2.1 a.2.2.1 a.2.2.2)
theorem ZZX:Za Tryz.prog 85 Z1Z:=ZlM Tryz.func85 rfl (by kernel_rfl) Tryz.call85 λa h _=>ZZY a h
theorem Zrg (c op:Int) (h:c≠2):Zb c op=Zb 0 op:=by unfold Zb;rw[ZmU c op h]
theorem ZCR (c op:Int) (h:c≠2):ZrT c op=ZrT 0 op:=by
 have h1:(c==2)=false:=by simpa using h
 have h0:((0:Int)==2)=false:=rfl;simp only[ZrT,ZDT,RT.val,Zrg c op h,h1,h0]
theorem ZBe (c op:Int) (h:c≠2):ZeQ c op=ZeQ 0 op:=by
 have h1:rOn c=false:=by simpa [ZaM] using h
 have h0:rOn 0=false:=rfl;simp only[ZeQ,ZCv,RT.val,Zrg c op h,h1,h0]
def firT (c op:Int):Bool:=ZrT c op==ZeQ c op
theorem ZVQ (c op:Int) (h:inR .u8 op):ZrT c op=ZeQ c op:=by
 by_cases hc:c=2
 ·subst hc;exact eq_of_beq (ZfC (firT 2) (by kernel_rfl) op h)
 ·rw[ZCR c op hc,ZBe c op hc];exact eq_of_beq (ZfC (firT 0) (by kernel_rfl) op h)
def Zvl:En:=Zg ZyT ZXy (λ_=>none) (λa=>ZeQ a.1 a.2)
theorem ZrS:Za Tryz.prog 84 Zvl:=ZQ1.tot (λa h=>by simp) (λa h=>ZVQ _ _ h.2)
end
end Go.Proofs.YtpnjbfjomebppaaGreat
open Go.Proofs.Tryz (prog)
open Go.IntKind (u8 u16 i64)
namespace Go.Proofs.YtpnjbfjomebppaaGreat
noncomputable section
def ZOn (c:QT5):RT (Int):=
 .br (decide (c.2.2.2.2.1<1)||decide (c.2.2.2.2.1>9)) (.Lf (1)) (.Lf c.2.2.2.2.1)
def Zaw (c:QT5):Int:=(ZOn c).val
def Zfi:En:=Zg ZPG ZXy (λ_=>none) (λa=>Zaw a)
theorem ZdX:Za prog 109 Zfi:=
 pureQ 7 [] [] ZPG ZXy trivial Tryz.func109 Tryz.call109 trivial (t:=λa=>ZOn a)
abbrev ZG4:Rs:=Rs.one (Sh.agg (RY))
def ZPL (c:TC) (s:Int):RT TY:=
 .Lf (Zi c s []).1
def ZXk (c:TC) (s:Int):QT11:=(ZPL c s).val
def ZuD:En:=Zg ZoY ZG4 (λ_=>none) (λa=>ZXk a.1 a.2)
theorem ZnY:Za prog 173 ZuD:=
 pureQ 127 [(166,ZrB)] [] ZoY ZG4 ⟨ZiQ,Tv⟩ Tryz.func173 Tryz.call173 trivial (t:=λa=>ZPL a.1 a.2)
abbrev ZGi:List Sh:=[Sh.agg (R.Pq Zr (R.Pq Kc (R.Pq (R.sl Ka) (R.Pq (RY) (R.Pq Kc R.bool))))),So Kc]
abbrev ZGj:Rs:=Rs.one (Sh.agg (R.Pq Zr (R.Pq Kc (R.Pq (R.sl Ka) (R.Pq (RY) (R.Pq Kc R.bool))))))
def ZOp (c:QT5) (s:Int):RT (QT5):=
 .Lf ((Zo c.1 s,s,[],ZXk (Zo c.1 s) s,c.2.2.2.2))
def ZGk (c:QT5) (s:Int):QT5:=(ZOp c s).val
def ZBs:En:=Zg ZGi ZGj (λ_=>none) (λa=>ZGk a.1 a.2)
theorem Zym:Za prog 262 ZBs:=
 pureQ 31 [(163,ZiV),(173,ZuD)] [] ZGi ZGj ⟨Zg8,ZnY,Tv⟩ Tryz.func262 Tryz.call262 trivial (t:=λa=>ZOp a.1 a.2)
abbrev ZOy:List Sh:=[Sh.agg (R.Pq Zr (R.Pq Kc (R.Pq (R.sl Ka) (R.Pq (RY) (R.Pq Kc R.bool))))),So Kc,So Ka]
abbrev ZBw:Rs:=Rs.tup [Sh.agg (RY),So (R.sl Ka)]
def ZiM (c:QT5) (t:Int) (d:Int):RT (Option (TY×List Int)):=
 let x1:Int:=bif Zcz c.2.2.2.1.1 then d else c.2.2.2.1.2.2.1
 let x2:List Int:=[]++c.2.2.1++[x1]
 .br (t !=3) (Ls ((c.2.2.2.1,c.2.2.1))) (.br (!Nat.ble (Le ([]++c.2.2.1)) most||Nat.ble (Le x2) most) (.br (Nat.ble (Le ([]++c.2.2.1)) most) (Ls (((c.2.2.2.1.1,c.2.2.2.1.2.1,x1,bif c.2.2.2.1.1==1||c.2.2.2.1.1==8 then ZeQ c.1.1 x1 else c.2.2.2.1.2.2.2),x2))) Ln) Ln)
def ZhW (c:QT5) (t:Int) (d:Int):TY×List Int:=getO ZBw.Df (ZiM c t d).val
def ZeO (c:QT5) (t:Int) (d:Int):Bool:=okB (ZiM c t d).val
def ZOB:En:=Zg ZOy ZBw (λa=>some (ZeO a.1 a.2.1 a.2.2)) (λa=>ZhW a.1 a.2.1 a.2.2)
theorem ZGr:Za prog 263 ZOB:=
 pureP 1023 [(167,ZhV),(168,ZnU)] [] ZOy ZBw ⟨ZeN,ZiS,Tv⟩ Tryz.func263 Tryz.call263 trivial (t:=λa=>ZiM a.1 a.2.1 a.2.2)
abbrev ZPu:List Sh:=[So Kc,Sh.agg (RY)]
def ZrE (t:Int) (x:QT11):RT (Bool):=
 .br (t==3) (.Lf (decide (x.2.2.2<=3))) (.br (bif t==4 then t==4 else t==5) (.Lf (decide (x.2.2.2<=t))) (.Lf (t==6)))
def Zuy (t:Int) (x:QT11):Bool:=(ZrE t x).val
def ZPw:En:=Zg ZPu Zof (λ_=>none) (λa=>Zuy a.1 a.2)
theorem ZGX:Za prog 264 ZPw:=
 pureQ 2143 [] [] ZPu Zof trivial Tryz.func264 Tryz.call264 trivial (t:=λa=>ZrE a.1 a.2)
def ZiJ (c:QT5):RT (Bool):=
 .Lf (c.1.2.2.2.2.1&&c.2.1==0)
def ZiK (c:QT5):Bool:=(ZiJ c).val
def Zm3:En:=Zg ZPG Zof (λ_=>none) (λa=>ZiK a)
theorem Zm2:Za prog 260 Zm3:=
 pureQ 7 [] [] ZPG Zof trivial Tryz.func260 Tryz.call260 trivial (t:=λa=>ZiJ a)
abbrev ZW7:List Sh:=[Sh.agg (R.Pq Zr (R.Pq Kc (R.Pq (R.sl Ka) (R.Pq (RY) (R.Pq Kc R.bool))))),Sh.agg (R.Pq R.bool (R.Pq R.bool rcF7))]
def ZZf (c:QT5) (l:QT0):RT (QT5):=
 let x1:=ZGk (finX c.1 c.2.1 c.2.2.1 l,c.2) (Zm7 (finX c.1 c.2.1 c.2.2.1 l) l)
 let x2:=x1.1
 let x3:=x2.2
 let x4:=x3.1
 let x5:=x4.2
 let x6:=x5.2
 let x7:=x6.2
 let x8:=x7.2
 let x9:=x8.2
 let x10:=x9.2
 let x11:=x10.2
 let x12:=x11.1
 let x13:=x12.2
 let x14:=c.1.2.1.2.2.2.2.2.2.2.1.2.2
 let x15:=x13.2
 let x16:=x14.2
 let x17:=x15.2
 let x18:=x16.2
 let x19:=x17.2
 let x20:=x18.2
 let x21:=x19.2
 let x22:=x11.2
 let x23:=x3.2
 let x24:=x23.2
 let x25:=x24.2
 let x26:=x25.2
 let x27:=x26.2
 let x28:=x27.2
 let x29:=x28.2
 let x30:=x29.2
 let x31:=x30.2
 let x32:=x31.2
 let x33:TC:=(bif (Zi c.1 c.2.1 c.2.2.1).2 then c.1.1 else x2.1,(bif (Zi c.1 c.2.1 c.2.2.1).2 then c.1.2.1.1 else x4.1,bif (Zi c.1 c.2.1 c.2.2.1).2 then c.1.2.1.2.1 else x5.1,bif (Zi c.1 c.2.1 c.2.2.1).2 then c.1.2.1.2.2.1 else x6.1,bif (Zi c.1 c.2.1 c.2.2.1).2 then c.1.2.1.2.2.2.1 else x7.1,bif (Zi c.1 c.2.1 c.2.2.1).2 then c.1.2.1.2.2.2.2.1 else x8.1,bif (Zi c.1 c.2.1 c.2.2.1).2 then c.1.2.1.2.2.2.2.2.1 else x9.1,bif (Zi c.1 c.2.1 c.2.2.1).2 then c.1.2.1.2.2.2.2.2.2.1 else x10.1,(bif (Zi c.1 c.2.1 c.2.2.1).2 then c.1.2.1.2.2.2.2.2.2.2.1.1 else x12.1,bif (Zi c.1 c.2.1 c.2.2.1).2 then c.1.2.1.2.2.2.2.2.2.2.1.2.1 else x13.1,bif (Zi c.1 c.2.1 c.2.2.1).2 then x14.1 else x15.1,bif (Zi c.1 c.2.1 c.2.2.1).2 then x16.1 else x17.1,bif (Zi c.1 c.2.1 c.2.2.1).2 then x18.1 else x19.1,bif (Zi c.1 c.2.1 c.2.2.1).2 then x20.1 else x21.1,bif (Zi c.1 c.2.1 c.2.2.1).2 then x20.2 else x21.2),bif (Zi c.1 c.2.1 c.2.2.1).2 then c.1.2.1.2.2.2.2.2.2.2.2.1 else x22.1,bif (Zi c.1 c.2.1 c.2.2.1).2 then c.1.2.1.2.2.2.2.2.2.2.2.2 else x22.2),bif (Zi c.1 c.2.1 c.2.2.1).2 then c.1.2.2.1 else x23.1,bif (Zi c.1 c.2.1 c.2.2.1).2 then c.1.2.2.2.1 else x24.1,bif (Zi c.1 c.2.1 c.2.2.1).2 then c.1.2.2.2.2.1 else x25.1,bif (Zi c.1 c.2.1 c.2.2.1).2 then c.1.2.2.2.2.2.1 else x26.1,bif (Zi c.1 c.2.1 c.2.2.1).2 then c.1.2.2.2.2.2.2.1 else x27.1,bif (Zi c.1 c.2.1 c.2.2.1).2 then c.1.2.2.2.2.2.2.2.1 else x28.1,bif (Zi c.1 c.2.1 c.2.2.1).2 then c.1.2.2.2.2.2.2.2.2.1 else x29.1,bif (Zi c.1 c.2.1 c.2.2.1).2 then c.1.2.2.2.2.2.2.2.2.2.1 else x30.1,bif (Zi c.1 c.2.1 c.2.2.1).2 then c.1.2.2.2.2.2.2.2.2.2.2.1 else x31.1,bif (Zi c.1 c.2.1 c.2.2.1).2 then c.1.2.2.2.2.2.2.2.2.2.2.2.1 else x32.1,bif (Zi c.1 c.2.1 c.2.2.1).2 then c.1.2.2.2.2.2.2.2.2.2.2.2.2 else x32.2)
 let x34:=x1.2
 let x35:Int:=bif (Zi c.1 c.2.1 c.2.2.1).2 then c.2.1 else x34.1
 let x36:=x34.2
 let x37:List Int:=bif (Zi c.1 c.2.1 c.2.2.1).2 then c.2.2.1 else x36.1
 let x38:=x36.2
 let x39:=x38.1
 let x40:=x39.2
 let x41:=x40.2
 let x42:QT11:=(bif (Zi c.1 c.2.1 c.2.2.1).2 then (Zi c.1 c.2.1 c.2.2.1).1.1 else x39.1,bif (Zi c.1 c.2.1 c.2.2.1).2 then (Zi c.1 c.2.1 c.2.2.1).1.2.1 else x40.1,bif (Zi c.1 c.2.1 c.2.2.1).2 then (Zi c.1 c.2.1 c.2.2.1).1.2.2.1 else x41.1,bif (Zi c.1 c.2.1 c.2.2.1).2 then (Zi c.1 c.2.1 c.2.2.1).1.2.2.2 else x41.2)
 let x43:=x38.2
 let x44:=bif (Zi c.1 c.2.1 c.2.2.1).2 then c.2.2.2.2.2 else x43.2
 .Lf ((x33,x35,x37,x42,bif x44 then 8 else bif ZiK (x33,x35,x37,x42,bif (Zi c.1 c.2.1 c.2.2.1).2 then c.2.2.2.2.1 else x43.1,x44) then 9 else 1,false))
def rEnd (c:QT5) (l:QT0):QT5:=(ZZf c l).val
def Z1G:En:=Zg ZW7 ZGj (λ_=>none) (λa=>rEnd a.1 a.2)
theorem ZZe:Za prog 265 Z1G:=
 pureQ 1168231104639 [(164,ZUF),(166,ZrB),(260,Zm3),(261,ZON),(262,ZBs)] [] ZW7 ZGj ⟨ZCx,ZiQ,Zm2,ZGB,Zym,Tv⟩ Tryz.func265 Tryz.call265 trivial (t:=λa=>ZZf a.1 a.2)
def ZY6 (chip:Int):RT (QT5):=
 let x1:TR:=(0,0,0,0,0,0,0,(false,false,false,false,false,false,false),0,0)
 let x2:=ZI (chip,x1,false,false,false,0,false,false,false,false,false,false,false)
 .Lf (((x2.1,x1,false,false,false,x2.2.2.2.2.2.1,false,false,false,false,false,false,false),0,[],(1,0,0,4),1,false))
def rNew (chip:Int):QT5:=(ZY6 chip).val
def Z1C:En:=Zg ZyV ZGj (λ_=>none) (λa=>rNew a)
theorem ZO4:Za prog 100 Z1C:=
 pureQ 15 [(96,Zm5),(173,ZuD)] [] ZyV ZGj ⟨ZiL,ZnY,Tv⟩ Tryz.func100 Tryz.call100 trivial (t:=λa=>ZY6 a)
abbrev ZuA:List Sh:=[Sh.agg (R.Pq Zr (R.Pq Kc (R.Pq (R.sl Ka) (R.Pq (RY) (R.Pq Kc R.bool))))),Sh.agg (R.Pq R.bool (R.Pq R.bool rcF7)),So Ka]
abbrev ZlJ:Rs:=Rs.tup [Sh.agg (R.Pq Zr (R.Pq Kc (R.Pq (R.sl Ka) (R.Pq (RY) (R.Pq Kc R.bool))))),Sh.agg (R.Pq Kc (R.Pq Kb (R.Pq Ka (R.Pq R.bool (R.Pq R.bool (R.Pq R.bool (R.Pq R.bool (R.Pq R.bool (R.Pq R.bool (R.Pq R.bool rcF7))))))))))]
def Zj8 (c:QT5) (l:QT0) (d:Int):RT (Option ((QT5)×Int×Int×Int×Bool×Bool×Bool×Bool×Bool×Bool×Bool×Bool×Bool×Bool×Bool×Bool×Bool×Bool)):=
 let x1:QT11:=(bif Zaw c==9 then 0 else c.2.2.2.1.1,bif Zaw c==9 then c.1.2.1.2.2.2.2.2.2.2.2.2 else c.2.2.2.1.2.1,bif Zaw c==9 then 0 else c.2.2.2.1.2.2.1,bif Zaw c==9 then 0 else c.2.2.2.1.2.2.2)
 let x2:=c.1.2.2.2.2.2.2.2.2.2.2.2.2
 let x3:QT22:=(ZtB c.1.1 10 x1 0 c.1.2.2.1 x2).2.2.2.2.2.2
 let x4:=x3.2.2.2.2.2.2.2
 let x5:=ZtB c.1.1 (Zaw c) x1 d c.1.2.2.1 x2
 let x6:QT5:=(ZJ c.1 l,c.2.1,[]++c.2.2.1,c.2.2.2)
 let x7:=ZGk x6 (Zm7 (ZJ c.1 l) l)
 let x8:=x7.2
 let x9:=x8.2.2
 let x10:Int:=bif l.2.1 then 8 else bif Zm7 (ZJ c.1 l) l !=0 then 1 else 9
 let x11:=ZhW x6 (Zaw c) d
 let x12:=x11.1
 let x13:=Zuy (Zaw c) x12
 let x14:=x11.2
 let x15:=rEnd (ZJ c.1 l,c.2.1,x14,x12,c.2.2.2.2) l
 let x16:=x15.1
 let x17:=x16.2
 let x18:=x17.1
 let x19:=x18.2
 let x20:=x19.2
 let x21:=x20.2
 let x22:=x21.2
 let x23:=x22.2
 let x24:=x23.2
 let x25:=x24.2
 let x26:=x25.1
 let x27:TF:=(ZJ c.1 l).2.1.2.2.2.2.2.2.2.1
 let x28:=x26.2
 let x29:=x27.2
 let x30:=x28.2
 let x31:=x29.2
 let x32:=x30.2
 let x33:=x31.2
 let x34:=x32.2
 let x35:=x33.2
 let x36:=x34.2
 let x37:=x35.2
 let x38:=x25.2
 let x39:Int×Int:=(ZJ c.1 l).2.1.2.2.2.2.2.2.2.2
 let x40:=x17.2
 let x41:=x40.2
 let x42:=x41.2
 let x43:=x42.2
 let x44:=x43.2
 let x45:=x44.2
 let x46:=x45.2
 let x47:=x46.2
 let x48:=x47.2
 let x49:Bool×Bool×Bool:=(ZJ c.1 l).2.2.2.2.2.2.2.2.2.2
 let x50:=x48.2
 let x51:=x49.2
 let x52:=x15.2
 let x53:=x52.2
 let x54:=x53.2
 let x55:=x54.1
 let x56:=x55.2
 let x57:=x12.2
 let x58:=x56.2
 let x59:=x57.2
 let x60:=x54.2
 .br l.2.2.1 (Ls (((((ZI c.1).1,((ZI c.1).2.1.1,(ZI c.1).2.1.2.1,(ZI c.1).2.1.2.2.1,(ZI c.1).2.1.2.2.2.1,(ZI c.1).2.1.2.2.2.2.1,(ZI c.1).2.1.2.2.2.2.2.1,(ZI c.1).2.1.2.2.2.2.2.2.1,(ZI c.1).2.1.2.2.2.2.2.2.2.1,(ZI c.1).2.1.2.2.2.2.2.2.2.2.1,0),false,false,false,(ZI c.1).2.2.2.2.2.1,false,false,false,false,false,false,false),0,[],(1,0,0,4),1,false),10,0,0,false,false,false,x3.1,false,false,false,false,false,false,x4.1,false,false,x4.2.2.2))) (.br (Nat.ble (Le ([]++c.2.2.1)) most) (.br (Zaw c==1) (Ls (((ZJ c.1 l,c.2.1,[]++c.2.2.1,c.2.2.2.1,2,c.2.2.2.2.2),x5))) (.br (bif Zaw c==2 then Zaw c==2 else Zaw c==7) (Ls (((ZJ c.1 l,c.2.1,[]++c.2.2.1,c.2.2.2.1,bif l.1|| !Zfk c.2.2.2.1.1 then 3 else 7,bif l.1|| !Zfk c.2.2.2.1.1 then l.2.1 else c.2.2.2.2.2),x5))) (.br (Zaw c==8) (Ls (((ZJ c.1 l,c.2.1,bif l.2.1 then []++c.2.2.1 else []++c.2.2.1,c.2.2.2.1,bif l.2.1 then 8 else bif ZiK x6 then 9 else 1,c.2.2.2.2.2),x5))) (.br (Zaw c==9) (.br (Zm7 (ZJ c.1 l) l !=0) (Ls (((x7.1,x8.1,[],x9.1,x10,x9.2.2),x5))) (Ls (((ZJ c.1 l,c.2.1,[]++c.2.2.1,c.2.2.2.1,x10,c.2.2.2.2.2),x5)))) (.br (ZeO x6 (Zaw c) d) (Ls ((((bif x13 then x16.1 else (ZJ c.1 l).1,(bif x13 then x18.1 else (ZJ c.1 l).2.1.1,bif x13 then x19.1 else (ZJ c.1 l).2.1.2.1,bif x13 then x20.1 else (ZJ c.1 l).2.1.2.2.1,bif x13 then x21.1 else (ZJ c.1 l).2.1.2.2.2.1,bif x13 then x22.1 else (ZJ c.1 l).2.1.2.2.2.2.1,bif x13 then x23.1 else (ZJ c.1 l).2.1.2.2.2.2.2.1,bif x13 then x24.1 else (ZJ c.1 l).2.1.2.2.2.2.2.2.1,(bif x13 then x26.1 else x27.1,bif x13 then x28.1 else x29.1,bif x13 then x30.1 else x31.1,bif x13 then x32.1 else x33.1,bif x13 then x34.1 else x35.1,bif x13 then x36.1 else x37.1,bif x13 then x36.2 else x37.2),bif x13 then x38.1 else x39.1,bif x13 then x38.2 else x39.2),bif x13 then x40.1 else (ZJ c.1 l).2.2.1,bif x13 then x41.1 else (ZJ c.1 l).2.2.2.1,bif x13 then x42.1 else (ZJ c.1 l).2.2.2.2.1,bif x13 then x43.1 else (ZJ c.1 l).2.2.2.2.2.1,bif x13 then x44.1 else (ZJ c.1 l).2.2.2.2.2.2.1,bif x13 then x45.1 else (ZJ c.1 l).2.2.2.2.2.2.2.1,bif x13 then x46.1 else (ZJ c.1 l).2.2.2.2.2.2.2.2.1,bif x13 then x47.1 else (ZJ c.1 l).2.2.2.2.2.2.2.2.2.1,bif x13 then x48.1 else x49.1,bif x13 then x50.1 else x51.1,bif x13 then x50.2 else x51.2),bif x13 then x52.1 else c.2.1,bif x13 then x53.1 else x14,(bif x13 then x55.1 else x12.1,bif x13 then x56.1 else x57.1,bif x13 then x58.1 else x59.1,bif x13 then x58.2 else x59.2),bif x13 then x60.1 else i64.wrap (Zaw c+1),bif x13 then x60.2 else c.2.2.2.2.2),x5))) Ln))))) Ln)
def ZXh (c:QT5) (l:QT0) (d:Int):(QT5)×Int×Int×Int×Bool×Bool×Bool×Bool×Bool×Bool×Bool×Bool×Bool×Bool×Bool×Bool×Bool×Bool:=getO ZlJ.Df (Zj8 c l d).val
def ZPF (c:QT5) (l:QT0) (d:Int):Bool:=okB (Zj8 c l d).val
def ZZr:En:=Zg ZuA ZlJ (λa=>some (ZPF a.1 a.2.1 a.2.2)) (λa=>ZXh a.1 a.2.1 a.2.2)
theorem ZPE:Za Tryz.prog 178 ZZr:=
 pureP 740465775588642560936085758595903342518271 [(58,ZyG),(96,Zm5),(100,Z1C),(109,Zfi),(173,ZuD),(187,ZnP),(259,ZWQ),(260,Zm3),(261,ZON),(262,ZBs),(263,ZOB),(264,ZPw),(265,Z1G)] [] ZuA ZlJ ⟨ZCJ,ZiL,ZO4,ZdX,ZnY,ZnO,ZUq,Zm2,ZGB,Zym,ZGr,ZGX,ZZe,Tv⟩ Tryz.func178 Tryz.call178 trivial (t:=λa=>Zj8 a.1 a.2.1 a.2.2)
abbrev LnT:=QT0
abbrev Zhu:=CpuT×Int×List Int×Cyc×Int×Bool
def ZaZ (n:Int):Int:=bif decide (n<1)||decide (n>9) then 1 else n
def ZIx (c:CpuT) (s:Int):Zhu:=(c,s,[],(Zi c s []).1,1,false)
def idlX (c:CpuT) (s:Int) (h:Bool):Int:=bif h then 8 else bif c.2.2.2.2.1&&s==0 then 9 else 1
def endX (c:CpuT) (s:Int) (g:List Int) (h:Bool) (l:LnT):Zhu:=
 bif (Zi c s g).2 then (c,s,g,(Zi c s g).1,idlX c s h,false) else
 let q:=finX c s g l
 let k:=Zm7 q l
 let d:=Zo q k
 (d,k,[],(Zi d k []).1,idlX d k h,false)
def Zj0 (c:CpuT) (x:Cyc) (d:Int):Cyc:=
 let v:=bif Zcz x.1 then d else x.2.2.1
 (x.1,x.2.1,v,bif x.1==1||x.1==8 then ZeQ c.1 v else x.2.2.2)
def le3 (x:Int):Bool:=decide (x<=3)
def ZcF (c:Zhu) (l:LnT) (d:Int):Zhu:=
 let t:=ZaZ c.2.2.2.2.1
 let p:=ZJ c.1 l
 let s:=c.2.1
 let g:=c.2.2.1
 let x:=c.2.2.2.1
 let h:=c.2.2.2.2.2
 bif l.2.2.1 then ZIx (ZI c.1) 0 else
 bif t==1 then (p,s,g,x,2,h) else
 bif t==2||t==7 then (bif l.1|| !Zfk x.1 then (p,s,g,x,3,l.2.1) else (p,s,g,x,7,h)) else
 bif t==8 then (p,s,g,x,idlX p s l.2.1,h) else
 bif t==9 then
  (let k:=Zm7 p l
   bif k==0 then (p,s,g,x,bif l.2.1 then 8 else 9,h) else
   (Zo p k,k,[],(Zi (Zo p k) k []).1,bif l.2.1 then 8 else 1,h)) else
 bif t==3 then
  (let y:=Zj0 p x d
   bif le3 y.2.2.2 then endX p s (g++[y.2.2.1]) h l else (p,s,g++[y.2.2.1],y,4,h)) else
 bif decide (t<x.2.2.2)&& !(t==6) then (p,s,g,x,t+1,h) else endX p s g h l
abbrev PinT:=QT12
def Z0D (c:Zhu) (t:Int):Cyc:=bif t==9 then (0,c.1.2.1.2.2.2.2.2.2.2.2.2,0,0) else c.2.2.2.1
def ZCQ (c:Zhu) (l:LnT) (d:Int):PinT:=
 let t:=ZaZ c.2.2.2.2.1
 ZtB c.1.1 (bif l.2.2.1 then 10 else t) (Z0D c t) (bif l.2.2.1 then 0 else d) c.1.2.2.1 c.1.2.2.2.2.2.2.2.2.2.2.2.2
theorem ZNU (n:Int):1<=ZaZ n/\ZaZ n<=9:=by
 unfold ZaZ;by_cases h:n<1\/n>9
 ·have:(decide (n<1)||decide (n>9))=true:=by simpa using h
  rw[this];simp
 ·have:(decide (n<1)||decide (n>9))=false:=by simpa using h
  rw[this];simp only[Yc];omega
theorem ZxU (c):Zaw c=ZaZ c.2.2.2.2.1:=rfl
theorem ZxV (c:Zhu) (s):ZGk c s=(Zo c.1 s,s,[],(Zi (Zo c.1 s) s []).1,c.2.2.2.2):=rfl
theorem ZYS (c:Zhu) (l:LnT):rEnd c l=endX c.1 c.2.1 c.2.2.1 c.2.2.2.2.2 l:=by cases h:(Zi c.1 c.2.1 c.2.2.1).2<;>simp only[rEnd,ZZf,RT.val,h,Ya,Yc,ZxV,endX,ZiK,ZiJ,idlX]
theorem ZZv (chip:Int) (x:Cyc) (i o:Bool):ZtB chip 10 x 0 i o=(10,0,0,false,false,false,(ZtB chip 10 x 0 i o).2.2.2.2.2.2.1,false,false,false,false,false,false,(ZtB chip 10 x 0 i o).2.2.2.2.2.2.2.2.2.2.2.2.2.1,false,false,(ZtB chip 10 x 0 i o).2.2.2.2.2.2.2.2.2.2.2.2.2.2.2.2):=by simp only[ZtB,ZOJ,RT.val,ZaM];generalize (chip==2)=b;cases b<;>simp
theorem Zx0 (c:CpuT):ZI c=((ZI c).1,((ZI c).2.1.1,(ZI c).2.1.2.1,(ZI c).2.1.2.2.1,(ZI c).2.1.2.2.2.1,(ZI c).2.1.2.2.2.2.1,(ZI c).2.1.2.2.2.2.2.1,(ZI c).2.1.2.2.2.2.2.2.1,(ZI c).2.1.2.2.2.2.2.2.2.1,(ZI c).2.1.2.2.2.2.2.2.2.2.1,0),false,false,false,(ZI c).2.2.2.2.2.1,false,false,false,false,false,false,false):=by simp only[ZI,Zm4,RT.val,ZaM]
theorem ZX1 (c:CpuT):ZIx (ZI c) 0=(ZI c,0,[],(1,0,0,4),1,false):=by
 simp only[ZIx];have:(Zi (ZI c) 0 []).1=(1,0,0,4):=by
  have hp:pcOf (ZI c)=0:=by rw[Zx0];rfl
  simp[Zi,Zh0,Zc,Zj6,RT.val,hp];rfl
 rw[this]
theorem len1 {α:Type} (l:List α) (x:α) (h:l.length+1<=most):Nat.ble l.length most=true/\Nat.ble (l++[x]).length most=true:=by rw[YP,YP];simp only[Yd,List.length_cons,List.length_nil];omega
theorem ZT0 (c:Zhu) (d:Int) (hg:c.2.2.1.length+1<=most):(ZiM c 3 d).val=some (Zj0 c.1 c.2.2.2.1 d,c.2.2.1++[(Zj0 c.1 c.2.2.2.1 d).2.2.1]):=by have h:=len1 c.2.2.1 (bif Zcz c.2.2.2.1.1 then d else c.2.2.2.1.2.2.1) hg;simp only[ZiM,RT.val,List.nil_append,h.1,h.2,Yg,Yj,Ya,Zj0,YaM,Yc]
theorem ZmP (c:Zhu) (t d:Int) (ht:t≠3):(ZiM c t d).val=some (c.2.2.2.1,c.2.2.1):=by
 have:(t !=3)=true:=by simpa using ht
 simp only[ZiM,RT.val,this,Ya]
theorem Z2f (t x:Int):decide (t<x)= !decide (x<=t):=by by_cases h:x<=t<;>simp[h]<;>omega
theorem Zx3 (c:Zhu) (l:LnT) (d:Int) (hg:c.2.2.1.length+1<=most):(Zj8 c l d).val=some (ZcF c l d,ZCQ c l d):=by
 obtain⟨t1,t2⟩:=ZNU c.2.2.2.2.1;have hx:Z0D c (ZaZ c.2.2.2.2.1)=(bif ZaZ c.2.2.2.2.1==9 then 0 else c.2.2.2.1.1,bif ZaZ c.2.2.2.2.1==9 then c.1.2.1.2.2.2.2.2.2.2.2.2 else c.2.2.2.1.2.1,bif ZaZ c.2.2.2.2.1==9 then 0 else c.2.2.2.1.2.2.1,bif ZaZ c.2.2.2.2.1==9 then 0 else c.2.2.2.1.2.2.2):=by unfold Z0D;cases ZaZ c.2.2.2.2.1==9<;>simp only[Ya,Yc,Yg,Ym,YW,Y5,Y1,YU,Yf,YF,Yt,Yj]
 have hl:Nat.ble c.2.2.1.length most=true:=(len1 c.2.2.1 0 hg).1;cases hr:l.2.2.1 with
 |true=>
  simp only[Zj8,RT.val,hr,Ya,ZcF,ZCQ,ZX1,ZxU,<-hx];rw[<-ZZv,<-Zx0]
 |false=>
  simp only[Zj8,RT.val,hr,Yc,List.nil_append,hl,Ya,ZxU,ZxV,ZYS,<-hx,ZCQ];have:ZaZ c.2.2.2.2.1=1\/ZaZ c.2.2.2.2.1=2\/ZaZ c.2.2.2.2.1=7\/ZaZ c.2.2.2.2.1=3\/ZaZ c.2.2.2.2.1=4\/ZaZ c.2.2.2.2.1=5\/ZaZ c.2.2.2.2.1=6\/ZaZ c.2.2.2.2.1=8\/ZaZ c.2.2.2.2.1=9:=by omega
  have q3:=ZT0 (ZJ c.1 l,c.2.1,c.2.2.1,c.2.2.2) d hg;rcases this with h|h|h|h|h|h|h|h|h
  ·simp only[ZcF,hr,h,Int.reduceBEq,Ya,Yc]
  ·simp only[ZcF,hr,h,Int.reduceBEq,Ya,Yc,Yt];cases l.1|| !Zfk c.2.2.2.1.1<;>simp only[Ya,Yc,Yg,Ym,YW,Y5,Y1,YU,Yf,YF,Yt,Yj]
  ·simp only[ZcF,hr,h,Int.reduceBEq,Ya,Yc,Yf];cases l.1|| !Zfk c.2.2.2.1.1<;>simp only[Ya,Yc,Yg,Ym,YW,Y5,Y1,YU,Yf,YF,Yt,Yj]
  ·have e1:ZeO (ZJ c.1 l,c.2.1,c.2.2.1,c.2.2.2) 3 d=true:=by simp only[ZeO,q3,okB]
   have e2:ZhW (ZJ c.1 l,c.2.1,c.2.2.1,c.2.2.2) 3 d=(Zj0 (ZJ c.1 l) c.2.2.2.1 d,c.2.2.1++[(Zj0 (ZJ c.1 l) c.2.2.2.1 d).2.2.1]):=by simp only[ZhW,q3,getO]
   simp only[ZcF,hr,h,Int.reduceBEq,Ya,Yc,Yam,e1,e2,Zuy,ZrE,RT.val];rw[show decide ((Zj0 (ZJ c.1 l) c.2.2.2.1 d).2.2.2<=3)=le3 (Zj0 (ZJ c.1 l) c.2.2.2.1 d).2.2.2 from rfl];cases le3 (Zj0 (ZJ c.1 l) c.2.2.2.1 d).2.2.2<;>rfl
  ·have q:=ZmP (ZJ c.1 l,c.2.1,c.2.2.1,c.2.2.2) 4 d (by decide);have e1:ZeO (ZJ c.1 l,c.2.1,c.2.2.1,c.2.2.2) 4 d=true:=by simp only[ZeO,q,okB]
   have e2:ZhW (ZJ c.1 l,c.2.1,c.2.2.1,c.2.2.2) 4 d=(c.2.2.2.1,c.2.2.1):=by simp only[ZhW,q,getO]
   simp only[ZcF,hr,h,Int.reduceBEq,Ya,Yc,Yam,Ym,YW,e1,e2,Zuy,ZrE,RT.val,show IntKind.wrap .i64 (4+1)=4+1 from rfl,Z2f];cases decide (c.2.2.2.1.2.2.2<=4)<;>rfl
  ·have q:=ZmP (ZJ c.1 l,c.2.1,c.2.2.1,c.2.2.2) 5 d (by decide);have e1:ZeO (ZJ c.1 l,c.2.1,c.2.2.1,c.2.2.2) 5 d=true:=by simp only[ZeO,q,okB]
   have e2:ZhW (ZJ c.1 l,c.2.1,c.2.2.1,c.2.2.2) 5 d=(c.2.2.2.1,c.2.2.1):=by simp only[ZhW,q,getO]
   simp only[ZcF,hr,h,Int.reduceBEq,Ya,Yc,Yam,Ym,YW,e1,e2,Zuy,ZrE,RT.val,show IntKind.wrap .i64 (5+1)=5+1 from rfl,Z2f];cases decide (c.2.2.2.1.2.2.2<=5)<;>rfl
  ·have q:=ZmP (ZJ c.1 l,c.2.1,c.2.2.1,c.2.2.2) 6 d (by decide);have e1:ZeO (ZJ c.1 l,c.2.1,c.2.2.1,c.2.2.2) 6 d=true:=by simp only[ZeO,q,okB]
   have e2:ZhW (ZJ c.1 l,c.2.1,c.2.2.1,c.2.2.2) 6 d=(c.2.2.2.1,c.2.2.1):=by simp only[ZhW,q,getO]
   simp only[ZcF,hr,h,Int.reduceBEq,Ya,Yc,Yam,Yg,Y5,e1,e2,Zuy,ZrE,RT.val]
  ·simp only[ZcF,hr,h,Int.reduceBEq,Ya,Yc,Yam,ZiK,ZiJ,RT.val,idlX];cases l.2.1<;>rfl
  ·have hb:(Zm7 (ZJ c.1 l) l !=0)= !(Zm7 (ZJ c.1 l) l==0):=rfl;simp only[ZcF,hr,h,Int.reduceBEq,Ya,Yc,Yam,hb];cases hk:(Zm7 (ZJ c.1 l) l==0)<;>rfl
def ZOe (c:Zhu):Bool:=Nat.ble (c.2.2.1.length+1) most
theorem ZmS {c:Zhu}:ZOe c=true↔c.2.2.1.length+1<=most:=by simp[ZOe]
def clkX (c:Zhu) (l:LnT) (d:Int):Zhu×PinT:=(ZcF c l d,ZCQ c l d)
def ZG1:En:=Zg ZuA ZlJ (λa=>some (ZOe a.1)) (λa=>clkX a.1 a.2.1 a.2.2)
theorem ZKd:Za Tryz.prog 178 ZG1:=ZPE.pure_congr
 (λa h hp=>by have h1:=Zx3 a.1 a.2.1 a.2.2 (ZmS.1 (by simpa using hp));simp[ZPF,h1,okB])
 (λa h hp=>by have h1:=Zx3 a.1 a.2.1 a.2.2 (ZmS.1 (by simpa using hp));simp only[ZXh,h1,getO,clkX])
def newX (chip:Int):Zhu:=ZIx (ZI (chip,(0,0,0,0,0,0,0,(false,false,false,false,false,false,false),0,0),false,false,false,0,false,false,false,false,false,false,false)) 0
theorem ZYP (chip:Int):rNew chip=newX chip:=by unfold newX;rw[ZX1];simp only[rNew,ZY6,RT.val,ZI,Zm4,ZaM]
def ZWY:En:=Zg ZyV ZGj (λ_=>none) (λa=>newX a)
theorem ZUz:Za Tryz.prog 100 ZWY:=ZO4.tot (λa h=>by simp) (λa h=>ZYP _)
abbrev ZH0:List Sh:=[So Kc,So Kc]
def Zpv (x:Int) (n:Int):RT (Option (Int)):=
 .br (IntKind.u64.wrap n !=0) (Ls (i64.wrap (Int.tmod (IntKind.u64.wrap x) (IntKind.u64.wrap n)))) Ln
def ZH1 (x:Int) (n:Int):Int:=getO ZXy.Df (Zpv x n).val
def Zwk (x:Int) (n:Int):Bool:=okB (Zpv x n).val
def ZR9:En:=Zg ZH0 ZXy (λa=>some (Zwk a.1 a.2)) (λa=>ZH1 a.1 a.2)
theorem ZR7:Za prog 47 ZR9:=
 pureP 31 [] [] ZH0 ZXy trivial Tryz.func47 Tryz.call47 trivial (t:=λa=>Zpv a.1 a.2)
abbrev ZEn:R:=R.Pq (R.sl Kc) Kc
def Zpb (s:List Int×Int) (n:Int):RT (Option (QT20)):=
 let x1:=Ze (i64.wrap (i64.wrap (s.2+1)-1)) (Le s.1)
 let x2:Int:=R.get Kc s.1 (i64.wrap (i64.wrap (s.2+1)-1))
 .br (decide (s.2>=iN (Le s.1))) (Ls ((0,s.1,i64.wrap (s.2+1)))) (.br (!x1||Zwk x2 n) (.br (x1) (Ls ((ZH1 x2 n,s.1,i64.wrap (s.2+1)))) Ln) Ln)
def Zd (s:List Int×Int) (n:Int):QT20:=getO (ZXy.Df,ZEn.Df) (Zpb s n).val
def Zj (s:List Int×Int) (n:Int):Bool:=okB (Zpb s n).val
def Zco:En:=boxE ZEn ZyV ZXy (λa=>some (Zj a.1 a.2)) (λa=>Zd a.1 a.2)
theorem Za2:Za prog 68 Zco:=
 Zb8 (P:=prog) (n:=31) (k:=8) (l:=[(47,ZR9)]) (ol:=[]) ⟨ZR7,Tv⟩ Tryz.func68 rfl (by kernel_rfl) Tryz.call68 trivial (rb:=ZEn) (ts:=ZyV) (rs:=ZXy) (t:=λa=>Zpb a.1 a.2) (λa=>by kernel_rfl)
def Zpi (s:List Int×Int):RT (Option (QT20)):=
 let x1:List Int:=[0,1,127,128,255,15,16,153,154,9,102,254,129,85,170,64]
 .br (Zj s 512) (.br (!decide ((Zd s 512).1>=256)||Ze (Int.tmod (Zd s 512).1 16) (Le x1)) (.br (decide ((Zd s 512).1>=256)) (Ls ((R.get Ka x1 (Int.tmod (Zd s 512).1 16),(Zd s 512).2))) (Ls ((u8.wrap (Zd s 512).1,(Zd s 512).2)))) Ln) Ln
def Zcy (s:List Int×Int):QT20:=getO (ZRs.Df,ZEn.Df) (Zpi s).val
def ZgA (s:List Int×Int):Bool:=okB (Zpi s).val
def Zzm:En:=boxE ZEn ZyL ZRs (λa=>some (ZgA a.1)) (λa=>Zcy a.1)
theorem ZlU:Za prog 71 Zzm:=
 Zb8 (P:=prog) (n:=15) (k:=8) (l:=[(68,Zco)]) (ol:=[]) ⟨Za2,Tv⟩ Tryz.func71 rfl (by kernel_rfl) Tryz.call71 trivial (rb:=ZEn) (ts:=ZyL) (rs:=ZRs) (t:=λa=>Zpi a.1) (λa=>by kernel_rfl)
def Zjd (s:List Int×Int):RT (Option (QT20)):=
 let x1:List Int:=[0,1,65535,65534,32767,32768,255,256]
 let x2:= !(Zd s 5).1==0||(!Zj (Zd s 5).2 8||Ze (Zd (Zd s 5).2 8).1 (Le x1))
 let x3:= !x2
 let x4:= !(Zd s 5).1==0||Zj (Zd s 5).2 8
 .br (Zj s 5) (.br (x3||(!x4||((Zd s 5).1==0||(!(Zd s 5).1==1||Zj (Zd s 5).2 65536)))) (.br (x3||x4) (.br (x2) (.br ((Zd s 5).1==0) (Ls ((R.get Kb x1 (Zd (Zd s 5).2 8).1,(Zd (Zd s 5).2 8).2))) (.br ((Zd s 5).1==1) (Ls ((u16.wrap (Zd (Zd s 5).2 65536).1,(Zd (Zd s 5).2 65536).2))) (.br (Zj (Zd s 5).2 64) (Ls ((u16.wrap (Zd (Zd s 5).2 64).1,(Zd (Zd s 5).2 64).2))) Ln))) Ln) Ln) Ln) Ln
def Zbz (s:List Int×Int):QT20:=getO (ZDR.Df,ZEn.Df) (Zjd s).val
def ZfK (s:List Int×Int):Bool:=okB (Zjd s).val
def ZRF:En:=boxE ZEn ZyL ZDR (λa=>some (ZfK a.1)) (λa=>Zbz a.1)
theorem ZHM:Za prog 70 ZRF:=
 Zb8 (P:=prog) (n:=4135) (k:=8) (l:=[(68,Zco)]) (ol:=[]) ⟨Za2,Tv⟩ Tryz.func70 rfl (by kernel_rfl) Tryz.call70 trivial (rb:=ZEn) (ts:=ZyL) (rs:=ZDR) (t:=λa=>Zjd a.1) (λa=>by kernel_rfl)
def Zzl (s:List Int×Int):RT (Option (QT20)):=
 .br (Zj s 2) (Ls ((i64.wrap (1+(Zd s 2).1),(Zd s 2).2))) Ln
def ZaU (s:List Int×Int):QT20:=getO (ZXy.Df,ZEn.Df) (Zzl s).val
def Zph (s:List Int×Int):Bool:=okB (Zzl s).val
def ZRP:En:=boxE ZEn ZyL ZXy (λa=>some (Zph a.1)) (λa=>ZaU a.1)
theorem ZHR:Za prog 122 ZRP:=
 Zb8 (P:=prog) (n:=7) (k:=8) (l:=[(68,Zco)]) (ol:=[]) ⟨Za2,Tv⟩ Tryz.func122 rfl (by kernel_rfl) Tryz.call122 trivial (rb:=ZEn) (ts:=ZyL) (rs:=ZXy) (t:=λa=>Zzl a.1) (λa=>by kernel_rfl)
def Zfp (s:List Int×Int):RT (Option (QT20)):=
 let x1:List Int:=[251,243,118,205,201,197,227,211,219,54,52,32,48,194,202,255,62,49]
 .br (Zj s 3) (.br (!decide ((Zd s 3).1>0)||Zj (Zd s 3).2 256) (.br (decide ((Zd s 3).1>0)) (Ls ((u8.wrap (Zd (Zd s 3).2 256).1,(Zd (Zd s 3).2 256).2))) (.br (!Zj (Zd s 3).2 18||Ze (Zd (Zd s 3).2 18).1 (Le x1)) (.br (Zj (Zd s 3).2 18) (Ls ((R.get Ka x1 (Zd (Zd s 3).2 18).1,(Zd (Zd s 3).2 18).2))) Ln) Ln)) Ln) Ln
def Zag (s:List Int×Int):QT20:=getO (ZRs.Df,ZEn.Df) (Zfp s).val
def ZbV (s:List Int×Int):Bool:=okB (Zfp s).val
def Zhe:En:=boxE ZEn ZyL ZRs (λa=>some (ZbV a.1)) (λa=>Zag a.1)
theorem ZeV:Za prog 119 Zhe:=
 Zb8 (P:=prog) (n:=7) (k:=8) (l:=[(68,Zco)]) (ol:=[]) ⟨Za2,Tv⟩ Tryz.func119 rfl (by kernel_rfl) Tryz.call119 trivial (rb:=ZEn) (ts:=ZyL) (rs:=ZRs) (t:=λa=>Zfp a.1) (λa=>by kernel_rfl)
def NB (s:List Int×Int) (k:Int):Prop:=0<=s.2/\s.2<=k
theorem ZR8 (x n:Int) (h0:0<n) (h1:n<=4611686018427387904):Zwk x n=true/\ZH1 x n=(x%18446744073709551616)%n:=by
 have e:IntKind.wrap .u64 n=n:=Zmg ⟨by simp[IntKind.min,IntKind.signed];omega,by simp[IntKind.max,IntKind.signed,IntKind.bits];omega⟩;have e2:IntKind.wrap .u64 x=x%18446744073709551616:=by simp[IntKind.wrap,IntKind.signed,IntKind.bits]
 have hn:(n !=0)=true:=by simp;omega
 have h2:0<=x%18446744073709551616:=Int.emod_nonneg _ (by decide);have h3:=Int.emod_nonneg (x%18446744073709551616) (b:=n) (by omega);have h4:=Int.emod_lt_of_pos (x%18446744073709551616) (b:=n) h0;have hv:(Zpv x n).val=some ((x%18446744073709551616)%n):=by simp only[Zpv,RT.val,e,e2,hn,Ya,Int.tmod_eq_emod_of_nonneg h2];rw[wrap_i64 _ (by omega) (by omega)]
 exact⟨by simp only[Zwk,hv];rfl,by simp only[ZH1,hv,getO]⟩
variable {s:List Int×Int} {k:Int}
theorem ZB (h:NB s k) (hk:k<=1000000) (n:Int) (h0:0<n) (h1:n<=4611686018427387904):
  Zj s n=true/\NB (Zd s n).2 (k+1)/\0<=(Zd s n).1/\(Zd s n).1<n:=by
 obtain⟨ha,hb⟩:=h;have e1:IntKind.wrap .i64 (s.2+1)=s.2+1:=wrap_i64 _ (by omega) (by omega);have e2:IntKind.wrap .i64 s.2=s.2:=wrap_i64 _ (by omega) (by omega);by_cases hl:(s.1.length:Int)<=s.2
 ·have hv:(Zpb s n).val=some (0,s.1,s.2+1):=by simp[Zpb,RT.val,iN,Le,hl,e1]
  simp only[Zj,Zd,hv,okB,getO,NB];exact⟨trivial,⟨by omega,by omega⟩,by omega,h0⟩
 ·have hr:Ze s.2 s.1.length=true:=ZF.2 ⟨ha,by omega⟩;obtain⟨p1,p2⟩:=ZR8 (R.get (R.int i64) s.1 s.2) n h0 h1;have h3:=Int.emod_nonneg (R.get (R.int i64) s.1 s.2%18446744073709551616) (b:=n) (by omega);have h4:=Int.emod_lt_of_pos (R.get (R.int i64) s.1 s.2%18446744073709551616) (b:=n) h0;have hv:(Zpb s n).val=some ((R.get (R.int i64) s.1 s.2%18446744073709551616)%n,s.1,s.2+1):=by simp[Zpb,RT.val,iN,Le,hl,e1,e2,hr,p1,p2]
  simp only[Zj,Zd,hv,okB,getO,NB];exact⟨trivial,⟨by omega,by omega⟩,h3,h4⟩
theorem ZlV (h:NB s k) (hk:k<=1000000):ZgA s=true/\NB (Zcy s).2 (k+1)/\inR .u8 (Zcy s).1:=by
 obtain⟨c,b,d0,d1⟩:=ZB h hk 512 (by decide) (by decide);have m0:0<=(Zd s 512).1%16:=Int.emod_nonneg _ (by decide);have m1:(Zd s 512).1%16<16:=Int.emod_lt_of_pos _ (by decide);have ht:Int.tmod (Zd s 512).1 16=(Zd s 512).1%16:=Int.tmod_eq_emod_of_nonneg d0;by_cases hn:256<=(Zd s 512).1
 ·have hv:(Zpi s).val=some (R.get (R.int u8) [0,1,127,128,255,15,16,153,154,9,102,254,129,85,170,64] ((Zd s 512).1%16),(Zd s 512).2):=by simp[Zpi,RT.val,c,hn,ht,Ze,m0,m1]
  simp only[ZgA,Zcy,hv,okB,getO];refine⟨trivial,b,?_⟩;have hall:∀i:Nat,i<16->inR .u8 (([0,1,127,128,255,15,16,153,154,9,102,254,129,85,170,64]:List Int).getD i 0):=by
   intro i hi;have:∀i:Fin 16,decide (0<=([0,1,127,128,255,15,16,153,154,9,102,254,129,85,170,64]:List Int).getD i 0)&&decide (([0,1,127,128,255,15,16,153,154,9,102,254,129,85,170,64]:List Int).getD i 0<=255):=by decide
   have:=this ⟨i,hi⟩;rw[ZgH];simpa using this
  exact hall ((Zd s 512).1%16).toNat (by omega)
 ·have hv:(Zpi s).val=some (IntKind.wrap .u8 (Zd s 512).1,(Zd s 512).2):=by simp[Zpi,RT.val,c,hn]
  simp only[ZgA,Zcy,hv,okB,getO];exact⟨trivial,b,Za4 _ _⟩
theorem ZVt (h:NB s k) (hk:k<=900000):ZfK s=true/\NB (Zbz s).2 (k+2)/\inR .u16 (Zbz s).1:=by
 obtain⟨c,b,d0,d1⟩:=ZB h (by omega) 5 (by decide) (by decide);obtain⟨c8,b8,e0,e1⟩:=ZB b (by omega) 8 (by decide) (by decide);obtain⟨c6,b6,_⟩:=ZB b (by omega) 65536 (by decide) (by decide);obtain⟨c4,b4,_⟩:=ZB b (by omega) 64 (by decide) (by decide);have w:∀{t:List Int×Int},NB t (k+1+1)->NB t (k+2):=λh=>⟨h.1,by have:=h.2;omega⟩
 have hr:Ze (Zd (Zd s 5).2 8).1 8=true:=ZF.2 ⟨e0,by omega⟩;by_cases h0:(Zd s 5).1=0
 ·have hv:(Zjd s).val=some (R.get (R.int u16) [0,1,65535,65534,32767,32768,255,256] (Zd (Zd s 5).2 8).1,(Zd (Zd s 5).2 8).2):=by simp[Zjd,RT.val,c,h0,c8,hr]
  simp only[ZfK,Zbz,hv,okB,getO];refine⟨trivial,w b8,?_⟩;have hall:∀i:Nat,i<8->inR .u16 (([0,1,65535,65534,32767,32768,255,256]:List Int).getD i 0):=by
   intro i hi;have:∀i:Fin 8,decide (0<=([0,1,65535,65534,32767,32768,255,256]:List Int).getD i 0)&&decide (([0,1,65535,65534,32767,32768,255,256]:List Int).getD i 0<=65535):=by decide
   have:=this ⟨i,hi⟩;simp only[Yb,Yk] at this;exact⟨by simpa [IntKind.min,IntKind.signed] using this.1,by simpa [IntKind.max,IntKind.signed,IntKind.bits] using this.2⟩
  exact hall (Zd (Zd s 5).2 8).1.toNat (by omega)
 ·by_cases h1:(Zd s 5).1=1
  ·have hv:(Zjd s).val=some (IntKind.wrap .u16 (Zd (Zd s 5).2 65536).1,(Zd (Zd s 5).2 65536).2):=by simp[Zjd,RT.val,c,h1,c6]
   simp only[ZfK,Zbz,hv,okB,getO];exact⟨trivial,w b6,Za4 _ _⟩
  ·have hv:(Zjd s).val=some (IntKind.wrap .u16 (Zd (Zd s 5).2 64).1,(Zd (Zd s 5).2 64).2):=by
    have g0:((Zd s 5).1==0)=false:=by simpa using h0
    have g1:((Zd s 5).1==1)=false:=by simpa using h1
    simp[Zjd,RT.val,c,g0,g1,c4]
   simp only[ZfK,Zbz,hv,okB,getO];exact⟨trivial,w b4,Za4 _ _⟩
theorem ZVv (h:NB s k) (hk:k<=1000000):Zph s=true/\NB (ZaU s).2 (k+1)/\((ZaU s).1=1\/(ZaU s).1=2):=by
 obtain⟨c,b,d0,d1⟩:=ZB h hk 2 (by decide) (by decide);have hv:(Zzl s).val=some (1+(Zd s 2).1,(Zd s 2).2):=by simp[Zzl,RT.val,c];rw[wrap_i64 _ (by omega) (by omega)]
 simp only[Zph,ZaU,hv,okB,getO];exact⟨trivial,b,by omega⟩
theorem Zkp (h:NB s k) (hk:k<=900000):ZbV s=true/\NB (Zag s).2 (k+2)/\inR .u8 (Zag s).1:=by
 obtain⟨c,b,d0,d1⟩:=ZB h (by omega) 3 (by decide) (by decide);have w:∀{t:List Int×Int},NB t (k+1+1)->NB t (k+2):=λh=>⟨h.1,by have:=h.2;omega⟩
 by_cases hn:0<(Zd s 3).1
 ·have hk':k+1<=1000001:=by omega
  obtain⟨c2,b2,_⟩:=ZB b (by omega) 256 (by decide) (by decide);have hv:(Zfp s).val=some (IntKind.wrap .u8 (Zd (Zd s 3).2 256).1,(Zd (Zd s 3).2 256).2):=by simp[Zfp,RT.val,c,hn,c2]
  simp only[ZbV,Zag,hv,okB,getO];exact⟨trivial,w b2,Za4 _ _⟩
 ·obtain⟨c2,b2,e0,e1⟩:=ZB b (by omega) 18 (by decide) (by decide);have hr:Ze (Zd (Zd s 3).2 18).1 18=true:=ZF.2 ⟨e0,by omega⟩;have hv:(Zfp s).val=some (R.get (R.int u8) [251,243,118,205,201,197,227,211,219,54,52,32,48,194,202,255,62,49] (Zd (Zd s 3).2 18).1,(Zd (Zd s 3).2 18).2):=by simp[Zfp,RT.val,c,hn,c2,hr]
  simp only[ZbV,Zag,hv,okB,getO];refine⟨trivial,w b2,?_⟩;have hall:∀i:Nat,i<18->inR .u8 (([251,243,118,205,201,197,227,211,219,54,52,32,48,194,202,255,62,49]:List Int).getD i 0):=by
   intro i hi;have:∀i:Fin 18,decide (0<=([251,243,118,205,201,197,227,211,219,54,52,32,48,194,202,255,62,49]:List Int).getD i 0)&&decide (([251,243,118,205,201,197,227,211,219,54,52,32,48,194,202,255,62,49]:List Int).getD i 0<=255):=by decide
   have:=this ⟨i,hi⟩;rw[ZgH];simpa using this
  exact hall (Zd (Zd s 3).2 18).1.toNat (by omega)
theorem Z0I (l:List Int):NB (l,0) 0:=⟨by simp,by simp⟩
