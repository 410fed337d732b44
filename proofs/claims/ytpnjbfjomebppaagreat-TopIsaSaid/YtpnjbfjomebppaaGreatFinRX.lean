import Derived.Test.YtpnjbfjomebppaaGreatKind47
import Derived.Test.YtpnjbfjomebppaaGreatNext1
import Derived.Test.YtpnjbfjomebppaaGreatNext2
import Derived.Test.YtpnjbfjomebppaaGreatNext3
import Derived.Test.YtpnjbfjomebppaaGreatNext4
open Go Go.S3 Go.Proofs
set_option linter.unusedVariables false
set_option linter.unusedSimpArgs false
set_option maxRecDepth 100000
namespace Go.Proofs.YtpnjbfjomebppaaGreat
noncomputable section
theorem nx_2 (c) (s:Int) (g:List Int) (n:Int) (hk:(Zc c.1 (g.getD 0 0)).1=n):(n=4->(ZtR c s g).val=some (Zh c s g))/\(n=8->(ZtN c s g).val=some (Zh c s g))/\(n=13->(ZoF c s g).val=some (Zh c s g))/\(n=19->(Zoz c s g).val=some (Zh c s g))/\(n=23->(Zov c s g).val=some (Zh c s g))/\(n=31->(Zon c s g).val=some (Zh c s g))/\(n=36->(Zoi c s g).val=some (Zh c s g))/\(n=41->(Zod c s g).val=some (Zh c s g))/\(n=46->(Zn8 c s g).val=some (Zh c s g))/\(n=4->(ZEw c s g).val=some (Zh c s g))/\(n=8->(ZEs c s g).val=some (Zh c s g))/\(n=13->(Zxn c s g).val=some (Zh c s g))/\(n=19->(Zxh c s g).val=some (Zh c s g))/\(n=23->(Zxd c s g).val=some (Zh c s g))/\(n=31->(Zw5 c s g).val=some (Zh c s g))/\(n=36->(Zw0 c s g).val=some (Zh c s g))/\(n=41->(ZwV c s g).val=some (Zh c s g))/\(n=46->(ZwQ c s g).val=some (Zh c s g)):=by
 refine⟨?_,?_,?_,?_,?_,?_,?_,?_,?_,?_,?_,?_,?_,?_,?_,?_,?_,?_⟩;all_goals intro e;subst e
 all_goals simp only[ZtR,ZtN,ZoF,Zoz,Zov,Zon,Zoi,Zod,Zn8,ZEw,ZEs,Zxn,Zxh,Zxd,Zw5,Zw0,ZwV,ZwQ,RT.val,fin3,pk]
 all_goals simp only[qat0,mat0,qat1,mat1,rg0,hk,ZJ,Zat,Za8,Zad,Zae,Z0,Z1,Zcw,ZcA,ZaW,ZI,Zby,Zh,ZeO,Z3,Zbp]
 all_goals generalize Zd s=bi
 all_goals generalize (s==5)=bs
 all_goals cases g with
 |nil=>cases bi<;>cases bs<;>simp[Zpx,Zb0,pcOf,spOf,ZbZ]
 |cons o t=>
  simp only[YE] at hk;simp only[len0,YE,Zga,hk,Zcn,Zbp,Z3,Zfx,bne];generalize Zc c.1 o=i at hk|-;cases bi<;>cases bs<;>simp[Zb1,ZbZ,popX,pcOf,spOf,opC,Zik,ZdM,Zcj,Zg4,ZdW,setI,R.get]
theorem nx_4 (c) (s:Int) (g:List Int) (n:Int) (hk:(Zc c.1 (g.getD 0 0)).1=n):(n=6->(ZtP c s g).val=some (Zh c s g))/\(n=10->(ZoI c s g).val=some (Zh c s g))/\(n=17->(ZoB c s g).val=some (Zh c s g))/\(n=21->(Zox c s g).val=some (Zh c s g))/\(n=28->(Zoq c s g).val=some (Zh c s g))/\(n=34->(Zok c s g).val=some (Zh c s g))/\(n=39->(Zof c s g).val=some (Zh c s g))/\(n=43->(Zob c s g).val=some (Zh c s g))/\(n=6->(ZEu c s g).val=some (Zh c s g))/\(n=10->(Zxq c s g).val=some (Zh c s g))/\(n=17->(Zxj c s g).val=some (Zh c s g))/\(n=21->(Zxf c s g).val=some (Zh c s g))/\(n=28->(Zw8 c s g).val=some (Zh c s g))/\(n=34->(Zw2 c s g).val=some (Zh c s g))/\(n=39->(ZwX c s g).val=some (Zh c s g))/\(n=43->(ZwT c s g).val=some (Zh c s g)):=by
 refine⟨?_,?_,?_,?_,?_,?_,?_,?_,?_,?_,?_,?_,?_,?_,?_,?_⟩;all_goals intro e;subst e
 all_goals simp only[ZtP,ZoI,ZoB,Zox,Zoq,Zok,Zof,Zob,ZEu,Zxq,Zxj,Zxf,Zw8,Zw2,ZwX,ZwT,RT.val,fin3,pk]
 all_goals simp only[qat0,mat0,qat1,mat1,rg0,hk,ZJ,Zat,Za8,Zad,Zae,Z0,Z1,Zcw,ZcA,ZaW,ZI,Zby,Zh,ZeO,Z3,Zbp]
 all_goals generalize Zd s=bi
 all_goals generalize (s==5)=bs
 all_goals cases g with
 |nil=>cases bi<;>cases bs<;>simp[Zpx,Zb0,pcOf,spOf,ZbZ]
 |cons o t=>
  simp only[YE] at hk;simp only[len0,YE,Zga,hk,Zcn,Zbp,Z3,Zfx,bne];generalize Zc c.1 o=i at hk|-;cases bi<;>cases bs<;>simp[Zb1,ZbZ,popX,pcOf,spOf,opC,Zik,ZdM,Zcj,Zg4,ZdW,setI,R.get]
theorem nx_6 (c) (s:Int) (g:List Int) (n:Int) (hk:(Zc c.1 (g.getD 0 0)).1=n):(n=3->(ZtS c s g).val=some (Zh c s g))/\(n=14->(ZoE c s g).val=some (Zh c s g))/\(n=15->(ZoD c s g).val=some (Zh c s g))/\(n=3->(ZEx c s g).val=some (Zh c s g))/\(n=14->(Zxm c s g).val=some (Zh c s g))/\(n=15->(Zxl c s g).val=some (Zh c s g)):=by
 refine⟨?_,?_,?_,?_,?_,?_⟩;all_goals intro e;subst e
 all_goals simp only[ZtS,ZoE,ZoD,ZEx,Zxm,Zxl,RT.val,fin3,pk]
 all_goals simp only[qat0,mat0,qat1,mat1,rg0,hk,ZJ,Zat,Za8,Zad,Zae,Z0,Z1,Zcw,ZcA,ZaW,ZI,Zby,Zh,ZeO,Z3,Zbp]
 all_goals generalize Zd s=bi
 all_goals generalize (s==5)=bs
 all_goals cases g with
 |nil=>cases bi<;>cases bs<;>simp[Zpx,Zb0,pcOf,spOf,ZbZ]
 |cons o t=>
  simp only[YE] at hk;simp only[len0,YE,Zga,hk,Zcn,Zbp,Z3,Zfx,bne];generalize Zc c.1 o=i at hk|-;generalize (i.2.2.1==6)=b0;cases b0<;>cases bi<;>cases bs<;>simp[Zb1,ZbZ,popX,pcOf,spOf,opC,Zik,ZdM,Zcj,Zg4,ZdW,setI,R.get]
theorem nx_8 (c) (s:Int) (g:List Int) (n:Int) (hk:(Zc c.1 (g.getD 0 0)).1=n):(n=24->(Zou c s g).val=some (Zh c s g))/\(n=25->(Zot c s g).val=some (Zh c s g))/\(n=24->(Zxc c s g).val=some (Zh c s g))/\(n=25->(Zxb c s g).val=some (Zh c s g)):=by
 refine⟨?_,?_,?_,?_⟩;all_goals intro e;subst e
 all_goals simp only[Zou,Zot,Zxc,Zxb,RT.val,fin3,pk]
 all_goals simp only[qat0,mat0,qat1,mat1,rg0,hk,ZJ,Zat,Za8,Zad,Zae,Z0,Z1,Zcw,ZcA,ZaW,ZI,Zby,Zh,ZeO,Z3,Zbp]
 all_goals generalize Zd s=bi
 all_goals generalize (s==5)=bs
 all_goals cases g with
 |nil=>cases bi<;>cases bs<;>simp[Zpx,Zb0,pcOf,spOf,ZbZ]
 |cons o t=>
  simp only[YE] at hk;simp only[len0,YE,Zga,hk,Zcn,Zbp,Z3,Zfx,bne];generalize Zc c.1 o=i at hk|-;generalize Zgf _ _=b0;generalize (c.1==2)=b1;cases b0<;>cases b1<;>cases bi<;>cases bs<;>simp[Zb1,ZbZ,popX,pcOf,spOf,opC,Zik,ZdM,Zcj,Zg4,ZdW,setI,R.get]
theorem nx_10 (c) (s:Int) (g:List Int) (n:Int) (hk:(Zc c.1 (g.getD 0 0)).1=n):(n=30->(Zoo c s g).val=some (Zh c s g))/\(n=30->(Zw6 c s g).val=some (Zh c s g)):=by
 refine⟨?_,?_⟩;all_goals intro e;subst e
 all_goals simp only[Zoo,Zw6,RT.val,fin3,pk]
 all_goals simp only[qat0,mat0,qat1,mat1,rg0,hk,ZJ,Zat,Za8,Zad,Zae,Z0,Z1,Zcw,ZcA,ZaW,ZI,Zby,Zh,ZeO,Z3,Zbp]
 all_goals generalize Zd s=bi
 all_goals generalize (s==5)=bs
 all_goals cases g with
 |nil=>cases bi<;>cases bs<;>simp[Zpx,Zb0,pcOf,spOf,ZbZ]
 |cons o t=>
  simp only[YE] at hk;simp only[len0,YE,Zga,hk,Zcn,Zbp,Z3,Zfx,bne];generalize Zc c.1 o=i at hk|-;generalize (i.2.2.2.2.1==3)=b0;cases b0<;>cases bi<;>cases bs<;>simp[Zb1,ZbZ,popX,pcOf,spOf,opC,Zik,ZdM,Zcj,Zg4,ZdW,setI,R.get]
theorem nx_1 (c) (s:Int) (g:List Int) (n:Int) (hk:(Zc c.1 (g.getD 0 0)).1=n):(n=1->(ZtU c s g).val=some (Zh c s g))/\(n=7->(ZtO c s g).val=some (Zh c s g))/\(n=11->(ZoH c s g).val=some (Zh c s g))/\(n=18->(ZoA c s g).val=some (Zh c s g))/\(n=22->(Zow c s g).val=some (Zh c s g))/\(n=29->(Zop c s g).val=some (Zh c s g))/\(n=35->(Zoj c s g).val=some (Zh c s g))/\(n=40->(Zoe c s g).val=some (Zh c s g))/\(n=44->(Zoa c s g).val=some (Zh c s g))/\(n=1->(ZEz c s g).val=some (Zh c s g))/\(n=7->(ZEt c s g).val=some (Zh c s g))/\(n=11->(Zxp c s g).val=some (Zh c s g))/\(n=18->(Zxi c s g).val=some (Zh c s g))/\(n=22->(Zxe c s g).val=some (Zh c s g))/\(n=29->(Zw7 c s g).val=some (Zh c s g))/\(n=35->(Zw1 c s g).val=some (Zh c s g))/\(n=40->(ZwW c s g).val=some (Zh c s g))/\(n=44->(ZwS c s g).val=some (Zh c s g)):=by
 refine⟨?_,?_,?_,?_,?_,?_,?_,?_,?_,?_,?_,?_,?_,?_,?_,?_,?_,?_⟩;all_goals intro e;subst e
 all_goals simp only[ZtU,ZtO,ZoH,ZoA,Zow,Zop,Zoj,Zoe,Zoa,ZEz,ZEt,Zxp,Zxi,Zxe,Zw7,Zw1,ZwW,ZwS,RT.val,fin3,pk]
 all_goals simp only[qat0,mat0,qat1,mat1,rg0,hk,ZJ,Zat,Za8,Zad,Zae,Z0,Z1,Zcw,ZcA,ZaW,ZI,Zby,Zh,ZeO,Z3,Zbp]
 all_goals generalize Zd s=bi
 all_goals generalize (s==5)=bs
 all_goals cases g with
 |nil=>cases bi<;>cases bs<;>simp[Zpx,Zb0,pcOf,spOf,ZbZ]
 |cons o t=>
  simp only[YE] at hk;simp only[len0,YE,Zga,hk,Zcn,Zbp,Z3,Zfx,bne];generalize Zc c.1 o=i at hk|-;cases bi<;>cases bs<;>simp[Zb1,ZbZ,popX,pcOf,spOf,opC,Zik,ZdM,Zcj,Zg4,ZdW,setI,R.get]
theorem nx_3 (c) (s:Int) (g:List Int) (n:Int) (hk:(Zc c.1 (g.getD 0 0)).1=n):(n=5->(ZtQ c s g).val=some (Zh c s g))/\(n=9->(ZtM c s g).val=some (Zh c s g))/\(n=16->(ZoC c s g).val=some (Zh c s g))/\(n=20->(Zoy c s g).val=some (Zh c s g))/\(n=27->(Zor c s g).val=some (Zh c s g))/\(n=33->(Zol c s g).val=some (Zh c s g))/\(n=38->(Zog c s g).val=some (Zh c s g))/\(n=42->(Zoc c s g).val=some (Zh c s g))/\(n=47->(Zn7 c s g).val=some (Zh c s g))/\(n=5->(ZEv c s g).val=some (Zh c s g))/\(n=9->(ZEr c s g).val=some (Zh c s g))/\(n=16->(Zxk c s g).val=some (Zh c s g))/\(n=20->(Zxg c s g).val=some (Zh c s g))/\(n=27->(Zw9 c s g).val=some (Zh c s g))/\(n=33->(Zw3 c s g).val=some (Zh c s g))/\(n=38->(ZwY c s g).val=some (Zh c s g))/\(n=42->(ZwU c s g).val=some (Zh c s g))/\(n=47->(ZwP c s g).val=some (Zh c s g)):=by
 refine⟨?_,?_,?_,?_,?_,?_,?_,?_,?_,?_,?_,?_,?_,?_,?_,?_,?_,?_⟩;all_goals intro e;subst e
 all_goals simp only[ZtQ,ZtM,ZoC,Zoy,Zor,Zol,Zog,Zoc,Zn7,ZEv,ZEr,Zxk,Zxg,Zw9,Zw3,ZwY,ZwU,ZwP,RT.val,fin3,pk]
 all_goals simp only[qat0,mat0,qat1,mat1,rg0,hk,ZJ,Zat,Za8,Zad,Zae,Z0,Z1,Zcw,ZcA,ZaW,ZI,Zby,Zh,ZeO,Z3,Zbp]
 all_goals generalize Zd s=bi
 all_goals generalize (s==5)=bs
 all_goals cases g with
 |nil=>cases bi<;>cases bs<;>simp[Zpx,Zb0,pcOf,spOf,ZbZ]
 |cons o t=>
  simp only[YE] at hk;simp only[len0,YE,Zga,hk,Zcn,Zbp,Z3,Zfx,bne];generalize Zc c.1 o=i at hk|-;cases bi<;>cases bs<;>simp[Zb1,ZbZ,popX,pcOf,spOf,opC,Zik,ZdM,Zcj,Zg4,ZdW,setI,R.get]
theorem nx_5 (c) (s:Int) (g:List Int) (n:Int) (hk:(Zc c.1 (g.getD 0 0)).1=n):(n=2->(ZtT c s g).val=some (Zh c s g))/\(n=2->(ZEy c s g).val=some (Zh c s g)):=by
 refine⟨?_,?_⟩;all_goals intro e;subst e
 all_goals simp only[ZtT,ZEy,RT.val,fin3,pk]
 all_goals simp only[qat0,mat0,qat1,mat1,rg0,hk,ZJ,Zat,Za8,Zad,Zae,Z0,Z1,Zcw,ZcA,ZaW,ZI,Zby,Zh,ZeO,Z3,Zbp]
 all_goals generalize Zd s=bi
 all_goals generalize (s==5)=bs
 all_goals cases g with
 |nil=>cases bi<;>cases bs<;>simp[Zpx,Zb0,pcOf,spOf,ZbZ]
 |cons o t=>
  simp only[YE] at hk;simp only[len0,YE,Zga,hk,Zcn,Zbp,Z3,Zfx,bne];generalize Zc c.1 o=i at hk|-;generalize (i.2.2.2.1==6)=b0;generalize (i.2.2.1==6)=b1;cases b0<;>cases b1<;>cases bi<;>cases bs<;>simp[Zb1,ZbZ,popX,pcOf,spOf,opC,Zik,ZdM,Zcj,Zg4,ZdW,setI,R.get]
theorem nx_7 (c) (s:Int) (g:List Int) (n:Int) (hk:(Zc c.1 (g.getD 0 0)).1=n):(n=12->(ZoG c s g).val=some (Zh c s g))/\(n=12->(Zxo c s g).val=some (Zh c s g)):=by
 refine⟨?_,?_⟩;all_goals intro e;subst e
 all_goals simp only[ZoG,Zxo,RT.val,fin3,pk]
 all_goals simp only[qat0,mat0,qat1,mat1,rg0,hk,ZJ,Zat,Za8,Zad,Zae,Z0,Z1,Zcw,ZcA,ZaW,ZI,Zby,Zh,ZeO,Z3,Zbp]
 all_goals generalize Zd s=bi
 all_goals generalize (s==5)=bs
 all_goals cases g with
 |nil=>cases bi<;>cases bs<;>simp[Zpx,Zb0,pcOf,spOf,ZbZ]
 |cons o t=>
  simp only[YE] at hk;simp only[len0,YE,Zga,hk,Zcn,Zbp,Z3,Zfx,bne];generalize Zc c.1 o=i at hk|-;generalize (i.2.2.2.1==6)=b0;cases b0<;>cases bi<;>cases bs<;>simp[Zb1,ZbZ,popX,pcOf,spOf,opC,Zik,ZdM,Zcj,Zg4,ZdW,setI,R.get]
theorem nx_9 (c) (s:Int) (g:List Int) (n:Int) (hk:(Zc c.1 (g.getD 0 0)).1=n):(n=26->(Zos c s g).val=some (Zh c s g))/\(n=45->(Zn9 c s g).val=some (Zh c s g))/\(n=26->(Zxa c s g).val=some (Zh c s g))/\(n=45->(ZwR c s g).val=some (Zh c s g)):=by
 refine⟨?_,?_,?_,?_⟩;all_goals intro e;subst e
 all_goals simp only[Zos,Zn9,Zxa,ZwR,RT.val,fin3,pk]
 all_goals simp only[qat0,mat0,qat1,mat1,rg0,hk,ZJ,Zat,Za8,Zad,Zae,Z0,Z1,Zcw,ZcA,ZaW,ZI,Zby,Zh,ZeO,Z3,Zbp]
 all_goals generalize Zd s=bi
 all_goals generalize (s==5)=bs
 all_goals cases g with
 |nil=>cases bi<;>cases bs<;>simp[Zpx,Zb0,pcOf,spOf,ZbZ]
 |cons o t=>
  simp only[YE] at hk;simp only[len0,YE,Zga,hk,Zcn,Zbp,Z3,Zfx,bne];generalize Zc c.1 o=i at hk|-;generalize Zgf _ _=b0;cases b0<;>cases bi<;>cases bs<;>simp[Zb1,ZbZ,popX,pcOf,spOf,opC,Zik,ZdM,Zcj,Zg4,ZdW,setI,R.get]
theorem nx_11 (c) (s:Int) (g:List Int) (n:Int) (hk:(Zc c.1 (g.getD 0 0)).1=n):(n=32->(Zom c s g).val=some (Zh c s g))/\(n=37->(Zoh c s g).val=some (Zh c s g))/\(n=32->(Zw4 c s g).val=some (Zh c s g))/\(n=37->(ZwZ c s g).val=some (Zh c s g)):=by
 refine⟨?_,?_,?_,?_⟩;all_goals intro e;subst e
 all_goals simp only[Zom,Zoh,Zw4,ZwZ,RT.val,fin3,pk]
 all_goals simp only[qat0,mat0,qat1,mat1,rg0,hk,ZJ,Zat,Za8,Zad,Zae,Z0,Z1,Zcw,ZcA,ZaW,ZI,Zby,Zh,ZeO,Z3,Zbp]
 all_goals generalize Zd s=bi
 all_goals generalize (s==5)=bs
 all_goals cases g with
 |nil=>cases bi<;>cases bs<;>simp[Zpx,Zb0,pcOf,spOf,ZbZ]
 |cons o t=>
  simp only[YE] at hk;simp only[len0,YE,Zga,hk,Zcn,Zbp,Z3,Zfx,bne];generalize Zc c.1 o=i at hk|-;generalize (c.1==2)=b0;cases b0<;>cases bi<;>cases bs<;>simp[Zb1,ZbZ,popX,pcOf,spOf,opC,Zik,ZdM,Zcj,Zg4,ZdW,setI,R.get]
theorem ZSb (a:HL Zu) (h:okHL Zu a):∃l,Zd5 Tryz.prog l/\(Zha (envX Tryz.prog l [] 1125900980585471 8) Tryz.f82 Zu ZBW a).val=some (Zh a.1 a.2.1 a.2.2):=by
 have hk:=ZOT a.1.1 _ (ZPf h.2.2);refine⟨ZNa (Zc a.1.1 (a.2.2.getD 0 0)).1,ZM9 _,?_⟩;show (EV1 _ a).val=_;have n1:=nx_1 a.1 a.2.1 a.2.2;have n5:=nx_5 a.1 a.2.1 a.2.2;have n6:=nx_6 a.1 a.2.1 a.2.2;have n2:=nx_2 a.1 a.2.1 a.2.2;have n3:=nx_3 a.1 a.2.1 a.2.2;have n4:=nx_4 a.1 a.2.1 a.2.2;have n7:=nx_7 a.1 a.2.1 a.2.2;have n8:=nx_8 a.1 a.2.1 a.2.2;have n9:=nx_9 a.1 a.2.1 a.2.2;have n10:=nx_10 a.1 a.2.1 a.2.2;have n11:=nx_11 a.1 a.2.1 a.2.2;rcases ZOS hk.1 hk.2 with e|e|e|e|e|e|e|e|e|e|e|e|e|e|e|e|e|e|e|e|e|e|e|e|e|e|e|e|e|e|e|e|e|e|e|e|e|e|e|e|e|e|e|e|e|e|e
 ·rw[e,ZHF a,((n1 _ e).1 rfl)]
 ·rw[e,ZHE a,((n5 _ e).1 rfl)]
 ·rw[e,ZHD a,((n6 _ e).1 rfl)]
 ·rw[e,ZHC a,((n2 _ e).1 rfl)]
 ·rw[e,ZHB a,((n3 _ e).1 rfl)]
 ·rw[e,ZHA a,((n4 _ e).1 rfl)]
 ·rw[e,ZHz a,((n1 _ e).2.1 rfl)]
 ·rw[e,ZHy a,((n2 _ e).2.1 rfl)]
 ·rw[e,ZHx a,((n3 _ e).2.1 rfl)]
 ·rw[e,ZBV a,((n4 _ e).2.1 rfl)]
 ·rw[e,ZBU a,((n1 _ e).2.2.1 rfl)]
 ·rw[e,ZBT a,((n7 _ e).1 rfl)]
 ·rw[e,ZBS a,((n2 _ e).2.2.1 rfl)]
 ·rw[e,ZBR a,((n6 _ e).2.1 rfl)]
 ·rw[e,ZBQ a,((n6 _ e).2.2.1 rfl)]
 ·rw[e,ZBP a,((n3 _ e).2.2.1 rfl)]
 ·rw[e,ZBO a,((n4 _ e).2.2.1 rfl)]
 ·rw[e,ZBN a,((n1 _ e).2.2.2.1 rfl)]
 ·rw[e,ZBM a,((n2 _ e).2.2.2.1 rfl)]
 ·rw[e,ZBL a,((n3 _ e).2.2.2.1 rfl)]
 ·rw[e,ZBK a,((n4 _ e).2.2.2.1 rfl)]
 ·rw[e,ZBJ a,((n1 _ e).2.2.2.2.1 rfl)]
 ·rw[e,ZBI a,((n2 _ e).2.2.2.2.1 rfl)]
 ·rw[e,ZBH a,((n8 _ e).1 rfl)]
 ·rw[e,ZBG a,((n8 _ e).2.1 rfl)]
 ·rw[e,ZBF a,((n9 _ e).1 rfl)]
 ·rw[e,ZBE a,((n3 _ e).2.2.2.2.1 rfl)]
 ·rw[e,ZBD a,((n4 _ e).2.2.2.2.1 rfl)]
 ·rw[e,ZBC a,((n1 _ e).2.2.2.2.2.1 rfl)]
 ·rw[e,ZBB a,((n10 _ e).1 rfl)]
 ·rw[e,ZBA a,((n2 _ e).2.2.2.2.2.1 rfl)]
 ·rw[e,ZBz a,((n11 _ e).1 rfl)]
 ·rw[e,ZBy a,((n3 _ e).2.2.2.2.2.1 rfl)]
 ·rw[e,ZBx a,((n4 _ e).2.2.2.2.2.1 rfl)]
 ·rw[e,ZBw a,((n1 _ e).2.2.2.2.2.2.1 rfl)]
 ·rw[e,ZBv a,((n2 _ e).2.2.2.2.2.2.1 rfl)]
 ·rw[e,ZBu a,((n11 _ e).2.1 rfl)]
 ·rw[e,ZBt a,((n3 _ e).2.2.2.2.2.2.1 rfl)]
 ·rw[e,ZBs a,((n4 _ e).2.2.2.2.2.2.1 rfl)]
 ·rw[e,ZBr a,((n1 _ e).2.2.2.2.2.2.2.1 rfl)]
 ·rw[e,ZBq a,((n2 _ e).2.2.2.2.2.2.2.1 rfl)]
 ·rw[e,ZBp a,((n3 _ e).2.2.2.2.2.2.2.1 rfl)]
 ·rw[e,ZBo a,((n4 _ e).2.2.2.2.2.2.2.1 rfl)]
 ·rw[e,ZBn a,((n1 _ e).2.2.2.2.2.2.2.2.1 rfl)]
 ·rw[e,ZBm a,((n9 _ e).2.1 rfl)]
 ·rw[e,ZBl a,((n2 _ e).2.2.2.2.2.2.2.2.1 rfl)]
 ·rw[e,ZBk a,((n3 _ e).2.2.2.2.2.2.2.2.1 rfl)]
def Zh3:En:=Zi Zu ZBW (λ_=>none) (λa=>Zh a.1 a.2.1 a.2.2)
theorem ZfR:Zb Tryz.prog 82 Zh3:=ZEJ Tryz.func82 rfl (by kernel_rfl) Tryz.call82 λa h _=>ZSb a h
end
end Go.Proofs.YtpnjbfjomebppaaGreat
open Go.IntKind (u8 u16 i64)
namespace Go.Proofs.YtpnjbfjomebppaaGreat
noncomputable section
def wPC (r:RegT) (v:Int):RegT:=(r.1,r.2.1,r.2.2.1,r.2.2.2.1,r.2.2.2.2.1,r.2.2.2.2.2.1,r.2.2.2.2.2.2.1,r.2.2.2.2.2.2.2.1,r.2.2.2.2.2.2.2.2.1,v)
def wSP (r:RegT) (v:Int):RegT:=(r.1,r.2.1,r.2.2.1,r.2.2.2.1,r.2.2.2.2.1,r.2.2.2.2.2.1,r.2.2.2.2.2.2.1,r.2.2.2.2.2.2.2.1,v,r.2.2.2.2.2.2.2.2.2)
def wA (r:RegT) (v:Int):RegT:=(v,r.2)
def wF (r:RegT) (f:FlgT):RegT:=(r.1,r.2.1,r.2.2.1,r.2.2.2.1,r.2.2.2.2.1,r.2.2.2.2.2.1,r.2.2.2.2.2.2.1,f,r.2.2.2.2.2.2.2.2)
def fCY (f:FlgT) (b:Bool):FlgT:=(f.1,f.2.1,f.2.2.1,f.2.2.2.1,f.2.2.2.2.1,f.2.2.2.2.2.1,b)
def fVCY (f:FlgT) (v b:Bool):FlgT:=(f.1,f.2.1,f.2.2.1,f.2.2.2.1,f.2.2.2.2.1,v,b)
def ZgA (r:RegT):Int:=r.2.2.2.2.2.2.2.2.1
def flOf (r:RegT):FlgT:=r.2.2.2.2.2.2.2.1
def finR (c:CpuT) (r r0:RegT) (g:List Int) (i:InsT):RegT:=
 let dst:=i.2.2.1
 let src:=i.2.2.2.1
 let pr:=i.2.2.2.2.1
 let op:=i.2.2.2.2.2.1
 let g1:=g.getD 1 0
 let tk:=Zgf i.2.2.2.2.2.2.1 (flOf r)
 bif i.1==2 then rSet r0 dst (bif src==6 then g1 else rGet r src) else
 bif i.1==3 then rSet r0 dst g1 else
 bif i.1==4 then Z4 r0 pr (Zcj g 1) else
 bif i.1==5 then wA r0 (g.getD 3 0) else
 bif i.1==7 then Z4 r0 2 (Zcj g 3) else
 bif i.1==9 then wA r0 g1 else
 bif i.1==11 then (r0.1,r0.2.1,r0.2.2.1,r0.2.2.2.2.2.1,r0.2.2.2.2.2.2.1,r0.2.2.2.1,r0.2.2.2.2.1,r0.2.2.2.2.2.2.2) else
 bif i.1==12 then (let q:=rDo c.1 op r.1 (bif src==6 then g1 else rGet r src) (flOf r);wA (wF r0 q.2) q.1) else
 bif i.1==13 then (let q:=rDo c.1 op r.1 g1 (flOf r);wA (wF r0 q.2) q.1) else
 bif i.1==14 then (let q:=rInr c.1 (bif dst==6 then g1 else rGet r dst) (flOf r);rSet (wF r0 q.2) dst q.1) else
 bif i.1==15 then (let q:=rDcr c.1 (bif dst==6 then g1 else rGet r dst) (flOf r);rSet (wF r0 q.2) dst q.1) else
 bif i.1==16 then (let q:=rInx c.1 (ZbJ r pr) (flOf r);Z4 (wF r0 q.2) pr q.1) else
 bif i.1==17 then (let q:=rDcx c.1 (ZbJ r pr) (flOf r);Z4 (wF r0 q.2) pr q.1) else
 bif i.1==18 then (let q:=rDad c.1 (ZbJ r 2) (ZbJ r pr) (flOf r);Z4 (wF r0 q.2) 2 q.1) else
 bif i.1==19 then (let q:=rDaa c.1 r.1 (flOf r);wA (wF r0 q.2) q.1) else
 bif i.1==20 then wA r0 (notI .u8 r.1) else
 bif i.1==21 then wF r0 (fCY (flOf r) true) else
 bif i.1==22 then wF r0 (fCY (flOf r) (!(flOf r).2.2.2.2.2.2)) else
 bif i.1==23 then (let q:=rRot op r.1 (flOf r).2.2.2.2.2.2;wA (wF r0 (fCY (flOf r) q.2)) q.1) else
 bif i.1==24 then (bif tk then wPC r0 (Zcj g 1) else r0) else
 bif i.1==25 then (bif tk then wPC (wSP r0 (IntKind.wrap .u16 (ZgA r-2))) (Zcj g 1) else r0) else
 bif i.1==26 then (bif tk then wPC (wSP r0 (IntKind.wrap .u16 (ZgA r+2))) (Zcj g 1) else r0) else
 bif i.1==27 then wPC (wSP r0 (IntKind.wrap .u16 (ZgA r-2))) (IntKind.wrap .u16 (IntKind.wrap .i64 (8*i.2.2.2.2.2.2.2))) else
 bif i.1==28 then wPC r0 (ZbJ r 2) else
 bif i.1==29 then wSP r0 (ZbJ r 2) else
 bif i.1==30 then wSP r0 (IntKind.wrap .u16 (ZgA r-2)) else
 bif i.1==31 then (let q:=bif pr==3 then Znn c.1 r0 (Zcj g 1) else Z4 r0 pr (Zcj g 1);wSP q (IntKind.wrap .u16 (ZgA q+2))) else
 bif i.1==32 then Z4 r0 2 (Zcj g 1) else
 bif i.1==33 then wA r0 (g.getD 2 0) else
 bif i.1==40 then (let q:=ZLz (ZbJ r 2) (ZbJ r 0);Z4 (wF r0 q.2) 2 q.1) else
 bif i.1==41 then (let q:=ZRt (ZbJ r 2);Z4 (wF r0 (fCY (flOf r) q.2)) 2 q.1) else
 bif i.1==42 then (let q:=ZLe (ZbJ r 1) (flOf r).2.2.2.2.2.2;Z4 (wF r0 (fVCY (flOf r) q.2.2 q.2.1)) 1 q.1) else
 bif i.1==43 then Z4 r0 1 (IntKind.wrap .u16 (ZbJ r 2+IntKind.wrap .u16 g1)) else
 bif i.1==44 then Z4 r0 1 (IntKind.wrap .u16 (ZgA r+IntKind.wrap .u16 g1)) else
 bif i.1==45 then (bif tk then wPC (wSP r0 (IntKind.wrap .u16 (ZgA r-2))) 64 else r0) else
 bif i.1==47 then Z4 r0 2 (Zcj g 1) else
 r0
def finI (c:CpuT) (inj:Bool) (g:List Int) (l:QT1) (i:InsT):CpuT:=
 let r0:=wPC c.2.1 (Z3 c inj i)
 let d:CpuT:=(c.1,r0,c.2.2.1,false,false,c.2.2.2.2.2)
 bif i.1==38 then (let q:=rRim d l;(q.2.1,wA q.2.2.1 q.1,q.2.2.2)) else
 bif i.1==39 then rSim d c.2.1.1 else
 (c.1,finR c c.2.1 r0 g i,bif i.1==35 then true else bif i.1==36 then false else c.2.2.1,i.1==35,i.1==37,c.2.2.2.2.2)
def finX (c:CpuT) (s:Int) (g:List Int) (l:QT1):CpuT:=
 bif Zd s then (c.1,wPC (wSP c.2.1 (IntKind.wrap .u16 (spOf c-2))) (Zy s),c.2.2)
 else finI c (s==5) g l (Zc c.1 (g.getD 0 0))
theorem ZTR (c:CpuT) (l):(rRim c l).2=(c.1,c.2.1,c.2.2.1,c.2.2.2.1,c.2.2.2.2.1,c.2.2.2.2.2.1,c.2.2.2.2.2.2.1,c.2.2.2.2.2.2.2.1,c.2.2.2.2.2.2.2.2.1,c.2.2.2.2.2.2.2.2.2.1,false,false,c.2.2.2.2.2.2.2.2.2.2.2.2):=by
 have h3:∀b,ZaI b 3=true:=λb=>by cases b<;>rfl
 have h4:∀b,ZaI b 4=true:=λb=>by cases b<;>rfl
 have h5:∀b,ZaI b 5=true:=λb=>by cases b<;>rfl
 have h6:∀b,ZaI b 6=true:=λb=>by cases b<;>rfl
 have h7:∀b,ZaI b 7=true:=λb=>by cases b<;>rfl
 simp only[rRim,ZLd,RT.val,h3,h4,h5,h6,h7,Yf,Yj,Ya,getO]
theorem Zh0 (s):ZgM s=true/\Zi9 s=bif (s.2.2.2.1.1==13||s.2.2.2.1.2.2.2.1==6) then s.2.2.1.getD 1 0 else rGet s.1.2.1 s.2.2.2.1.2.2.2.1:=by simp only[ZgM,Zi9,Zi8,RT.val,qat1,Za8];cases (s.2.2.2.1.1==13||s.2.2.2.1.2.2.2.1==6)<;>simp[okB,getO]
