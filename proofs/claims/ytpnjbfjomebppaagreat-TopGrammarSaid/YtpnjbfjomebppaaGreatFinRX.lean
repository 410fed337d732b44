import Derived.Test.YtpnjbfjomebppaaGreatKind47
import Derived.Test.YtpnjbfjomebppaaGreatNext1
import Derived.Test.YtpnjbfjomebppaaGreatNext2
import Derived.Test.YtpnjbfjomebppaaGreatNext3
import Derived.Test.YtpnjbfjomebppaaGreatNext4
open Go Go.S3 Go.Proofs
set_option linter.unusedVariables false
set_option linter.unusedSimpArgs false
set_option maxRecDepth 100000
namespace Go.Proofs.YtpnjbfjomebppaaGreat
noncomputable section
theorem nx_2 (c) (s:Int) (g:List Int) (n:Int) (hk:(Zc c.1 (g.getD 0 0)).1=n):(n=4->(Ztl c s g).val=some (Zi c s g))/\(n=8->(Zth c s g).val=some (Zi c s g))/\(n=13->(Zok c s g).val=some (Zi c s g))/\(n=19->(Zoe c s g).val=some (Zi c s g))/\(n=23->(Zoa c s g).val=some (Zi c s g))/\(n=31->(Zn2 c s g).val=some (Zi c s g))/\(n=36->(ZnX c s g).val=some (Zi c s g))/\(n=41->(ZnS c s g).val=some (Zi c s g))/\(n=46->(ZnN c s g).val=some (Zi c s g))/\(n=4->(ZDJ c s g).val=some (Zi c s g))/\(n=8->(ZDF c s g).val=some (Zi c s g))/\(n=13->(ZwG c s g).val=some (Zi c s g))/\(n=19->(ZwA c s g).val=some (Zi c s g))/\(n=23->(Zww c s g).val=some (Zi c s g))/\(n=31->(Zwo c s g).val=some (Zi c s g))/\(n=36->(Zwj c s g).val=some (Zi c s g))/\(n=41->(Zwe c s g).val=some (Zi c s g))/\(n=46->(Zv9 c s g).val=some (Zi c s g)):=by
 refine⟨?_,?_,?_,?_,?_,?_,?_,?_,?_,?_,?_,?_,?_,?_,?_,?_,?_,?_⟩;all_goals intro e;subst e
 all_goals simp only[Ztl,Zth,Zok,Zoe,Zoa,Zn2,ZnX,ZnS,ZnN,ZDJ,ZDF,ZwG,ZwA,Zww,Zwo,Zwj,Zwe,Zv9,RT.val,fin3,pk]
 all_goals simp only[qat0,mat0,qat1,mat1,rg0,hk,ZH,Zaq,Za4,Z9,Zaa,ZV,ZW,Zct,Zcv,ZaQ,ZG,Zbw,Zi,ZeS,ZX,Zbn]
 all_goals generalize Zd s=bi
 all_goals generalize (s==5)=bs
 all_goals cases g with
 |nil=>cases bi<;>cases bs<;>simp[Zo9,ZbW,pcOf,spOf,ZcM]
 |cons o t=>
  simp only[YE] at hk;simp only[len0,YE,ZgP,hk,Zcm,Zbn,ZX,Zfl,bne];generalize Zc c.1 o=i at hk|-;cases bi<;>cases bs<;>simp[ZbX,ZcM,popX,pcOf,spOf,opC,ZiD,Zd6,Zci,ZgH,ZdN,setI,R.get]
theorem nx_4 (c) (s:Int) (g:List Int) (n:Int) (hk:(Zc c.1 (g.getD 0 0)).1=n):(n=6->(Ztj c s g).val=some (Zi c s g))/\(n=10->(Zon c s g).val=some (Zi c s g))/\(n=17->(Zog c s g).val=some (Zi c s g))/\(n=21->(Zoc c s g).val=some (Zi c s g))/\(n=28->(Zn5 c s g).val=some (Zi c s g))/\(n=34->(ZnZ c s g).val=some (Zi c s g))/\(n=39->(ZnU c s g).val=some (Zi c s g))/\(n=43->(ZnQ c s g).val=some (Zi c s g))/\(n=6->(ZDH c s g).val=some (Zi c s g))/\(n=10->(ZwJ c s g).val=some (Zi c s g))/\(n=17->(ZwC c s g).val=some (Zi c s g))/\(n=21->(Zwy c s g).val=some (Zi c s g))/\(n=28->(Zwr c s g).val=some (Zi c s g))/\(n=34->(Zwl c s g).val=some (Zi c s g))/\(n=39->(Zwg c s g).val=some (Zi c s g))/\(n=43->(Zwc c s g).val=some (Zi c s g)):=by
 refine⟨?_,?_,?_,?_,?_,?_,?_,?_,?_,?_,?_,?_,?_,?_,?_,?_⟩;all_goals intro e;subst e
 all_goals simp only[Ztj,Zon,Zog,Zoc,Zn5,ZnZ,ZnU,ZnQ,ZDH,ZwJ,ZwC,Zwy,Zwr,Zwl,Zwg,Zwc,RT.val,fin3,pk]
 all_goals simp only[qat0,mat0,qat1,mat1,rg0,hk,ZH,Zaq,Za4,Z9,Zaa,ZV,ZW,Zct,Zcv,ZaQ,ZG,Zbw,Zi,ZeS,ZX,Zbn]
 all_goals generalize Zd s=bi
 all_goals generalize (s==5)=bs
 all_goals cases g with
 |nil=>cases bi<;>cases bs<;>simp[Zo9,ZbW,pcOf,spOf,ZcM]
 |cons o t=>
  simp only[YE] at hk;simp only[len0,YE,ZgP,hk,Zcm,Zbn,ZX,Zfl,bne];generalize Zc c.1 o=i at hk|-;cases bi<;>cases bs<;>simp[ZbX,ZcM,popX,pcOf,spOf,opC,ZiD,Zd6,Zci,ZgH,ZdN,setI,R.get]
theorem nx_6 (c) (s:Int) (g:List Int) (n:Int) (hk:(Zc c.1 (g.getD 0 0)).1=n):(n=3->(Ztm c s g).val=some (Zi c s g))/\(n=14->(Zoj c s g).val=some (Zi c s g))/\(n=15->(Zoi c s g).val=some (Zi c s g))/\(n=3->(ZDK c s g).val=some (Zi c s g))/\(n=14->(ZwF c s g).val=some (Zi c s g))/\(n=15->(ZwE c s g).val=some (Zi c s g)):=by
 refine⟨?_,?_,?_,?_,?_,?_⟩;all_goals intro e;subst e
 all_goals simp only[Ztm,Zoj,Zoi,ZDK,ZwF,ZwE,RT.val,fin3,pk]
 all_goals simp only[qat0,mat0,qat1,mat1,rg0,hk,ZH,Zaq,Za4,Z9,Zaa,ZV,ZW,Zct,Zcv,ZaQ,ZG,Zbw,Zi,ZeS,ZX,Zbn]
 all_goals generalize Zd s=bi
 all_goals generalize (s==5)=bs
 all_goals cases g with
 |nil=>cases bi<;>cases bs<;>simp[Zo9,ZbW,pcOf,spOf,ZcM]
 |cons o t=>
  simp only[YE] at hk;simp only[len0,YE,ZgP,hk,Zcm,Zbn,ZX,Zfl,bne];generalize Zc c.1 o=i at hk|-;generalize (i.2.2.1==6)=b0;cases b0<;>cases bi<;>cases bs<;>simp[ZbX,ZcM,popX,pcOf,spOf,opC,ZiD,Zd6,Zci,ZgH,ZdN,setI,R.get]
theorem nx_8 (c) (s:Int) (g:List Int) (n:Int) (hk:(Zc c.1 (g.getD 0 0)).1=n):(n=24->(Zn9 c s g).val=some (Zi c s g))/\(n=25->(Zn8 c s g).val=some (Zi c s g))/\(n=24->(Zwv c s g).val=some (Zi c s g))/\(n=25->(Zwu c s g).val=some (Zi c s g)):=by
 refine⟨?_,?_,?_,?_⟩;all_goals intro e;subst e
 all_goals simp only[Zn9,Zn8,Zwv,Zwu,RT.val,fin3,pk]
 all_goals simp only[qat0,mat0,qat1,mat1,rg0,hk,ZH,Zaq,Za4,Z9,Zaa,ZV,ZW,Zct,Zcv,ZaQ,ZG,Zbw,Zi,ZeS,ZX,Zbn]
 all_goals generalize Zd s=bi
 all_goals generalize (s==5)=bs
 all_goals cases g with
 |nil=>cases bi<;>cases bs<;>simp[Zo9,ZbW,pcOf,spOf,ZcM]
 |cons o t=>
  simp only[YE] at hk;simp only[len0,YE,ZgP,hk,Zcm,Zbn,ZX,Zfl,bne];generalize Zc c.1 o=i at hk|-;generalize ZfX _ _=b0;generalize (c.1==2)=b1;cases b0<;>cases b1<;>cases bi<;>cases bs<;>simp[ZbX,ZcM,popX,pcOf,spOf,opC,ZiD,Zd6,Zci,ZgH,ZdN,setI,R.get]
theorem nx_10 (c) (s:Int) (g:List Int) (n:Int) (hk:(Zc c.1 (g.getD 0 0)).1=n):(n=30->(Zn3 c s g).val=some (Zi c s g))/\(n=30->(Zwp c s g).val=some (Zi c s g)):=by
 refine⟨?_,?_⟩;all_goals intro e;subst e
 all_goals simp only[Zn3,Zwp,RT.val,fin3,pk]
 all_goals simp only[qat0,mat0,qat1,mat1,rg0,hk,ZH,Zaq,Za4,Z9,Zaa,ZV,ZW,Zct,Zcv,ZaQ,ZG,Zbw,Zi,ZeS,ZX,Zbn]
 all_goals generalize Zd s=bi
 all_goals generalize (s==5)=bs
 all_goals cases g with
 |nil=>cases bi<;>cases bs<;>simp[Zo9,ZbW,pcOf,spOf,ZcM]
 |cons o t=>
  simp only[YE] at hk;simp only[len0,YE,ZgP,hk,Zcm,Zbn,ZX,Zfl,bne];generalize Zc c.1 o=i at hk|-;generalize (i.2.2.2.2.1==3)=b0;cases b0<;>cases bi<;>cases bs<;>simp[ZbX,ZcM,popX,pcOf,spOf,opC,ZiD,Zd6,Zci,ZgH,ZdN,setI,R.get]
theorem nx_1 (c) (s:Int) (g:List Int) (n:Int) (hk:(Zc c.1 (g.getD 0 0)).1=n):(n=1->(Zto c s g).val=some (Zi c s g))/\(n=7->(Zti c s g).val=some (Zi c s g))/\(n=11->(Zom c s g).val=some (Zi c s g))/\(n=18->(Zof c s g).val=some (Zi c s g))/\(n=22->(Zob c s g).val=some (Zi c s g))/\(n=29->(Zn4 c s g).val=some (Zi c s g))/\(n=35->(ZnY c s g).val=some (Zi c s g))/\(n=40->(ZnT c s g).val=some (Zi c s g))/\(n=44->(ZnP c s g).val=some (Zi c s g))/\(n=1->(ZDM c s g).val=some (Zi c s g))/\(n=7->(ZDG c s g).val=some (Zi c s g))/\(n=11->(ZwI c s g).val=some (Zi c s g))/\(n=18->(ZwB c s g).val=some (Zi c s g))/\(n=22->(Zwx c s g).val=some (Zi c s g))/\(n=29->(Zwq c s g).val=some (Zi c s g))/\(n=35->(Zwk c s g).val=some (Zi c s g))/\(n=40->(Zwf c s g).val=some (Zi c s g))/\(n=44->(Zwb c s g).val=some (Zi c s g)):=by
 refine⟨?_,?_,?_,?_,?_,?_,?_,?_,?_,?_,?_,?_,?_,?_,?_,?_,?_,?_⟩;all_goals intro e;subst e
 all_goals simp only[Zto,Zti,Zom,Zof,Zob,Zn4,ZnY,ZnT,ZnP,ZDM,ZDG,ZwI,ZwB,Zwx,Zwq,Zwk,Zwf,Zwb,RT.val,fin3,pk]
 all_goals simp only[qat0,mat0,qat1,mat1,rg0,hk,ZH,Zaq,Za4,Z9,Zaa,ZV,ZW,Zct,Zcv,ZaQ,ZG,Zbw,Zi,ZeS,ZX,Zbn]
 all_goals generalize Zd s=bi
 all_goals generalize (s==5)=bs
 all_goals cases g with
 |nil=>cases bi<;>cases bs<;>simp[Zo9,ZbW,pcOf,spOf,ZcM]
 |cons o t=>
  simp only[YE] at hk;simp only[len0,YE,ZgP,hk,Zcm,Zbn,ZX,Zfl,bne];generalize Zc c.1 o=i at hk|-;cases bi<;>cases bs<;>simp[ZbX,ZcM,popX,pcOf,spOf,opC,ZiD,Zd6,Zci,ZgH,ZdN,setI,R.get]
theorem nx_3 (c) (s:Int) (g:List Int) (n:Int) (hk:(Zc c.1 (g.getD 0 0)).1=n):(n=5->(Ztk c s g).val=some (Zi c s g))/\(n=9->(Ztg c s g).val=some (Zi c s g))/\(n=16->(Zoh c s g).val=some (Zi c s g))/\(n=20->(Zod c s g).val=some (Zi c s g))/\(n=27->(Zn6 c s g).val=some (Zi c s g))/\(n=33->(Zn0 c s g).val=some (Zi c s g))/\(n=38->(ZnV c s g).val=some (Zi c s g))/\(n=42->(ZnR c s g).val=some (Zi c s g))/\(n=47->(ZnM c s g).val=some (Zi c s g))/\(n=5->(ZDI c s g).val=some (Zi c s g))/\(n=9->(ZDE c s g).val=some (Zi c s g))/\(n=16->(ZwD c s g).val=some (Zi c s g))/\(n=20->(Zwz c s g).val=some (Zi c s g))/\(n=27->(Zws c s g).val=some (Zi c s g))/\(n=33->(Zwm c s g).val=some (Zi c s g))/\(n=38->(Zwh c s g).val=some (Zi c s g))/\(n=42->(Zwd c s g).val=some (Zi c s g))/\(n=47->(Zv8 c s g).val=some (Zi c s g)):=by
 refine⟨?_,?_,?_,?_,?_,?_,?_,?_,?_,?_,?_,?_,?_,?_,?_,?_,?_,?_⟩;all_goals intro e;subst e
 all_goals simp only[Ztk,Ztg,Zoh,Zod,Zn6,Zn0,ZnV,ZnR,ZnM,ZDI,ZDE,ZwD,Zwz,Zws,Zwm,Zwh,Zwd,Zv8,RT.val,fin3,pk]
 all_goals simp only[qat0,mat0,qat1,mat1,rg0,hk,ZH,Zaq,Za4,Z9,Zaa,ZV,ZW,Zct,Zcv,ZaQ,ZG,Zbw,Zi,ZeS,ZX,Zbn]
 all_goals generalize Zd s=bi
 all_goals generalize (s==5)=bs
 all_goals cases g with
 |nil=>cases bi<;>cases bs<;>simp[Zo9,ZbW,pcOf,spOf,ZcM]
 |cons o t=>
  simp only[YE] at hk;simp only[len0,YE,ZgP,hk,Zcm,Zbn,ZX,Zfl,bne];generalize Zc c.1 o=i at hk|-;cases bi<;>cases bs<;>simp[ZbX,ZcM,popX,pcOf,spOf,opC,ZiD,Zd6,Zci,ZgH,ZdN,setI,R.get]
theorem nx_5 (c) (s:Int) (g:List Int) (n:Int) (hk:(Zc c.1 (g.getD 0 0)).1=n):(n=2->(Ztn c s g).val=some (Zi c s g))/\(n=2->(ZDL c s g).val=some (Zi c s g)):=by
 refine⟨?_,?_⟩;all_goals intro e;subst e
 all_goals simp only[Ztn,ZDL,RT.val,fin3,pk]
 all_goals simp only[qat0,mat0,qat1,mat1,rg0,hk,ZH,Zaq,Za4,Z9,Zaa,ZV,ZW,Zct,Zcv,ZaQ,ZG,Zbw,Zi,ZeS,ZX,Zbn]
 all_goals generalize Zd s=bi
 all_goals generalize (s==5)=bs
 all_goals cases g with
 |nil=>cases bi<;>cases bs<;>simp[Zo9,ZbW,pcOf,spOf,ZcM]
 |cons o t=>
  simp only[YE] at hk;simp only[len0,YE,ZgP,hk,Zcm,Zbn,ZX,Zfl,bne];generalize Zc c.1 o=i at hk|-;generalize (i.2.2.2.1==6)=b0;generalize (i.2.2.1==6)=b1;cases b0<;>cases b1<;>cases bi<;>cases bs<;>simp[ZbX,ZcM,popX,pcOf,spOf,opC,ZiD,Zd6,Zci,ZgH,ZdN,setI,R.get]
theorem nx_7 (c) (s:Int) (g:List Int) (n:Int) (hk:(Zc c.1 (g.getD 0 0)).1=n):(n=12->(Zol c s g).val=some (Zi c s g))/\(n=12->(ZwH c s g).val=some (Zi c s g)):=by
 refine⟨?_,?_⟩;all_goals intro e;subst e
 all_goals simp only[Zol,ZwH,RT.val,fin3,pk]
 all_goals simp only[qat0,mat0,qat1,mat1,rg0,hk,ZH,Zaq,Za4,Z9,Zaa,ZV,ZW,Zct,Zcv,ZaQ,ZG,Zbw,Zi,ZeS,ZX,Zbn]
 all_goals generalize Zd s=bi
 all_goals generalize (s==5)=bs
 all_goals cases g with
 |nil=>cases bi<;>cases bs<;>simp[Zo9,ZbW,pcOf,spOf,ZcM]
 |cons o t=>
  simp only[YE] at hk;simp only[len0,YE,ZgP,hk,Zcm,Zbn,ZX,Zfl,bne];generalize Zc c.1 o=i at hk|-;generalize (i.2.2.2.1==6)=b0;cases b0<;>cases bi<;>cases bs<;>simp[ZbX,ZcM,popX,pcOf,spOf,opC,ZiD,Zd6,Zci,ZgH,ZdN,setI,R.get]
theorem nx_9 (c) (s:Int) (g:List Int) (n:Int) (hk:(Zc c.1 (g.getD 0 0)).1=n):(n=26->(Zn7 c s g).val=some (Zi c s g))/\(n=45->(ZnO c s g).val=some (Zi c s g))/\(n=26->(Zwt c s g).val=some (Zi c s g))/\(n=45->(Zwa c s g).val=some (Zi c s g)):=by
 refine⟨?_,?_,?_,?_⟩;all_goals intro e;subst e
 all_goals simp only[Zn7,ZnO,Zwt,Zwa,RT.val,fin3,pk]
 all_goals simp only[qat0,mat0,qat1,mat1,rg0,hk,ZH,Zaq,Za4,Z9,Zaa,ZV,ZW,Zct,Zcv,ZaQ,ZG,Zbw,Zi,ZeS,ZX,Zbn]
 all_goals generalize Zd s=bi
 all_goals generalize (s==5)=bs
 all_goals cases g with
 |nil=>cases bi<;>cases bs<;>simp[Zo9,ZbW,pcOf,spOf,ZcM]
 |cons o t=>
  simp only[YE] at hk;simp only[len0,YE,ZgP,hk,Zcm,Zbn,ZX,Zfl,bne];generalize Zc c.1 o=i at hk|-;generalize ZfX _ _=b0;cases b0<;>cases bi<;>cases bs<;>simp[ZbX,ZcM,popX,pcOf,spOf,opC,ZiD,Zd6,Zci,ZgH,ZdN,setI,R.get]
theorem nx_11 (c) (s:Int) (g:List Int) (n:Int) (hk:(Zc c.1 (g.getD 0 0)).1=n):(n=32->(Zn1 c s g).val=some (Zi c s g))/\(n=37->(ZnW c s g).val=some (Zi c s g))/\(n=32->(Zwn c s g).val=some (Zi c s g))/\(n=37->(Zwi c s g).val=some (Zi c s g)):=by
 refine⟨?_,?_,?_,?_⟩;all_goals intro e;subst e
 all_goals simp only[Zn1,ZnW,Zwn,Zwi,RT.val,fin3,pk]
 all_goals simp only[qat0,mat0,qat1,mat1,rg0,hk,ZH,Zaq,Za4,Z9,Zaa,ZV,ZW,Zct,Zcv,ZaQ,ZG,Zbw,Zi,ZeS,ZX,Zbn]
 all_goals generalize Zd s=bi
 all_goals generalize (s==5)=bs
 all_goals cases g with
 |nil=>cases bi<;>cases bs<;>simp[Zo9,ZbW,pcOf,spOf,ZcM]
 |cons o t=>
  simp only[YE] at hk;simp only[len0,YE,ZgP,hk,Zcm,Zbn,ZX,Zfl,bne];generalize Zc c.1 o=i at hk|-;generalize (c.1==2)=b0;cases b0<;>cases bi<;>cases bs<;>simp[ZbX,ZcM,popX,pcOf,spOf,opC,ZiD,Zd6,Zci,ZgH,ZdN,setI,R.get]
theorem ZQ6 (a:HL Zv) (h:okHL Zv a):∃l,ZdW Tryz.prog l/\(ZgM (envX Tryz.prog l [] 1125900980585471 8) Tryz.f82 Zv ZBc a).val=some (Zi a.1 a.2.1 a.2.2):=by
 have hk:=ZNR a.1.1 _ (ZN9 h.2.2);refine⟨ZL5 (Zc a.1.1 (a.2.2.getD 0 0)).1,ZL4 _,?_⟩;show (EV1 _ a).val=_;have n1:=nx_1 a.1 a.2.1 a.2.2;have n5:=nx_5 a.1 a.2.1 a.2.2;have n6:=nx_6 a.1 a.2.1 a.2.2;have n2:=nx_2 a.1 a.2.1 a.2.2;have n3:=nx_3 a.1 a.2.1 a.2.2;have n4:=nx_4 a.1 a.2.1 a.2.2;have n7:=nx_7 a.1 a.2.1 a.2.2;have n8:=nx_8 a.1 a.2.1 a.2.2;have n9:=nx_9 a.1 a.2.1 a.2.2;have n10:=nx_10 a.1 a.2.1 a.2.2;have n11:=nx_11 a.1 a.2.1 a.2.2;rcases ZNQ hk.1 hk.2 with e|e|e|e|e|e|e|e|e|e|e|e|e|e|e|e|e|e|e|e|e|e|e|e|e|e|e|e|e|e|e|e|e|e|e|e|e|e|e|e|e|e|e|e|e|e|e
 ·rw[e,ZGV a,((n1 _ e).1 rfl)]
 ·rw[e,ZGU a,((n5 _ e).1 rfl)]
 ·rw[e,ZGT a,((n6 _ e).1 rfl)]
 ·rw[e,ZGS a,((n2 _ e).1 rfl)]
 ·rw[e,ZGR a,((n3 _ e).1 rfl)]
 ·rw[e,ZGQ a,((n4 _ e).1 rfl)]
 ·rw[e,ZGP a,((n1 _ e).2.1 rfl)]
 ·rw[e,ZGO a,((n2 _ e).2.1 rfl)]
 ·rw[e,ZGN a,((n3 _ e).2.1 rfl)]
 ·rw[e,ZBb a,((n4 _ e).2.1 rfl)]
 ·rw[e,ZBa a,((n1 _ e).2.2.1 rfl)]
 ·rw[e,ZA9 a,((n7 _ e).1 rfl)]
 ·rw[e,ZA8 a,((n2 _ e).2.2.1 rfl)]
 ·rw[e,ZA7 a,((n6 _ e).2.1 rfl)]
 ·rw[e,ZA6 a,((n6 _ e).2.2.1 rfl)]
 ·rw[e,ZA5 a,((n3 _ e).2.2.1 rfl)]
 ·rw[e,ZA4 a,((n4 _ e).2.2.1 rfl)]
 ·rw[e,ZA3 a,((n1 _ e).2.2.2.1 rfl)]
 ·rw[e,ZA2 a,((n2 _ e).2.2.2.1 rfl)]
 ·rw[e,ZA1 a,((n3 _ e).2.2.2.1 rfl)]
 ·rw[e,ZA0 a,((n4 _ e).2.2.2.1 rfl)]
 ·rw[e,ZAZ a,((n1 _ e).2.2.2.2.1 rfl)]
 ·rw[e,ZAY a,((n2 _ e).2.2.2.2.1 rfl)]
 ·rw[e,ZAX a,((n8 _ e).1 rfl)]
 ·rw[e,ZAW a,((n8 _ e).2.1 rfl)]
 ·rw[e,ZAV a,((n9 _ e).1 rfl)]
 ·rw[e,ZAU a,((n3 _ e).2.2.2.2.1 rfl)]
 ·rw[e,ZAT a,((n4 _ e).2.2.2.2.1 rfl)]
 ·rw[e,ZAS a,((n1 _ e).2.2.2.2.2.1 rfl)]
 ·rw[e,ZAR a,((n10 _ e).1 rfl)]
 ·rw[e,ZAQ a,((n2 _ e).2.2.2.2.2.1 rfl)]
 ·rw[e,ZAP a,((n11 _ e).1 rfl)]
 ·rw[e,ZAO a,((n3 _ e).2.2.2.2.2.1 rfl)]
 ·rw[e,ZAN a,((n4 _ e).2.2.2.2.2.1 rfl)]
 ·rw[e,ZAM a,((n1 _ e).2.2.2.2.2.2.1 rfl)]
 ·rw[e,ZAL a,((n2 _ e).2.2.2.2.2.2.1 rfl)]
 ·rw[e,ZAK a,((n11 _ e).2.1 rfl)]
 ·rw[e,ZAJ a,((n3 _ e).2.2.2.2.2.2.1 rfl)]
 ·rw[e,ZAI a,((n4 _ e).2.2.2.2.2.2.1 rfl)]
 ·rw[e,ZAH a,((n1 _ e).2.2.2.2.2.2.2.1 rfl)]
 ·rw[e,ZAG a,((n2 _ e).2.2.2.2.2.2.2.1 rfl)]
 ·rw[e,ZAF a,((n3 _ e).2.2.2.2.2.2.2.1 rfl)]
 ·rw[e,ZAE a,((n4 _ e).2.2.2.2.2.2.2.1 rfl)]
 ·rw[e,ZAD a,((n1 _ e).2.2.2.2.2.2.2.2.1 rfl)]
 ·rw[e,ZAC a,((n9 _ e).2.1 rfl)]
 ·rw[e,ZAB a,((n2 _ e).2.2.2.2.2.2.2.2.1 rfl)]
 ·rw[e,ZAA a,((n3 _ e).2.2.2.2.2.2.2.2.1 rfl)]
def Zoo:En:=Zh Zv ZBc (λ_=>none) (λa=>Zi a.1 a.2.1 a.2.2)
theorem Zi4:Zb Tryz.prog 82 Zoo:=ZDX Tryz.func82 rfl (by kernel_rfl) Tryz.call82 λa h _=>ZQ6 a h
end
end Go.Proofs.YtpnjbfjomebppaaGreat
open Go.IntKind (u8 u16 i64)
namespace Go.Proofs.YtpnjbfjomebppaaGreat
noncomputable section
def wPC (r:RegT) (v:Int):RegT:=(r.1,r.2.1,r.2.2.1,r.2.2.2.1,r.2.2.2.2.1,r.2.2.2.2.2.1,r.2.2.2.2.2.2.1,r.2.2.2.2.2.2.2.1,r.2.2.2.2.2.2.2.2.1,v)
def wSP (r:RegT) (v:Int):RegT:=(r.1,r.2.1,r.2.2.1,r.2.2.2.1,r.2.2.2.2.1,r.2.2.2.2.2.1,r.2.2.2.2.2.2.1,r.2.2.2.2.2.2.2.1,v,r.2.2.2.2.2.2.2.2.2)
def wA (r:RegT) (v:Int):RegT:=(v,r.2)
def wF (r:RegT) (f:FlgT):RegT:=(r.1,r.2.1,r.2.2.1,r.2.2.2.1,r.2.2.2.2.1,r.2.2.2.2.2.1,r.2.2.2.2.2.2.1,f,r.2.2.2.2.2.2.2.2)
def fCY (f:FlgT) (b:Bool):FlgT:=(f.1,f.2.1,f.2.2.1,f.2.2.2.1,f.2.2.2.2.1,f.2.2.2.2.2.1,b)
def fVCY (f:FlgT) (v b:Bool):FlgT:=(f.1,f.2.1,f.2.2.1,f.2.2.2.1,f.2.2.2.2.1,v,b)
def Zgg (r:RegT):Int:=r.2.2.2.2.2.2.2.2.1
def flOf (r:RegT):FlgT:=r.2.2.2.2.2.2.2.1
def finR (c:CpuT) (r r0:RegT) (g:List Int) (i:InsT):RegT:=
 let dst:=i.2.2.1
 let src:=i.2.2.2.1
 let pr:=i.2.2.2.2.1
 let op:=i.2.2.2.2.2.1
 let g1:=g.getD 1 0
 let tk:=ZfX i.2.2.2.2.2.2.1 (flOf r)
 bif i.1==2 then rSet r0 dst (bif src==6 then g1 else rGet r src) else
 bif i.1==3 then rSet r0 dst g1 else
 bif i.1==4 then ZY r0 pr (Zci g 1) else
 bif i.1==5 then wA r0 (g.getD 3 0) else
 bif i.1==7 then ZY r0 2 (Zci g 3) else
 bif i.1==9 then wA r0 g1 else
 bif i.1==11 then (r0.1,r0.2.1,r0.2.2.1,r0.2.2.2.2.2.1,r0.2.2.2.2.2.2.1,r0.2.2.2.1,r0.2.2.2.2.1,r0.2.2.2.2.2.2.2) else
 bif i.1==12 then (let q:=rDo c.1 op r.1 (bif src==6 then g1 else rGet r src) (flOf r);wA (wF r0 q.2) q.1) else
 bif i.1==13 then (let q:=rDo c.1 op r.1 g1 (flOf r);wA (wF r0 q.2) q.1) else
 bif i.1==14 then (let q:=rInr c.1 (bif dst==6 then g1 else rGet r dst) (flOf r);rSet (wF r0 q.2) dst q.1) else
 bif i.1==15 then (let q:=rDcr c.1 (bif dst==6 then g1 else rGet r dst) (flOf r);rSet (wF r0 q.2) dst q.1) else
 bif i.1==16 then (let q:=rInx c.1 (ZbG r pr) (flOf r);ZY (wF r0 q.2) pr q.1) else
 bif i.1==17 then (let q:=rDcx c.1 (ZbG r pr) (flOf r);ZY (wF r0 q.2) pr q.1) else
 bif i.1==18 then (let q:=rDad c.1 (ZbG r 2) (ZbG r pr) (flOf r);ZY (wF r0 q.2) 2 q.1) else
 bif i.1==19 then (let q:=rDaa c.1 r.1 (flOf r);wA (wF r0 q.2) q.1) else
 bif i.1==20 then wA r0 (notI .u8 r.1) else
 bif i.1==21 then wF r0 (fCY (flOf r) true) else
 bif i.1==22 then wF r0 (fCY (flOf r) (!(flOf r).2.2.2.2.2.2)) else
 bif i.1==23 then (let q:=rRot op r.1 (flOf r).2.2.2.2.2.2;wA (wF r0 (fCY (flOf r) q.2)) q.1) else
 bif i.1==24 then (bif tk then wPC r0 (Zci g 1) else r0) else
 bif i.1==25 then (bif tk then wPC (wSP r0 (IntKind.wrap .u16 (Zgg r-2))) (Zci g 1) else r0) else
 bif i.1==26 then (bif tk then wPC (wSP r0 (IntKind.wrap .u16 (Zgg r+2))) (Zci g 1) else r0) else
 bif i.1==27 then wPC (wSP r0 (IntKind.wrap .u16 (Zgg r-2))) (IntKind.wrap .u16 (IntKind.wrap .i64 (8*i.2.2.2.2.2.2.2))) else
 bif i.1==28 then wPC r0 (ZbG r 2) else
 bif i.1==29 then wSP r0 (ZbG r 2) else
 bif i.1==30 then wSP r0 (IntKind.wrap .u16 (Zgg r-2)) else
 bif i.1==31 then (let q:=bif pr==3 then Zm2 c.1 r0 (Zci g 1) else ZY r0 pr (Zci g 1);wSP q (IntKind.wrap .u16 (Zgg q+2))) else
 bif i.1==32 then ZY r0 2 (Zci g 1) else
 bif i.1==33 then wA r0 (g.getD 2 0) else
 bif i.1==40 then (let q:=ZKy (ZbG r 2) (ZbG r 0);ZY (wF r0 q.2) 2 q.1) else
 bif i.1==41 then (let q:=ZQq (ZbG r 2);ZY (wF r0 (fCY (flOf r) q.2)) 2 q.1) else
 bif i.1==42 then (let q:=ZKf (ZbG r 1) (flOf r).2.2.2.2.2.2;ZY (wF r0 (fVCY (flOf r) q.2.2 q.2.1)) 1 q.1) else
 bif i.1==43 then ZY r0 1 (IntKind.wrap .u16 (ZbG r 2+IntKind.wrap .u16 g1)) else
 bif i.1==44 then ZY r0 1 (IntKind.wrap .u16 (Zgg r+IntKind.wrap .u16 g1)) else
 bif i.1==45 then (bif tk then wPC (wSP r0 (IntKind.wrap .u16 (Zgg r-2))) 64 else r0) else
 bif i.1==47 then ZY r0 2 (Zci g 1) else
 r0
def finI (c:CpuT) (inj:Bool) (g:List Int) (l:QT1) (i:InsT):CpuT:=
 let r0:=wPC c.2.1 (ZX c inj i)
 let d:CpuT:=(c.1,r0,c.2.2.1,false,false,c.2.2.2.2.2)
 bif i.1==38 then (let q:=rRim d l;(q.2.1,wA q.2.2.1 q.1,q.2.2.2)) else
 bif i.1==39 then rSim d c.2.1.1 else
 (c.1,finR c c.2.1 r0 g i,bif i.1==35 then true else bif i.1==36 then false else c.2.2.1,i.1==35,i.1==37,c.2.2.2.2.2)
def finX (c:CpuT) (s:Int) (g:List Int) (l:QT1):CpuT:=
 bif Zd s then (c.1,wPC (wSP c.2.1 (IntKind.wrap .u16 (spOf c-2))) (Zx s),c.2.2)
 else finI c (s==5) g l (Zc c.1 (g.getD 0 0))
theorem ZSU (c:CpuT) (l):(rRim c l).2=(c.1,c.2.1,c.2.2.1,c.2.2.2.1,c.2.2.2.2.1,c.2.2.2.2.2.1,c.2.2.2.2.2.2.1,c.2.2.2.2.2.2.2.1,c.2.2.2.2.2.2.2.2.1,c.2.2.2.2.2.2.2.2.2.1,false,false,c.2.2.2.2.2.2.2.2.2.2.2.2):=by
 have h3:∀b,ZaC b 3=true:=λb=>by cases b<;>rfl
 have h4:∀b,ZaC b 4=true:=λb=>by cases b<;>rfl
 have h5:∀b,ZaC b 5=true:=λb=>by cases b<;>rfl
 have h6:∀b,ZaC b 6=true:=λb=>by cases b<;>rfl
 have h7:∀b,ZaC b 7=true:=λb=>by cases b<;>rfl
 simp only[rRim,ZQe,RT.val,h3,h4,h5,h6,h7,Yf,Yi,Ya,getO]
theorem ZhF (s):Zgq s=true/\ZiN s=bif (s.2.2.2.1.1==13||s.2.2.2.1.2.2.2.1==6) then s.2.2.1.getD 1 0 else rGet s.1.2.1 s.2.2.2.1.2.2.2.1:=by simp only[Zgq,ZiN,ZiM,RT.val,qat1,Za4];cases (s.2.2.2.1.1==13||s.2.2.2.1.2.2.2.1==6)<;>simp[okB,getO]
