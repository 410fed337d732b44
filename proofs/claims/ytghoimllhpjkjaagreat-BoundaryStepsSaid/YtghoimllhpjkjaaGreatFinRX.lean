import Derived.Test.YtghoimllhpjkjaaGreatKind47
import Derived.Test.YtghoimllhpjkjaaGreatNext1
import Derived.Test.YtghoimllhpjkjaaGreatNext2
import Derived.Test.YtghoimllhpjkjaaGreatNext3
import Derived.Test.YtghoimllhpjkjaaGreatNext4
open Go Go.S3 Go.Proofs
set_option linter.unusedVariables false
set_option linter.unusedSimpArgs false
set_option maxRecDepth 100000
namespace Go.Proofs.YtghoimllhpjkjaaGreat
noncomputable section
theorem nx_2 (c) (s:Int) (g:List Int) (n:Int) (hk:(Zb c.1 (g.getD 0 0)).1=n):(n=4->(ZuV c s g).val=some (Zh c s g))/\(n=8->(ZuR c s g).val=some (Zh c s g))/\(n=13->(ZoJ c s g).val=some (Zh c s g))/\(n=19->(ZoD c s g).val=some (Zh c s g))/\(n=23->(Zoz c s g).val=some (Zh c s g))/\(n=31->(Zor c s g).val=some (Zh c s g))/\(n=36->(Zom c s g).val=some (Zh c s g))/\(n=41->(Zoh c s g).val=some (Zh c s g))/\(n=46->(Zoc c s g).val=some (Zh c s g))/\(n=4->(Ztu c s g).val=some (Zh c s g))/\(n=8->(Ztq c s g).val=some (Zh c s g))/\(n=13->(ZnB c s g).val=some (Zh c s g))/\(n=19->(Znv c s g).val=some (Zh c s g))/\(n=23->(Znr c s g).val=some (Zh c s g))/\(n=31->(Znj c s g).val=some (Zh c s g))/\(n=36->(Zne c s g).val=some (Zh c s g))/\(n=41->(Zm9 c s g).val=some (Zh c s g))/\(n=46->(Zm4 c s g).val=some (Zh c s g)):=by
 refine⟨?_,?_,?_,?_,?_,?_,?_,?_,?_,?_,?_,?_,?_,?_,?_,?_,?_,?_⟩;all_goals intro e;subst e
 all_goals simp only[ZuV,ZuR,ZoJ,ZoD,Zoz,Zor,Zom,Zoh,Zoc,Ztu,Ztq,ZnB,Znv,Znr,Znj,Zne,Zm9,Zm4,RT.val,fin3,pk]
 all_goals simp only[qat0,mat0,qat1,mat1,rg0,hk,Zs,Z2,Zad,ZI,ZJ,Zw,Zx,ZaP,ZaT,ZaQ,Zr,ZaR,Zh,ZeC,ZK,Zbk]
 all_goals generalize Zc s=bi
 all_goals generalize (s==5)=bs
 all_goals cases g with
 |nil=>cases bi<;>cases bs<;>simp[Zpz,ZbR,pcOf,spOf,ZbQ]
 |cons o t=>
  simp only[YC] at hk;simp only[len0,YC,ZfS,hk,Zcf,Zbk,ZK,Zfm,bne];generalize Zb c.1 o=i at hk|-;cases bi<;>cases bs<;>simp[ZbS,ZbQ,popX,pcOf,spOf,opC,ZhV,ZdA,Zbd,ZgM,Zb3,setI,R.get]
theorem nx_4 (c) (s:Int) (g:List Int) (n:Int) (hk:(Zb c.1 (g.getD 0 0)).1=n):(n=6->(ZuT c s g).val=some (Zh c s g))/\(n=10->(ZoM c s g).val=some (Zh c s g))/\(n=17->(ZoF c s g).val=some (Zh c s g))/\(n=21->(ZoB c s g).val=some (Zh c s g))/\(n=28->(Zou c s g).val=some (Zh c s g))/\(n=34->(Zoo c s g).val=some (Zh c s g))/\(n=39->(Zoj c s g).val=some (Zh c s g))/\(n=43->(Zof c s g).val=some (Zh c s g))/\(n=6->(Zts c s g).val=some (Zh c s g))/\(n=10->(ZnE c s g).val=some (Zh c s g))/\(n=17->(Znx c s g).val=some (Zh c s g))/\(n=21->(Znt c s g).val=some (Zh c s g))/\(n=28->(Znm c s g).val=some (Zh c s g))/\(n=34->(Zng c s g).val=some (Zh c s g))/\(n=39->(Znb c s g).val=some (Zh c s g))/\(n=43->(Zm7 c s g).val=some (Zh c s g)):=by
 refine⟨?_,?_,?_,?_,?_,?_,?_,?_,?_,?_,?_,?_,?_,?_,?_,?_⟩;all_goals intro e;subst e
 all_goals simp only[ZuT,ZoM,ZoF,ZoB,Zou,Zoo,Zoj,Zof,Zts,ZnE,Znx,Znt,Znm,Zng,Znb,Zm7,RT.val,fin3,pk]
 all_goals simp only[qat0,mat0,qat1,mat1,rg0,hk,Zs,Z2,Zad,ZI,ZJ,Zw,Zx,ZaP,ZaT,ZaQ,Zr,ZaR,Zh,ZeC,ZK,Zbk]
 all_goals generalize Zc s=bi
 all_goals generalize (s==5)=bs
 all_goals cases g with
 |nil=>cases bi<;>cases bs<;>simp[Zpz,ZbR,pcOf,spOf,ZbQ]
 |cons o t=>
  simp only[YC] at hk;simp only[len0,YC,ZfS,hk,Zcf,Zbk,ZK,Zfm,bne];generalize Zb c.1 o=i at hk|-;cases bi<;>cases bs<;>simp[ZbS,ZbQ,popX,pcOf,spOf,opC,ZhV,ZdA,Zbd,ZgM,Zb3,setI,R.get]
theorem nx_6 (c) (s:Int) (g:List Int) (n:Int) (hk:(Zb c.1 (g.getD 0 0)).1=n):(n=3->(ZuW c s g).val=some (Zh c s g))/\(n=14->(ZoI c s g).val=some (Zh c s g))/\(n=15->(ZoH c s g).val=some (Zh c s g))/\(n=3->(Ztv c s g).val=some (Zh c s g))/\(n=14->(ZnA c s g).val=some (Zh c s g))/\(n=15->(Znz c s g).val=some (Zh c s g)):=by
 refine⟨?_,?_,?_,?_,?_,?_⟩;all_goals intro e;subst e
 all_goals simp only[ZuW,ZoI,ZoH,Ztv,ZnA,Znz,RT.val,fin3,pk]
 all_goals simp only[qat0,mat0,qat1,mat1,rg0,hk,Zs,Z2,Zad,ZI,ZJ,Zw,Zx,ZaP,ZaT,ZaQ,Zr,ZaR,Zh,ZeC,ZK,Zbk]
 all_goals generalize Zc s=bi
 all_goals generalize (s==5)=bs
 all_goals cases g with
 |nil=>cases bi<;>cases bs<;>simp[Zpz,ZbR,pcOf,spOf,ZbQ]
 |cons o t=>
  simp only[YC] at hk;simp only[len0,YC,ZfS,hk,Zcf,Zbk,ZK,Zfm,bne];generalize Zb c.1 o=i at hk|-;generalize (i.2.2.1==6)=b0;cases b0<;>cases bi<;>cases bs<;>simp[ZbS,ZbQ,popX,pcOf,spOf,opC,ZhV,ZdA,Zbd,ZgM,Zb3,setI,R.get]
theorem nx_8 (c) (s:Int) (g:List Int) (n:Int) (hk:(Zb c.1 (g.getD 0 0)).1=n):(n=24->(Zoy c s g).val=some (Zh c s g))/\(n=25->(Zox c s g).val=some (Zh c s g))/\(n=24->(Znq c s g).val=some (Zh c s g))/\(n=25->(Znp c s g).val=some (Zh c s g)):=by
 refine⟨?_,?_,?_,?_⟩;all_goals intro e;subst e
 all_goals simp only[Zoy,Zox,Znq,Znp,RT.val,fin3,pk]
 all_goals simp only[qat0,mat0,qat1,mat1,rg0,hk,Zs,Z2,Zad,ZI,ZJ,Zw,Zx,ZaP,ZaT,ZaQ,Zr,ZaR,Zh,ZeC,ZK,Zbk]
 all_goals generalize Zc s=bi
 all_goals generalize (s==5)=bs
 all_goals cases g with
 |nil=>cases bi<;>cases bs<;>simp[Zpz,ZbR,pcOf,spOf,ZbQ]
 |cons o t=>
  simp only[YC] at hk;simp only[len0,YC,ZfS,hk,Zcf,Zbk,ZK,Zfm,bne];generalize Zb c.1 o=i at hk|-;generalize ZeI _ _=b0;generalize (c.1==2)=b1;cases b0<;>cases b1<;>cases bi<;>cases bs<;>simp[ZbS,ZbQ,popX,pcOf,spOf,opC,ZhV,ZdA,Zbd,ZgM,Zb3,setI,R.get]
theorem Z2x (c) (s:Int) (g:List Int) (n:Int) (hk:(Zb c.1 (g.getD 0 0)).1=n):(n=30->(Zos c s g).val=some (Zh c s g))/\(n=30->(Znk c s g).val=some (Zh c s g)):=by
 refine⟨?_,?_⟩;all_goals intro e;subst e
 all_goals simp only[Zos,Znk,RT.val,fin3,pk]
 all_goals simp only[qat0,mat0,qat1,mat1,rg0,hk,Zs,Z2,Zad,ZI,ZJ,Zw,Zx,ZaP,ZaT,ZaQ,Zr,ZaR,Zh,ZeC,ZK,Zbk]
 all_goals generalize Zc s=bi
 all_goals generalize (s==5)=bs
 all_goals cases g with
 |nil=>cases bi<;>cases bs<;>simp[Zpz,ZbR,pcOf,spOf,ZbQ]
 |cons o t=>
  simp only[YC] at hk;simp only[len0,YC,ZfS,hk,Zcf,Zbk,ZK,Zfm,bne];generalize Zb c.1 o=i at hk|-;generalize (i.2.2.2.2.1==3)=b0;cases b0<;>cases bi<;>cases bs<;>simp[ZbS,ZbQ,popX,pcOf,spOf,opC,ZhV,ZdA,Zbd,ZgM,Zb3,setI,R.get]
theorem nx_1 (c) (s:Int) (g:List Int) (n:Int) (hk:(Zb c.1 (g.getD 0 0)).1=n):(n=1->(ZuY c s g).val=some (Zh c s g))/\(n=7->(ZuS c s g).val=some (Zh c s g))/\(n=11->(ZoL c s g).val=some (Zh c s g))/\(n=18->(ZoE c s g).val=some (Zh c s g))/\(n=22->(ZoA c s g).val=some (Zh c s g))/\(n=29->(Zot c s g).val=some (Zh c s g))/\(n=35->(Zon c s g).val=some (Zh c s g))/\(n=40->(Zoi c s g).val=some (Zh c s g))/\(n=44->(Zoe c s g).val=some (Zh c s g))/\(n=1->(Ztx c s g).val=some (Zh c s g))/\(n=7->(Ztr c s g).val=some (Zh c s g))/\(n=11->(ZnD c s g).val=some (Zh c s g))/\(n=18->(Znw c s g).val=some (Zh c s g))/\(n=22->(Zns c s g).val=some (Zh c s g))/\(n=29->(Znl c s g).val=some (Zh c s g))/\(n=35->(Znf c s g).val=some (Zh c s g))/\(n=40->(Zna c s g).val=some (Zh c s g))/\(n=44->(Zm6 c s g).val=some (Zh c s g)):=by
 refine⟨?_,?_,?_,?_,?_,?_,?_,?_,?_,?_,?_,?_,?_,?_,?_,?_,?_,?_⟩;all_goals intro e;subst e
 all_goals simp only[ZuY,ZuS,ZoL,ZoE,ZoA,Zot,Zon,Zoi,Zoe,Ztx,Ztr,ZnD,Znw,Zns,Znl,Znf,Zna,Zm6,RT.val,fin3,pk]
 all_goals simp only[qat0,mat0,qat1,mat1,rg0,hk,Zs,Z2,Zad,ZI,ZJ,Zw,Zx,ZaP,ZaT,ZaQ,Zr,ZaR,Zh,ZeC,ZK,Zbk]
 all_goals generalize Zc s=bi
 all_goals generalize (s==5)=bs
 all_goals cases g with
 |nil=>cases bi<;>cases bs<;>simp[Zpz,ZbR,pcOf,spOf,ZbQ]
 |cons o t=>
  simp only[YC] at hk;simp only[len0,YC,ZfS,hk,Zcf,Zbk,ZK,Zfm,bne];generalize Zb c.1 o=i at hk|-;cases bi<;>cases bs<;>simp[ZbS,ZbQ,popX,pcOf,spOf,opC,ZhV,ZdA,Zbd,ZgM,Zb3,setI,R.get]
theorem nx_3 (c) (s:Int) (g:List Int) (n:Int) (hk:(Zb c.1 (g.getD 0 0)).1=n):(n=5->(ZuU c s g).val=some (Zh c s g))/\(n=9->(ZuQ c s g).val=some (Zh c s g))/\(n=16->(ZoG c s g).val=some (Zh c s g))/\(n=20->(ZoC c s g).val=some (Zh c s g))/\(n=27->(Zov c s g).val=some (Zh c s g))/\(n=33->(Zop c s g).val=some (Zh c s g))/\(n=38->(Zok c s g).val=some (Zh c s g))/\(n=42->(Zog c s g).val=some (Zh c s g))/\(n=47->(Zob c s g).val=some (Zh c s g))/\(n=5->(Ztt c s g).val=some (Zh c s g))/\(n=9->(Ztp c s g).val=some (Zh c s g))/\(n=16->(Zny c s g).val=some (Zh c s g))/\(n=20->(Znu c s g).val=some (Zh c s g))/\(n=27->(Znn c s g).val=some (Zh c s g))/\(n=33->(Znh c s g).val=some (Zh c s g))/\(n=38->(Znc c s g).val=some (Zh c s g))/\(n=42->(Zm8 c s g).val=some (Zh c s g))/\(n=47->(Zm3 c s g).val=some (Zh c s g)):=by
 refine⟨?_,?_,?_,?_,?_,?_,?_,?_,?_,?_,?_,?_,?_,?_,?_,?_,?_,?_⟩;all_goals intro e;subst e
 all_goals simp only[ZuU,ZuQ,ZoG,ZoC,Zov,Zop,Zok,Zog,Zob,Ztt,Ztp,Zny,Znu,Znn,Znh,Znc,Zm8,Zm3,RT.val,fin3,pk]
 all_goals simp only[qat0,mat0,qat1,mat1,rg0,hk,Zs,Z2,Zad,ZI,ZJ,Zw,Zx,ZaP,ZaT,ZaQ,Zr,ZaR,Zh,ZeC,ZK,Zbk]
 all_goals generalize Zc s=bi
 all_goals generalize (s==5)=bs
 all_goals cases g with
 |nil=>cases bi<;>cases bs<;>simp[Zpz,ZbR,pcOf,spOf,ZbQ]
 |cons o t=>
  simp only[YC] at hk;simp only[len0,YC,ZfS,hk,Zcf,Zbk,ZK,Zfm,bne];generalize Zb c.1 o=i at hk|-;cases bi<;>cases bs<;>simp[ZbS,ZbQ,popX,pcOf,spOf,opC,ZhV,ZdA,Zbd,ZgM,Zb3,setI,R.get]
theorem nx_5 (c) (s:Int) (g:List Int) (n:Int) (hk:(Zb c.1 (g.getD 0 0)).1=n):(n=2->(ZuX c s g).val=some (Zh c s g))/\(n=2->(Ztw c s g).val=some (Zh c s g)):=by
 refine⟨?_,?_⟩;all_goals intro e;subst e
 all_goals simp only[ZuX,Ztw,RT.val,fin3,pk]
 all_goals simp only[qat0,mat0,qat1,mat1,rg0,hk,Zs,Z2,Zad,ZI,ZJ,Zw,Zx,ZaP,ZaT,ZaQ,Zr,ZaR,Zh,ZeC,ZK,Zbk]
 all_goals generalize Zc s=bi
 all_goals generalize (s==5)=bs
 all_goals cases g with
 |nil=>cases bi<;>cases bs<;>simp[Zpz,ZbR,pcOf,spOf,ZbQ]
 |cons o t=>
  simp only[YC] at hk;simp only[len0,YC,ZfS,hk,Zcf,Zbk,ZK,Zfm,bne];generalize Zb c.1 o=i at hk|-;generalize (i.2.2.2.1==6)=b0;generalize (i.2.2.1==6)=b1;cases b0<;>cases b1<;>cases bi<;>cases bs<;>simp[ZbS,ZbQ,popX,pcOf,spOf,opC,ZhV,ZdA,Zbd,ZgM,Zb3,setI,R.get]
theorem nx_7 (c) (s:Int) (g:List Int) (n:Int) (hk:(Zb c.1 (g.getD 0 0)).1=n):(n=12->(ZoK c s g).val=some (Zh c s g))/\(n=12->(ZnC c s g).val=some (Zh c s g)):=by
 refine⟨?_,?_⟩;all_goals intro e;subst e
 all_goals simp only[ZoK,ZnC,RT.val,fin3,pk]
 all_goals simp only[qat0,mat0,qat1,mat1,rg0,hk,Zs,Z2,Zad,ZI,ZJ,Zw,Zx,ZaP,ZaT,ZaQ,Zr,ZaR,Zh,ZeC,ZK,Zbk]
 all_goals generalize Zc s=bi
 all_goals generalize (s==5)=bs
 all_goals cases g with
 |nil=>cases bi<;>cases bs<;>simp[Zpz,ZbR,pcOf,spOf,ZbQ]
 |cons o t=>
  simp only[YC] at hk;simp only[len0,YC,ZfS,hk,Zcf,Zbk,ZK,Zfm,bne];generalize Zb c.1 o=i at hk|-;generalize (i.2.2.2.1==6)=b0;cases b0<;>cases bi<;>cases bs<;>simp[ZbS,ZbQ,popX,pcOf,spOf,opC,ZhV,ZdA,Zbd,ZgM,Zb3,setI,R.get]
theorem nx_9 (c) (s:Int) (g:List Int) (n:Int) (hk:(Zb c.1 (g.getD 0 0)).1=n):(n=26->(Zow c s g).val=some (Zh c s g))/\(n=45->(Zod c s g).val=some (Zh c s g))/\(n=26->(Zno c s g).val=some (Zh c s g))/\(n=45->(Zm5 c s g).val=some (Zh c s g)):=by
 refine⟨?_,?_,?_,?_⟩;all_goals intro e;subst e
 all_goals simp only[Zow,Zod,Zno,Zm5,RT.val,fin3,pk]
 all_goals simp only[qat0,mat0,qat1,mat1,rg0,hk,Zs,Z2,Zad,ZI,ZJ,Zw,Zx,ZaP,ZaT,ZaQ,Zr,ZaR,Zh,ZeC,ZK,Zbk]
 all_goals generalize Zc s=bi
 all_goals generalize (s==5)=bs
 all_goals cases g with
 |nil=>cases bi<;>cases bs<;>simp[Zpz,ZbR,pcOf,spOf,ZbQ]
 |cons o t=>
  simp only[YC] at hk;simp only[len0,YC,ZfS,hk,Zcf,Zbk,ZK,Zfm,bne];generalize Zb c.1 o=i at hk|-;generalize ZeI _ _=b0;cases b0<;>cases bi<;>cases bs<;>simp[ZbS,ZbQ,popX,pcOf,spOf,opC,ZhV,ZdA,Zbd,ZgM,Zb3,setI,R.get]
theorem Z2w (c) (s:Int) (g:List Int) (n:Int) (hk:(Zb c.1 (g.getD 0 0)).1=n):(n=32->(Zoq c s g).val=some (Zh c s g))/\(n=37->(Zol c s g).val=some (Zh c s g))/\(n=32->(Zni c s g).val=some (Zh c s g))/\(n=37->(Znd c s g).val=some (Zh c s g)):=by
 refine⟨?_,?_,?_,?_⟩;all_goals intro e;subst e
 all_goals simp only[Zoq,Zol,Zni,Znd,RT.val,fin3,pk]
 all_goals simp only[qat0,mat0,qat1,mat1,rg0,hk,Zs,Z2,Zad,ZI,ZJ,Zw,Zx,ZaP,ZaT,ZaQ,Zr,ZaR,Zh,ZeC,ZK,Zbk]
 all_goals generalize Zc s=bi
 all_goals generalize (s==5)=bs
 all_goals cases g with
 |nil=>cases bi<;>cases bs<;>simp[Zpz,ZbR,pcOf,spOf,ZbQ]
 |cons o t=>
  simp only[YC] at hk;simp only[len0,YC,ZfS,hk,Zcf,Zbk,ZK,Zfm,bne];generalize Zb c.1 o=i at hk|-;generalize (c.1==2)=b0;cases b0<;>cases bi<;>cases bs<;>simp[ZbS,ZbQ,popX,pcOf,spOf,opC,ZhV,ZdA,Zbd,ZgM,Zb3,setI,R.get]
end
end Go.Proofs.YtghoimllhpjkjaaGreat
open Go.Proofs.Tryz (prog)
namespace Go.Proofs.YtghoimllhpjkjaaGreat
noncomputable section
theorem ZVp (a:HL ZB) (h:okHL ZB a):∃l,Zdg prog l/\(ZeW (envX prog l [] 1125900980585471 8) Tryz.f113 ZB ZDv a).val=some (Zh a.1 a.2.1 a.2.2):=by
 have hk:=Zwa a.1.1 _ (Zwg h.2.2);refine⟨ZQT (Zb a.1.1 (a.2.2.getD 0 0)).1,ZQS _,?_⟩;show (EV1 _ a).val=_;have n1:=nx_1 a.1 a.2.1 a.2.2;have n5:=nx_5 a.1 a.2.1 a.2.2;have n6:=nx_6 a.1 a.2.1 a.2.2;have n2:=nx_2 a.1 a.2.1 a.2.2;have n3:=nx_3 a.1 a.2.1 a.2.2;have n4:=nx_4 a.1 a.2.1 a.2.2;have n7:=nx_7 a.1 a.2.1 a.2.2;have n8:=nx_8 a.1 a.2.1 a.2.2;have n9:=nx_9 a.1 a.2.1 a.2.2;have n10:=Z2x a.1 a.2.1 a.2.2;have n11:=Z2w a.1 a.2.1 a.2.2;rcases Zv9 hk.1 hk.2 with e|e|e|e|e|e|e|e|e|e|e|e|e|e|e|e|e|e|e|e|e|e|e|e|e|e|e|e|e|e|e|e|e|e|e|e|e|e|e|e|e|e|e|e|e|e|e
 ·rw[e,ZKF a,((n1 _ e).1 rfl)]
 ·rw[e,ZKE a,((n5 _ e).1 rfl)]
 ·rw[e,ZKD a,((n6 _ e).1 rfl)]
 ·rw[e,ZKC a,((n2 _ e).1 rfl)]
 ·rw[e,ZKB a,((n3 _ e).1 rfl)]
 ·rw[e,ZKA a,((n4 _ e).1 rfl)]
 ·rw[e,ZKz a,((n1 _ e).2.1 rfl)]
 ·rw[e,ZKy a,((n2 _ e).2.1 rfl)]
 ·rw[e,ZKx a,((n3 _ e).2.1 rfl)]
 ·rw[e,ZDu a,((n4 _ e).2.1 rfl)]
 ·rw[e,ZDt a,((n1 _ e).2.2.1 rfl)]
 ·rw[e,ZDs a,((n7 _ e).1 rfl)]
 ·rw[e,ZDr a,((n2 _ e).2.2.1 rfl)]
 ·rw[e,ZDq a,((n6 _ e).2.1 rfl)]
 ·rw[e,ZDp a,((n6 _ e).2.2.1 rfl)]
 ·rw[e,ZDo a,((n3 _ e).2.2.1 rfl)]
 ·rw[e,ZDn a,((n4 _ e).2.2.1 rfl)]
 ·rw[e,ZDm a,((n1 _ e).2.2.2.1 rfl)]
 ·rw[e,ZDl a,((n2 _ e).2.2.2.1 rfl)]
 ·rw[e,ZDk a,((n3 _ e).2.2.2.1 rfl)]
 ·rw[e,ZDj a,((n4 _ e).2.2.2.1 rfl)]
 ·rw[e,ZDi a,((n1 _ e).2.2.2.2.1 rfl)]
 ·rw[e,ZDh a,((n2 _ e).2.2.2.2.1 rfl)]
 ·rw[e,ZDg a,((n8 _ e).1 rfl)]
 ·rw[e,ZDf a,((n8 _ e).2.1 rfl)]
 ·rw[e,ZDe a,((n9 _ e).1 rfl)]
 ·rw[e,ZDd a,((n3 _ e).2.2.2.2.1 rfl)]
 ·rw[e,ZDc a,((n4 _ e).2.2.2.2.1 rfl)]
 ·rw[e,ZDb a,((n1 _ e).2.2.2.2.2.1 rfl)]
 ·rw[e,ZDa a,((n10 _ e).1 rfl)]
 ·rw[e,ZC9 a,((n2 _ e).2.2.2.2.2.1 rfl)]
 ·rw[e,ZC8 a,((n11 _ e).1 rfl)]
 ·rw[e,ZC7 a,((n3 _ e).2.2.2.2.2.1 rfl)]
 ·rw[e,ZC6 a,((n4 _ e).2.2.2.2.2.1 rfl)]
 ·rw[e,ZC5 a,((n1 _ e).2.2.2.2.2.2.1 rfl)]
 ·rw[e,ZC4 a,((n2 _ e).2.2.2.2.2.2.1 rfl)]
 ·rw[e,ZC3 a,((n11 _ e).2.1 rfl)]
 ·rw[e,ZC2 a,((n3 _ e).2.2.2.2.2.2.1 rfl)]
 ·rw[e,ZC1 a,((n4 _ e).2.2.2.2.2.2.1 rfl)]
 ·rw[e,ZC0 a,((n1 _ e).2.2.2.2.2.2.2.1 rfl)]
 ·rw[e,ZCZ a,((n2 _ e).2.2.2.2.2.2.2.1 rfl)]
 ·rw[e,ZCY a,((n3 _ e).2.2.2.2.2.2.2.1 rfl)]
 ·rw[e,ZCX a,((n4 _ e).2.2.2.2.2.2.2.1 rfl)]
 ·rw[e,ZCW a,((n1 _ e).2.2.2.2.2.2.2.2.1 rfl)]
 ·rw[e,ZCV a,((n9 _ e).2.1 rfl)]
 ·rw[e,ZCU a,((n2 _ e).2.2.2.2.2.2.2.2.1 rfl)]
 ·rw[e,ZCT a,((n3 _ e).2.2.2.2.2.2.2.2.1 rfl)]
def ZrD:En:=Zg ZB ZDv (λ_=>none) (λa=>Zh a.1 a.2.1 a.2.2)
theorem ZlJ:Za prog 113 ZrD:=ZlE Tryz.func113 rfl (by kernel_rfl) Tryz.call113 λa h _=>ZVp a h
theorem ZUO (a:HL ZA) (h:okHL ZA a):∃l,Zdg prog l/\(ZeW (envX prog l [] 2047 8) Tryz.f42 ZA ZB3 a).val=some (Zh a.1 a.2.1 a.2.2):=by
 have hk:=Zwa a.1.1 _ (Zwg h.2.2);refine⟨ZO8 (Zb a.1.1 (a.2.2.getD 0 0)).1,ZO7 _,?_⟩;show (EV3 _ a).val=_;have n1:=nx_1 a.1 a.2.1 a.2.2;have n5:=nx_5 a.1 a.2.1 a.2.2;have n6:=nx_6 a.1 a.2.1 a.2.2;have n2:=nx_2 a.1 a.2.1 a.2.2;have n3:=nx_3 a.1 a.2.1 a.2.2;have n4:=nx_4 a.1 a.2.1 a.2.2;have n7:=nx_7 a.1 a.2.1 a.2.2;have n8:=nx_8 a.1 a.2.1 a.2.2;have n9:=nx_9 a.1 a.2.1 a.2.2;have n10:=Z2x a.1 a.2.1 a.2.2;have n11:=Z2w a.1 a.2.1 a.2.2;rcases Zv9 hk.1 hk.2 with e|e|e|e|e|e|e|e|e|e|e|e|e|e|e|e|e|e|e|e|e|e|e|e|e|e|e|e|e|e|e|e|e|e|e|e|e|e|e|e|e|e|e|e|e|e|e
 ·rw[e,ZJy a,((n1 _ e).2.2.2.2.2.2.2.2.2.1 rfl)]
 ·rw[e,ZJx a,((n5 _ e).2 rfl)]
 ·rw[e,ZJw a,((n6 _ e).2.2.2.1 rfl)]
 ·rw[e,ZJv a,((n2 _ e).2.2.2.2.2.2.2.2.2.1 rfl)]
 ·rw[e,ZJu a,((n3 _ e).2.2.2.2.2.2.2.2.2.1 rfl)]
 ·rw[e,ZJt a,((n4 _ e).2.2.2.2.2.2.2.2.1 rfl)]
 ·rw[e,ZJs a,((n1 _ e).2.2.2.2.2.2.2.2.2.2.1 rfl)]
 ·rw[e,ZJr a,((n2 _ e).2.2.2.2.2.2.2.2.2.2.1 rfl)]
 ·rw[e,ZJq a,((n3 _ e).2.2.2.2.2.2.2.2.2.2.1 rfl)]
 ·rw[e,ZB2 a,((n4 _ e).2.2.2.2.2.2.2.2.2.1 rfl)]
 ·rw[e,ZB1 a,((n1 _ e).2.2.2.2.2.2.2.2.2.2.2.1 rfl)]
 ·rw[e,ZB0 a,((n7 _ e).2 rfl)]
 ·rw[e,ZBZ a,((n2 _ e).2.2.2.2.2.2.2.2.2.2.2.1 rfl)]
 ·rw[e,ZBY a,((n6 _ e).2.2.2.2.1 rfl)]
 ·rw[e,ZBX a,((n6 _ e).2.2.2.2.2 rfl)]
 ·rw[e,ZBW a,((n3 _ e).2.2.2.2.2.2.2.2.2.2.2.1 rfl)]
 ·rw[e,ZBV a,((n4 _ e).2.2.2.2.2.2.2.2.2.2.1 rfl)]
 ·rw[e,ZBU a,((n1 _ e).2.2.2.2.2.2.2.2.2.2.2.2.1 rfl)]
 ·rw[e,ZBT a,((n2 _ e).2.2.2.2.2.2.2.2.2.2.2.2.1 rfl)]
 ·rw[e,ZBS a,((n3 _ e).2.2.2.2.2.2.2.2.2.2.2.2.1 rfl)]
 ·rw[e,ZBR a,((n4 _ e).2.2.2.2.2.2.2.2.2.2.2.1 rfl)]
 ·rw[e,ZBQ a,((n1 _ e).2.2.2.2.2.2.2.2.2.2.2.2.2.1 rfl)]
 ·rw[e,ZBP a,((n2 _ e).2.2.2.2.2.2.2.2.2.2.2.2.2.1 rfl)]
 ·rw[e,ZBO a,((n8 _ e).2.2.1 rfl)]
 ·rw[e,ZBN a,((n8 _ e).2.2.2 rfl)]
 ·rw[e,ZBM a,((n9 _ e).2.2.1 rfl)]
 ·rw[e,ZBL a,((n3 _ e).2.2.2.2.2.2.2.2.2.2.2.2.2.1 rfl)]
 ·rw[e,ZBK a,((n4 _ e).2.2.2.2.2.2.2.2.2.2.2.2.1 rfl)]
 ·rw[e,ZBJ a,((n1 _ e).2.2.2.2.2.2.2.2.2.2.2.2.2.2.1 rfl)]
 ·rw[e,ZBI a,((n10 _ e).2 rfl)]
 ·rw[e,ZBH a,((n2 _ e).2.2.2.2.2.2.2.2.2.2.2.2.2.2.1 rfl)]
 ·rw[e,ZBG a,((n11 _ e).2.2.1 rfl)]
 ·rw[e,ZBF a,((n3 _ e).2.2.2.2.2.2.2.2.2.2.2.2.2.2.1 rfl)]
 ·rw[e,ZBE a,((n4 _ e).2.2.2.2.2.2.2.2.2.2.2.2.2.1 rfl)]
 ·rw[e,ZBD a,((n1 _ e).2.2.2.2.2.2.2.2.2.2.2.2.2.2.2.1 rfl)]
 ·rw[e,ZBC a,((n2 _ e).2.2.2.2.2.2.2.2.2.2.2.2.2.2.2.1 rfl)]
 ·rw[e,ZBB a,((n11 _ e).2.2.2 rfl)]
 ·rw[e,ZBA a,((n3 _ e).2.2.2.2.2.2.2.2.2.2.2.2.2.2.2.1 rfl)]
 ·rw[e,ZBz a,((n4 _ e).2.2.2.2.2.2.2.2.2.2.2.2.2.2.1 rfl)]
 ·rw[e,ZBy a,((n1 _ e).2.2.2.2.2.2.2.2.2.2.2.2.2.2.2.2.1 rfl)]
 ·rw[e,ZBx a,((n2 _ e).2.2.2.2.2.2.2.2.2.2.2.2.2.2.2.2.1 rfl)]
 ·rw[e,ZBw a,((n3 _ e).2.2.2.2.2.2.2.2.2.2.2.2.2.2.2.2.1 rfl)]
 ·rw[e,ZBv a,((n4 _ e).2.2.2.2.2.2.2.2.2.2.2.2.2.2.2 rfl)]
 ·rw[e,ZBu a,((n1 _ e).2.2.2.2.2.2.2.2.2.2.2.2.2.2.2.2.2 rfl)]
 ·rw[e,ZBt a,((n9 _ e).2.2.2 rfl)]
 ·rw[e,ZBs a,((n2 _ e).2.2.2.2.2.2.2.2.2.2.2.2.2.2.2.2.2 rfl)]
 ·rw[e,ZBr a,((n3 _ e).2.2.2.2.2.2.2.2.2.2.2.2.2.2.2.2.2 rfl)]
def Zrn:En:=Zg ZA ZB3 (λ_=>none) (λa=>Zh a.1 a.2.1 a.2.2)
theorem ZiJ:Za prog 42 Zrn:=ZlE Tryz.func42 rfl (by kernel_rfl) Tryz.call42 λa h _=>ZUO a h
end
end Go.Proofs.YtghoimllhpjkjaaGreat
open Go.IntKind (u8 u16 i64)
namespace Go.Proofs.YtghoimllhpjkjaaGreat
noncomputable section
def wPC (r:RegT) (v:Int):RegT:=(r.1,r.2.1,r.2.2.1,r.2.2.2.1,r.2.2.2.2.1,r.2.2.2.2.2.1,r.2.2.2.2.2.2.1,r.2.2.2.2.2.2.2.1,r.2.2.2.2.2.2.2.2.1,v)
def wSP (r:RegT) (v:Int):RegT:=(r.1,r.2.1,r.2.2.1,r.2.2.2.1,r.2.2.2.2.1,r.2.2.2.2.2.1,r.2.2.2.2.2.2.1,r.2.2.2.2.2.2.2.1,v,r.2.2.2.2.2.2.2.2.2)
def wA (r:RegT) (v:Int):RegT:=(v,r.2)
def wF (r:RegT) (f:FlgT):RegT:=(r.1,r.2.1,r.2.2.1,r.2.2.2.1,r.2.2.2.2.1,r.2.2.2.2.2.1,r.2.2.2.2.2.2.1,f,r.2.2.2.2.2.2.2.2)
def fCY (f:FlgT) (b:Bool):FlgT:=(f.1,f.2.1,f.2.2.1,f.2.2.2.1,f.2.2.2.2.1,f.2.2.2.2.2.1,b)
def fVCY (f:FlgT) (v b:Bool):FlgT:=(f.1,f.2.1,f.2.2.1,f.2.2.2.1,f.2.2.2.2.1,v,b)
def ZcZ (r:RegT):Int:=r.2.2.2.2.2.2.2.2.1
def flOf (r:RegT):FlgT:=r.2.2.2.2.2.2.2.1
def finR (c:CpuT) (r r0:RegT) (g:List Int) (i:InsT):RegT:=
 let dst:=i.2.2.1
 let src:=i.2.2.2.1
 let pr:=i.2.2.2.2.1
 let op:=i.2.2.2.2.2.1
 let g1:=g.getD 1 0
 let tk:=ZeI i.2.2.2.2.2.2.1 (flOf r)
 bif i.1==2 then rSet r0 dst (bif src==6 then g1 else rGet r src) else
 bif i.1==3 then rSet r0 dst g1 else
 bif i.1==4 then Zn r0 pr (Zbd g 1) else
 bif i.1==5 then wA r0 (g.getD 3 0) else
 bif i.1==7 then Zn r0 2 (Zbd g 3) else
 bif i.1==9 then wA r0 g1 else
 bif i.1==11 then (r0.1,r0.2.1,r0.2.2.1,r0.2.2.2.2.2.1,r0.2.2.2.2.2.2.1,r0.2.2.2.1,r0.2.2.2.2.1,r0.2.2.2.2.2.2.2) else
 bif i.1==12 then (let q:=rDo c.1 op r.1 (bif src==6 then g1 else rGet r src) (flOf r);wA (wF r0 q.2) q.1) else
 bif i.1==13 then (let q:=rDo c.1 op r.1 g1 (flOf r);wA (wF r0 q.2) q.1) else
 bif i.1==14 then (let q:=rInr c.1 (bif dst==6 then g1 else rGet r dst) (flOf r);rSet (wF r0 q.2) dst q.1) else
 bif i.1==15 then (let q:=rDcr c.1 (bif dst==6 then g1 else rGet r dst) (flOf r);rSet (wF r0 q.2) dst q.1) else
 bif i.1==16 then (let q:=rInx c.1 (Zak r pr) (flOf r);Zn (wF r0 q.2) pr q.1) else
 bif i.1==17 then (let q:=rDcx c.1 (Zak r pr) (flOf r);Zn (wF r0 q.2) pr q.1) else
 bif i.1==18 then (let q:=rDad c.1 (Zak r 2) (Zak r pr) (flOf r);Zn (wF r0 q.2) 2 q.1) else
 bif i.1==19 then (let q:=rDaa c.1 r.1 (flOf r);wA (wF r0 q.2) q.1) else
 bif i.1==20 then wA r0 (notI .u8 r.1) else
 bif i.1==21 then wF r0 (fCY (flOf r) true) else
 bif i.1==22 then wF r0 (fCY (flOf r) (!(flOf r).2.2.2.2.2.2)) else
 bif i.1==23 then (let q:=rRot op r.1 (flOf r).2.2.2.2.2.2;wA (wF r0 (fCY (flOf r) q.2)) q.1) else
 bif i.1==24 then (bif tk then wPC r0 (Zbd g 1) else r0) else
 bif i.1==25 then (bif tk then wPC (wSP r0 (IntKind.wrap .u16 (ZcZ r-2))) (Zbd g 1) else r0) else
 bif i.1==26 then (bif tk then wPC (wSP r0 (IntKind.wrap .u16 (ZcZ r+2))) (Zbd g 1) else r0) else
 bif i.1==27 then wPC (wSP r0 (IntKind.wrap .u16 (ZcZ r-2))) (IntKind.wrap .u16 (IntKind.wrap .i64 (8*i.2.2.2.2.2.2.2))) else
 bif i.1==28 then wPC r0 (Zak r 2) else
 bif i.1==29 then wSP r0 (Zak r 2) else
 bif i.1==30 then wSP r0 (IntKind.wrap .u16 (ZcZ r-2)) else
 bif i.1==31 then (let q:=bif pr==3 then Zgp c.1 r0 (Zbd g 1) else Zn r0 pr (Zbd g 1);wSP q (IntKind.wrap .u16 (ZcZ q+2))) else
 bif i.1==32 then Zn r0 2 (Zbd g 1) else
 bif i.1==33 then wA r0 (g.getD 2 0) else
 bif i.1==40 then (let q:=Zyh (Zak r 2) (Zak r 0);Zn (wF r0 q.2) 2 q.1) else
 bif i.1==41 then (let q:=Zuk (Zak r 2);Zn (wF r0 (fCY (flOf r) q.2)) 2 q.1) else
 bif i.1==42 then (let q:=Zx4 (Zak r 1) (flOf r).2.2.2.2.2.2;Zn (wF r0 (fVCY (flOf r) q.2.2 q.2.1)) 1 q.1) else
 bif i.1==43 then Zn r0 1 (IntKind.wrap .u16 (Zak r 2+IntKind.wrap .u16 g1)) else
 bif i.1==44 then Zn r0 1 (IntKind.wrap .u16 (ZcZ r+IntKind.wrap .u16 g1)) else
 bif i.1==45 then (bif tk then wPC (wSP r0 (IntKind.wrap .u16 (ZcZ r-2))) 64 else r0) else
 bif i.1==47 then Zn r0 2 (Zbd g 1) else
 r0
def finI (c:CpuT) (inj:Bool) (g:List Int) (l:QT0) (i:InsT):CpuT:=
 let r0:=wPC c.2.1 (ZK c inj i)
 let d:CpuT:=(c.1,r0,c.2.2.1,false,false,c.2.2.2.2.2)
 bif i.1==38 then (let q:=rRim d l;(q.2.1,wA q.2.2.1 q.1,q.2.2.2)) else
 bif i.1==39 then rSim d c.2.1.1 else
 (c.1,finR c c.2.1 r0 g i,bif i.1==35 then true else bif i.1==36 then false else c.2.2.1,i.1==35,i.1==37,c.2.2.2.2.2)
def finX (c:CpuT) (s:Int) (g:List Int) (l:QT0):CpuT:=
 bif Zc s then (c.1,wPC (wSP c.2.1 (IntKind.wrap .u16 (spOf c-2))) (Zk s),c.2.2)
 else finI c (s==5) g l (Zb c.1 (g.getD 0 0))
theorem ZW3 (c:CpuT) (l):(rRim c l).2=(c.1,c.2.1,c.2.2.1,c.2.2.2.1,c.2.2.2.2.1,c.2.2.2.2.2.1,c.2.2.2.2.2.2.1,c.2.2.2.2.2.2.2.1,c.2.2.2.2.2.2.2.2.1,c.2.2.2.2.2.2.2.2.2.1,false,false,c.2.2.2.2.2.2.2.2.2.2.2.2):=by
 have h3:∀b,Zax b 3=true:=λb=>by cases b<;>rfl
 have h4:∀b,Zax b 4=true:=λb=>by cases b<;>rfl
 have h5:∀b,Zax b 5=true:=λb=>by cases b<;>rfl
 have h6:∀b,Zax b 6=true:=λb=>by cases b<;>rfl
 have h7:∀b,Zax b 7=true:=λb=>by cases b<;>rfl
 simp only[rRim,ZOD,RT.val,h3,h4,h5,h6,h7,Yf,Yj,Ya,getO]
theorem Zcy (s):Zgx s=true/\ZiQ s=bif (s.2.2.2.1.1==13||s.2.2.2.1.2.2.2.1==6) then s.2.2.1.getD 1 0 else rGet s.1.2.1 s.2.2.2.1.2.2.2.1:=by simp only[Zgx,ZiQ,ZiP,RT.val,qat1,Zad];cases (s.2.2.2.1.1==13||s.2.2.2.1.2.2.2.1==6)<;>simp[okB,getO]
theorem Zgi (r:RegT) (f:FlgT) (pc n v:Int):rSet (r.1,r.2.1,r.2.2.1,r.2.2.2.1,r.2.2.2.2.1,r.2.2.2.2.2.1,r.2.2.2.2.2.2.1,f,r.2.2.2.2.2.2.2.2.1,pc) n v=
  ((rSet r n v).1,(rSet r n v).2.1,(rSet r n v).2.2.1,(rSet r n v).2.2.2.1,(rSet r n v).2.2.2.2.1,(rSet r n v).2.2.2.2.2.1,(rSet r n v).2.2.2.2.2.2.1,f,(rSet r n v).2.2.2.2.2.2.2.2.1,pc):=rfl
theorem Zgk (r:RegT) (n v:Int):(rSet r n v).2.2.2.2.2.2.2.1=r.2.2.2.2.2.2.2.1:=rfl
theorem Zgj (r:RegT) (n v:Int):(rSet r n v).2.2.2.2.2.2.2.2=r.2.2.2.2.2.2.2.2:=rfl
theorem ZkN (r:RegT) (f:FlgT) (pc n v:Int):Zn (r.1,r.2.1,r.2.2.1,r.2.2.2.1,r.2.2.2.2.1,r.2.2.2.2.2.1,r.2.2.2.2.2.2.1,f,r.2.2.2.2.2.2.2.2.1,pc) n v=
  ((Zn r n v).1,(Zn r n v).2.1,(Zn r n v).2.2.1,(Zn r n v).2.2.2.1,(Zn r n v).2.2.2.2.1,(Zn r n v).2.2.2.2.2.1,(Zn r n v).2.2.2.2.2.2.1,f,(Zn r n v).2.2.2.2.2.2.2.2.1,pc):=by simp only[Zn,Zgn,RT.val];cases (andI i64 n 3==3)<;>rfl
theorem ZkO (r:RegT) (n v:Int):(Zn r n v).2.2.2.2.2.2.2.1=r.2.2.2.2.2.2.2.1:=by simp only[Zn,Zgn,RT.val];cases (andI i64 n 3==3)<;>rfl
theorem ZZc (r:RegT) (f:FlgT) (sp pc n:Int):ZB9 (r.1,r.2.1,r.2.2.1,r.2.2.2.1,r.2.2.2.2.1,r.2.2.2.2.2.1,r.2.2.2.2.2.2.1,f,sp,pc) n=ZB9 r n:=rfl
theorem ZeF (r:RegT) (f:FlgT) (pc n:Int):Zak (r.1,r.2.1,r.2.2.1,r.2.2.2.1,r.2.2.2.2.1,r.2.2.2.2.2.1,r.2.2.2.2.2.2.1,f,r.2.2.2.2.2.2.2.2.1,pc) n=Zak r n:=by simp only[Zak,Zrj,RT.val,rGet,ZCb,ZZc]
theorem bnat {x:Int} (h:inR .u8 x):∃a:Nat,x=a/\a<256:=by rw[ZgL] at h;exact⟨x.toNat,by omega,by omega⟩
theorem w16 {n:Nat} (h:n<65536):IntKind.wrap .u16 (n:Int)=n:=Zl3 ⟨by simp[IntKind.min,IntKind.signed],by simp[IntKind.max,IntKind.signed,IntKind.bits];omega⟩
variable {h l:Int}
theorem ZIi (hh:inR .u8 h) (hl:inR .u8 l):ZcO h l=256*h+l:=by
 obtain⟨a,rfl,ha⟩:=bnat hh;obtain⟨b,rfl,hb⟩:=bnat hl;have e1:shlI .u16 (IntKind.wrap .u16 (a:Int)) 8=((a*256:Nat):Int):=by
  rw[w16 (by omega)];simp only[shlI];have:((a:Int)*2^min (8:Int).toNat u16.bits)=((a*256:Nat):Int):=by simp[IntKind.bits]
  rw[this,w16 (by omega)]
 have e2:(BitVec.ofInt u16.bits ((a*256:Nat):Int)|||BitVec.ofInt u16.bits (b:Int)).toNat=a*256+b:=by
  rw[BitVec.toNat_or,YaB,YaB];have k1:(((a*256:Nat):Int)%((2^u16.bits:Nat):Int)).toNat=a*256:=by simp[IntKind.bits];omega
  have k2:((b:Int)%((2^u16.bits:Nat):Int)).toNat=b:=by simp[IntKind.bits];omega
  rw[k1,k2];have:=Nat.shiftLeft_add_eq_or_of_lt (i:=8) (b:=b) (by omega) a;rw[Nat.shiftLeft_eq] at this;exact this.symm
 show orI .u16 (shlI .u16 (IntKind.wrap .u16 (a:Int)) 8) (IntKind.wrap .u16 (b:Int))=_;rw[e1,w16 (by omega)];simp only[orI];rw[e2,w16 (by omega)];omega
theorem Z0T (hh:inR .u8 h) (hl:inR .u8 l):IntKind.wrap .u8 (ZcO h l)=l:=by rw[ZIi hh hl];rw[ZgL] at hl;simp[IntKind.wrap,IntKind.signed,IntKind.bits];omega
theorem Z0U (hh:inR .u8 h) (hl:inR .u8 l):IntKind.wrap .u8 (shrI .u16 (ZcO h l) 8)=h:=by
 rw[ZIi hh hl];rw[ZgL] at hl hh;have:shrI .u16 (256*h+l) 8=h:=by
  simp only[shrI];have:((2:Int)^min (8:Int).toNat u16.bits)=256:=by decide
  rw[this,Int.fdiv_eq_ediv_of_nonneg _ (by decide)];omega
 rw[this];simp[IntKind.wrap,IntKind.signed,IntKind.bits];omega
theorem ZeE (r:RegT) (hh:inR .u8 h) (hl:inR .u8 l):Zn r 2 (ZcO h l)=(r.1,r.2.1,r.2.2.1,r.2.2.2.1,r.2.2.2.2.1,h,l,r.2.2.2.2.2.2.2):=by
 have e:Zn r 2 (ZcO h l)=(r.1,r.2.1,r.2.2.1,r.2.2.2.1,r.2.2.2.2.1,IntKind.wrap .u8 (shrI .u16 (ZcO h l) 8),IntKind.wrap .u8 (ZcO h l),r.2.2.2.2.2.2.2):=by generalize ZcO h l=v;rfl
 rw[e,Z0T hh hl,Z0U hh hl]
theorem ZkT (x:Int):IntKind.wrap .u8 (255-x)=notI .u8 x:=by
 have e:notI .u8 x=IntKind.wrap .u8 ((~~~ (BitVec.ofInt 8 x)).toNat:Int):=by
  show IntKind.wrap .u8 (((BitVec.ofInt 8 255)^^^(BitVec.ofInt 8 x)).toNat:Int)=_;have:BitVec.ofInt 8 255=BitVec.allOnes 8:=by decide
  rw[this,BitVec.allOnes_xor]
 have h1:(BitVec.ofInt 8 x).toNat=(x%256).toNat:=YaB ..;have h2:((x%256).toNat:Int)=x%256:=by omega
 rw[e,BitVec.toNat_not,h1];have h3:((2^8-1-(x%256).toNat:Nat):Int)=255-x%256:=by omega
 rw[h3];simp[IntKind.wrap,IntKind.signed,IntKind.bits]
end
end Go.Proofs.YtghoimllhpjkjaaGreat
