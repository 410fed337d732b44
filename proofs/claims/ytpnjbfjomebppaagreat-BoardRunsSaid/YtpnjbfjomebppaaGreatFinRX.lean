import Derived.Test.YtpnjbfjomebppaaGreatKind47
import Derived.Test.YtpnjbfjomebppaaGreatNext1
import Derived.Test.YtpnjbfjomebppaaGreatNext2
import Derived.Test.YtpnjbfjomebppaaGreatNext3
import Derived.Test.YtpnjbfjomebppaaGreatNext4
open Go Go.S3 Go.Proofs
set_option linter.unusedVariables false
set_option linter.unusedSimpArgs false
set_option maxRecDepth 100000
namespace Go.Proofs.YtpnjbfjomebppaaGreat
noncomputable section
theorem nx_2 (c) (s:Int) (g:List Int) (n:Int) (hk:(Zb c.1 (g.getD 0 0)).1=n):(n=4->(ZxC c s g).val=some (Zj c s g))/\(n=8->(Zxy c s g).val=some (Zj c s g))/\(n=13->(ZqM c s g).val=some (Zj c s g))/\(n=19->(ZqG c s g).val=some (Zj c s g))/\(n=23->(ZqC c s g).val=some (Zj c s g))/\(n=31->(Zqu c s g).val=some (Zj c s g))/\(n=36->(Zqp c s g).val=some (Zj c s g))/\(n=41->(Zqk c s g).val=some (Zj c s g))/\(n=46->(Zqf c s g).val=some (Zj c s g))/\(n=4->(ZvT c s g).val=some (Zj c s g))/\(n=8->(ZvP c s g).val=some (Zj c s g))/\(n=13->(Zpi c s g).val=some (Zj c s g))/\(n=19->(Zpc c s g).val=some (Zj c s g))/\(n=23->(Zo8 c s g).val=some (Zj c s g))/\(n=31->(Zo0 c s g).val=some (Zj c s g))/\(n=36->(ZoV c s g).val=some (Zj c s g))/\(n=41->(ZoQ c s g).val=some (Zj c s g))/\(n=46->(ZoL c s g).val=some (Zj c s g)):=by
 refine⟨?_,?_,?_,?_,?_,?_,?_,?_,?_,?_,?_,?_,?_,?_,?_,?_,?_,?_⟩;all_goals intro e;subst e
 all_goals simp only[ZxC,Zxy,ZqM,ZqG,ZqC,Zqu,Zqp,Zqk,Zqf,ZvT,ZvP,Zpi,Zpc,Zo8,Zo0,ZoV,ZoQ,ZoL,RT.val,fin3,pk]
 all_goals simp only[qat0,mat0,qat1,mat1,rg0,hk,Zs,Z2,Zaf,ZG,ZH,Zw,Zx,ZaT,ZaW,ZaU,Zr,ZaE,Zj,Zlh,ZK,ZbJ]
 all_goals generalize Zc s=bi
 all_goals generalize (s==5)=bs
 all_goals cases g with
 |nil=>cases bi<;>cases bs<;>simp[ZrC,Zcf,pcOf,spOf,ZdA]
 |cons o t=>
  simp only[Yz] at hk;simp only[len0,Yz,ZmF,hk,Zdy,ZbJ,ZK,ZgI,bne];generalize Zb c.1 o=i at hk|-;cases bi<;>cases bs<;>simp[Zcg,ZdA,popX,pcOf,spOf,opC,Zk3,Zfw,Zbk,Zi4,Zcp,setI,R.get]
theorem nx_4 (c) (s:Int) (g:List Int) (n:Int) (hk:(Zb c.1 (g.getD 0 0)).1=n):(n=6->(ZxA c s g).val=some (Zj c s g))/\(n=10->(ZqP c s g).val=some (Zj c s g))/\(n=17->(ZqI c s g).val=some (Zj c s g))/\(n=21->(ZqE c s g).val=some (Zj c s g))/\(n=28->(Zqx c s g).val=some (Zj c s g))/\(n=34->(Zqr c s g).val=some (Zj c s g))/\(n=39->(Zqm c s g).val=some (Zj c s g))/\(n=43->(Zqi c s g).val=some (Zj c s g))/\(n=6->(ZvR c s g).val=some (Zj c s g))/\(n=10->(Zpl c s g).val=some (Zj c s g))/\(n=17->(Zpe c s g).val=some (Zj c s g))/\(n=21->(Zpa c s g).val=some (Zj c s g))/\(n=28->(Zo3 c s g).val=some (Zj c s g))/\(n=34->(ZoX c s g).val=some (Zj c s g))/\(n=39->(ZoS c s g).val=some (Zj c s g))/\(n=43->(ZoO c s g).val=some (Zj c s g)):=by
 refine⟨?_,?_,?_,?_,?_,?_,?_,?_,?_,?_,?_,?_,?_,?_,?_,?_⟩;all_goals intro e;subst e
 all_goals simp only[ZxA,ZqP,ZqI,ZqE,Zqx,Zqr,Zqm,Zqi,ZvR,Zpl,Zpe,Zpa,Zo3,ZoX,ZoS,ZoO,RT.val,fin3,pk]
 all_goals simp only[qat0,mat0,qat1,mat1,rg0,hk,Zs,Z2,Zaf,ZG,ZH,Zw,Zx,ZaT,ZaW,ZaU,Zr,ZaE,Zj,Zlh,ZK,ZbJ]
 all_goals generalize Zc s=bi
 all_goals generalize (s==5)=bs
 all_goals cases g with
 |nil=>cases bi<;>cases bs<;>simp[ZrC,Zcf,pcOf,spOf,ZdA]
 |cons o t=>
  simp only[Yz] at hk;simp only[len0,Yz,ZmF,hk,Zdy,ZbJ,ZK,ZgI,bne];generalize Zb c.1 o=i at hk|-;cases bi<;>cases bs<;>simp[Zcg,ZdA,popX,pcOf,spOf,opC,Zk3,Zfw,Zbk,Zi4,Zcp,setI,R.get]
theorem nx_6 (c) (s:Int) (g:List Int) (n:Int) (hk:(Zb c.1 (g.getD 0 0)).1=n):(n=3->(ZxD c s g).val=some (Zj c s g))/\(n=14->(ZqL c s g).val=some (Zj c s g))/\(n=15->(ZqK c s g).val=some (Zj c s g))/\(n=3->(ZvU c s g).val=some (Zj c s g))/\(n=14->(Zph c s g).val=some (Zj c s g))/\(n=15->(Zpg c s g).val=some (Zj c s g)):=by
 refine⟨?_,?_,?_,?_,?_,?_⟩;all_goals intro e;subst e
 all_goals simp only[ZxD,ZqL,ZqK,ZvU,Zph,Zpg,RT.val,fin3,pk]
 all_goals simp only[qat0,mat0,qat1,mat1,rg0,hk,Zs,Z2,Zaf,ZG,ZH,Zw,Zx,ZaT,ZaW,ZaU,Zr,ZaE,Zj,Zlh,ZK,ZbJ]
 all_goals generalize Zc s=bi
 all_goals generalize (s==5)=bs
 all_goals cases g with
 |nil=>cases bi<;>cases bs<;>simp[ZrC,Zcf,pcOf,spOf,ZdA]
 |cons o t=>
  simp only[Yz] at hk;simp only[len0,Yz,ZmF,hk,Zdy,ZbJ,ZK,ZgI,bne];generalize Zb c.1 o=i at hk|-;generalize (i.2.2.1==6)=b0;cases b0<;>cases bi<;>cases bs<;>simp[Zcg,ZdA,popX,pcOf,spOf,opC,Zk3,Zfw,Zbk,Zi4,Zcp,setI,R.get]
theorem nx_8 (c) (s:Int) (g:List Int) (n:Int) (hk:(Zb c.1 (g.getD 0 0)).1=n):(n=24->(ZqB c s g).val=some (Zj c s g))/\(n=25->(ZqA c s g).val=some (Zj c s g))/\(n=24->(Zo7 c s g).val=some (Zj c s g))/\(n=25->(Zo6 c s g).val=some (Zj c s g)):=by
 refine⟨?_,?_,?_,?_⟩;all_goals intro e;subst e
 all_goals simp only[ZqB,ZqA,Zo7,Zo6,RT.val,fin3,pk]
 all_goals simp only[qat0,mat0,qat1,mat1,rg0,hk,Zs,Z2,Zaf,ZG,ZH,Zw,Zx,ZaT,ZaW,ZaU,Zr,ZaE,Zj,Zlh,ZK,ZbJ]
 all_goals generalize Zc s=bi
 all_goals generalize (s==5)=bs
 all_goals cases g with
 |nil=>cases bi<;>cases bs<;>simp[ZrC,Zcf,pcOf,spOf,ZdA]
 |cons o t=>
  simp only[Yz] at hk;simp only[len0,Yz,ZmF,hk,Zdy,ZbJ,ZK,ZgI,bne];generalize Zb c.1 o=i at hk|-;generalize Zfe _ _=b0;generalize (c.1==2)=b1;cases b0<;>cases b1<;>cases bi<;>cases bs<;>simp[Zcg,ZdA,popX,pcOf,spOf,opC,Zk3,Zfw,Zbk,Zi4,Zcp,setI,R.get]
theorem Z8y (c) (s:Int) (g:List Int) (n:Int) (hk:(Zb c.1 (g.getD 0 0)).1=n):(n=30->(Zqv c s g).val=some (Zj c s g))/\(n=30->(Zo1 c s g).val=some (Zj c s g)):=by
 refine⟨?_,?_⟩;all_goals intro e;subst e
 all_goals simp only[Zqv,Zo1,RT.val,fin3,pk]
 all_goals simp only[qat0,mat0,qat1,mat1,rg0,hk,Zs,Z2,Zaf,ZG,ZH,Zw,Zx,ZaT,ZaW,ZaU,Zr,ZaE,Zj,Zlh,ZK,ZbJ]
 all_goals generalize Zc s=bi
 all_goals generalize (s==5)=bs
 all_goals cases g with
 |nil=>cases bi<;>cases bs<;>simp[ZrC,Zcf,pcOf,spOf,ZdA]
 |cons o t=>
  simp only[Yz] at hk;simp only[len0,Yz,ZmF,hk,Zdy,ZbJ,ZK,ZgI,bne];generalize Zb c.1 o=i at hk|-;generalize (i.2.2.2.2.1==3)=b0;cases b0<;>cases bi<;>cases bs<;>simp[Zcg,ZdA,popX,pcOf,spOf,opC,Zk3,Zfw,Zbk,Zi4,Zcp,setI,R.get]
theorem nx_1 (c) (s:Int) (g:List Int) (n:Int) (hk:(Zb c.1 (g.getD 0 0)).1=n):(n=1->(ZxF c s g).val=some (Zj c s g))/\(n=7->(Zxz c s g).val=some (Zj c s g))/\(n=11->(ZqO c s g).val=some (Zj c s g))/\(n=18->(ZqH c s g).val=some (Zj c s g))/\(n=22->(ZqD c s g).val=some (Zj c s g))/\(n=29->(Zqw c s g).val=some (Zj c s g))/\(n=35->(Zqq c s g).val=some (Zj c s g))/\(n=40->(Zql c s g).val=some (Zj c s g))/\(n=44->(Zqh c s g).val=some (Zj c s g))/\(n=1->(ZvW c s g).val=some (Zj c s g))/\(n=7->(ZvQ c s g).val=some (Zj c s g))/\(n=11->(Zpk c s g).val=some (Zj c s g))/\(n=18->(Zpd c s g).val=some (Zj c s g))/\(n=22->(Zo9 c s g).val=some (Zj c s g))/\(n=29->(Zo2 c s g).val=some (Zj c s g))/\(n=35->(ZoW c s g).val=some (Zj c s g))/\(n=40->(ZoR c s g).val=some (Zj c s g))/\(n=44->(ZoN c s g).val=some (Zj c s g)):=by
 refine⟨?_,?_,?_,?_,?_,?_,?_,?_,?_,?_,?_,?_,?_,?_,?_,?_,?_,?_⟩;all_goals intro e;subst e
 all_goals simp only[ZxF,Zxz,ZqO,ZqH,ZqD,Zqw,Zqq,Zql,Zqh,ZvW,ZvQ,Zpk,Zpd,Zo9,Zo2,ZoW,ZoR,ZoN,RT.val,fin3,pk]
 all_goals simp only[qat0,mat0,qat1,mat1,rg0,hk,Zs,Z2,Zaf,ZG,ZH,Zw,Zx,ZaT,ZaW,ZaU,Zr,ZaE,Zj,Zlh,ZK,ZbJ]
 all_goals generalize Zc s=bi
 all_goals generalize (s==5)=bs
 all_goals cases g with
 |nil=>cases bi<;>cases bs<;>simp[ZrC,Zcf,pcOf,spOf,ZdA]
 |cons o t=>
  simp only[Yz] at hk;simp only[len0,Yz,ZmF,hk,Zdy,ZbJ,ZK,ZgI,bne];generalize Zb c.1 o=i at hk|-;cases bi<;>cases bs<;>simp[Zcg,ZdA,popX,pcOf,spOf,opC,Zk3,Zfw,Zbk,Zi4,Zcp,setI,R.get]
theorem nx_3 (c) (s:Int) (g:List Int) (n:Int) (hk:(Zb c.1 (g.getD 0 0)).1=n):(n=5->(ZxB c s g).val=some (Zj c s g))/\(n=9->(Zxx c s g).val=some (Zj c s g))/\(n=16->(ZqJ c s g).val=some (Zj c s g))/\(n=20->(ZqF c s g).val=some (Zj c s g))/\(n=27->(Zqy c s g).val=some (Zj c s g))/\(n=33->(Zqs c s g).val=some (Zj c s g))/\(n=38->(Zqn c s g).val=some (Zj c s g))/\(n=42->(Zqj c s g).val=some (Zj c s g))/\(n=47->(Zqe c s g).val=some (Zj c s g))/\(n=5->(ZvS c s g).val=some (Zj c s g))/\(n=9->(ZvO c s g).val=some (Zj c s g))/\(n=16->(Zpf c s g).val=some (Zj c s g))/\(n=20->(Zpb c s g).val=some (Zj c s g))/\(n=27->(Zo4 c s g).val=some (Zj c s g))/\(n=33->(ZoY c s g).val=some (Zj c s g))/\(n=38->(ZoT c s g).val=some (Zj c s g))/\(n=42->(ZoP c s g).val=some (Zj c s g))/\(n=47->(ZoK c s g).val=some (Zj c s g)):=by
 refine⟨?_,?_,?_,?_,?_,?_,?_,?_,?_,?_,?_,?_,?_,?_,?_,?_,?_,?_⟩;all_goals intro e;subst e
 all_goals simp only[ZxB,Zxx,ZqJ,ZqF,Zqy,Zqs,Zqn,Zqj,Zqe,ZvS,ZvO,Zpf,Zpb,Zo4,ZoY,ZoT,ZoP,ZoK,RT.val,fin3,pk]
 all_goals simp only[qat0,mat0,qat1,mat1,rg0,hk,Zs,Z2,Zaf,ZG,ZH,Zw,Zx,ZaT,ZaW,ZaU,Zr,ZaE,Zj,Zlh,ZK,ZbJ]
 all_goals generalize Zc s=bi
 all_goals generalize (s==5)=bs
 all_goals cases g with
 |nil=>cases bi<;>cases bs<;>simp[ZrC,Zcf,pcOf,spOf,ZdA]
 |cons o t=>
  simp only[Yz] at hk;simp only[len0,Yz,ZmF,hk,Zdy,ZbJ,ZK,ZgI,bne];generalize Zb c.1 o=i at hk|-;cases bi<;>cases bs<;>simp[Zcg,ZdA,popX,pcOf,spOf,opC,Zk3,Zfw,Zbk,Zi4,Zcp,setI,R.get]
theorem nx_5 (c) (s:Int) (g:List Int) (n:Int) (hk:(Zb c.1 (g.getD 0 0)).1=n):(n=2->(ZxE c s g).val=some (Zj c s g))/\(n=2->(ZvV c s g).val=some (Zj c s g)):=by
 refine⟨?_,?_⟩;all_goals intro e;subst e
 all_goals simp only[ZxE,ZvV,RT.val,fin3,pk]
 all_goals simp only[qat0,mat0,qat1,mat1,rg0,hk,Zs,Z2,Zaf,ZG,ZH,Zw,Zx,ZaT,ZaW,ZaU,Zr,ZaE,Zj,Zlh,ZK,ZbJ]
 all_goals generalize Zc s=bi
 all_goals generalize (s==5)=bs
 all_goals cases g with
 |nil=>cases bi<;>cases bs<;>simp[ZrC,Zcf,pcOf,spOf,ZdA]
 |cons o t=>
  simp only[Yz] at hk;simp only[len0,Yz,ZmF,hk,Zdy,ZbJ,ZK,ZgI,bne];generalize Zb c.1 o=i at hk|-;generalize (i.2.2.2.1==6)=b0;generalize (i.2.2.1==6)=b1;cases b0<;>cases b1<;>cases bi<;>cases bs<;>simp[Zcg,ZdA,popX,pcOf,spOf,opC,Zk3,Zfw,Zbk,Zi4,Zcp,setI,R.get]
theorem nx_7 (c) (s:Int) (g:List Int) (n:Int) (hk:(Zb c.1 (g.getD 0 0)).1=n):(n=12->(ZqN c s g).val=some (Zj c s g))/\(n=12->(Zpj c s g).val=some (Zj c s g)):=by
 refine⟨?_,?_⟩;all_goals intro e;subst e
 all_goals simp only[ZqN,Zpj,RT.val,fin3,pk]
 all_goals simp only[qat0,mat0,qat1,mat1,rg0,hk,Zs,Z2,Zaf,ZG,ZH,Zw,Zx,ZaT,ZaW,ZaU,Zr,ZaE,Zj,Zlh,ZK,ZbJ]
 all_goals generalize Zc s=bi
 all_goals generalize (s==5)=bs
 all_goals cases g with
 |nil=>cases bi<;>cases bs<;>simp[ZrC,Zcf,pcOf,spOf,ZdA]
 |cons o t=>
  simp only[Yz] at hk;simp only[len0,Yz,ZmF,hk,Zdy,ZbJ,ZK,ZgI,bne];generalize Zb c.1 o=i at hk|-;generalize (i.2.2.2.1==6)=b0;cases b0<;>cases bi<;>cases bs<;>simp[Zcg,ZdA,popX,pcOf,spOf,opC,Zk3,Zfw,Zbk,Zi4,Zcp,setI,R.get]
theorem nx_9 (c) (s:Int) (g:List Int) (n:Int) (hk:(Zb c.1 (g.getD 0 0)).1=n):(n=26->(Zqz c s g).val=some (Zj c s g))/\(n=45->(Zqg c s g).val=some (Zj c s g))/\(n=26->(Zo5 c s g).val=some (Zj c s g))/\(n=45->(ZoM c s g).val=some (Zj c s g)):=by
 refine⟨?_,?_,?_,?_⟩;all_goals intro e;subst e
 all_goals simp only[Zqz,Zqg,Zo5,ZoM,RT.val,fin3,pk]
 all_goals simp only[qat0,mat0,qat1,mat1,rg0,hk,Zs,Z2,Zaf,ZG,ZH,Zw,Zx,ZaT,ZaW,ZaU,Zr,ZaE,Zj,Zlh,ZK,ZbJ]
 all_goals generalize Zc s=bi
 all_goals generalize (s==5)=bs
 all_goals cases g with
 |nil=>cases bi<;>cases bs<;>simp[ZrC,Zcf,pcOf,spOf,ZdA]
 |cons o t=>
  simp only[Yz] at hk;simp only[len0,Yz,ZmF,hk,Zdy,ZbJ,ZK,ZgI,bne];generalize Zb c.1 o=i at hk|-;generalize Zfe _ _=b0;cases b0<;>cases bi<;>cases bs<;>simp[Zcg,ZdA,popX,pcOf,spOf,opC,Zk3,Zfw,Zbk,Zi4,Zcp,setI,R.get]
theorem Z8x (c) (s:Int) (g:List Int) (n:Int) (hk:(Zb c.1 (g.getD 0 0)).1=n):(n=32->(Zqt c s g).val=some (Zj c s g))/\(n=37->(Zqo c s g).val=some (Zj c s g))/\(n=32->(ZoZ c s g).val=some (Zj c s g))/\(n=37->(ZoU c s g).val=some (Zj c s g)):=by
 refine⟨?_,?_,?_,?_⟩;all_goals intro e;subst e
 all_goals simp only[Zqt,Zqo,ZoZ,ZoU,RT.val,fin3,pk]
 all_goals simp only[qat0,mat0,qat1,mat1,rg0,hk,Zs,Z2,Zaf,ZG,ZH,Zw,Zx,ZaT,ZaW,ZaU,Zr,ZaE,Zj,Zlh,ZK,ZbJ]
 all_goals generalize Zc s=bi
 all_goals generalize (s==5)=bs
 all_goals cases g with
 |nil=>cases bi<;>cases bs<;>simp[ZrC,Zcf,pcOf,spOf,ZdA]
 |cons o t=>
  simp only[Yz] at hk;simp only[len0,Yz,ZmF,hk,Zdy,ZbJ,ZK,ZgI,bne];generalize Zb c.1 o=i at hk|-;generalize (c.1==2)=b0;cases b0<;>cases bi<;>cases bs<;>simp[Zcg,ZdA,popX,pcOf,spOf,opC,Zk3,Zfw,Zbk,Zi4,Zcp,setI,R.get]
end
end Go.Proofs.YtpnjbfjomebppaaGreat
open Go.Proofs.Tryz (prog)
namespace Go.Proofs.YtpnjbfjomebppaaGreat
noncomputable section
theorem Z0M (a:HL ZB) (h:okHL ZB a):∃l,Zdp prog l/\(Zft (envX prog l [] 1125900980585471 8) Tryz.f82 ZB ZG7 a).val=some (Zj a.1 a.2.1 a.2.2):=by
 have hk:=ZyW a.1.1 _ (Zy0 h.2.2);refine⟨ZVD (Zb a.1.1 (a.2.2.getD 0 0)).1,ZVC _,?_⟩;show (EV1 _ a).val=_;have n1:=nx_1 a.1 a.2.1 a.2.2;have n5:=nx_5 a.1 a.2.1 a.2.2;have n6:=nx_6 a.1 a.2.1 a.2.2;have n2:=nx_2 a.1 a.2.1 a.2.2;have n3:=nx_3 a.1 a.2.1 a.2.2;have n4:=nx_4 a.1 a.2.1 a.2.2;have n7:=nx_7 a.1 a.2.1 a.2.2;have n8:=nx_8 a.1 a.2.1 a.2.2;have n9:=nx_9 a.1 a.2.1 a.2.2;have n10:=Z8y a.1 a.2.1 a.2.2;have n11:=Z8x a.1 a.2.1 a.2.2;rcases ZyV hk.1 hk.2 with e|e|e|e|e|e|e|e|e|e|e|e|e|e|e|e|e|e|e|e|e|e|e|e|e|e|e|e|e|e|e|e|e|e|e|e|e|e|e|e|e|e|e|e|e|e|e
 ·rw[e,ZOT a,((n1 _ e).1 rfl)]
 ·rw[e,ZOS a,((n5 _ e).1 rfl)]
 ·rw[e,ZOR a,((n6 _ e).1 rfl)]
 ·rw[e,ZOQ a,((n2 _ e).1 rfl)]
 ·rw[e,ZOP a,((n3 _ e).1 rfl)]
 ·rw[e,ZOO a,((n4 _ e).1 rfl)]
 ·rw[e,ZON a,((n1 _ e).2.1 rfl)]
 ·rw[e,ZOM a,((n2 _ e).2.1 rfl)]
 ·rw[e,ZOL a,((n3 _ e).2.1 rfl)]
 ·rw[e,ZG6 a,((n4 _ e).2.1 rfl)]
 ·rw[e,ZG5 a,((n1 _ e).2.2.1 rfl)]
 ·rw[e,ZG4 a,((n7 _ e).1 rfl)]
 ·rw[e,ZG3 a,((n2 _ e).2.2.1 rfl)]
 ·rw[e,ZG2 a,((n6 _ e).2.1 rfl)]
 ·rw[e,ZG1 a,((n6 _ e).2.2.1 rfl)]
 ·rw[e,ZG0 a,((n3 _ e).2.2.1 rfl)]
 ·rw[e,ZGZ a,((n4 _ e).2.2.1 rfl)]
 ·rw[e,ZGY a,((n1 _ e).2.2.2.1 rfl)]
 ·rw[e,ZGX a,((n2 _ e).2.2.2.1 rfl)]
 ·rw[e,ZGW a,((n3 _ e).2.2.2.1 rfl)]
 ·rw[e,ZGV a,((n4 _ e).2.2.2.1 rfl)]
 ·rw[e,ZGU a,((n1 _ e).2.2.2.2.1 rfl)]
 ·rw[e,ZGT a,((n2 _ e).2.2.2.2.1 rfl)]
 ·rw[e,ZGS a,((n8 _ e).1 rfl)]
 ·rw[e,ZGR a,((n8 _ e).2.1 rfl)]
 ·rw[e,ZGQ a,((n9 _ e).1 rfl)]
 ·rw[e,ZGP a,((n3 _ e).2.2.2.2.1 rfl)]
 ·rw[e,ZGO a,((n4 _ e).2.2.2.2.1 rfl)]
 ·rw[e,ZGN a,((n1 _ e).2.2.2.2.2.1 rfl)]
 ·rw[e,ZGM a,((n10 _ e).1 rfl)]
 ·rw[e,ZGL a,((n2 _ e).2.2.2.2.2.1 rfl)]
 ·rw[e,ZGK a,((n11 _ e).1 rfl)]
 ·rw[e,ZGJ a,((n3 _ e).2.2.2.2.2.1 rfl)]
 ·rw[e,ZGI a,((n4 _ e).2.2.2.2.2.1 rfl)]
 ·rw[e,ZGH a,((n1 _ e).2.2.2.2.2.2.1 rfl)]
 ·rw[e,ZGG a,((n2 _ e).2.2.2.2.2.2.1 rfl)]
 ·rw[e,ZGF a,((n11 _ e).2.1 rfl)]
 ·rw[e,ZGE a,((n3 _ e).2.2.2.2.2.2.1 rfl)]
 ·rw[e,ZGD a,((n4 _ e).2.2.2.2.2.2.1 rfl)]
 ·rw[e,ZGC a,((n1 _ e).2.2.2.2.2.2.2.1 rfl)]
 ·rw[e,ZGB a,((n2 _ e).2.2.2.2.2.2.2.1 rfl)]
 ·rw[e,ZGA a,((n3 _ e).2.2.2.2.2.2.2.1 rfl)]
 ·rw[e,ZGz a,((n4 _ e).2.2.2.2.2.2.2.1 rfl)]
 ·rw[e,ZGy a,((n1 _ e).2.2.2.2.2.2.2.2.1 rfl)]
 ·rw[e,ZGx a,((n9 _ e).2.1 rfl)]
 ·rw[e,ZGw a,((n2 _ e).2.2.2.2.2.2.2.2.1 rfl)]
 ·rw[e,ZGv a,((n3 _ e).2.2.2.2.2.2.2.2.1 rfl)]
def ZBN:En:=Zg ZB ZG7 (λ_=>none) (λa=>Zj a.1 a.2.1 a.2.2)
theorem Zxw:Za prog 82 ZBN:=Zna Tryz.func82 rfl (by kernel_rfl) Tryz.call82 λa h _=>Z0M a h
theorem ZZX (a:HL ZB) (h:okHL ZB a):∃l,Zdp prog l/\(Zft (envX prog l [] 2047 8) Tryz.f166 ZB ZG7 a).val=some (Zj a.1 a.2.1 a.2.2):=by
 have hk:=ZyW a.1.1 _ (Zy0 h.2.2);refine⟨ZTp (Zb a.1.1 (a.2.2.getD 0 0)).1,ZTo _,?_⟩;show (EV3 _ a).val=_;have n1:=nx_1 a.1 a.2.1 a.2.2;have n5:=nx_5 a.1 a.2.1 a.2.2;have n6:=nx_6 a.1 a.2.1 a.2.2;have n2:=nx_2 a.1 a.2.1 a.2.2;have n3:=nx_3 a.1 a.2.1 a.2.2;have n4:=nx_4 a.1 a.2.1 a.2.2;have n7:=nx_7 a.1 a.2.1 a.2.2;have n8:=nx_8 a.1 a.2.1 a.2.2;have n9:=nx_9 a.1 a.2.1 a.2.2;have n10:=Z8y a.1 a.2.1 a.2.2;have n11:=Z8x a.1 a.2.1 a.2.2;rcases ZyV hk.1 hk.2 with e|e|e|e|e|e|e|e|e|e|e|e|e|e|e|e|e|e|e|e|e|e|e|e|e|e|e|e|e|e|e|e|e|e|e|e|e|e|e|e|e|e|e|e|e|e|e
 ·rw[e,ZNB a,((n1 _ e).2.2.2.2.2.2.2.2.2.1 rfl)]
 ·rw[e,ZNA a,((n5 _ e).2 rfl)]
 ·rw[e,ZNz a,((n6 _ e).2.2.2.1 rfl)]
 ·rw[e,ZNy a,((n2 _ e).2.2.2.2.2.2.2.2.2.1 rfl)]
 ·rw[e,ZNx a,((n3 _ e).2.2.2.2.2.2.2.2.2.1 rfl)]
 ·rw[e,ZNw a,((n4 _ e).2.2.2.2.2.2.2.2.1 rfl)]
 ·rw[e,ZNv a,((n1 _ e).2.2.2.2.2.2.2.2.2.2.1 rfl)]
 ·rw[e,ZNu a,((n2 _ e).2.2.2.2.2.2.2.2.2.2.1 rfl)]
 ·rw[e,ZNt a,((n3 _ e).2.2.2.2.2.2.2.2.2.2.1 rfl)]
 ·rw[e,ZFf a,((n4 _ e).2.2.2.2.2.2.2.2.2.1 rfl)]
 ·rw[e,ZFe a,((n1 _ e).2.2.2.2.2.2.2.2.2.2.2.1 rfl)]
 ·rw[e,ZFd a,((n7 _ e).2 rfl)]
 ·rw[e,ZFc a,((n2 _ e).2.2.2.2.2.2.2.2.2.2.2.1 rfl)]
 ·rw[e,ZFb a,((n6 _ e).2.2.2.2.1 rfl)]
 ·rw[e,ZFa a,((n6 _ e).2.2.2.2.2 rfl)]
 ·rw[e,ZE9 a,((n3 _ e).2.2.2.2.2.2.2.2.2.2.2.1 rfl)]
 ·rw[e,ZE8 a,((n4 _ e).2.2.2.2.2.2.2.2.2.2.1 rfl)]
 ·rw[e,ZE7 a,((n1 _ e).2.2.2.2.2.2.2.2.2.2.2.2.1 rfl)]
 ·rw[e,ZE6 a,((n2 _ e).2.2.2.2.2.2.2.2.2.2.2.2.1 rfl)]
 ·rw[e,ZE5 a,((n3 _ e).2.2.2.2.2.2.2.2.2.2.2.2.1 rfl)]
 ·rw[e,ZE4 a,((n4 _ e).2.2.2.2.2.2.2.2.2.2.2.1 rfl)]
 ·rw[e,ZE3 a,((n1 _ e).2.2.2.2.2.2.2.2.2.2.2.2.2.1 rfl)]
 ·rw[e,ZE2 a,((n2 _ e).2.2.2.2.2.2.2.2.2.2.2.2.2.1 rfl)]
 ·rw[e,ZE1 a,((n8 _ e).2.2.1 rfl)]
 ·rw[e,ZE0 a,((n8 _ e).2.2.2 rfl)]
 ·rw[e,ZEZ a,((n9 _ e).2.2.1 rfl)]
 ·rw[e,ZEY a,((n3 _ e).2.2.2.2.2.2.2.2.2.2.2.2.2.1 rfl)]
 ·rw[e,ZEX a,((n4 _ e).2.2.2.2.2.2.2.2.2.2.2.2.1 rfl)]
 ·rw[e,ZEW a,((n1 _ e).2.2.2.2.2.2.2.2.2.2.2.2.2.2.1 rfl)]
 ·rw[e,ZEV a,((n10 _ e).2 rfl)]
 ·rw[e,ZEU a,((n2 _ e).2.2.2.2.2.2.2.2.2.2.2.2.2.2.1 rfl)]
 ·rw[e,ZET a,((n11 _ e).2.2.1 rfl)]
 ·rw[e,ZES a,((n3 _ e).2.2.2.2.2.2.2.2.2.2.2.2.2.2.1 rfl)]
 ·rw[e,ZER a,((n4 _ e).2.2.2.2.2.2.2.2.2.2.2.2.2.1 rfl)]
 ·rw[e,ZEQ a,((n1 _ e).2.2.2.2.2.2.2.2.2.2.2.2.2.2.2.1 rfl)]
 ·rw[e,ZEP a,((n2 _ e).2.2.2.2.2.2.2.2.2.2.2.2.2.2.2.1 rfl)]
 ·rw[e,ZEO a,((n11 _ e).2.2.2 rfl)]
 ·rw[e,ZEN a,((n3 _ e).2.2.2.2.2.2.2.2.2.2.2.2.2.2.2.1 rfl)]
 ·rw[e,ZEM a,((n4 _ e).2.2.2.2.2.2.2.2.2.2.2.2.2.2.1 rfl)]
 ·rw[e,ZEL a,((n1 _ e).2.2.2.2.2.2.2.2.2.2.2.2.2.2.2.2.1 rfl)]
 ·rw[e,ZEK a,((n2 _ e).2.2.2.2.2.2.2.2.2.2.2.2.2.2.2.2.1 rfl)]
 ·rw[e,ZEJ a,((n3 _ e).2.2.2.2.2.2.2.2.2.2.2.2.2.2.2.2.1 rfl)]
 ·rw[e,ZEI a,((n4 _ e).2.2.2.2.2.2.2.2.2.2.2.2.2.2.2 rfl)]
 ·rw[e,ZEH a,((n1 _ e).2.2.2.2.2.2.2.2.2.2.2.2.2.2.2.2.2 rfl)]
 ·rw[e,ZEG a,((n9 _ e).2.2.2 rfl)]
 ·rw[e,ZEF a,((n2 _ e).2.2.2.2.2.2.2.2.2.2.2.2.2.2.2.2.2 rfl)]
 ·rw[e,ZEE a,((n3 _ e).2.2.2.2.2.2.2.2.2.2.2.2.2.2.2.2.2 rfl)]
def ZJ8:En:=Zg ZB ZG7 (λ_=>none) (λa=>Zj a.1 a.2.1 a.2.2)
theorem ZvN:Za prog 166 ZJ8:=Zna Tryz.func166 rfl (by kernel_rfl) Tryz.call166 λa h _=>ZZX a h
end
end Go.Proofs.YtpnjbfjomebppaaGreat
open Go.IntKind (u8 u16 i64)
namespace Go.Proofs.YtpnjbfjomebppaaGreat
noncomputable section
def wPC (r:RegT) (v:Int):RegT:=(r.1,r.2.1,r.2.2.1,r.2.2.2.1,r.2.2.2.2.1,r.2.2.2.2.2.1,r.2.2.2.2.2.2.1,r.2.2.2.2.2.2.2.1,r.2.2.2.2.2.2.2.2.1,v)
def wSP (r:RegT) (v:Int):RegT:=(r.1,r.2.1,r.2.2.1,r.2.2.2.1,r.2.2.2.2.1,r.2.2.2.2.2.1,r.2.2.2.2.2.2.1,r.2.2.2.2.2.2.2.1,v,r.2.2.2.2.2.2.2.2.2)
def wA (r:RegT) (v:Int):RegT:=(v,r.2)
def wF (r:RegT) (f:FlgT):RegT:=(r.1,r.2.1,r.2.2.1,r.2.2.2.1,r.2.2.2.2.1,r.2.2.2.2.2.1,r.2.2.2.2.2.2.1,f,r.2.2.2.2.2.2.2.2)
def fCY (f:FlgT) (b:Bool):FlgT:=(f.1,f.2.1,f.2.2.1,f.2.2.2.1,f.2.2.2.2.1,f.2.2.2.2.2.1,b)
def fVCY (f:FlgT) (v b:Bool):FlgT:=(f.1,f.2.1,f.2.2.1,f.2.2.2.1,f.2.2.2.2.1,v,b)
def Zdz (r:RegT):Int:=r.2.2.2.2.2.2.2.2.1
def flOf (r:RegT):FlgT:=r.2.2.2.2.2.2.2.1
def finR (c:CpuT) (r r0:RegT) (g:List Int) (i:InsT):RegT:=
 let dst:=i.2.2.1
 let src:=i.2.2.2.1
 let pr:=i.2.2.2.2.1
 let op:=i.2.2.2.2.2.1
 let g1:=g.getD 1 0
 let tk:=Zfe i.2.2.2.2.2.2.1 (flOf r)
 bif i.1==2 then rSet r0 dst (bif src==6 then g1 else rGet r src) else
 bif i.1==3 then rSet r0 dst g1 else
 bif i.1==4 then Zm r0 pr (Zbk g 1) else
 bif i.1==5 then wA r0 (g.getD 3 0) else
 bif i.1==7 then Zm r0 2 (Zbk g 3) else
 bif i.1==9 then wA r0 g1 else
 bif i.1==11 then (r0.1,r0.2.1,r0.2.2.1,r0.2.2.2.2.2.1,r0.2.2.2.2.2.2.1,r0.2.2.2.1,r0.2.2.2.2.1,r0.2.2.2.2.2.2.2) else
 bif i.1==12 then (let q:=rDo c.1 op r.1 (bif src==6 then g1 else rGet r src) (flOf r);wA (wF r0 q.2) q.1) else
 bif i.1==13 then (let q:=rDo c.1 op r.1 g1 (flOf r);wA (wF r0 q.2) q.1) else
 bif i.1==14 then (let q:=rInr c.1 (bif dst==6 then g1 else rGet r dst) (flOf r);rSet (wF r0 q.2) dst q.1) else
 bif i.1==15 then (let q:=rDcr c.1 (bif dst==6 then g1 else rGet r dst) (flOf r);rSet (wF r0 q.2) dst q.1) else
 bif i.1==16 then (let q:=rInx c.1 (Zan r pr) (flOf r);Zm (wF r0 q.2) pr q.1) else
 bif i.1==17 then (let q:=rDcx c.1 (Zan r pr) (flOf r);Zm (wF r0 q.2) pr q.1) else
 bif i.1==18 then (let q:=rDad c.1 (Zan r 2) (Zan r pr) (flOf r);Zm (wF r0 q.2) 2 q.1) else
 bif i.1==19 then (let q:=rDaa c.1 r.1 (flOf r);wA (wF r0 q.2) q.1) else
 bif i.1==20 then wA r0 (notI .u8 r.1) else
 bif i.1==21 then wF r0 (fCY (flOf r) true) else
 bif i.1==22 then wF r0 (fCY (flOf r) (!(flOf r).2.2.2.2.2.2)) else
 bif i.1==23 then (let q:=rRot op r.1 (flOf r).2.2.2.2.2.2;wA (wF r0 (fCY (flOf r) q.2)) q.1) else
 bif i.1==24 then (bif tk then wPC r0 (Zbk g 1) else r0) else
 bif i.1==25 then (bif tk then wPC (wSP r0 (IntKind.wrap .u16 (Zdz r-2))) (Zbk g 1) else r0) else
 bif i.1==26 then (bif tk then wPC (wSP r0 (IntKind.wrap .u16 (Zdz r+2))) (Zbk g 1) else r0) else
 bif i.1==27 then wPC (wSP r0 (IntKind.wrap .u16 (Zdz r-2))) (IntKind.wrap .u16 (IntKind.wrap .i64 (8*i.2.2.2.2.2.2.2))) else
 bif i.1==28 then wPC r0 (Zan r 2) else
 bif i.1==29 then wSP r0 (Zan r 2) else
 bif i.1==30 then wSP r0 (IntKind.wrap .u16 (Zdz r-2)) else
 bif i.1==31 then (let q:=bif pr==3 then Zhd c.1 r0 (Zbk g 1) else Zm r0 pr (Zbk g 1);wSP q (IntKind.wrap .u16 (Zdz q+2))) else
 bif i.1==32 then Zm r0 2 (Zbk g 1) else
 bif i.1==33 then wA r0 (g.getD 2 0) else
 bif i.1==40 then (let q:=ZA9 (Zan r 2) (Zan r 0);Zm (wF r0 q.2) 2 q.1) else
 bif i.1==41 then (let q:=ZwK (Zan r 2);Zm (wF r0 (fCY (flOf r) q.2)) 2 q.1) else
 bif i.1==42 then (let q:=ZAU (Zan r 1) (flOf r).2.2.2.2.2.2;Zm (wF r0 (fVCY (flOf r) q.2.2 q.2.1)) 1 q.1) else
 bif i.1==43 then Zm r0 1 (IntKind.wrap .u16 (Zan r 2+IntKind.wrap .u16 g1)) else
 bif i.1==44 then Zm r0 1 (IntKind.wrap .u16 (Zdz r+IntKind.wrap .u16 g1)) else
 bif i.1==45 then (bif tk then wPC (wSP r0 (IntKind.wrap .u16 (Zdz r-2))) 64 else r0) else
 bif i.1==47 then Zm r0 2 (Zbk g 1) else
 r0
def finI (c:CpuT) (inj:Bool) (g:List Int) (l:QT0) (i:InsT):CpuT:=
 let r0:=wPC c.2.1 (ZK c inj i)
 let d:CpuT:=(c.1,r0,c.2.2.1,false,false,c.2.2.2.2.2)
 bif i.1==38 then (let q:=rRim d l;(q.2.1,wA q.2.2.1 q.1,q.2.2.2)) else
 bif i.1==39 then rSim d c.2.1.1 else
 (c.1,finR c c.2.1 r0 g i,bif i.1==35 then true else bif i.1==36 then false else c.2.2.1,i.1==35,i.1==37,c.2.2.2.2.2)
def finX (c:CpuT) (s:Int) (g:List Int) (l:QT0):CpuT:=
 bif Zc s then (c.1,wPC (wSP c.2.1 (IntKind.wrap .u16 (spOf c-2))) (Zi s),c.2.2)
 else finI c (s==5) g l (Zb c.1 (g.getD 0 0))
theorem Z2z (c:CpuT) (l):(rRim c l).2=(c.1,c.2.1,c.2.2.1,c.2.2.2.1,c.2.2.2.2.1,c.2.2.2.2.2.1,c.2.2.2.2.2.2.1,c.2.2.2.2.2.2.2.1,c.2.2.2.2.2.2.2.2.1,c.2.2.2.2.2.2.2.2.2.1,false,false,c.2.2.2.2.2.2.2.2.2.2.2.2):=by
 have h3:∀b,Zaz b 3=true:=λb=>by cases b<;>rfl
 have h4:∀b,Zaz b 4=true:=λb=>by cases b<;>rfl
 have h5:∀b,Zaz b 5=true:=λb=>by cases b<;>rfl
 have h6:∀b,Zaz b 6=true:=λb=>by cases b<;>rfl
 have h7:∀b,Zaz b 7=true:=λb=>by cases b<;>rfl
 simp only[rRim,ZSU,RT.val,h3,h4,h5,h6,h7,Ye,Yi,Ya,getO]
theorem ZcZ (s):Zhl s=true/\ZjP s=bif (s.2.2.2.1.1==13||s.2.2.2.1.2.2.2.1==6) then s.2.2.1.getD 1 0 else rGet s.1.2.1 s.2.2.2.1.2.2.2.1:=by simp only[Zhl,ZjP,ZjO,RT.val,qat1,Zaf];cases (s.2.2.2.1.1==13||s.2.2.2.1.2.2.2.1==6)<;>simp[okB,getO]
theorem Zg6 (r:RegT) (f:FlgT) (pc n v:Int):rSet (r.1,r.2.1,r.2.2.1,r.2.2.2.1,r.2.2.2.2.1,r.2.2.2.2.2.1,r.2.2.2.2.2.2.1,f,r.2.2.2.2.2.2.2.2.1,pc) n v=
  ((rSet r n v).1,(rSet r n v).2.1,(rSet r n v).2.2.1,(rSet r n v).2.2.2.1,(rSet r n v).2.2.2.2.1,(rSet r n v).2.2.2.2.2.1,(rSet r n v).2.2.2.2.2.2.1,f,(rSet r n v).2.2.2.2.2.2.2.2.1,pc):=rfl
theorem Zg8 (r:RegT) (n v:Int):(rSet r n v).2.2.2.2.2.2.2.1=r.2.2.2.2.2.2.2.1:=rfl
theorem Zg7 (r:RegT) (n v:Int):(rSet r n v).2.2.2.2.2.2.2.2=r.2.2.2.2.2.2.2.2:=rfl
theorem Zl8 (r:RegT) (f:FlgT) (pc n v:Int):Zm (r.1,r.2.1,r.2.2.1,r.2.2.2.1,r.2.2.2.2.1,r.2.2.2.2.2.1,r.2.2.2.2.2.2.1,f,r.2.2.2.2.2.2.2.2.1,pc) n v=
  ((Zm r n v).1,(Zm r n v).2.1,(Zm r n v).2.2.1,(Zm r n v).2.2.2.1,(Zm r n v).2.2.2.2.1,(Zm r n v).2.2.2.2.2.1,(Zm r n v).2.2.2.2.2.2.1,f,(Zm r n v).2.2.2.2.2.2.2.2.1,pc):=by simp only[Zm,Zhb,RT.val];cases (andI i64 n 3==3)<;>rfl
theorem Zl9 (r:RegT) (n v:Int):(Zm r n v).2.2.2.2.2.2.2.1=r.2.2.2.2.2.2.2.1:=by simp only[Zm,Zhb,RT.val];cases (andI i64 n 3==3)<;>rfl
theorem Z4S (r:RegT) (f:FlgT) (sp pc n:Int):ZFm (r.1,r.2.1,r.2.2.1,r.2.2.2.1,r.2.2.2.2.1,r.2.2.2.2.2.1,r.2.2.2.2.2.2.1,f,sp,pc) n=ZFm r n:=rfl
theorem Zfb (r:RegT) (f:FlgT) (pc n:Int):Zan (r.1,r.2.1,r.2.2.1,r.2.2.2.1,r.2.2.2.2.1,r.2.2.2.2.2.1,r.2.2.2.2.2.2.1,f,r.2.2.2.2.2.2.2.2.1,pc) n=Zan r n:=by simp only[Zan,ZtA,RT.val,rGet,ZFo,Z4S]
theorem bnat {x:Int} (h:inR .u8 x):∃a:Nat,x=a/\a<256:=by rw[Zfj] at h;exact⟨x.toNat,by omega,by omega⟩
theorem w16 {n:Nat} (h:n<65536):IntKind.wrap .u16 (n:Int)=n:=ZnF ⟨by simp[IntKind.min,IntKind.signed],by simp[IntKind.max,IntKind.signed,IntKind.bits];omega⟩
variable {h l:Int}
theorem ZL9 (hh:inR .u8 h) (hl:inR .u8 l):Zdn h l=256*h+l:=by
 obtain⟨a,rfl,ha⟩:=bnat hh;obtain⟨b,rfl,hb⟩:=bnat hl;have e1:shlI .u16 (IntKind.wrap .u16 (a:Int)) 8=((a*256:Nat):Int):=by
  rw[w16 (by omega)];simp only[shlI];have:((a:Int)*2^min (8:Int).toNat u16.bits)=((a*256:Nat):Int):=by simp[IntKind.bits]
  rw[this,w16 (by omega)]
 have e2:(BitVec.ofInt u16.bits ((a*256:Nat):Int)|||BitVec.ofInt u16.bits (b:Int)).toNat=a*256+b:=by
  rw[BitVec.toNat_or,YaE,YaE];have k1:(((a*256:Nat):Int)%((2^u16.bits:Nat):Int)).toNat=a*256:=by simp[IntKind.bits];omega
  have k2:((b:Int)%((2^u16.bits:Nat):Int)).toNat=b:=by simp[IntKind.bits];omega
  rw[k1,k2];have:=Nat.shiftLeft_add_eq_or_of_lt (i:=8) (b:=b) (by omega) a;rw[Nat.shiftLeft_eq] at this;exact this.symm
 show orI .u16 (shlI .u16 (IntKind.wrap .u16 (a:Int)) 8) (IntKind.wrap .u16 (b:Int))=_;rw[e1,w16 (by omega)];simp only[orI];rw[e2,w16 (by omega)];omega
theorem Z6R (hh:inR .u8 h) (hl:inR .u8 l):IntKind.wrap .u8 (Zdn h l)=l:=by rw[ZL9 hh hl];rw[Zfj] at hl;simp[IntKind.wrap,IntKind.signed,IntKind.bits];omega
theorem Z6S (hh:inR .u8 h) (hl:inR .u8 l):IntKind.wrap .u8 (shrI .u16 (Zdn h l) 8)=h:=by
 rw[ZL9 hh hl];rw[Zfj] at hl hh;have:shrI .u16 (256*h+l) 8=h:=by
  simp only[shrI];have:((2:Int)^min (8:Int).toNat u16.bits)=256:=by decide
  rw[this,Int.fdiv_eq_ediv_of_nonneg _ (by decide)];omega
 rw[this];simp[IntKind.wrap,IntKind.signed,IntKind.bits];omega
theorem Zfa (r:RegT) (hh:inR .u8 h) (hl:inR .u8 l):Zm r 2 (Zdn h l)=(r.1,r.2.1,r.2.2.1,r.2.2.2.1,r.2.2.2.2.1,h,l,r.2.2.2.2.2.2.2):=by
 have e:Zm r 2 (Zdn h l)=(r.1,r.2.1,r.2.2.1,r.2.2.2.1,r.2.2.2.2.1,IntKind.wrap .u8 (shrI .u16 (Zdn h l) 8),IntKind.wrap .u8 (Zdn h l),r.2.2.2.2.2.2.2):=by generalize Zdn h l=v;rfl
 rw[e,Z6R hh hl,Z6S hh hl]
theorem Zmf (x:Int):IntKind.wrap .u8 (255-x)=notI .u8 x:=by
 have e:notI .u8 x=IntKind.wrap .u8 ((~~~ (BitVec.ofInt 8 x)).toNat:Int):=by
  show IntKind.wrap .u8 (((BitVec.ofInt 8 255)^^^(BitVec.ofInt 8 x)).toNat:Int)=_;have:BitVec.ofInt 8 255=BitVec.allOnes 8:=by decide
  rw[this,BitVec.allOnes_xor]
 have h1:(BitVec.ofInt 8 x).toNat=(x%256).toNat:=YaE ..;have h2:((x%256).toNat:Int)=x%256:=by omega
 rw[e,BitVec.toNat_not,h1];have h3:((2^8-1-(x%256).toNat:Nat):Int)=255-x%256:=by omega
 rw[h3];simp[IntKind.wrap,IntKind.signed,IntKind.bits]
