import Derived.Test.YtpnjbfjomebppaaGreatKind47
import Derived.Test.YtpnjbfjomebppaaGreatNext1
import Derived.Test.YtpnjbfjomebppaaGreatNext2
import Derived.Test.YtpnjbfjomebppaaGreatNext3
import Derived.Test.YtpnjbfjomebppaaGreatNext4
open Go Go.S3 Go.Proofs
set_option linter.unusedVariables false
set_option linter.unusedSimpArgs false
set_option maxRecDepth 100000
namespace Go.Proofs.YtpnjbfjomebppaaGreat
noncomputable section
theorem nx_2 (c) (s:Int) (g:List Int) (n:Int) (hk:(Zb c.1 (g.getD 0 0)).1=n):(n=4->(Zw8 c s g).val=some (Zi c s g))/\(n=8->(Zw4 c s g).val=some (Zi c s g))/\(n=13->(Zqm c s g).val=some (Zi c s g))/\(n=19->(Zqg c s g).val=some (Zi c s g))/\(n=23->(Zqc c s g).val=some (Zi c s g))/\(n=31->(Zp4 c s g).val=some (Zi c s g))/\(n=36->(ZpZ c s g).val=some (Zi c s g))/\(n=41->(ZpU c s g).val=some (Zi c s g))/\(n=46->(ZpP c s g).val=some (Zi c s g))/\(n=4->(Zvr c s g).val=some (Zi c s g))/\(n=8->(Zvn c s g).val=some (Zi c s g))/\(n=13->(ZoU c s g).val=some (Zi c s g))/\(n=19->(ZoO c s g).val=some (Zi c s g))/\(n=23->(ZoK c s g).val=some (Zi c s g))/\(n=31->(ZoC c s g).val=some (Zi c s g))/\(n=36->(Zox c s g).val=some (Zi c s g))/\(n=41->(Zos c s g).val=some (Zi c s g))/\(n=46->(Zon c s g).val=some (Zi c s g)):=by
 refine⟨?_,?_,?_,?_,?_,?_,?_,?_,?_,?_,?_,?_,?_,?_,?_,?_,?_,?_⟩;all_goals intro e;subst e
 all_goals simp only[Zw8,Zw4,Zqm,Zqg,Zqc,Zp4,ZpZ,ZpU,ZpP,Zvr,Zvn,ZoU,ZoO,ZoK,ZoC,Zox,Zos,Zon,RT.val,fin3,pk]
 all_goals simp only[qat0,mat0,qat1,mat1,rg0,hk,Zs,ZX,Zaf,ZF,ZG,Zv,Zw,ZaW,ZaY,ZaX,Zr,ZaG,Zi,Zlc,ZI,ZbK]
 all_goals generalize Zc s=bi
 all_goals generalize (s==5)=bs
 all_goals cases g with
 |nil=>cases bi<;>cases bs<;>simp[Zra,Zcg,pcOf,spOf,ZdB]
 |cons o t=>
  simp only[Yy] at hk;simp only[len0,Yy,ZmB,hk,Zdz,ZbK,ZI,ZgJ,bne];generalize Zb c.1 o=i at hk|-;cases bi<;>cases bs<;>simp[Zch,ZdB,popX,pcOf,spOf,opC,ZkY,ZfH,Zbj,Zi2,Zcr,setI,R.get]
theorem nx_4 (c) (s:Int) (g:List Int) (n:Int) (hk:(Zb c.1 (g.getD 0 0)).1=n):(n=6->(Zw6 c s g).val=some (Zi c s g))/\(n=10->(Zqp c s g).val=some (Zi c s g))/\(n=17->(Zqi c s g).val=some (Zi c s g))/\(n=21->(Zqe c s g).val=some (Zi c s g))/\(n=28->(Zp7 c s g).val=some (Zi c s g))/\(n=34->(Zp1 c s g).val=some (Zi c s g))/\(n=39->(ZpW c s g).val=some (Zi c s g))/\(n=43->(ZpS c s g).val=some (Zi c s g))/\(n=6->(Zvp c s g).val=some (Zi c s g))/\(n=10->(ZoX c s g).val=some (Zi c s g))/\(n=17->(ZoQ c s g).val=some (Zi c s g))/\(n=21->(ZoM c s g).val=some (Zi c s g))/\(n=28->(ZoF c s g).val=some (Zi c s g))/\(n=34->(Zoz c s g).val=some (Zi c s g))/\(n=39->(Zou c s g).val=some (Zi c s g))/\(n=43->(Zoq c s g).val=some (Zi c s g)):=by
 refine⟨?_,?_,?_,?_,?_,?_,?_,?_,?_,?_,?_,?_,?_,?_,?_,?_⟩;all_goals intro e;subst e
 all_goals simp only[Zw6,Zqp,Zqi,Zqe,Zp7,Zp1,ZpW,ZpS,Zvp,ZoX,ZoQ,ZoM,ZoF,Zoz,Zou,Zoq,RT.val,fin3,pk]
 all_goals simp only[qat0,mat0,qat1,mat1,rg0,hk,Zs,ZX,Zaf,ZF,ZG,Zv,Zw,ZaW,ZaY,ZaX,Zr,ZaG,Zi,Zlc,ZI,ZbK]
 all_goals generalize Zc s=bi
 all_goals generalize (s==5)=bs
 all_goals cases g with
 |nil=>cases bi<;>cases bs<;>simp[Zra,Zcg,pcOf,spOf,ZdB]
 |cons o t=>
  simp only[Yy] at hk;simp only[len0,Yy,ZmB,hk,Zdz,ZbK,ZI,ZgJ,bne];generalize Zb c.1 o=i at hk|-;cases bi<;>cases bs<;>simp[Zch,ZdB,popX,pcOf,spOf,opC,ZkY,ZfH,Zbj,Zi2,Zcr,setI,R.get]
theorem nx_6 (c) (s:Int) (g:List Int) (n:Int) (hk:(Zb c.1 (g.getD 0 0)).1=n):(n=3->(Zw9 c s g).val=some (Zi c s g))/\(n=14->(Zql c s g).val=some (Zi c s g))/\(n=15->(Zqk c s g).val=some (Zi c s g))/\(n=3->(Zvs c s g).val=some (Zi c s g))/\(n=14->(ZoT c s g).val=some (Zi c s g))/\(n=15->(ZoS c s g).val=some (Zi c s g)):=by
 refine⟨?_,?_,?_,?_,?_,?_⟩;all_goals intro e;subst e
 all_goals simp only[Zw9,Zql,Zqk,Zvs,ZoT,ZoS,RT.val,fin3,pk]
 all_goals simp only[qat0,mat0,qat1,mat1,rg0,hk,Zs,ZX,Zaf,ZF,ZG,Zv,Zw,ZaW,ZaY,ZaX,Zr,ZaG,Zi,Zlc,ZI,ZbK]
 all_goals generalize Zc s=bi
 all_goals generalize (s==5)=bs
 all_goals cases g with
 |nil=>cases bi<;>cases bs<;>simp[Zra,Zcg,pcOf,spOf,ZdB]
 |cons o t=>
  simp only[Yy] at hk;simp only[len0,Yy,ZmB,hk,Zdz,ZbK,ZI,ZgJ,bne];generalize Zb c.1 o=i at hk|-;generalize (i.2.2.1==6)=b0;cases b0<;>cases bi<;>cases bs<;>simp[Zch,ZdB,popX,pcOf,spOf,opC,ZkY,ZfH,Zbj,Zi2,Zcr,setI,R.get]
theorem nx_8 (c) (s:Int) (g:List Int) (n:Int) (hk:(Zb c.1 (g.getD 0 0)).1=n):(n=24->(Zqb c s g).val=some (Zi c s g))/\(n=25->(Zqa c s g).val=some (Zi c s g))/\(n=24->(ZoJ c s g).val=some (Zi c s g))/\(n=25->(ZoI c s g).val=some (Zi c s g)):=by
 refine⟨?_,?_,?_,?_⟩;all_goals intro e;subst e
 all_goals simp only[Zqb,Zqa,ZoJ,ZoI,RT.val,fin3,pk]
 all_goals simp only[qat0,mat0,qat1,mat1,rg0,hk,Zs,ZX,Zaf,ZF,ZG,Zv,Zw,ZaW,ZaY,ZaX,Zr,ZaG,Zi,Zlc,ZI,ZbK]
 all_goals generalize Zc s=bi
 all_goals generalize (s==5)=bs
 all_goals cases g with
 |nil=>cases bi<;>cases bs<;>simp[Zra,Zcg,pcOf,spOf,ZdB]
 |cons o t=>
  simp only[Yy] at hk;simp only[len0,Yy,ZmB,hk,Zdz,ZbK,ZI,ZgJ,bne];generalize Zb c.1 o=i at hk|-;generalize Zfp _ _=b0;generalize (c.1==2)=b1;cases b0<;>cases b1<;>cases bi<;>cases bs<;>simp[Zch,ZdB,popX,pcOf,spOf,opC,ZkY,ZfH,Zbj,Zi2,Zcr,setI,R.get]
theorem Z7q (c) (s:Int) (g:List Int) (n:Int) (hk:(Zb c.1 (g.getD 0 0)).1=n):(n=30->(Zp5 c s g).val=some (Zi c s g))/\(n=30->(ZoD c s g).val=some (Zi c s g)):=by
 refine⟨?_,?_⟩;all_goals intro e;subst e
 all_goals simp only[Zp5,ZoD,RT.val,fin3,pk]
 all_goals simp only[qat0,mat0,qat1,mat1,rg0,hk,Zs,ZX,Zaf,ZF,ZG,Zv,Zw,ZaW,ZaY,ZaX,Zr,ZaG,Zi,Zlc,ZI,ZbK]
 all_goals generalize Zc s=bi
 all_goals generalize (s==5)=bs
 all_goals cases g with
 |nil=>cases bi<;>cases bs<;>simp[Zra,Zcg,pcOf,spOf,ZdB]
 |cons o t=>
  simp only[Yy] at hk;simp only[len0,Yy,ZmB,hk,Zdz,ZbK,ZI,ZgJ,bne];generalize Zb c.1 o=i at hk|-;generalize (i.2.2.2.2.1==3)=b0;cases b0<;>cases bi<;>cases bs<;>simp[Zch,ZdB,popX,pcOf,spOf,opC,ZkY,ZfH,Zbj,Zi2,Zcr,setI,R.get]
theorem nx_1 (c) (s:Int) (g:List Int) (n:Int) (hk:(Zb c.1 (g.getD 0 0)).1=n):(n=1->(Zxb c s g).val=some (Zi c s g))/\(n=7->(Zw5 c s g).val=some (Zi c s g))/\(n=11->(Zqo c s g).val=some (Zi c s g))/\(n=18->(Zqh c s g).val=some (Zi c s g))/\(n=22->(Zqd c s g).val=some (Zi c s g))/\(n=29->(Zp6 c s g).val=some (Zi c s g))/\(n=35->(Zp0 c s g).val=some (Zi c s g))/\(n=40->(ZpV c s g).val=some (Zi c s g))/\(n=44->(ZpR c s g).val=some (Zi c s g))/\(n=1->(Zvu c s g).val=some (Zi c s g))/\(n=7->(Zvo c s g).val=some (Zi c s g))/\(n=11->(ZoW c s g).val=some (Zi c s g))/\(n=18->(ZoP c s g).val=some (Zi c s g))/\(n=22->(ZoL c s g).val=some (Zi c s g))/\(n=29->(ZoE c s g).val=some (Zi c s g))/\(n=35->(Zoy c s g).val=some (Zi c s g))/\(n=40->(Zot c s g).val=some (Zi c s g))/\(n=44->(Zop c s g).val=some (Zi c s g)):=by
 refine⟨?_,?_,?_,?_,?_,?_,?_,?_,?_,?_,?_,?_,?_,?_,?_,?_,?_,?_⟩;all_goals intro e;subst e
 all_goals simp only[Zxb,Zw5,Zqo,Zqh,Zqd,Zp6,Zp0,ZpV,ZpR,Zvu,Zvo,ZoW,ZoP,ZoL,ZoE,Zoy,Zot,Zop,RT.val,fin3,pk]
 all_goals simp only[qat0,mat0,qat1,mat1,rg0,hk,Zs,ZX,Zaf,ZF,ZG,Zv,Zw,ZaW,ZaY,ZaX,Zr,ZaG,Zi,Zlc,ZI,ZbK]
 all_goals generalize Zc s=bi
 all_goals generalize (s==5)=bs
 all_goals cases g with
 |nil=>cases bi<;>cases bs<;>simp[Zra,Zcg,pcOf,spOf,ZdB]
 |cons o t=>
  simp only[Yy] at hk;simp only[len0,Yy,ZmB,hk,Zdz,ZbK,ZI,ZgJ,bne];generalize Zb c.1 o=i at hk|-;cases bi<;>cases bs<;>simp[Zch,ZdB,popX,pcOf,spOf,opC,ZkY,ZfH,Zbj,Zi2,Zcr,setI,R.get]
theorem nx_3 (c) (s:Int) (g:List Int) (n:Int) (hk:(Zb c.1 (g.getD 0 0)).1=n):(n=5->(Zw7 c s g).val=some (Zi c s g))/\(n=9->(Zw3 c s g).val=some (Zi c s g))/\(n=16->(Zqj c s g).val=some (Zi c s g))/\(n=20->(Zqf c s g).val=some (Zi c s g))/\(n=27->(Zp8 c s g).val=some (Zi c s g))/\(n=33->(Zp2 c s g).val=some (Zi c s g))/\(n=38->(ZpX c s g).val=some (Zi c s g))/\(n=42->(ZpT c s g).val=some (Zi c s g))/\(n=47->(ZpO c s g).val=some (Zi c s g))/\(n=5->(Zvq c s g).val=some (Zi c s g))/\(n=9->(Zvm c s g).val=some (Zi c s g))/\(n=16->(ZoR c s g).val=some (Zi c s g))/\(n=20->(ZoN c s g).val=some (Zi c s g))/\(n=27->(ZoG c s g).val=some (Zi c s g))/\(n=33->(ZoA c s g).val=some (Zi c s g))/\(n=38->(Zov c s g).val=some (Zi c s g))/\(n=42->(Zor c s g).val=some (Zi c s g))/\(n=47->(Zom c s g).val=some (Zi c s g)):=by
 refine⟨?_,?_,?_,?_,?_,?_,?_,?_,?_,?_,?_,?_,?_,?_,?_,?_,?_,?_⟩;all_goals intro e;subst e
 all_goals simp only[Zw7,Zw3,Zqj,Zqf,Zp8,Zp2,ZpX,ZpT,ZpO,Zvq,Zvm,ZoR,ZoN,ZoG,ZoA,Zov,Zor,Zom,RT.val,fin3,pk]
 all_goals simp only[qat0,mat0,qat1,mat1,rg0,hk,Zs,ZX,Zaf,ZF,ZG,Zv,Zw,ZaW,ZaY,ZaX,Zr,ZaG,Zi,Zlc,ZI,ZbK]
 all_goals generalize Zc s=bi
 all_goals generalize (s==5)=bs
 all_goals cases g with
 |nil=>cases bi<;>cases bs<;>simp[Zra,Zcg,pcOf,spOf,ZdB]
 |cons o t=>
  simp only[Yy] at hk;simp only[len0,Yy,ZmB,hk,Zdz,ZbK,ZI,ZgJ,bne];generalize Zb c.1 o=i at hk|-;cases bi<;>cases bs<;>simp[Zch,ZdB,popX,pcOf,spOf,opC,ZkY,ZfH,Zbj,Zi2,Zcr,setI,R.get]
theorem nx_5 (c) (s:Int) (g:List Int) (n:Int) (hk:(Zb c.1 (g.getD 0 0)).1=n):(n=2->(Zxa c s g).val=some (Zi c s g))/\(n=2->(Zvt c s g).val=some (Zi c s g)):=by
 refine⟨?_,?_⟩;all_goals intro e;subst e
 all_goals simp only[Zxa,Zvt,RT.val,fin3,pk]
 all_goals simp only[qat0,mat0,qat1,mat1,rg0,hk,Zs,ZX,Zaf,ZF,ZG,Zv,Zw,ZaW,ZaY,ZaX,Zr,ZaG,Zi,Zlc,ZI,ZbK]
 all_goals generalize Zc s=bi
 all_goals generalize (s==5)=bs
 all_goals cases g with
 |nil=>cases bi<;>cases bs<;>simp[Zra,Zcg,pcOf,spOf,ZdB]
 |cons o t=>
  simp only[Yy] at hk;simp only[len0,Yy,ZmB,hk,Zdz,ZbK,ZI,ZgJ,bne];generalize Zb c.1 o=i at hk|-;generalize (i.2.2.2.1==6)=b0;generalize (i.2.2.1==6)=b1;cases b0<;>cases b1<;>cases bi<;>cases bs<;>simp[Zch,ZdB,popX,pcOf,spOf,opC,ZkY,ZfH,Zbj,Zi2,Zcr,setI,R.get]
theorem nx_7 (c) (s:Int) (g:List Int) (n:Int) (hk:(Zb c.1 (g.getD 0 0)).1=n):(n=12->(Zqn c s g).val=some (Zi c s g))/\(n=12->(ZoV c s g).val=some (Zi c s g)):=by
 refine⟨?_,?_⟩;all_goals intro e;subst e
 all_goals simp only[Zqn,ZoV,RT.val,fin3,pk]
 all_goals simp only[qat0,mat0,qat1,mat1,rg0,hk,Zs,ZX,Zaf,ZF,ZG,Zv,Zw,ZaW,ZaY,ZaX,Zr,ZaG,Zi,Zlc,ZI,ZbK]
 all_goals generalize Zc s=bi
 all_goals generalize (s==5)=bs
 all_goals cases g with
 |nil=>cases bi<;>cases bs<;>simp[Zra,Zcg,pcOf,spOf,ZdB]
 |cons o t=>
  simp only[Yy] at hk;simp only[len0,Yy,ZmB,hk,Zdz,ZbK,ZI,ZgJ,bne];generalize Zb c.1 o=i at hk|-;generalize (i.2.2.2.1==6)=b0;cases b0<;>cases bi<;>cases bs<;>simp[Zch,ZdB,popX,pcOf,spOf,opC,ZkY,ZfH,Zbj,Zi2,Zcr,setI,R.get]
theorem nx_9 (c) (s:Int) (g:List Int) (n:Int) (hk:(Zb c.1 (g.getD 0 0)).1=n):(n=26->(Zp9 c s g).val=some (Zi c s g))/\(n=45->(ZpQ c s g).val=some (Zi c s g))/\(n=26->(ZoH c s g).val=some (Zi c s g))/\(n=45->(Zoo c s g).val=some (Zi c s g)):=by
 refine⟨?_,?_,?_,?_⟩;all_goals intro e;subst e
 all_goals simp only[Zp9,ZpQ,ZoH,Zoo,RT.val,fin3,pk]
 all_goals simp only[qat0,mat0,qat1,mat1,rg0,hk,Zs,ZX,Zaf,ZF,ZG,Zv,Zw,ZaW,ZaY,ZaX,Zr,ZaG,Zi,Zlc,ZI,ZbK]
 all_goals generalize Zc s=bi
 all_goals generalize (s==5)=bs
 all_goals cases g with
 |nil=>cases bi<;>cases bs<;>simp[Zra,Zcg,pcOf,spOf,ZdB]
 |cons o t=>
  simp only[Yy] at hk;simp only[len0,Yy,ZmB,hk,Zdz,ZbK,ZI,ZgJ,bne];generalize Zb c.1 o=i at hk|-;generalize Zfp _ _=b0;cases b0<;>cases bi<;>cases bs<;>simp[Zch,ZdB,popX,pcOf,spOf,opC,ZkY,ZfH,Zbj,Zi2,Zcr,setI,R.get]
theorem Z7p (c) (s:Int) (g:List Int) (n:Int) (hk:(Zb c.1 (g.getD 0 0)).1=n):(n=32->(Zp3 c s g).val=some (Zi c s g))/\(n=37->(ZpY c s g).val=some (Zi c s g))/\(n=32->(ZoB c s g).val=some (Zi c s g))/\(n=37->(Zow c s g).val=some (Zi c s g)):=by
 refine⟨?_,?_,?_,?_⟩;all_goals intro e;subst e
 all_goals simp only[Zp3,ZpY,ZoB,Zow,RT.val,fin3,pk]
 all_goals simp only[qat0,mat0,qat1,mat1,rg0,hk,Zs,ZX,Zaf,ZF,ZG,Zv,Zw,ZaW,ZaY,ZaX,Zr,ZaG,Zi,Zlc,ZI,ZbK]
 all_goals generalize Zc s=bi
 all_goals generalize (s==5)=bs
 all_goals cases g with
 |nil=>cases bi<;>cases bs<;>simp[Zra,Zcg,pcOf,spOf,ZdB]
 |cons o t=>
  simp only[Yy] at hk;simp only[len0,Yy,ZmB,hk,Zdz,ZbK,ZI,ZgJ,bne];generalize Zb c.1 o=i at hk|-;generalize (c.1==2)=b0;cases b0<;>cases bi<;>cases bs<;>simp[Zch,ZdB,popX,pcOf,spOf,opC,ZkY,ZfH,Zbj,Zi2,Zcr,setI,R.get]
end
end Go.Proofs.YtpnjbfjomebppaaGreat
open Go.Proofs.Tryz (prog)
namespace Go.Proofs.YtpnjbfjomebppaaGreat
noncomputable section
theorem ZZN (a:HL ZA) (h:okHL ZA a):∃l,Zdp prog l/\(ZfF (envX prog l [] 1125900980585471 8) Tryz.f82 ZA ZGn a).val=some (Zi a.1 a.2.1 a.2.2):=by
 have hk:=Zyp a.1.1 _ (Zyv h.2.2);refine⟨ZUC (Zb a.1.1 (a.2.2.getD 0 0)).1,ZUB _,?_⟩;show (EV1 _ a).val=_;have n1:=nx_1 a.1 a.2.1 a.2.2;have n5:=nx_5 a.1 a.2.1 a.2.2;have n6:=nx_6 a.1 a.2.1 a.2.2;have n2:=nx_2 a.1 a.2.1 a.2.2;have n3:=nx_3 a.1 a.2.1 a.2.2;have n4:=nx_4 a.1 a.2.1 a.2.2;have n7:=nx_7 a.1 a.2.1 a.2.2;have n8:=nx_8 a.1 a.2.1 a.2.2;have n9:=nx_9 a.1 a.2.1 a.2.2;have n10:=Z7q a.1 a.2.1 a.2.2;have n11:=Z7p a.1 a.2.1 a.2.2;rcases Zyo hk.1 hk.2 with e|e|e|e|e|e|e|e|e|e|e|e|e|e|e|e|e|e|e|e|e|e|e|e|e|e|e|e|e|e|e|e|e|e|e|e|e|e|e|e|e|e|e|e|e|e|e
 ·rw[e,ZNZ a,((n1 _ e).1 rfl)]
 ·rw[e,ZNY a,((n5 _ e).1 rfl)]
 ·rw[e,ZNX a,((n6 _ e).1 rfl)]
 ·rw[e,ZNW a,((n2 _ e).1 rfl)]
 ·rw[e,ZNV a,((n3 _ e).1 rfl)]
 ·rw[e,ZNU a,((n4 _ e).1 rfl)]
 ·rw[e,ZNT a,((n1 _ e).2.1 rfl)]
 ·rw[e,ZNS a,((n2 _ e).2.1 rfl)]
 ·rw[e,ZNR a,((n3 _ e).2.1 rfl)]
 ·rw[e,ZGm a,((n4 _ e).2.1 rfl)]
 ·rw[e,ZGl a,((n1 _ e).2.2.1 rfl)]
 ·rw[e,ZGk a,((n7 _ e).1 rfl)]
 ·rw[e,ZGj a,((n2 _ e).2.2.1 rfl)]
 ·rw[e,ZGi a,((n6 _ e).2.1 rfl)]
 ·rw[e,ZGh a,((n6 _ e).2.2.1 rfl)]
 ·rw[e,ZGg a,((n3 _ e).2.2.1 rfl)]
 ·rw[e,ZGf a,((n4 _ e).2.2.1 rfl)]
 ·rw[e,ZGe a,((n1 _ e).2.2.2.1 rfl)]
 ·rw[e,ZGd a,((n2 _ e).2.2.2.1 rfl)]
 ·rw[e,ZGc a,((n3 _ e).2.2.2.1 rfl)]
 ·rw[e,ZGb a,((n4 _ e).2.2.2.1 rfl)]
 ·rw[e,ZGa a,((n1 _ e).2.2.2.2.1 rfl)]
 ·rw[e,ZF9 a,((n2 _ e).2.2.2.2.1 rfl)]
 ·rw[e,ZF8 a,((n8 _ e).1 rfl)]
 ·rw[e,ZF7 a,((n8 _ e).2.1 rfl)]
 ·rw[e,ZF6 a,((n9 _ e).1 rfl)]
 ·rw[e,ZF5 a,((n3 _ e).2.2.2.2.1 rfl)]
 ·rw[e,ZF4 a,((n4 _ e).2.2.2.2.1 rfl)]
 ·rw[e,ZF3 a,((n1 _ e).2.2.2.2.2.1 rfl)]
 ·rw[e,ZF2 a,((n10 _ e).1 rfl)]
 ·rw[e,ZF1 a,((n2 _ e).2.2.2.2.2.1 rfl)]
 ·rw[e,ZF0 a,((n11 _ e).1 rfl)]
 ·rw[e,ZFZ a,((n3 _ e).2.2.2.2.2.1 rfl)]
 ·rw[e,ZFY a,((n4 _ e).2.2.2.2.2.1 rfl)]
 ·rw[e,ZFX a,((n1 _ e).2.2.2.2.2.2.1 rfl)]
 ·rw[e,ZFW a,((n2 _ e).2.2.2.2.2.2.1 rfl)]
 ·rw[e,ZFV a,((n11 _ e).2.1 rfl)]
 ·rw[e,ZFU a,((n3 _ e).2.2.2.2.2.2.1 rfl)]
 ·rw[e,ZFT a,((n4 _ e).2.2.2.2.2.2.1 rfl)]
 ·rw[e,ZFS a,((n1 _ e).2.2.2.2.2.2.2.1 rfl)]
 ·rw[e,ZFR a,((n2 _ e).2.2.2.2.2.2.2.1 rfl)]
 ·rw[e,ZFQ a,((n3 _ e).2.2.2.2.2.2.2.1 rfl)]
 ·rw[e,ZFP a,((n4 _ e).2.2.2.2.2.2.2.1 rfl)]
 ·rw[e,ZFO a,((n1 _ e).2.2.2.2.2.2.2.2.1 rfl)]
 ·rw[e,ZFN a,((n9 _ e).2.1 rfl)]
 ·rw[e,ZFM a,((n2 _ e).2.2.2.2.2.2.2.2.1 rfl)]
 ·rw[e,ZFL a,((n3 _ e).2.2.2.2.2.2.2.2.1 rfl)]
def ZBe:En:=Zf ZA ZGn (λ_=>none) (λa=>Zi a.1 a.2.1 a.2.2)
theorem Zw2:Za prog 82 ZBe:=Zm0 Tryz.func82 rfl (by kernel_rfl) Tryz.call82 λa h _=>ZZN a h
theorem ZYY (a:HL ZA) (h:okHL ZA a):∃l,Zdp prog l/\(ZfF (envX prog l [] 2047 8) Tryz.f166 ZA ZGn a).val=some (Zi a.1 a.2.1 a.2.2):=by
 have hk:=Zyp a.1.1 _ (Zyv h.2.2);refine⟨ZSr (Zb a.1.1 (a.2.2.getD 0 0)).1,ZSq _,?_⟩;show (EV3 _ a).val=_;have n1:=nx_1 a.1 a.2.1 a.2.2;have n5:=nx_5 a.1 a.2.1 a.2.2;have n6:=nx_6 a.1 a.2.1 a.2.2;have n2:=nx_2 a.1 a.2.1 a.2.2;have n3:=nx_3 a.1 a.2.1 a.2.2;have n4:=nx_4 a.1 a.2.1 a.2.2;have n7:=nx_7 a.1 a.2.1 a.2.2;have n8:=nx_8 a.1 a.2.1 a.2.2;have n9:=nx_9 a.1 a.2.1 a.2.2;have n10:=Z7q a.1 a.2.1 a.2.2;have n11:=Z7p a.1 a.2.1 a.2.2;rcases Zyo hk.1 hk.2 with e|e|e|e|e|e|e|e|e|e|e|e|e|e|e|e|e|e|e|e|e|e|e|e|e|e|e|e|e|e|e|e|e|e|e|e|e|e|e|e|e|e|e|e|e|e|e
 ·rw[e,ZMJ a,((n1 _ e).2.2.2.2.2.2.2.2.2.1 rfl)]
 ·rw[e,ZMI a,((n5 _ e).2 rfl)]
 ·rw[e,ZMH a,((n6 _ e).2.2.2.1 rfl)]
 ·rw[e,ZMG a,((n2 _ e).2.2.2.2.2.2.2.2.2.1 rfl)]
 ·rw[e,ZMF a,((n3 _ e).2.2.2.2.2.2.2.2.2.1 rfl)]
 ·rw[e,ZME a,((n4 _ e).2.2.2.2.2.2.2.2.1 rfl)]
 ·rw[e,ZMD a,((n1 _ e).2.2.2.2.2.2.2.2.2.2.1 rfl)]
 ·rw[e,ZMC a,((n2 _ e).2.2.2.2.2.2.2.2.2.2.1 rfl)]
 ·rw[e,ZMB a,((n3 _ e).2.2.2.2.2.2.2.2.2.2.1 rfl)]
 ·rw[e,ZEz a,((n4 _ e).2.2.2.2.2.2.2.2.2.1 rfl)]
 ·rw[e,ZEy a,((n1 _ e).2.2.2.2.2.2.2.2.2.2.2.1 rfl)]
 ·rw[e,ZEx a,((n7 _ e).2 rfl)]
 ·rw[e,ZEw a,((n2 _ e).2.2.2.2.2.2.2.2.2.2.2.1 rfl)]
 ·rw[e,ZEv a,((n6 _ e).2.2.2.2.1 rfl)]
 ·rw[e,ZEu a,((n6 _ e).2.2.2.2.2 rfl)]
 ·rw[e,ZEt a,((n3 _ e).2.2.2.2.2.2.2.2.2.2.2.1 rfl)]
 ·rw[e,ZEs a,((n4 _ e).2.2.2.2.2.2.2.2.2.2.1 rfl)]
 ·rw[e,ZEr a,((n1 _ e).2.2.2.2.2.2.2.2.2.2.2.2.1 rfl)]
 ·rw[e,ZEq a,((n2 _ e).2.2.2.2.2.2.2.2.2.2.2.2.1 rfl)]
 ·rw[e,ZEp a,((n3 _ e).2.2.2.2.2.2.2.2.2.2.2.2.1 rfl)]
 ·rw[e,ZEo a,((n4 _ e).2.2.2.2.2.2.2.2.2.2.2.1 rfl)]
 ·rw[e,ZEn a,((n1 _ e).2.2.2.2.2.2.2.2.2.2.2.2.2.1 rfl)]
 ·rw[e,ZEm a,((n2 _ e).2.2.2.2.2.2.2.2.2.2.2.2.2.1 rfl)]
 ·rw[e,ZEl a,((n8 _ e).2.2.1 rfl)]
 ·rw[e,ZEk a,((n8 _ e).2.2.2 rfl)]
 ·rw[e,ZEj a,((n9 _ e).2.2.1 rfl)]
 ·rw[e,ZEi a,((n3 _ e).2.2.2.2.2.2.2.2.2.2.2.2.2.1 rfl)]
 ·rw[e,ZEh a,((n4 _ e).2.2.2.2.2.2.2.2.2.2.2.2.1 rfl)]
 ·rw[e,ZEg a,((n1 _ e).2.2.2.2.2.2.2.2.2.2.2.2.2.2.1 rfl)]
 ·rw[e,ZEf a,((n10 _ e).2 rfl)]
 ·rw[e,ZEe a,((n2 _ e).2.2.2.2.2.2.2.2.2.2.2.2.2.2.1 rfl)]
 ·rw[e,ZEd a,((n11 _ e).2.2.1 rfl)]
 ·rw[e,ZEc a,((n3 _ e).2.2.2.2.2.2.2.2.2.2.2.2.2.2.1 rfl)]
 ·rw[e,ZEb a,((n4 _ e).2.2.2.2.2.2.2.2.2.2.2.2.2.1 rfl)]
 ·rw[e,ZEa a,((n1 _ e).2.2.2.2.2.2.2.2.2.2.2.2.2.2.2.1 rfl)]
 ·rw[e,ZD9 a,((n2 _ e).2.2.2.2.2.2.2.2.2.2.2.2.2.2.2.1 rfl)]
 ·rw[e,ZD8 a,((n11 _ e).2.2.2 rfl)]
 ·rw[e,ZD7 a,((n3 _ e).2.2.2.2.2.2.2.2.2.2.2.2.2.2.2.1 rfl)]
 ·rw[e,ZD6 a,((n4 _ e).2.2.2.2.2.2.2.2.2.2.2.2.2.2.1 rfl)]
 ·rw[e,ZD5 a,((n1 _ e).2.2.2.2.2.2.2.2.2.2.2.2.2.2.2.2.1 rfl)]
 ·rw[e,ZD4 a,((n2 _ e).2.2.2.2.2.2.2.2.2.2.2.2.2.2.2.2.1 rfl)]
 ·rw[e,ZD3 a,((n3 _ e).2.2.2.2.2.2.2.2.2.2.2.2.2.2.2.2.1 rfl)]
 ·rw[e,ZD2 a,((n4 _ e).2.2.2.2.2.2.2.2.2.2.2.2.2.2.2 rfl)]
 ·rw[e,ZD1 a,((n1 _ e).2.2.2.2.2.2.2.2.2.2.2.2.2.2.2.2.2 rfl)]
 ·rw[e,ZD0 a,((n9 _ e).2.2.2 rfl)]
 ·rw[e,ZDZ a,((n2 _ e).2.2.2.2.2.2.2.2.2.2.2.2.2.2.2.2.2 rfl)]
 ·rw[e,ZDY a,((n3 _ e).2.2.2.2.2.2.2.2.2.2.2.2.2.2.2.2.2 rfl)]
def ZJl:En:=Zf ZA ZGn (λ_=>none) (λa=>Zi a.1 a.2.1 a.2.2)
theorem Zvl:Za prog 166 ZJl:=Zm0 Tryz.func166 rfl (by kernel_rfl) Tryz.call166 λa h _=>ZYY a h
end
end Go.Proofs.YtpnjbfjomebppaaGreat
open Go.IntKind (u8 u16 i64)
namespace Go.Proofs.YtpnjbfjomebppaaGreat
noncomputable section
def wPC (r:RegT) (v:Int):RegT:=(r.1,r.2.1,r.2.2.1,r.2.2.2.1,r.2.2.2.2.1,r.2.2.2.2.2.1,r.2.2.2.2.2.2.1,r.2.2.2.2.2.2.2.1,r.2.2.2.2.2.2.2.2.1,v)
def wSP (r:RegT) (v:Int):RegT:=(r.1,r.2.1,r.2.2.1,r.2.2.2.1,r.2.2.2.2.1,r.2.2.2.2.2.1,r.2.2.2.2.2.2.1,r.2.2.2.2.2.2.2.1,v,r.2.2.2.2.2.2.2.2.2)
def wA (r:RegT) (v:Int):RegT:=(v,r.2)
def wF (r:RegT) (f:FlgT):RegT:=(r.1,r.2.1,r.2.2.1,r.2.2.2.1,r.2.2.2.2.1,r.2.2.2.2.2.1,r.2.2.2.2.2.2.1,f,r.2.2.2.2.2.2.2.2)
def fCY (f:FlgT) (b:Bool):FlgT:=(f.1,f.2.1,f.2.2.1,f.2.2.2.1,f.2.2.2.2.1,f.2.2.2.2.2.1,b)
def fVCY (f:FlgT) (v b:Bool):FlgT:=(f.1,f.2.1,f.2.2.1,f.2.2.2.1,f.2.2.2.2.1,v,b)
def ZdA (r:RegT):Int:=r.2.2.2.2.2.2.2.2.1
def flOf (r:RegT):FlgT:=r.2.2.2.2.2.2.2.1
def finR (c:CpuT) (r r0:RegT) (g:List Int) (i:InsT):RegT:=
 let dst:=i.2.2.1
 let src:=i.2.2.2.1
 let pr:=i.2.2.2.2.1
 let op:=i.2.2.2.2.2.1
 let g1:=g.getD 1 0
 let tk:=Zfp i.2.2.2.2.2.2.1 (flOf r)
 bif i.1==2 then rSet r0 dst (bif src==6 then g1 else rGet r src) else
 bif i.1==3 then rSet r0 dst g1 else
 bif i.1==4 then Zm r0 pr (Zbj g 1) else
 bif i.1==5 then wA r0 (g.getD 3 0) else
 bif i.1==7 then Zm r0 2 (Zbj g 3) else
 bif i.1==9 then wA r0 g1 else
 bif i.1==11 then (r0.1,r0.2.1,r0.2.2.1,r0.2.2.2.2.2.1,r0.2.2.2.2.2.2.1,r0.2.2.2.1,r0.2.2.2.2.1,r0.2.2.2.2.2.2.2) else
 bif i.1==12 then (let q:=rDo c.1 op r.1 (bif src==6 then g1 else rGet r src) (flOf r);wA (wF r0 q.2) q.1) else
 bif i.1==13 then (let q:=rDo c.1 op r.1 g1 (flOf r);wA (wF r0 q.2) q.1) else
 bif i.1==14 then (let q:=rInr c.1 (bif dst==6 then g1 else rGet r dst) (flOf r);rSet (wF r0 q.2) dst q.1) else
 bif i.1==15 then (let q:=rDcr c.1 (bif dst==6 then g1 else rGet r dst) (flOf r);rSet (wF r0 q.2) dst q.1) else
 bif i.1==16 then (let q:=rInx c.1 (Zao r pr) (flOf r);Zm (wF r0 q.2) pr q.1) else
 bif i.1==17 then (let q:=rDcx c.1 (Zao r pr) (flOf r);Zm (wF r0 q.2) pr q.1) else
 bif i.1==18 then (let q:=rDad c.1 (Zao r 2) (Zao r pr) (flOf r);Zm (wF r0 q.2) 2 q.1) else
 bif i.1==19 then (let q:=rDaa c.1 r.1 (flOf r);wA (wF r0 q.2) q.1) else
 bif i.1==20 then wA r0 (notI .u8 r.1) else
 bif i.1==21 then wF r0 (fCY (flOf r) true) else
 bif i.1==22 then wF r0 (fCY (flOf r) (!(flOf r).2.2.2.2.2.2)) else
 bif i.1==23 then (let q:=rRot op r.1 (flOf r).2.2.2.2.2.2;wA (wF r0 (fCY (flOf r) q.2)) q.1) else
 bif i.1==24 then (bif tk then wPC r0 (Zbj g 1) else r0) else
 bif i.1==25 then (bif tk then wPC (wSP r0 (IntKind.wrap .u16 (ZdA r-2))) (Zbj g 1) else r0) else
 bif i.1==26 then (bif tk then wPC (wSP r0 (IntKind.wrap .u16 (ZdA r+2))) (Zbj g 1) else r0) else
 bif i.1==27 then wPC (wSP r0 (IntKind.wrap .u16 (ZdA r-2))) (IntKind.wrap .u16 (IntKind.wrap .i64 (8*i.2.2.2.2.2.2.2))) else
 bif i.1==28 then wPC r0 (Zao r 2) else
 bif i.1==29 then wSP r0 (Zao r 2) else
 bif i.1==30 then wSP r0 (IntKind.wrap .u16 (ZdA r-2)) else
 bif i.1==31 then (let q:=bif pr==3 then Zhd c.1 r0 (Zbj g 1) else Zm r0 pr (Zbj g 1);wSP q (IntKind.wrap .u16 (ZdA q+2))) else
 bif i.1==32 then Zm r0 2 (Zbj g 1) else
 bif i.1==33 then wA r0 (g.getD 2 0) else
 bif i.1==40 then (let q:=ZAy (Zao r 2) (Zao r 0);Zm (wF r0 q.2) 2 q.1) else
 bif i.1==41 then (let q:=Zwi (Zao r 2);Zm (wF r0 (fCY (flOf r) q.2)) 2 q.1) else
 bif i.1==42 then (let q:=ZAj (Zao r 1) (flOf r).2.2.2.2.2.2;Zm (wF r0 (fVCY (flOf r) q.2.2 q.2.1)) 1 q.1) else
 bif i.1==43 then Zm r0 1 (IntKind.wrap .u16 (Zao r 2+IntKind.wrap .u16 g1)) else
 bif i.1==44 then Zm r0 1 (IntKind.wrap .u16 (ZdA r+IntKind.wrap .u16 g1)) else
 bif i.1==45 then (bif tk then wPC (wSP r0 (IntKind.wrap .u16 (ZdA r-2))) 64 else r0) else
 bif i.1==47 then Zm r0 2 (Zbj g 1) else
 r0
def finI (c:CpuT) (inj:Bool) (g:List Int) (l:QT0) (i:InsT):CpuT:=
 let r0:=wPC c.2.1 (ZI c inj i)
 let d:CpuT:=(c.1,r0,c.2.2.1,false,false,c.2.2.2.2.2)
 bif i.1==38 then (let q:=rRim d l;(q.2.1,wA q.2.2.1 q.1,q.2.2.2)) else
 bif i.1==39 then rSim d c.2.1.1 else
 (c.1,finR c c.2.1 r0 g i,bif i.1==35 then true else bif i.1==36 then false else c.2.2.1,i.1==35,i.1==37,c.2.2.2.2.2)
def finX (c:CpuT) (s:Int) (g:List Int) (l:QT0):CpuT:=
 bif Zc s then (c.1,wPC (wSP c.2.1 (IntKind.wrap .u16 (spOf c-2))) (Zh s),c.2.2)
 else finI c (s==5) g l (Zb c.1 (g.getD 0 0))
theorem Z1B (c:CpuT) (l):(rRim c l).2=(c.1,c.2.1,c.2.2.1,c.2.2.2.1,c.2.2.2.2.1,c.2.2.2.2.2.1,c.2.2.2.2.2.2.1,c.2.2.2.2.2.2.2.1,c.2.2.2.2.2.2.2.2.1,c.2.2.2.2.2.2.2.2.2.1,false,false,c.2.2.2.2.2.2.2.2.2.2.2.2):=by
 have h3:∀b,ZaA b 3=true:=λb=>by cases b<;>rfl
 have h4:∀b,ZaA b 4=true:=λb=>by cases b<;>rfl
 have h5:∀b,ZaA b 5=true:=λb=>by cases b<;>rfl
 have h6:∀b,ZaA b 6=true:=λb=>by cases b<;>rfl
 have h7:∀b,ZaA b 7=true:=λb=>by cases b<;>rfl
 simp only[rRim,ZRV,RT.val,h3,h4,h5,h6,h7,Yf,Yj,Yb,getO]
theorem Zc1 (s):Zhl s=true/\ZjH s=bif (s.2.2.2.1.1==13||s.2.2.2.1.2.2.2.1==6) then s.2.2.1.getD 1 0 else rGet s.1.2.1 s.2.2.2.1.2.2.2.1:=by simp only[Zhl,ZjH,ZjG,RT.val,qat1,Zaf];cases (s.2.2.2.1.1==13||s.2.2.2.1.2.2.2.1==6)<;>simp[okB,getO]
theorem Zg5 (r:RegT) (f:FlgT) (pc n v:Int):rSet (r.1,r.2.1,r.2.2.1,r.2.2.2.1,r.2.2.2.2.1,r.2.2.2.2.2.1,r.2.2.2.2.2.2.1,f,r.2.2.2.2.2.2.2.2.1,pc) n v=
  ((rSet r n v).1,(rSet r n v).2.1,(rSet r n v).2.2.1,(rSet r n v).2.2.2.1,(rSet r n v).2.2.2.2.1,(rSet r n v).2.2.2.2.2.1,(rSet r n v).2.2.2.2.2.2.1,f,(rSet r n v).2.2.2.2.2.2.2.2.1,pc):=rfl
theorem Zg7 (r:RegT) (n v:Int):(rSet r n v).2.2.2.2.2.2.2.1=r.2.2.2.2.2.2.2.1:=rfl
theorem Zg6 (r:RegT) (n v:Int):(rSet r n v).2.2.2.2.2.2.2.2=r.2.2.2.2.2.2.2.2:=rfl
theorem Zl4 (r:RegT) (f:FlgT) (pc n v:Int):Zm (r.1,r.2.1,r.2.2.1,r.2.2.2.1,r.2.2.2.2.1,r.2.2.2.2.2.1,r.2.2.2.2.2.2.1,f,r.2.2.2.2.2.2.2.2.1,pc) n v=
  ((Zm r n v).1,(Zm r n v).2.1,(Zm r n v).2.2.1,(Zm r n v).2.2.2.1,(Zm r n v).2.2.2.2.1,(Zm r n v).2.2.2.2.2.1,(Zm r n v).2.2.2.2.2.2.1,f,(Zm r n v).2.2.2.2.2.2.2.2.1,pc):=by simp only[Zm,Zhb,RT.val];cases (andI i64 n 3==3)<;>rfl
theorem Zl5 (r:RegT) (n v:Int):(Zm r n v).2.2.2.2.2.2.2.1=r.2.2.2.2.2.2.2.1:=by simp only[Zm,Zhb,RT.val];cases (andI i64 n 3==3)<;>rfl
theorem Z3O (r:RegT) (f:FlgT) (sp pc n:Int):ZEH (r.1,r.2.1,r.2.2.1,r.2.2.2.1,r.2.2.2.2.1,r.2.2.2.2.2.1,r.2.2.2.2.2.2.1,f,sp,pc) n=ZEH r n:=rfl
theorem Zfl (r:RegT) (f:FlgT) (pc n:Int):Zao (r.1,r.2.1,r.2.2.1,r.2.2.2.1,r.2.2.2.2.1,r.2.2.2.2.2.1,r.2.2.2.2.2.2.1,f,r.2.2.2.2.2.2.2.2.1,pc) n=Zao r n:=by simp only[Zao,Zs5,RT.val,rGet,ZEJ,Z3O]
theorem bnat {x:Int} (h:inR .u8 x):∃a:Nat,x=a/\a<256:=by rw[Zfv] at h;exact⟨x.toNat,by omega,by omega⟩
theorem w16 {n:Nat} (h:n<65536):IntKind.wrap .u16 (n:Int)=n:=Zno ⟨by simp[IntKind.min,IntKind.signed],by simp[IntKind.max,IntKind.signed,IntKind.bits];omega⟩
variable {h l:Int}
theorem ZLm (hh:inR .u8 h) (hl:inR .u8 l):Zdo h l=256*h+l:=by
 obtain⟨a,rfl,ha⟩:=bnat hh;obtain⟨b,rfl,hb⟩:=bnat hl;have e1:shlI .u16 (IntKind.wrap .u16 (a:Int)) 8=((a*256:Nat):Int):=by
  rw[w16 (by omega)];simp only[shlI];have:((a:Int)*2^min (8:Int).toNat u16.bits)=((a*256:Nat):Int):=by simp[IntKind.bits]
  rw[this,w16 (by omega)]
 have e2:(BitVec.ofInt u16.bits ((a*256:Nat):Int)|||BitVec.ofInt u16.bits (b:Int)).toNat=a*256+b:=by
  rw[BitVec.toNat_or,YaC,YaC];have k1:(((a*256:Nat):Int)%((2^u16.bits:Nat):Int)).toNat=a*256:=by simp[IntKind.bits];omega
  have k2:((b:Int)%((2^u16.bits:Nat):Int)).toNat=b:=by simp[IntKind.bits];omega
  rw[k1,k2];have:=Nat.shiftLeft_add_eq_or_of_lt (i:=8) (b:=b) (by omega) a;rw[Nat.shiftLeft_eq] at this;exact this.symm
 show orI .u16 (shlI .u16 (IntKind.wrap .u16 (a:Int)) 8) (IntKind.wrap .u16 (b:Int))=_;rw[e1,w16 (by omega)];simp only[orI];rw[e2,w16 (by omega)];omega
theorem Z5L (hh:inR .u8 h) (hl:inR .u8 l):IntKind.wrap .u8 (Zdo h l)=l:=by rw[ZLm hh hl];rw[Zfv] at hl;simp[IntKind.wrap,IntKind.signed,IntKind.bits];omega
theorem Z5M (hh:inR .u8 h) (hl:inR .u8 l):IntKind.wrap .u8 (shrI .u16 (Zdo h l) 8)=h:=by
 rw[ZLm hh hl];rw[Zfv] at hl hh;have:shrI .u16 (256*h+l) 8=h:=by
  simp only[shrI];have:((2:Int)^min (8:Int).toNat u16.bits)=256:=by decide
  rw[this,Int.fdiv_eq_ediv_of_nonneg _ (by decide)];omega
 rw[this];simp[IntKind.wrap,IntKind.signed,IntKind.bits];omega
theorem Zfk (r:RegT) (hh:inR .u8 h) (hl:inR .u8 l):Zm r 2 (Zdo h l)=(r.1,r.2.1,r.2.2.1,r.2.2.2.1,r.2.2.2.2.1,h,l,r.2.2.2.2.2.2.2):=by
 have e:Zm r 2 (Zdo h l)=(r.1,r.2.1,r.2.2.1,r.2.2.2.1,r.2.2.2.2.1,IntKind.wrap .u8 (shrI .u16 (Zdo h l) 8),IntKind.wrap .u8 (Zdo h l),r.2.2.2.2.2.2.2):=by generalize Zdo h l=v;rfl
 rw[e,Z5L hh hl,Z5M hh hl]
theorem Zl9 (x:Int):IntKind.wrap .u8 (255-x)=notI .u8 x:=by
 have e:notI .u8 x=IntKind.wrap .u8 ((~~~ (BitVec.ofInt 8 x)).toNat:Int):=by
  show IntKind.wrap .u8 (((BitVec.ofInt 8 255)^^^(BitVec.ofInt 8 x)).toNat:Int)=_;have:BitVec.ofInt 8 255=BitVec.allOnes 8:=by decide
  rw[this,BitVec.allOnes_xor]
 have h1:(BitVec.ofInt 8 x).toNat=(x%256).toNat:=YaC ..;have h2:((x%256).toNat:Int)=x%256:=by omega
 rw[e,BitVec.toNat_not,h1];have h3:((2^8-1-(x%256).toNat:Nat):Int)=255-x%256:=by omega
 rw[h3];simp[IntKind.wrap,IntKind.signed,IntKind.bits]
