import Derived.Test.YtpnjbfjomebppaaGreatKind47
import Derived.Test.YtpnjbfjomebppaaGreatNext1
import Derived.Test.YtpnjbfjomebppaaGreatNext2
import Derived.Test.YtpnjbfjomebppaaGreatNext3
import Derived.Test.YtpnjbfjomebppaaGreatNext4
open Go Go.S3 Go.Proofs
set_option linter.unusedVariables false
set_option linter.unusedSimpArgs false
set_option maxRecDepth 100000
namespace Go.Proofs.YtpnjbfjomebppaaGreat
noncomputable section
theorem nx_2 (c) (s:Int) (g:List Int) (n:Int) (hk:(Zb c.1 (g.getD 0 0)).1=n):(n=4->(Zva c s g).val=some (Zi c s g))/\(n=8->(Zu6 c s g).val=some (Zi c s g))/\(n=13->(ZoO c s g).val=some (Zi c s g))/\(n=19->(ZoI c s g).val=some (Zi c s g))/\(n=23->(ZoE c s g).val=some (Zi c s g))/\(n=31->(Zow c s g).val=some (Zi c s g))/\(n=36->(Zor c s g).val=some (Zi c s g))/\(n=41->(Zom c s g).val=some (Zi c s g))/\(n=46->(Zoh c s g).val=some (Zi c s g))/\(n=4->(ZtN c s g).val=some (Zi c s g))/\(n=8->(ZtJ c s g).val=some (Zi c s g))/\(n=13->(ZnI c s g).val=some (Zi c s g))/\(n=19->(ZnC c s g).val=some (Zi c s g))/\(n=23->(Zny c s g).val=some (Zi c s g))/\(n=31->(Znq c s g).val=some (Zi c s g))/\(n=36->(Znl c s g).val=some (Zi c s g))/\(n=41->(Zng c s g).val=some (Zi c s g))/\(n=46->(Znb c s g).val=some (Zi c s g)):=by
 refine⟨?_,?_,?_,?_,?_,?_,?_,?_,?_,?_,?_,?_,?_,?_,?_,?_,?_,?_⟩;all_goals intro e;subst e
 all_goals simp only[Zva,Zu6,ZoO,ZoI,ZoE,Zow,Zor,Zom,Zoh,ZtN,ZtJ,ZnI,ZnC,Zny,Znq,Znl,Zng,Znb,RT.val,fin3,pk]
 all_goals simp only[qat0,mat0,qat1,mat1,rg0,hk,Zq,ZX,Z5,ZD,ZE,Zt,Zu,ZaK,ZaN,ZaL,Zp,ZaM,Zi,Zh0,ZH,Zbe]
 all_goals generalize Zc s=bi
 all_goals generalize (s==5)=bs
 all_goals cases g with
 |nil=>cases bi<;>cases bs<;>simp[ZpE,ZbE,pcOf,spOf,Zch]
 |cons o t=>
  simp only[Yy] at hk;simp only[len0,Yy,ZjB,hk,Zcj,Zbe,ZH,ZfL,bne];generalize Zb c.1 o=i at hk|-;cases bi<;>cases bs<;>simp[ZbF,Zch,popX,pcOf,spOf,opC,ZiE,Zei,Za3,Zh6,ZbM,setI,R.get]
theorem nx_4 (c) (s:Int) (g:List Int) (n:Int) (hk:(Zb c.1 (g.getD 0 0)).1=n):(n=6->(Zu8 c s g).val=some (Zi c s g))/\(n=10->(ZoR c s g).val=some (Zi c s g))/\(n=17->(ZoK c s g).val=some (Zi c s g))/\(n=21->(ZoG c s g).val=some (Zi c s g))/\(n=28->(Zoz c s g).val=some (Zi c s g))/\(n=34->(Zot c s g).val=some (Zi c s g))/\(n=39->(Zoo c s g).val=some (Zi c s g))/\(n=43->(Zok c s g).val=some (Zi c s g))/\(n=6->(ZtL c s g).val=some (Zi c s g))/\(n=10->(ZnL c s g).val=some (Zi c s g))/\(n=17->(ZnE c s g).val=some (Zi c s g))/\(n=21->(ZnA c s g).val=some (Zi c s g))/\(n=28->(Znt c s g).val=some (Zi c s g))/\(n=34->(Znn c s g).val=some (Zi c s g))/\(n=39->(Zni c s g).val=some (Zi c s g))/\(n=43->(Zne c s g).val=some (Zi c s g)):=by
 refine⟨?_,?_,?_,?_,?_,?_,?_,?_,?_,?_,?_,?_,?_,?_,?_,?_⟩;all_goals intro e;subst e
 all_goals simp only[Zu8,ZoR,ZoK,ZoG,Zoz,Zot,Zoo,Zok,ZtL,ZnL,ZnE,ZnA,Znt,Znn,Zni,Zne,RT.val,fin3,pk]
 all_goals simp only[qat0,mat0,qat1,mat1,rg0,hk,Zq,ZX,Z5,ZD,ZE,Zt,Zu,ZaK,ZaN,ZaL,Zp,ZaM,Zi,Zh0,ZH,Zbe]
 all_goals generalize Zc s=bi
 all_goals generalize (s==5)=bs
 all_goals cases g with
 |nil=>cases bi<;>cases bs<;>simp[ZpE,ZbE,pcOf,spOf,Zch]
 |cons o t=>
  simp only[Yy] at hk;simp only[len0,Yy,ZjB,hk,Zcj,Zbe,ZH,ZfL,bne];generalize Zb c.1 o=i at hk|-;cases bi<;>cases bs<;>simp[ZbF,Zch,popX,pcOf,spOf,opC,ZiE,Zei,Za3,Zh6,ZbM,setI,R.get]
theorem nx_6 (c) (s:Int) (g:List Int) (n:Int) (hk:(Zb c.1 (g.getD 0 0)).1=n):(n=3->(Zvb c s g).val=some (Zi c s g))/\(n=14->(ZoN c s g).val=some (Zi c s g))/\(n=15->(ZoM c s g).val=some (Zi c s g))/\(n=3->(ZtO c s g).val=some (Zi c s g))/\(n=14->(ZnH c s g).val=some (Zi c s g))/\(n=15->(ZnG c s g).val=some (Zi c s g)):=by
 refine⟨?_,?_,?_,?_,?_,?_⟩;all_goals intro e;subst e
 all_goals simp only[Zvb,ZoN,ZoM,ZtO,ZnH,ZnG,RT.val,fin3,pk]
 all_goals simp only[qat0,mat0,qat1,mat1,rg0,hk,Zq,ZX,Z5,ZD,ZE,Zt,Zu,ZaK,ZaN,ZaL,Zp,ZaM,Zi,Zh0,ZH,Zbe]
 all_goals generalize Zc s=bi
 all_goals generalize (s==5)=bs
 all_goals cases g with
 |nil=>cases bi<;>cases bs<;>simp[ZpE,ZbE,pcOf,spOf,Zch]
 |cons o t=>
  simp only[Yy] at hk;simp only[len0,Yy,ZjB,hk,Zcj,Zbe,ZH,ZfL,bne];generalize Zb c.1 o=i at hk|-;generalize (i.2.2.1==6)=b0;cases b0<;>cases bi<;>cases bs<;>simp[ZbF,Zch,popX,pcOf,spOf,opC,ZiE,Zei,Za3,Zh6,ZbM,setI,R.get]
theorem nx_8 (c) (s:Int) (g:List Int) (n:Int) (hk:(Zb c.1 (g.getD 0 0)).1=n):(n=24->(ZoD c s g).val=some (Zi c s g))/\(n=25->(ZoC c s g).val=some (Zi c s g))/\(n=24->(Znx c s g).val=some (Zi c s g))/\(n=25->(Znw c s g).val=some (Zi c s g)):=by
 refine⟨?_,?_,?_,?_⟩;all_goals intro e;subst e
 all_goals simp only[ZoD,ZoC,Znx,Znw,RT.val,fin3,pk]
 all_goals simp only[qat0,mat0,qat1,mat1,rg0,hk,Zq,ZX,Z5,ZD,ZE,Zt,Zu,ZaK,ZaN,ZaL,Zp,ZaM,Zi,Zh0,ZH,Zbe]
 all_goals generalize Zc s=bi
 all_goals generalize (s==5)=bs
 all_goals cases g with
 |nil=>cases bi<;>cases bs<;>simp[ZpE,ZbE,pcOf,spOf,Zch]
 |cons o t=>
  simp only[Yy] at hk;simp only[len0,Yy,ZjB,hk,Zcj,Zbe,ZH,ZfL,bne];generalize Zb c.1 o=i at hk|-;generalize Zen _ _=b0;generalize (c.1==2)=b1;cases b0<;>cases b1<;>cases bi<;>cases bs<;>simp[ZbF,Zch,popX,pcOf,spOf,opC,ZiE,Zei,Za3,Zh6,ZbM,setI,R.get]
theorem Z17 (c) (s:Int) (g:List Int) (n:Int) (hk:(Zb c.1 (g.getD 0 0)).1=n):(n=30->(Zox c s g).val=some (Zi c s g))/\(n=30->(Znr c s g).val=some (Zi c s g)):=by
 refine⟨?_,?_⟩;all_goals intro e;subst e
 all_goals simp only[Zox,Znr,RT.val,fin3,pk]
 all_goals simp only[qat0,mat0,qat1,mat1,rg0,hk,Zq,ZX,Z5,ZD,ZE,Zt,Zu,ZaK,ZaN,ZaL,Zp,ZaM,Zi,Zh0,ZH,Zbe]
 all_goals generalize Zc s=bi
 all_goals generalize (s==5)=bs
 all_goals cases g with
 |nil=>cases bi<;>cases bs<;>simp[ZpE,ZbE,pcOf,spOf,Zch]
 |cons o t=>
  simp only[Yy] at hk;simp only[len0,Yy,ZjB,hk,Zcj,Zbe,ZH,ZfL,bne];generalize Zb c.1 o=i at hk|-;generalize (i.2.2.2.2.1==3)=b0;cases b0<;>cases bi<;>cases bs<;>simp[ZbF,Zch,popX,pcOf,spOf,opC,ZiE,Zei,Za3,Zh6,ZbM,setI,R.get]
theorem nx_1 (c) (s:Int) (g:List Int) (n:Int) (hk:(Zb c.1 (g.getD 0 0)).1=n):(n=1->(Zvd c s g).val=some (Zi c s g))/\(n=7->(Zu7 c s g).val=some (Zi c s g))/\(n=11->(ZoQ c s g).val=some (Zi c s g))/\(n=18->(ZoJ c s g).val=some (Zi c s g))/\(n=22->(ZoF c s g).val=some (Zi c s g))/\(n=29->(Zoy c s g).val=some (Zi c s g))/\(n=35->(Zos c s g).val=some (Zi c s g))/\(n=40->(Zon c s g).val=some (Zi c s g))/\(n=44->(Zoj c s g).val=some (Zi c s g))/\(n=1->(ZtQ c s g).val=some (Zi c s g))/\(n=7->(ZtK c s g).val=some (Zi c s g))/\(n=11->(ZnK c s g).val=some (Zi c s g))/\(n=18->(ZnD c s g).val=some (Zi c s g))/\(n=22->(Znz c s g).val=some (Zi c s g))/\(n=29->(Zns c s g).val=some (Zi c s g))/\(n=35->(Znm c s g).val=some (Zi c s g))/\(n=40->(Znh c s g).val=some (Zi c s g))/\(n=44->(Znd c s g).val=some (Zi c s g)):=by
 refine⟨?_,?_,?_,?_,?_,?_,?_,?_,?_,?_,?_,?_,?_,?_,?_,?_,?_,?_⟩;all_goals intro e;subst e
 all_goals simp only[Zvd,Zu7,ZoQ,ZoJ,ZoF,Zoy,Zos,Zon,Zoj,ZtQ,ZtK,ZnK,ZnD,Znz,Zns,Znm,Znh,Znd,RT.val,fin3,pk]
 all_goals simp only[qat0,mat0,qat1,mat1,rg0,hk,Zq,ZX,Z5,ZD,ZE,Zt,Zu,ZaK,ZaN,ZaL,Zp,ZaM,Zi,Zh0,ZH,Zbe]
 all_goals generalize Zc s=bi
 all_goals generalize (s==5)=bs
 all_goals cases g with
 |nil=>cases bi<;>cases bs<;>simp[ZpE,ZbE,pcOf,spOf,Zch]
 |cons o t=>
  simp only[Yy] at hk;simp only[len0,Yy,ZjB,hk,Zcj,Zbe,ZH,ZfL,bne];generalize Zb c.1 o=i at hk|-;cases bi<;>cases bs<;>simp[ZbF,Zch,popX,pcOf,spOf,opC,ZiE,Zei,Za3,Zh6,ZbM,setI,R.get]
theorem nx_3 (c) (s:Int) (g:List Int) (n:Int) (hk:(Zb c.1 (g.getD 0 0)).1=n):(n=5->(Zu9 c s g).val=some (Zi c s g))/\(n=9->(Zu5 c s g).val=some (Zi c s g))/\(n=16->(ZoL c s g).val=some (Zi c s g))/\(n=20->(ZoH c s g).val=some (Zi c s g))/\(n=27->(ZoA c s g).val=some (Zi c s g))/\(n=33->(Zou c s g).val=some (Zi c s g))/\(n=38->(Zop c s g).val=some (Zi c s g))/\(n=42->(Zol c s g).val=some (Zi c s g))/\(n=47->(Zog c s g).val=some (Zi c s g))/\(n=5->(ZtM c s g).val=some (Zi c s g))/\(n=9->(ZtI c s g).val=some (Zi c s g))/\(n=16->(ZnF c s g).val=some (Zi c s g))/\(n=20->(ZnB c s g).val=some (Zi c s g))/\(n=27->(Znu c s g).val=some (Zi c s g))/\(n=33->(Zno c s g).val=some (Zi c s g))/\(n=38->(Znj c s g).val=some (Zi c s g))/\(n=42->(Znf c s g).val=some (Zi c s g))/\(n=47->(Zna c s g).val=some (Zi c s g)):=by
 refine⟨?_,?_,?_,?_,?_,?_,?_,?_,?_,?_,?_,?_,?_,?_,?_,?_,?_,?_⟩;all_goals intro e;subst e
 all_goals simp only[Zu9,Zu5,ZoL,ZoH,ZoA,Zou,Zop,Zol,Zog,ZtM,ZtI,ZnF,ZnB,Znu,Zno,Znj,Znf,Zna,RT.val,fin3,pk]
 all_goals simp only[qat0,mat0,qat1,mat1,rg0,hk,Zq,ZX,Z5,ZD,ZE,Zt,Zu,ZaK,ZaN,ZaL,Zp,ZaM,Zi,Zh0,ZH,Zbe]
 all_goals generalize Zc s=bi
 all_goals generalize (s==5)=bs
 all_goals cases g with
 |nil=>cases bi<;>cases bs<;>simp[ZpE,ZbE,pcOf,spOf,Zch]
 |cons o t=>
  simp only[Yy] at hk;simp only[len0,Yy,ZjB,hk,Zcj,Zbe,ZH,ZfL,bne];generalize Zb c.1 o=i at hk|-;cases bi<;>cases bs<;>simp[ZbF,Zch,popX,pcOf,spOf,opC,ZiE,Zei,Za3,Zh6,ZbM,setI,R.get]
theorem nx_5 (c) (s:Int) (g:List Int) (n:Int) (hk:(Zb c.1 (g.getD 0 0)).1=n):(n=2->(Zvc c s g).val=some (Zi c s g))/\(n=2->(ZtP c s g).val=some (Zi c s g)):=by
 refine⟨?_,?_⟩;all_goals intro e;subst e
 all_goals simp only[Zvc,ZtP,RT.val,fin3,pk]
 all_goals simp only[qat0,mat0,qat1,mat1,rg0,hk,Zq,ZX,Z5,ZD,ZE,Zt,Zu,ZaK,ZaN,ZaL,Zp,ZaM,Zi,Zh0,ZH,Zbe]
 all_goals generalize Zc s=bi
 all_goals generalize (s==5)=bs
 all_goals cases g with
 |nil=>cases bi<;>cases bs<;>simp[ZpE,ZbE,pcOf,spOf,Zch]
 |cons o t=>
  simp only[Yy] at hk;simp only[len0,Yy,ZjB,hk,Zcj,Zbe,ZH,ZfL,bne];generalize Zb c.1 o=i at hk|-;generalize (i.2.2.2.1==6)=b0;generalize (i.2.2.1==6)=b1;cases b0<;>cases b1<;>cases bi<;>cases bs<;>simp[ZbF,Zch,popX,pcOf,spOf,opC,ZiE,Zei,Za3,Zh6,ZbM,setI,R.get]
theorem nx_7 (c) (s:Int) (g:List Int) (n:Int) (hk:(Zb c.1 (g.getD 0 0)).1=n):(n=12->(ZoP c s g).val=some (Zi c s g))/\(n=12->(ZnJ c s g).val=some (Zi c s g)):=by
 refine⟨?_,?_⟩;all_goals intro e;subst e
 all_goals simp only[ZoP,ZnJ,RT.val,fin3,pk]
 all_goals simp only[qat0,mat0,qat1,mat1,rg0,hk,Zq,ZX,Z5,ZD,ZE,Zt,Zu,ZaK,ZaN,ZaL,Zp,ZaM,Zi,Zh0,ZH,Zbe]
 all_goals generalize Zc s=bi
 all_goals generalize (s==5)=bs
 all_goals cases g with
 |nil=>cases bi<;>cases bs<;>simp[ZpE,ZbE,pcOf,spOf,Zch]
 |cons o t=>
  simp only[Yy] at hk;simp only[len0,Yy,ZjB,hk,Zcj,Zbe,ZH,ZfL,bne];generalize Zb c.1 o=i at hk|-;generalize (i.2.2.2.1==6)=b0;cases b0<;>cases bi<;>cases bs<;>simp[ZbF,Zch,popX,pcOf,spOf,opC,ZiE,Zei,Za3,Zh6,ZbM,setI,R.get]
theorem nx_9 (c) (s:Int) (g:List Int) (n:Int) (hk:(Zb c.1 (g.getD 0 0)).1=n):(n=26->(ZoB c s g).val=some (Zi c s g))/\(n=45->(Zoi c s g).val=some (Zi c s g))/\(n=26->(Znv c s g).val=some (Zi c s g))/\(n=45->(Znc c s g).val=some (Zi c s g)):=by
 refine⟨?_,?_,?_,?_⟩;all_goals intro e;subst e
 all_goals simp only[ZoB,Zoi,Znv,Znc,RT.val,fin3,pk]
 all_goals simp only[qat0,mat0,qat1,mat1,rg0,hk,Zq,ZX,Z5,ZD,ZE,Zt,Zu,ZaK,ZaN,ZaL,Zp,ZaM,Zi,Zh0,ZH,Zbe]
 all_goals generalize Zc s=bi
 all_goals generalize (s==5)=bs
 all_goals cases g with
 |nil=>cases bi<;>cases bs<;>simp[ZpE,ZbE,pcOf,spOf,Zch]
 |cons o t=>
  simp only[Yy] at hk;simp only[len0,Yy,ZjB,hk,Zcj,Zbe,ZH,ZfL,bne];generalize Zb c.1 o=i at hk|-;generalize Zen _ _=b0;cases b0<;>cases bi<;>cases bs<;>simp[ZbF,Zch,popX,pcOf,spOf,opC,ZiE,Zei,Za3,Zh6,ZbM,setI,R.get]
theorem Z16 (c) (s:Int) (g:List Int) (n:Int) (hk:(Zb c.1 (g.getD 0 0)).1=n):(n=32->(Zov c s g).val=some (Zi c s g))/\(n=37->(Zoq c s g).val=some (Zi c s g))/\(n=32->(Znp c s g).val=some (Zi c s g))/\(n=37->(Znk c s g).val=some (Zi c s g)):=by
 refine⟨?_,?_,?_,?_⟩;all_goals intro e;subst e
 all_goals simp only[Zov,Zoq,Znp,Znk,RT.val,fin3,pk]
 all_goals simp only[qat0,mat0,qat1,mat1,rg0,hk,Zq,ZX,Z5,ZD,ZE,Zt,Zu,ZaK,ZaN,ZaL,Zp,ZaM,Zi,Zh0,ZH,Zbe]
 all_goals generalize Zc s=bi
 all_goals generalize (s==5)=bs
 all_goals cases g with
 |nil=>cases bi<;>cases bs<;>simp[ZpE,ZbE,pcOf,spOf,Zch]
 |cons o t=>
  simp only[Yy] at hk;simp only[len0,Yy,ZjB,hk,Zcj,Zbe,ZH,ZfL,bne];generalize Zb c.1 o=i at hk|-;generalize (c.1==2)=b0;cases b0<;>cases bi<;>cases bs<;>simp[ZbF,Zch,popX,pcOf,spOf,opC,ZiE,Zei,Za3,Zh6,ZbM,setI,R.get]
end
end Go.Proofs.YtpnjbfjomebppaaGreat
open Go.Proofs.Tryz (prog)
namespace Go.Proofs.YtpnjbfjomebppaaGreat
noncomputable section
theorem ZU9 (a:HL Zy) (h:okHL Zy a):∃l,Zc3 prog l/\(Zez (envX prog l [] 1125900980585471 8) Tryz.f82 Zy ZDO a).val=some (Zi a.1 a.2.1 a.2.2):=by
 have hk:=Zws a.1.1 _ (Zww h.2.2);refine⟨ZQJ (Zb a.1.1 (a.2.2.getD 0 0)).1,ZQI _,?_⟩;show (EV1 _ a).val=_;have n1:=nx_1 a.1 a.2.1 a.2.2;have n5:=nx_5 a.1 a.2.1 a.2.2;have n6:=nx_6 a.1 a.2.1 a.2.2;have n2:=nx_2 a.1 a.2.1 a.2.2;have n3:=nx_3 a.1 a.2.1 a.2.2;have n4:=nx_4 a.1 a.2.1 a.2.2;have n7:=nx_7 a.1 a.2.1 a.2.2;have n8:=nx_8 a.1 a.2.1 a.2.2;have n9:=nx_9 a.1 a.2.1 a.2.2;have n10:=Z17 a.1 a.2.1 a.2.2;have n11:=Z16 a.1 a.2.1 a.2.2;rcases Zwr hk.1 hk.2 with e|e|e|e|e|e|e|e|e|e|e|e|e|e|e|e|e|e|e|e|e|e|e|e|e|e|e|e|e|e|e|e|e|e|e|e|e|e|e|e|e|e|e|e|e|e|e
 ·rw[e,ZKA a,((n1 _ e).1 rfl)]
 ·rw[e,ZKz a,((n5 _ e).1 rfl)]
 ·rw[e,ZKy a,((n6 _ e).1 rfl)]
 ·rw[e,ZKx a,((n2 _ e).1 rfl)]
 ·rw[e,ZKw a,((n3 _ e).1 rfl)]
 ·rw[e,ZKv a,((n4 _ e).1 rfl)]
 ·rw[e,ZKu a,((n1 _ e).2.1 rfl)]
 ·rw[e,ZKt a,((n2 _ e).2.1 rfl)]
 ·rw[e,ZKs a,((n3 _ e).2.1 rfl)]
 ·rw[e,ZDN a,((n4 _ e).2.1 rfl)]
 ·rw[e,ZDM a,((n1 _ e).2.2.1 rfl)]
 ·rw[e,ZDL a,((n7 _ e).1 rfl)]
 ·rw[e,ZDK a,((n2 _ e).2.2.1 rfl)]
 ·rw[e,ZDJ a,((n6 _ e).2.1 rfl)]
 ·rw[e,ZDI a,((n6 _ e).2.2.1 rfl)]
 ·rw[e,ZDH a,((n3 _ e).2.2.1 rfl)]
 ·rw[e,ZDG a,((n4 _ e).2.2.1 rfl)]
 ·rw[e,ZDF a,((n1 _ e).2.2.2.1 rfl)]
 ·rw[e,ZDE a,((n2 _ e).2.2.2.1 rfl)]
 ·rw[e,ZDD a,((n3 _ e).2.2.2.1 rfl)]
 ·rw[e,ZDC a,((n4 _ e).2.2.2.1 rfl)]
 ·rw[e,ZDB a,((n1 _ e).2.2.2.2.1 rfl)]
 ·rw[e,ZDA a,((n2 _ e).2.2.2.2.1 rfl)]
 ·rw[e,ZDz a,((n8 _ e).1 rfl)]
 ·rw[e,ZDy a,((n8 _ e).2.1 rfl)]
 ·rw[e,ZDx a,((n9 _ e).1 rfl)]
 ·rw[e,ZDw a,((n3 _ e).2.2.2.2.1 rfl)]
 ·rw[e,ZDv a,((n4 _ e).2.2.2.2.1 rfl)]
 ·rw[e,ZDu a,((n1 _ e).2.2.2.2.2.1 rfl)]
 ·rw[e,ZDt a,((n10 _ e).1 rfl)]
 ·rw[e,ZDs a,((n2 _ e).2.2.2.2.2.1 rfl)]
 ·rw[e,ZDr a,((n11 _ e).1 rfl)]
 ·rw[e,ZDq a,((n3 _ e).2.2.2.2.2.1 rfl)]
 ·rw[e,ZDp a,((n4 _ e).2.2.2.2.2.1 rfl)]
 ·rw[e,ZDo a,((n1 _ e).2.2.2.2.2.2.1 rfl)]
 ·rw[e,ZDn a,((n2 _ e).2.2.2.2.2.2.1 rfl)]
 ·rw[e,ZDm a,((n11 _ e).2.1 rfl)]
 ·rw[e,ZDl a,((n3 _ e).2.2.2.2.2.2.1 rfl)]
 ·rw[e,ZDk a,((n4 _ e).2.2.2.2.2.2.1 rfl)]
 ·rw[e,ZDj a,((n1 _ e).2.2.2.2.2.2.2.1 rfl)]
 ·rw[e,ZDi a,((n2 _ e).2.2.2.2.2.2.2.1 rfl)]
 ·rw[e,ZDh a,((n3 _ e).2.2.2.2.2.2.2.1 rfl)]
 ·rw[e,ZDg a,((n4 _ e).2.2.2.2.2.2.2.1 rfl)]
 ·rw[e,ZDf a,((n1 _ e).2.2.2.2.2.2.2.2.1 rfl)]
 ·rw[e,ZDe a,((n9 _ e).2.1 rfl)]
 ·rw[e,ZDd a,((n2 _ e).2.2.2.2.2.2.2.2.1 rfl)]
 ·rw[e,ZDc a,((n3 _ e).2.2.2.2.2.2.2.2.1 rfl)]
def ZQK:En:=Zg Zy ZDO (λ_=>none) (λa=>Zi a.1 a.2.1 a.2.2)
theorem ZHq:Za prog 82 ZQK:=ZlM Tryz.func82 rfl (by kernel_rfl) Tryz.call82 λa h _=>ZU9 a h
theorem ZUy (a:HL Zy) (h:okHL Zy a):∃l,Zc3 prog l/\(Zez (envX prog l [] 2047 8) Tryz.f166 Zy ZDO a).val=some (Zi a.1 a.2.1 a.2.2):=by
 have hk:=Zws a.1.1 _ (Zww h.2.2);refine⟨ZO3 (Zb a.1.1 (a.2.2.getD 0 0)).1,ZO2 _,?_⟩;show (EV3 _ a).val=_;have n1:=nx_1 a.1 a.2.1 a.2.2;have n5:=nx_5 a.1 a.2.1 a.2.2;have n6:=nx_6 a.1 a.2.1 a.2.2;have n2:=nx_2 a.1 a.2.1 a.2.2;have n3:=nx_3 a.1 a.2.1 a.2.2;have n4:=nx_4 a.1 a.2.1 a.2.2;have n7:=nx_7 a.1 a.2.1 a.2.2;have n8:=nx_8 a.1 a.2.1 a.2.2;have n9:=nx_9 a.1 a.2.1 a.2.2;have n10:=Z17 a.1 a.2.1 a.2.2;have n11:=Z16 a.1 a.2.1 a.2.2;rcases Zwr hk.1 hk.2 with e|e|e|e|e|e|e|e|e|e|e|e|e|e|e|e|e|e|e|e|e|e|e|e|e|e|e|e|e|e|e|e|e|e|e|e|e|e|e|e|e|e|e|e|e|e|e
 ·rw[e,ZJu a,((n1 _ e).2.2.2.2.2.2.2.2.2.1 rfl)]
 ·rw[e,ZJt a,((n5 _ e).2 rfl)]
 ·rw[e,ZJs a,((n6 _ e).2.2.2.1 rfl)]
 ·rw[e,ZJr a,((n2 _ e).2.2.2.2.2.2.2.2.2.1 rfl)]
 ·rw[e,ZJq a,((n3 _ e).2.2.2.2.2.2.2.2.2.1 rfl)]
 ·rw[e,ZJp a,((n4 _ e).2.2.2.2.2.2.2.2.1 rfl)]
 ·rw[e,ZJo a,((n1 _ e).2.2.2.2.2.2.2.2.2.2.1 rfl)]
 ·rw[e,ZJn a,((n2 _ e).2.2.2.2.2.2.2.2.2.2.1 rfl)]
 ·rw[e,ZJm a,((n3 _ e).2.2.2.2.2.2.2.2.2.2.1 rfl)]
 ·rw[e,ZCm a,((n4 _ e).2.2.2.2.2.2.2.2.2.1 rfl)]
 ·rw[e,ZCl a,((n1 _ e).2.2.2.2.2.2.2.2.2.2.2.1 rfl)]
 ·rw[e,ZCk a,((n7 _ e).2 rfl)]
 ·rw[e,ZCj a,((n2 _ e).2.2.2.2.2.2.2.2.2.2.2.1 rfl)]
 ·rw[e,ZCi a,((n6 _ e).2.2.2.2.1 rfl)]
 ·rw[e,ZCh a,((n6 _ e).2.2.2.2.2 rfl)]
 ·rw[e,ZCg a,((n3 _ e).2.2.2.2.2.2.2.2.2.2.2.1 rfl)]
 ·rw[e,ZCf a,((n4 _ e).2.2.2.2.2.2.2.2.2.2.1 rfl)]
 ·rw[e,ZCe a,((n1 _ e).2.2.2.2.2.2.2.2.2.2.2.2.1 rfl)]
 ·rw[e,ZCd a,((n2 _ e).2.2.2.2.2.2.2.2.2.2.2.2.1 rfl)]
 ·rw[e,ZCc a,((n3 _ e).2.2.2.2.2.2.2.2.2.2.2.2.1 rfl)]
 ·rw[e,ZCb a,((n4 _ e).2.2.2.2.2.2.2.2.2.2.2.1 rfl)]
 ·rw[e,ZCa a,((n1 _ e).2.2.2.2.2.2.2.2.2.2.2.2.2.1 rfl)]
 ·rw[e,ZB9 a,((n2 _ e).2.2.2.2.2.2.2.2.2.2.2.2.2.1 rfl)]
 ·rw[e,ZB8 a,((n8 _ e).2.2.1 rfl)]
 ·rw[e,ZB7 a,((n8 _ e).2.2.2 rfl)]
 ·rw[e,ZB6 a,((n9 _ e).2.2.1 rfl)]
 ·rw[e,ZB5 a,((n3 _ e).2.2.2.2.2.2.2.2.2.2.2.2.2.1 rfl)]
 ·rw[e,ZB4 a,((n4 _ e).2.2.2.2.2.2.2.2.2.2.2.2.1 rfl)]
 ·rw[e,ZB3 a,((n1 _ e).2.2.2.2.2.2.2.2.2.2.2.2.2.2.1 rfl)]
 ·rw[e,ZB2 a,((n10 _ e).2 rfl)]
 ·rw[e,ZB1 a,((n2 _ e).2.2.2.2.2.2.2.2.2.2.2.2.2.2.1 rfl)]
 ·rw[e,ZB0 a,((n11 _ e).2.2.1 rfl)]
 ·rw[e,ZBZ a,((n3 _ e).2.2.2.2.2.2.2.2.2.2.2.2.2.2.1 rfl)]
 ·rw[e,ZBY a,((n4 _ e).2.2.2.2.2.2.2.2.2.2.2.2.2.1 rfl)]
 ·rw[e,ZBX a,((n1 _ e).2.2.2.2.2.2.2.2.2.2.2.2.2.2.2.1 rfl)]
 ·rw[e,ZBW a,((n2 _ e).2.2.2.2.2.2.2.2.2.2.2.2.2.2.2.1 rfl)]
 ·rw[e,ZBV a,((n11 _ e).2.2.2 rfl)]
 ·rw[e,ZBU a,((n3 _ e).2.2.2.2.2.2.2.2.2.2.2.2.2.2.2.1 rfl)]
 ·rw[e,ZBT a,((n4 _ e).2.2.2.2.2.2.2.2.2.2.2.2.2.2.1 rfl)]
 ·rw[e,ZBS a,((n1 _ e).2.2.2.2.2.2.2.2.2.2.2.2.2.2.2.2.1 rfl)]
 ·rw[e,ZBR a,((n2 _ e).2.2.2.2.2.2.2.2.2.2.2.2.2.2.2.2.1 rfl)]
 ·rw[e,ZBQ a,((n3 _ e).2.2.2.2.2.2.2.2.2.2.2.2.2.2.2.2.1 rfl)]
 ·rw[e,ZBP a,((n4 _ e).2.2.2.2.2.2.2.2.2.2.2.2.2.2.2 rfl)]
 ·rw[e,ZBO a,((n1 _ e).2.2.2.2.2.2.2.2.2.2.2.2.2.2.2.2.2 rfl)]
 ·rw[e,ZBN a,((n9 _ e).2.2.2 rfl)]
 ·rw[e,ZBM a,((n2 _ e).2.2.2.2.2.2.2.2.2.2.2.2.2.2.2.2.2 rfl)]
 ·rw[e,ZBL a,((n3 _ e).2.2.2.2.2.2.2.2.2.2.2.2.2.2.2.2.2 rfl)]
def ZrB:En:=Zg Zy ZDO (λ_=>none) (λa=>Zi a.1 a.2.1 a.2.2)
theorem ZiQ:Za prog 166 ZrB:=ZlM Tryz.func166 rfl (by kernel_rfl) Tryz.call166 λa h _=>ZUy a h
end
end Go.Proofs.YtpnjbfjomebppaaGreat
open Go.IntKind (u8 u16 i64)
namespace Go.Proofs.YtpnjbfjomebppaaGreat
noncomputable section
def wPC (r:RegT) (v:Int):RegT:=(r.1,r.2.1,r.2.2.1,r.2.2.2.1,r.2.2.2.2.1,r.2.2.2.2.2.1,r.2.2.2.2.2.2.1,r.2.2.2.2.2.2.2.1,r.2.2.2.2.2.2.2.2.1,v)
def wSP (r:RegT) (v:Int):RegT:=(r.1,r.2.1,r.2.2.1,r.2.2.2.1,r.2.2.2.2.1,r.2.2.2.2.2.1,r.2.2.2.2.2.2.1,r.2.2.2.2.2.2.2.1,v,r.2.2.2.2.2.2.2.2.2)
def wA (r:RegT) (v:Int):RegT:=(v,r.2)
def wF (r:RegT) (f:FlgT):RegT:=(r.1,r.2.1,r.2.2.1,r.2.2.2.1,r.2.2.2.2.1,r.2.2.2.2.2.1,r.2.2.2.2.2.2.1,f,r.2.2.2.2.2.2.2.2)
def fCY (f:FlgT) (b:Bool):FlgT:=(f.1,f.2.1,f.2.2.1,f.2.2.2.1,f.2.2.2.2.1,f.2.2.2.2.2.1,b)
def fVCY (f:FlgT) (v b:Bool):FlgT:=(f.1,f.2.1,f.2.2.1,f.2.2.2.1,f.2.2.2.2.1,v,b)
def ZcL (r:RegT):Int:=r.2.2.2.2.2.2.2.2.1
def flOf (r:RegT):FlgT:=r.2.2.2.2.2.2.2.1
def finR (c:CpuT) (r r0:RegT) (g:List Int) (i:InsT):RegT:=
 let dst:=i.2.2.1
 let src:=i.2.2.2.1
 let pr:=i.2.2.2.2.1
 let op:=i.2.2.2.2.2.1
 let g1:=g.getD 1 0
 let tk:=Zen i.2.2.2.2.2.2.1 (flOf r)
 bif i.1==2 then rSet r0 dst (bif src==6 then g1 else rGet r src) else
 bif i.1==3 then rSet r0 dst g1 else
 bif i.1==4 then Zl r0 pr (Za3 g 1) else
 bif i.1==5 then wA r0 (g.getD 3 0) else
 bif i.1==7 then Zl r0 2 (Za3 g 3) else
 bif i.1==9 then wA r0 g1 else
 bif i.1==11 then (r0.1,r0.2.1,r0.2.2.1,r0.2.2.2.2.2.1,r0.2.2.2.2.2.2.1,r0.2.2.2.1,r0.2.2.2.2.1,r0.2.2.2.2.2.2.2) else
 bif i.1==12 then (let q:=rDo c.1 op r.1 (bif src==6 then g1 else rGet r src) (flOf r);wA (wF r0 q.2) q.1) else
 bif i.1==13 then (let q:=rDo c.1 op r.1 g1 (flOf r);wA (wF r0 q.2) q.1) else
 bif i.1==14 then (let q:=rInr c.1 (bif dst==6 then g1 else rGet r dst) (flOf r);rSet (wF r0 q.2) dst q.1) else
 bif i.1==15 then (let q:=rDcr c.1 (bif dst==6 then g1 else rGet r dst) (flOf r);rSet (wF r0 q.2) dst q.1) else
 bif i.1==16 then (let q:=rInx c.1 (Zab r pr) (flOf r);Zl (wF r0 q.2) pr q.1) else
 bif i.1==17 then (let q:=rDcx c.1 (Zab r pr) (flOf r);Zl (wF r0 q.2) pr q.1) else
 bif i.1==18 then (let q:=rDad c.1 (Zab r 2) (Zab r pr) (flOf r);Zl (wF r0 q.2) 2 q.1) else
 bif i.1==19 then (let q:=rDaa c.1 r.1 (flOf r);wA (wF r0 q.2) q.1) else
 bif i.1==20 then wA r0 (notI .u8 r.1) else
 bif i.1==21 then wF r0 (fCY (flOf r) true) else
 bif i.1==22 then wF r0 (fCY (flOf r) (!(flOf r).2.2.2.2.2.2)) else
 bif i.1==23 then (let q:=rRot op r.1 (flOf r).2.2.2.2.2.2;wA (wF r0 (fCY (flOf r) q.2)) q.1) else
 bif i.1==24 then (bif tk then wPC r0 (Za3 g 1) else r0) else
 bif i.1==25 then (bif tk then wPC (wSP r0 (IntKind.wrap .u16 (ZcL r-2))) (Za3 g 1) else r0) else
 bif i.1==26 then (bif tk then wPC (wSP r0 (IntKind.wrap .u16 (ZcL r+2))) (Za3 g 1) else r0) else
 bif i.1==27 then wPC (wSP r0 (IntKind.wrap .u16 (ZcL r-2))) (IntKind.wrap .u16 (IntKind.wrap .i64 (8*i.2.2.2.2.2.2.2))) else
 bif i.1==28 then wPC r0 (Zab r 2) else
 bif i.1==29 then wSP r0 (Zab r 2) else
 bif i.1==30 then wSP r0 (IntKind.wrap .u16 (ZcL r-2)) else
 bif i.1==31 then (let q:=bif pr==3 then Zgh c.1 r0 (Za3 g 1) else Zl r0 pr (Za3 g 1);wSP q (IntKind.wrap .u16 (ZcL q+2))) else
 bif i.1==32 then Zl r0 2 (Za3 g 1) else
 bif i.1==33 then wA r0 (g.getD 2 0) else
 bif i.1==40 then (let q:=ZyC (Zab r 2) (Zab r 0);Zl (wF r0 q.2) 2 q.1) else
 bif i.1==41 then (let q:=ZuE (Zab r 2);Zl (wF r0 (fCY (flOf r) q.2)) 2 q.1) else
 bif i.1==42 then (let q:=Zyp (Zab r 1) (flOf r).2.2.2.2.2.2;Zl (wF r0 (fVCY (flOf r) q.2.2 q.2.1)) 1 q.1) else
 bif i.1==43 then Zl r0 1 (IntKind.wrap .u16 (Zab r 2+IntKind.wrap .u16 g1)) else
 bif i.1==44 then Zl r0 1 (IntKind.wrap .u16 (ZcL r+IntKind.wrap .u16 g1)) else
 bif i.1==45 then (bif tk then wPC (wSP r0 (IntKind.wrap .u16 (ZcL r-2))) 64 else r0) else
 bif i.1==47 then Zl r0 2 (Za3 g 1) else
 r0
def finI (c:CpuT) (inj:Bool) (g:List Int) (l:QT0) (i:InsT):CpuT:=
 let r0:=wPC c.2.1 (ZH c inj i)
 let d:CpuT:=(c.1,r0,c.2.2.1,false,false,c.2.2.2.2.2)
 bif i.1==38 then (let q:=rRim d l;(q.2.1,wA q.2.2.1 q.1,q.2.2.2)) else
 bif i.1==39 then rSim d c.2.1.1 else
 (c.1,finR c c.2.1 r0 g i,bif i.1==35 then true else bif i.1==36 then false else c.2.2.1,i.1==35,i.1==37,c.2.2.2.2.2)
def finX (c:CpuT) (s:Int) (g:List Int) (l:QT0):CpuT:=
 bif Zc s then (c.1,wPC (wSP c.2.1 (IntKind.wrap .u16 (spOf c-2))) (Zh s),c.2.2)
 else finI c (s==5) g l (Zb c.1 (g.getD 0 0))
theorem ZWH (c:CpuT) (l):(rRim c l).2=(c.1,c.2.1,c.2.2.1,c.2.2.2.1,c.2.2.2.2.1,c.2.2.2.2.2.1,c.2.2.2.2.2.2.1,c.2.2.2.2.2.2.2.1,c.2.2.2.2.2.2.2.2.1,c.2.2.2.2.2.2.2.2.2.1,false,false,c.2.2.2.2.2.2.2.2.2.2.2.2):=by
 have h3:∀b,Zap b 3=true:=λb=>by cases b<;>rfl
 have h4:∀b,Zap b 4=true:=λb=>by cases b<;>rfl
 have h5:∀b,Zap b 5=true:=λb=>by cases b<;>rfl
 have h6:∀b,Zap b 6=true:=λb=>by cases b<;>rfl
 have h7:∀b,Zap b 7=true:=λb=>by cases b<;>rfl
 simp only[rRim,ZOx,RT.val,h3,h4,h5,h6,h7,Yg,Yj,Ya,getO]
theorem Zcf (s):Zgp s=true/\ZiY s=bif (s.2.2.2.1.1==13||s.2.2.2.1.2.2.2.1==6) then s.2.2.1.getD 1 0 else rGet s.1.2.1 s.2.2.2.1.2.2.2.1:=by simp only[Zgp,ZiY,ZiX,RT.val,qat1,Z5];cases (s.2.2.2.1.1==13||s.2.2.2.1.2.2.2.1==6)<;>simp[okB,getO]
theorem Zga (r:RegT) (f:FlgT) (pc n v:Int):rSet (r.1,r.2.1,r.2.2.1,r.2.2.2.1,r.2.2.2.2.1,r.2.2.2.2.2.1,r.2.2.2.2.2.2.1,f,r.2.2.2.2.2.2.2.2.1,pc) n v=
  ((rSet r n v).1,(rSet r n v).2.1,(rSet r n v).2.2.1,(rSet r n v).2.2.2.1,(rSet r n v).2.2.2.2.1,(rSet r n v).2.2.2.2.2.1,(rSet r n v).2.2.2.2.2.2.1,f,(rSet r n v).2.2.2.2.2.2.2.2.1,pc):=rfl
theorem Zgc (r:RegT) (n v:Int):(rSet r n v).2.2.2.2.2.2.2.1=r.2.2.2.2.2.2.2.1:=rfl
theorem Zgb (r:RegT) (n v:Int):(rSet r n v).2.2.2.2.2.2.2.2=r.2.2.2.2.2.2.2.2:=rfl
theorem ZkV (r:RegT) (f:FlgT) (pc n v:Int):Zl (r.1,r.2.1,r.2.2.1,r.2.2.2.1,r.2.2.2.2.1,r.2.2.2.2.2.1,r.2.2.2.2.2.2.1,f,r.2.2.2.2.2.2.2.2.1,pc) n v=
  ((Zl r n v).1,(Zl r n v).2.1,(Zl r n v).2.2.1,(Zl r n v).2.2.2.1,(Zl r n v).2.2.2.2.1,(Zl r n v).2.2.2.2.2.1,(Zl r n v).2.2.2.2.2.2.1,f,(Zl r n v).2.2.2.2.2.2.2.2.1,pc):=by simp only[Zl,Zgf,RT.val];cases (andI i64 n 3==3)<;>rfl
theorem ZkW (r:RegT) (n v:Int):(Zl r n v).2.2.2.2.2.2.2.1=r.2.2.2.2.2.2.2.1:=by simp only[Zl,Zgf,RT.val];cases (andI i64 n 3==3)<;>rfl
theorem ZYQ (r:RegT) (f:FlgT) (sp pc n:Int):ZCs (r.1,r.2.1,r.2.2.1,r.2.2.2.1,r.2.2.2.2.1,r.2.2.2.2.2.1,r.2.2.2.2.2.2.1,f,sp,pc) n=ZCs r n:=rfl
theorem Zel (r:RegT) (f:FlgT) (pc n:Int):Zab (r.1,r.2.1,r.2.2.1,r.2.2.2.1,r.2.2.2.2.1,r.2.2.2.2.2.1,r.2.2.2.2.2.2.1,f,r.2.2.2.2.2.2.2.2.1,pc) n=Zab r n:=by simp only[Zab,Zrx,RT.val,rGet,ZCu,ZYQ]
theorem bnat {x:Int} (h:inR .u8 x):∃a:Nat,x=a/\a<256:=by rw[ZgH] at h;exact⟨x.toNat,by omega,by omega⟩
theorem w16 {n:Nat} (h:n<65536):IntKind.wrap .u16 (n:Int)=n:=Zmg ⟨by simp[IntKind.min,IntKind.signed],by simp[IntKind.max,IntKind.signed,IntKind.bits];omega⟩
variable {h l:Int}
theorem ZId (hh:inR .u8 h) (hl:inR .u8 l):Zcx h l=256*h+l:=by
 obtain⟨a,rfl,ha⟩:=bnat hh;obtain⟨b,rfl,hb⟩:=bnat hl;have e1:shlI .u16 (IntKind.wrap .u16 (a:Int)) 8=((a*256:Nat):Int):=by
  rw[w16 (by omega)];simp only[shlI];have:((a:Int)*2^min (8:Int).toNat u16.bits)=((a*256:Nat):Int):=by simp[IntKind.bits]
  rw[this,w16 (by omega)]
 have e2:(BitVec.ofInt u16.bits ((a*256:Nat):Int)|||BitVec.ofInt u16.bits (b:Int)).toNat=a*256+b:=by
  rw[BitVec.toNat_or,YaB,YaB];have k1:(((a*256:Nat):Int)%((2^u16.bits:Nat):Int)).toNat=a*256:=by simp[IntKind.bits];omega
  have k2:((b:Int)%((2^u16.bits:Nat):Int)).toNat=b:=by simp[IntKind.bits];omega
  rw[k1,k2];have:=Nat.shiftLeft_add_eq_or_of_lt (i:=8) (b:=b) (by omega) a;rw[Nat.shiftLeft_eq] at this;exact this.symm
 show orI .u16 (shlI .u16 (IntKind.wrap .u16 (a:Int)) 8) (IntKind.wrap .u16 (b:Int))=_;rw[e1,w16 (by omega)];simp only[orI];rw[e2,w16 (by omega)];omega
theorem Z0v (hh:inR .u8 h) (hl:inR .u8 l):IntKind.wrap .u8 (Zcx h l)=l:=by rw[ZId hh hl];rw[ZgH] at hl;simp[IntKind.wrap,IntKind.signed,IntKind.bits];omega
theorem Z0w (hh:inR .u8 h) (hl:inR .u8 l):IntKind.wrap .u8 (shrI .u16 (Zcx h l) 8)=h:=by
 rw[ZId hh hl];rw[ZgH] at hl hh;have:shrI .u16 (256*h+l) 8=h:=by
  simp only[shrI];have:((2:Int)^min (8:Int).toNat u16.bits)=256:=by decide
  rw[this,Int.fdiv_eq_ediv_of_nonneg _ (by decide)];omega
 rw[this];simp[IntKind.wrap,IntKind.signed,IntKind.bits];omega
theorem Zek (r:RegT) (hh:inR .u8 h) (hl:inR .u8 l):Zl r 2 (Zcx h l)=(r.1,r.2.1,r.2.2.1,r.2.2.2.1,r.2.2.2.2.1,h,l,r.2.2.2.2.2.2.2):=by
 have e:Zl r 2 (Zcx h l)=(r.1,r.2.1,r.2.2.1,r.2.2.2.1,r.2.2.2.2.1,IntKind.wrap .u8 (shrI .u16 (Zcx h l) 8),IntKind.wrap .u8 (Zcx h l),r.2.2.2.2.2.2.2):=by generalize Zcx h l=v;rfl
 rw[e,Z0v hh hl,Z0w hh hl]
theorem Zk0 (x:Int):IntKind.wrap .u8 (255-x)=notI .u8 x:=by
 have e:notI .u8 x=IntKind.wrap .u8 ((~~~ (BitVec.ofInt 8 x)).toNat:Int):=by
  show IntKind.wrap .u8 (((BitVec.ofInt 8 255)^^^(BitVec.ofInt 8 x)).toNat:Int)=_;have:BitVec.ofInt 8 255=BitVec.allOnes 8:=by decide
  rw[this,BitVec.allOnes_xor]
 have h1:(BitVec.ofInt 8 x).toNat=(x%256).toNat:=YaB ..;have h2:((x%256).toNat:Int)=x%256:=by omega
 rw[e,BitVec.toNat_not,h1];have h3:((2^8-1-(x%256).toNat:Nat):Int)=255-x%256:=by omega
 rw[h3];simp[IntKind.wrap,IntKind.signed,IntKind.bits]
