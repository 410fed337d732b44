import Derived.Test.YtghoimllhpjkjaaGreatKind47
import Derived.Test.YtghoimllhpjkjaaGreatNext1
import Derived.Test.YtghoimllhpjkjaaGreatNext2
import Derived.Test.YtghoimllhpjkjaaGreatNext3
import Derived.Test.YtghoimllhpjkjaaGreatNext4
open Go Go.S3 Go.Proofs
set_option linter.unusedVariables false
set_option linter.unusedSimpArgs false
set_option maxRecDepth 100000
namespace Go.Proofs.YtghoimllhpjkjaaGreat
noncomputable section
theorem nx_2 (c) (s:Int) (g:List Int) (n:Int) (hk:(Zc c.1 (g.getD 0 0)).1=n):(n=4->(ZyH c s g).val=some (Zg c s g))/\(n=8->(ZyD c s g).val=some (Zg c s g))/\(n=13->(Zsk c s g).val=some (Zg c s g))/\(n=19->(Zse c s g).val=some (Zg c s g))/\(n=23->(Zsa c s g).val=some (Zg c s g))/\(n=31->(Zr2 c s g).val=some (Zg c s g))/\(n=36->(ZrX c s g).val=some (Zg c s g))/\(n=41->(ZrS c s g).val=some (Zg c s g))/\(n=46->(ZrN c s g).val=some (Zg c s g))/\(n=4->(Zot c s g).val=some (Zg c s g))/\(n=8->(Zop c s g).val=some (Zg c s g))/\(n=13->(Zkw c s g).val=some (Zg c s g))/\(n=19->(Zkq c s g).val=some (Zg c s g))/\(n=23->(Zkm c s g).val=some (Zg c s g))/\(n=31->(Zke c s g).val=some (Zg c s g))/\(n=36->(Zj9 c s g).val=some (Zg c s g))/\(n=41->(Zj4 c s g).val=some (Zg c s g))/\(n=46->(ZjZ c s g).val=some (Zg c s g)):=by
 refine⟨?_,?_,?_,?_,?_,?_,?_,?_,?_,?_,?_,?_,?_,?_,?_,?_,?_,?_⟩;all_goals intro e;subst e
 all_goals simp only[ZyH,ZyD,Zsk,Zse,Zsa,Zr2,ZrX,ZrS,ZrN,Zot,Zop,Zkw,Zkq,Zkm,Zke,Zj9,Zj4,ZjZ,RT.val,fin3,pk]
 all_goals simp only[qat0,mat0,qat1,mat1,rg0,hk,Zy,Zad,ZaE,ZY,ZZ,ZL,ZM,ZbB,ZbD,Zax,Zx,Zcd,Zg,ZdK,ZO,ZaQ]
 all_goals generalize Za s=bi
 all_goals generalize (s==5)=bs
 all_goals cases g with
 |nil=>cases bi<;>cases bs<;>simp[Zlv,Zbf,pcOf,spOf,ZbT]
 |cons o t=>
  simp only[Yt] at hk;simp only[len0,Yt,Zfd,hk,Zbw,ZaQ,ZO,Zeb,bne];generalize Zc c.1 o=i at hk|-;cases bi<;>cases bs<;>simp[Zbg,ZbT,popX,pcOf,spOf,opC,ZgB,Zc7,Zbs,Ze3,ZcP,setI,R.get]
theorem nx_4 (c) (s:Int) (g:List Int) (n:Int) (hk:(Zc c.1 (g.getD 0 0)).1=n):(n=6->(ZyF c s g).val=some (Zg c s g))/\(n=10->(Zsn c s g).val=some (Zg c s g))/\(n=17->(Zsg c s g).val=some (Zg c s g))/\(n=21->(Zsc c s g).val=some (Zg c s g))/\(n=28->(Zr5 c s g).val=some (Zg c s g))/\(n=34->(ZrZ c s g).val=some (Zg c s g))/\(n=39->(ZrU c s g).val=some (Zg c s g))/\(n=43->(ZrQ c s g).val=some (Zg c s g))/\(n=6->(Zor c s g).val=some (Zg c s g))/\(n=10->(Zkz c s g).val=some (Zg c s g))/\(n=17->(Zks c s g).val=some (Zg c s g))/\(n=21->(Zko c s g).val=some (Zg c s g))/\(n=28->(Zkh c s g).val=some (Zg c s g))/\(n=34->(Zkb c s g).val=some (Zg c s g))/\(n=39->(Zj6 c s g).val=some (Zg c s g))/\(n=43->(Zj2 c s g).val=some (Zg c s g)):=by
 refine⟨?_,?_,?_,?_,?_,?_,?_,?_,?_,?_,?_,?_,?_,?_,?_,?_⟩;all_goals intro e;subst e
 all_goals simp only[ZyF,Zsn,Zsg,Zsc,Zr5,ZrZ,ZrU,ZrQ,Zor,Zkz,Zks,Zko,Zkh,Zkb,Zj6,Zj2,RT.val,fin3,pk]
 all_goals simp only[qat0,mat0,qat1,mat1,rg0,hk,Zy,Zad,ZaE,ZY,ZZ,ZL,ZM,ZbB,ZbD,Zax,Zx,Zcd,Zg,ZdK,ZO,ZaQ]
 all_goals generalize Za s=bi
 all_goals generalize (s==5)=bs
 all_goals cases g with
 |nil=>cases bi<;>cases bs<;>simp[Zlv,Zbf,pcOf,spOf,ZbT]
 |cons o t=>
  simp only[Yt] at hk;simp only[len0,Yt,Zfd,hk,Zbw,ZaQ,ZO,Zeb,bne];generalize Zc c.1 o=i at hk|-;cases bi<;>cases bs<;>simp[Zbg,ZbT,popX,pcOf,spOf,opC,ZgB,Zc7,Zbs,Ze3,ZcP,setI,R.get]
theorem nx_6 (c) (s:Int) (g:List Int) (n:Int) (hk:(Zc c.1 (g.getD 0 0)).1=n):(n=3->(ZyI c s g).val=some (Zg c s g))/\(n=14->(Zsj c s g).val=some (Zg c s g))/\(n=15->(Zsi c s g).val=some (Zg c s g))/\(n=3->(Zou c s g).val=some (Zg c s g))/\(n=14->(Zkv c s g).val=some (Zg c s g))/\(n=15->(Zku c s g).val=some (Zg c s g)):=by
 refine⟨?_,?_,?_,?_,?_,?_⟩;all_goals intro e;subst e
 all_goals simp only[ZyI,Zsj,Zsi,Zou,Zkv,Zku,RT.val,fin3,pk]
 all_goals simp only[qat0,mat0,qat1,mat1,rg0,hk,Zy,Zad,ZaE,ZY,ZZ,ZL,ZM,ZbB,ZbD,Zax,Zx,Zcd,Zg,ZdK,ZO,ZaQ]
 all_goals generalize Za s=bi
 all_goals generalize (s==5)=bs
 all_goals cases g with
 |nil=>cases bi<;>cases bs<;>simp[Zlv,Zbf,pcOf,spOf,ZbT]
 |cons o t=>
  simp only[Yt] at hk;simp only[len0,Yt,Zfd,hk,Zbw,ZaQ,ZO,Zeb,bne];generalize Zc c.1 o=i at hk|-;generalize (i.2.2.1==6)=b0;cases b0<;>cases bi<;>cases bs<;>simp[Zbg,ZbT,popX,pcOf,spOf,opC,ZgB,Zc7,Zbs,Ze3,ZcP,setI,R.get]
theorem nx_8 (c) (s:Int) (g:List Int) (n:Int) (hk:(Zc c.1 (g.getD 0 0)).1=n):(n=24->(Zr9 c s g).val=some (Zg c s g))/\(n=25->(Zr8 c s g).val=some (Zg c s g))/\(n=24->(Zkl c s g).val=some (Zg c s g))/\(n=25->(Zkk c s g).val=some (Zg c s g)):=by
 refine⟨?_,?_,?_,?_⟩;all_goals intro e;subst e
 all_goals simp only[Zr9,Zr8,Zkl,Zkk,RT.val,fin3,pk]
 all_goals simp only[qat0,mat0,qat1,mat1,rg0,hk,Zy,Zad,ZaE,ZY,ZZ,ZL,ZM,ZbB,ZbD,Zax,Zx,Zcd,Zg,ZdK,ZO,ZaQ]
 all_goals generalize Za s=bi
 all_goals generalize (s==5)=bs
 all_goals cases g with
 |nil=>cases bi<;>cases bs<;>simp[Zlv,Zbf,pcOf,spOf,ZbT]
 |cons o t=>
  simp only[Yt] at hk;simp only[len0,Yt,Zfd,hk,Zbw,ZaQ,ZO,Zeb,bne];generalize Zc c.1 o=i at hk|-;generalize ZfP _ _=b0;generalize (c.1==2)=b1;cases b0<;>cases b1<;>cases bi<;>cases bs<;>simp[Zbg,ZbT,popX,pcOf,spOf,opC,ZgB,Zc7,Zbs,Ze3,ZcP,setI,R.get]
theorem nx_10 (c) (s:Int) (g:List Int) (n:Int) (hk:(Zc c.1 (g.getD 0 0)).1=n):(n=30->(Zr3 c s g).val=some (Zg c s g))/\(n=30->(Zkf c s g).val=some (Zg c s g)):=by
 refine⟨?_,?_⟩;all_goals intro e;subst e
 all_goals simp only[Zr3,Zkf,RT.val,fin3,pk]
 all_goals simp only[qat0,mat0,qat1,mat1,rg0,hk,Zy,Zad,ZaE,ZY,ZZ,ZL,ZM,ZbB,ZbD,Zax,Zx,Zcd,Zg,ZdK,ZO,ZaQ]
 all_goals generalize Za s=bi
 all_goals generalize (s==5)=bs
 all_goals cases g with
 |nil=>cases bi<;>cases bs<;>simp[Zlv,Zbf,pcOf,spOf,ZbT]
 |cons o t=>
  simp only[Yt] at hk;simp only[len0,Yt,Zfd,hk,Zbw,ZaQ,ZO,Zeb,bne];generalize Zc c.1 o=i at hk|-;generalize (i.2.2.2.2.1==3)=b0;cases b0<;>cases bi<;>cases bs<;>simp[Zbg,ZbT,popX,pcOf,spOf,opC,ZgB,Zc7,Zbs,Ze3,ZcP,setI,R.get]
theorem nx_1 (c) (s:Int) (g:List Int) (n:Int) (hk:(Zc c.1 (g.getD 0 0)).1=n):(n=1->(ZyK c s g).val=some (Zg c s g))/\(n=7->(ZyE c s g).val=some (Zg c s g))/\(n=11->(Zsm c s g).val=some (Zg c s g))/\(n=18->(Zsf c s g).val=some (Zg c s g))/\(n=22->(Zsb c s g).val=some (Zg c s g))/\(n=29->(Zr4 c s g).val=some (Zg c s g))/\(n=35->(ZrY c s g).val=some (Zg c s g))/\(n=40->(ZrT c s g).val=some (Zg c s g))/\(n=44->(ZrP c s g).val=some (Zg c s g))/\(n=1->(Zow c s g).val=some (Zg c s g))/\(n=7->(Zoq c s g).val=some (Zg c s g))/\(n=11->(Zky c s g).val=some (Zg c s g))/\(n=18->(Zkr c s g).val=some (Zg c s g))/\(n=22->(Zkn c s g).val=some (Zg c s g))/\(n=29->(Zkg c s g).val=some (Zg c s g))/\(n=35->(Zka c s g).val=some (Zg c s g))/\(n=40->(Zj5 c s g).val=some (Zg c s g))/\(n=44->(Zj1 c s g).val=some (Zg c s g)):=by
 refine⟨?_,?_,?_,?_,?_,?_,?_,?_,?_,?_,?_,?_,?_,?_,?_,?_,?_,?_⟩;all_goals intro e;subst e
 all_goals simp only[ZyK,ZyE,Zsm,Zsf,Zsb,Zr4,ZrY,ZrT,ZrP,Zow,Zoq,Zky,Zkr,Zkn,Zkg,Zka,Zj5,Zj1,RT.val,fin3,pk]
 all_goals simp only[qat0,mat0,qat1,mat1,rg0,hk,Zy,Zad,ZaE,ZY,ZZ,ZL,ZM,ZbB,ZbD,Zax,Zx,Zcd,Zg,ZdK,ZO,ZaQ]
 all_goals generalize Za s=bi
 all_goals generalize (s==5)=bs
 all_goals cases g with
 |nil=>cases bi<;>cases bs<;>simp[Zlv,Zbf,pcOf,spOf,ZbT]
 |cons o t=>
  simp only[Yt] at hk;simp only[len0,Yt,Zfd,hk,Zbw,ZaQ,ZO,Zeb,bne];generalize Zc c.1 o=i at hk|-;cases bi<;>cases bs<;>simp[Zbg,ZbT,popX,pcOf,spOf,opC,ZgB,Zc7,Zbs,Ze3,ZcP,setI,R.get]
theorem nx_3 (c) (s:Int) (g:List Int) (n:Int) (hk:(Zc c.1 (g.getD 0 0)).1=n):(n=5->(ZyG c s g).val=some (Zg c s g))/\(n=9->(ZyC c s g).val=some (Zg c s g))/\(n=16->(Zsh c s g).val=some (Zg c s g))/\(n=20->(Zsd c s g).val=some (Zg c s g))/\(n=27->(Zr6 c s g).val=some (Zg c s g))/\(n=33->(Zr0 c s g).val=some (Zg c s g))/\(n=38->(ZrV c s g).val=some (Zg c s g))/\(n=42->(ZrR c s g).val=some (Zg c s g))/\(n=47->(ZrM c s g).val=some (Zg c s g))/\(n=5->(Zos c s g).val=some (Zg c s g))/\(n=9->(Zoo c s g).val=some (Zg c s g))/\(n=16->(Zkt c s g).val=some (Zg c s g))/\(n=20->(Zkp c s g).val=some (Zg c s g))/\(n=27->(Zki c s g).val=some (Zg c s g))/\(n=33->(Zkc c s g).val=some (Zg c s g))/\(n=38->(Zj7 c s g).val=some (Zg c s g))/\(n=42->(Zj3 c s g).val=some (Zg c s g))/\(n=47->(ZjY c s g).val=some (Zg c s g)):=by
 refine⟨?_,?_,?_,?_,?_,?_,?_,?_,?_,?_,?_,?_,?_,?_,?_,?_,?_,?_⟩;all_goals intro e;subst e
 all_goals simp only[ZyG,ZyC,Zsh,Zsd,Zr6,Zr0,ZrV,ZrR,ZrM,Zos,Zoo,Zkt,Zkp,Zki,Zkc,Zj7,Zj3,ZjY,RT.val,fin3,pk]
 all_goals simp only[qat0,mat0,qat1,mat1,rg0,hk,Zy,Zad,ZaE,ZY,ZZ,ZL,ZM,ZbB,ZbD,Zax,Zx,Zcd,Zg,ZdK,ZO,ZaQ]
 all_goals generalize Za s=bi
 all_goals generalize (s==5)=bs
 all_goals cases g with
 |nil=>cases bi<;>cases bs<;>simp[Zlv,Zbf,pcOf,spOf,ZbT]
 |cons o t=>
  simp only[Yt] at hk;simp only[len0,Yt,Zfd,hk,Zbw,ZaQ,ZO,Zeb,bne];generalize Zc c.1 o=i at hk|-;cases bi<;>cases bs<;>simp[Zbg,ZbT,popX,pcOf,spOf,opC,ZgB,Zc7,Zbs,Ze3,ZcP,setI,R.get]
theorem nx_5 (c) (s:Int) (g:List Int) (n:Int) (hk:(Zc c.1 (g.getD 0 0)).1=n):(n=2->(ZyJ c s g).val=some (Zg c s g))/\(n=2->(Zov c s g).val=some (Zg c s g)):=by
 refine⟨?_,?_⟩;all_goals intro e;subst e
 all_goals simp only[ZyJ,Zov,RT.val,fin3,pk]
 all_goals simp only[qat0,mat0,qat1,mat1,rg0,hk,Zy,Zad,ZaE,ZY,ZZ,ZL,ZM,ZbB,ZbD,Zax,Zx,Zcd,Zg,ZdK,ZO,ZaQ]
 all_goals generalize Za s=bi
 all_goals generalize (s==5)=bs
 all_goals cases g with
 |nil=>cases bi<;>cases bs<;>simp[Zlv,Zbf,pcOf,spOf,ZbT]
 |cons o t=>
  simp only[Yt] at hk;simp only[len0,Yt,Zfd,hk,Zbw,ZaQ,ZO,Zeb,bne];generalize Zc c.1 o=i at hk|-;generalize (i.2.2.2.1==6)=b0;generalize (i.2.2.1==6)=b1;cases b0<;>cases b1<;>cases bi<;>cases bs<;>simp[Zbg,ZbT,popX,pcOf,spOf,opC,ZgB,Zc7,Zbs,Ze3,ZcP,setI,R.get]
theorem nx_7 (c) (s:Int) (g:List Int) (n:Int) (hk:(Zc c.1 (g.getD 0 0)).1=n):(n=12->(Zsl c s g).val=some (Zg c s g))/\(n=12->(Zkx c s g).val=some (Zg c s g)):=by
 refine⟨?_,?_⟩;all_goals intro e;subst e
 all_goals simp only[Zsl,Zkx,RT.val,fin3,pk]
 all_goals simp only[qat0,mat0,qat1,mat1,rg0,hk,Zy,Zad,ZaE,ZY,ZZ,ZL,ZM,ZbB,ZbD,Zax,Zx,Zcd,Zg,ZdK,ZO,ZaQ]
 all_goals generalize Za s=bi
 all_goals generalize (s==5)=bs
 all_goals cases g with
 |nil=>cases bi<;>cases bs<;>simp[Zlv,Zbf,pcOf,spOf,ZbT]
 |cons o t=>
  simp only[Yt] at hk;simp only[len0,Yt,Zfd,hk,Zbw,ZaQ,ZO,Zeb,bne];generalize Zc c.1 o=i at hk|-;generalize (i.2.2.2.1==6)=b0;cases b0<;>cases bi<;>cases bs<;>simp[Zbg,ZbT,popX,pcOf,spOf,opC,ZgB,Zc7,Zbs,Ze3,ZcP,setI,R.get]
theorem nx_9 (c) (s:Int) (g:List Int) (n:Int) (hk:(Zc c.1 (g.getD 0 0)).1=n):(n=26->(Zr7 c s g).val=some (Zg c s g))/\(n=45->(ZrO c s g).val=some (Zg c s g))/\(n=26->(Zkj c s g).val=some (Zg c s g))/\(n=45->(Zj0 c s g).val=some (Zg c s g)):=by
 refine⟨?_,?_,?_,?_⟩;all_goals intro e;subst e
 all_goals simp only[Zr7,ZrO,Zkj,Zj0,RT.val,fin3,pk]
 all_goals simp only[qat0,mat0,qat1,mat1,rg0,hk,Zy,Zad,ZaE,ZY,ZZ,ZL,ZM,ZbB,ZbD,Zax,Zx,Zcd,Zg,ZdK,ZO,ZaQ]
 all_goals generalize Za s=bi
 all_goals generalize (s==5)=bs
 all_goals cases g with
 |nil=>cases bi<;>cases bs<;>simp[Zlv,Zbf,pcOf,spOf,ZbT]
 |cons o t=>
  simp only[Yt] at hk;simp only[len0,Yt,Zfd,hk,Zbw,ZaQ,ZO,Zeb,bne];generalize Zc c.1 o=i at hk|-;generalize ZfP _ _=b0;cases b0<;>cases bi<;>cases bs<;>simp[Zbg,ZbT,popX,pcOf,spOf,opC,ZgB,Zc7,Zbs,Ze3,ZcP,setI,R.get]
theorem nx_11 (c) (s:Int) (g:List Int) (n:Int) (hk:(Zc c.1 (g.getD 0 0)).1=n):(n=32->(Zr1 c s g).val=some (Zg c s g))/\(n=37->(ZrW c s g).val=some (Zg c s g))/\(n=32->(Zkd c s g).val=some (Zg c s g))/\(n=37->(Zj8 c s g).val=some (Zg c s g)):=by
 refine⟨?_,?_,?_,?_⟩;all_goals intro e;subst e
 all_goals simp only[Zr1,ZrW,Zkd,Zj8,RT.val,fin3,pk]
 all_goals simp only[qat0,mat0,qat1,mat1,rg0,hk,Zy,Zad,ZaE,ZY,ZZ,ZL,ZM,ZbB,ZbD,Zax,Zx,Zcd,Zg,ZdK,ZO,ZaQ]
 all_goals generalize Za s=bi
 all_goals generalize (s==5)=bs
 all_goals cases g with
 |nil=>cases bi<;>cases bs<;>simp[Zlv,Zbf,pcOf,spOf,ZbT]
 |cons o t=>
  simp only[Yt] at hk;simp only[len0,Yt,Zfd,hk,Zbw,ZaQ,ZO,Zeb,bne];generalize Zc c.1 o=i at hk|-;generalize (c.1==2)=b0;cases b0<;>cases bi<;>cases bs<;>simp[Zbg,ZbT,popX,pcOf,spOf,opC,ZgB,Zc7,Zbs,Ze3,ZcP,setI,R.get]
theorem ZHM (a:HL Zp) (h:okHL Zp a):∃l,Zez Tryz.prog l/\(Ze7 (envX Tryz.prog l [] 2047 8) Tryz.f42 Zp Zvk a).val=some (Zg a.1 a.2.1 a.2.2):=by
 have hk:=ZFI a.1.1 _ (ZFY h.2.2);refine⟨ZD0 (Zc a.1.1 (a.2.2.getD 0 0)).1,ZDZ _,?_⟩;show (EV1 _ a).val=_;have n1:=nx_1 a.1 a.2.1 a.2.2;have n5:=nx_5 a.1 a.2.1 a.2.2;have n6:=nx_6 a.1 a.2.1 a.2.2;have n2:=nx_2 a.1 a.2.1 a.2.2;have n3:=nx_3 a.1 a.2.1 a.2.2;have n4:=nx_4 a.1 a.2.1 a.2.2;have n7:=nx_7 a.1 a.2.1 a.2.2;have n8:=nx_8 a.1 a.2.1 a.2.2;have n9:=nx_9 a.1 a.2.1 a.2.2;have n10:=nx_10 a.1 a.2.1 a.2.2;have n11:=nx_11 a.1 a.2.1 a.2.2;rcases ZFH hk.1 hk.2 with e|e|e|e|e|e|e|e|e|e|e|e|e|e|e|e|e|e|e|e|e|e|e|e|e|e|e|e|e|e|e|e|e|e|e|e|e|e|e|e|e|e|e|e|e|e|e
 ·rw[e,ZAi a,((n1 _ e).2.2.2.2.2.2.2.2.2.1 rfl)]
 ·rw[e,ZAh a,((n5 _ e).2 rfl)]
 ·rw[e,ZAg a,((n6 _ e).2.2.2.1 rfl)]
 ·rw[e,ZAf a,((n2 _ e).2.2.2.2.2.2.2.2.2.1 rfl)]
 ·rw[e,ZAe a,((n3 _ e).2.2.2.2.2.2.2.2.2.1 rfl)]
 ·rw[e,ZAd a,((n4 _ e).2.2.2.2.2.2.2.2.1 rfl)]
 ·rw[e,ZAc a,((n1 _ e).2.2.2.2.2.2.2.2.2.2.1 rfl)]
 ·rw[e,ZAb a,((n2 _ e).2.2.2.2.2.2.2.2.2.2.1 rfl)]
 ·rw[e,ZAa a,((n3 _ e).2.2.2.2.2.2.2.2.2.2.1 rfl)]
 ·rw[e,Zvj a,((n4 _ e).2.2.2.2.2.2.2.2.2.1 rfl)]
 ·rw[e,Zvi a,((n1 _ e).2.2.2.2.2.2.2.2.2.2.2.1 rfl)]
 ·rw[e,Zvh a,((n7 _ e).2 rfl)]
 ·rw[e,Zvg a,((n2 _ e).2.2.2.2.2.2.2.2.2.2.2.1 rfl)]
 ·rw[e,Zvf a,((n6 _ e).2.2.2.2.1 rfl)]
 ·rw[e,Zve a,((n6 _ e).2.2.2.2.2 rfl)]
 ·rw[e,Zvd a,((n3 _ e).2.2.2.2.2.2.2.2.2.2.2.1 rfl)]
 ·rw[e,Zvc a,((n4 _ e).2.2.2.2.2.2.2.2.2.2.1 rfl)]
 ·rw[e,Zvb a,((n1 _ e).2.2.2.2.2.2.2.2.2.2.2.2.1 rfl)]
 ·rw[e,Zva a,((n2 _ e).2.2.2.2.2.2.2.2.2.2.2.2.1 rfl)]
 ·rw[e,Zu9 a,((n3 _ e).2.2.2.2.2.2.2.2.2.2.2.2.1 rfl)]
 ·rw[e,Zu8 a,((n4 _ e).2.2.2.2.2.2.2.2.2.2.2.1 rfl)]
 ·rw[e,Zu7 a,((n1 _ e).2.2.2.2.2.2.2.2.2.2.2.2.2.1 rfl)]
 ·rw[e,Zu6 a,((n2 _ e).2.2.2.2.2.2.2.2.2.2.2.2.2.1 rfl)]
 ·rw[e,Zu5 a,((n8 _ e).2.2.1 rfl)]
 ·rw[e,Zu4 a,((n8 _ e).2.2.2 rfl)]
 ·rw[e,Zu3 a,((n9 _ e).2.2.1 rfl)]
 ·rw[e,Zu2 a,((n3 _ e).2.2.2.2.2.2.2.2.2.2.2.2.2.1 rfl)]
 ·rw[e,Zu1 a,((n4 _ e).2.2.2.2.2.2.2.2.2.2.2.2.1 rfl)]
 ·rw[e,Zu0 a,((n1 _ e).2.2.2.2.2.2.2.2.2.2.2.2.2.2.1 rfl)]
 ·rw[e,ZuZ a,((n10 _ e).2 rfl)]
 ·rw[e,ZuY a,((n2 _ e).2.2.2.2.2.2.2.2.2.2.2.2.2.2.1 rfl)]
 ·rw[e,ZuX a,((n11 _ e).2.2.1 rfl)]
 ·rw[e,ZuW a,((n3 _ e).2.2.2.2.2.2.2.2.2.2.2.2.2.2.1 rfl)]
 ·rw[e,ZuV a,((n4 _ e).2.2.2.2.2.2.2.2.2.2.2.2.2.1 rfl)]
 ·rw[e,ZuU a,((n1 _ e).2.2.2.2.2.2.2.2.2.2.2.2.2.2.2.1 rfl)]
 ·rw[e,ZuT a,((n2 _ e).2.2.2.2.2.2.2.2.2.2.2.2.2.2.2.1 rfl)]
 ·rw[e,ZuS a,((n11 _ e).2.2.2 rfl)]
 ·rw[e,ZuR a,((n3 _ e).2.2.2.2.2.2.2.2.2.2.2.2.2.2.2.1 rfl)]
 ·rw[e,ZuQ a,((n4 _ e).2.2.2.2.2.2.2.2.2.2.2.2.2.2.1 rfl)]
 ·rw[e,ZuP a,((n1 _ e).2.2.2.2.2.2.2.2.2.2.2.2.2.2.2.2.1 rfl)]
 ·rw[e,ZuO a,((n2 _ e).2.2.2.2.2.2.2.2.2.2.2.2.2.2.2.2.1 rfl)]
 ·rw[e,ZuN a,((n3 _ e).2.2.2.2.2.2.2.2.2.2.2.2.2.2.2.2.1 rfl)]
 ·rw[e,ZuM a,((n4 _ e).2.2.2.2.2.2.2.2.2.2.2.2.2.2.2 rfl)]
 ·rw[e,ZuL a,((n1 _ e).2.2.2.2.2.2.2.2.2.2.2.2.2.2.2.2.2 rfl)]
 ·rw[e,ZuK a,((n9 _ e).2.2.2 rfl)]
 ·rw[e,ZuJ a,((n2 _ e).2.2.2.2.2.2.2.2.2.2.2.2.2.2.2.2.2 rfl)]
 ·rw[e,ZuI a,((n3 _ e).2.2.2.2.2.2.2.2.2.2.2.2.2.2.2.2.2 rfl)]
def Zx3:En:=Zi Zp Zvk (λ_=>none) (λa=>Zg a.1 a.2.1 a.2.2)
theorem Zon:Zd Tryz.prog 42 Zx3:=Zyx Tryz.func42 rfl (by kernel_rfl) Tryz.call42 λa h _=>ZHM a h
end
end Go.Proofs.YtghoimllhpjkjaaGreat
open Go.IntKind (u8 u16 i64)
namespace Go.Proofs.YtghoimllhpjkjaaGreat
noncomputable section
def wPC (r:RegT) (v:Int):RegT:=(r.1,r.2.1,r.2.2.1,r.2.2.2.1,r.2.2.2.2.1,r.2.2.2.2.2.1,r.2.2.2.2.2.2.1,r.2.2.2.2.2.2.2.1,r.2.2.2.2.2.2.2.2.1,v)
def wSP (r:RegT) (v:Int):RegT:=(r.1,r.2.1,r.2.2.1,r.2.2.2.1,r.2.2.2.2.1,r.2.2.2.2.2.1,r.2.2.2.2.2.2.1,r.2.2.2.2.2.2.2.1,v,r.2.2.2.2.2.2.2.2.2)
def wA (r:RegT) (v:Int):RegT:=(v,r.2)
def wF (r:RegT) (f:FlgT):RegT:=(r.1,r.2.1,r.2.2.1,r.2.2.2.1,r.2.2.2.2.1,r.2.2.2.2.2.1,r.2.2.2.2.2.2.1,f,r.2.2.2.2.2.2.2.2)
def fCY (f:FlgT) (b:Bool):FlgT:=(f.1,f.2.1,f.2.2.1,f.2.2.2.1,f.2.2.2.2.1,f.2.2.2.2.2.1,b)
def fVCY (f:FlgT) (v b:Bool):FlgT:=(f.1,f.2.1,f.2.2.1,f.2.2.2.1,f.2.2.2.2.1,v,b)
def ZeJ (r:RegT):Int:=r.2.2.2.2.2.2.2.2.1
def flOf (r:RegT):FlgT:=r.2.2.2.2.2.2.2.1
def finR (c:CpuT) (r r0:RegT) (g:List Int) (i:InsT):RegT:=
 let dst:=i.2.2.1
 let src:=i.2.2.2.1
 let pr:=i.2.2.2.2.1
 let op:=i.2.2.2.2.2.1
 let g1:=g.getD 1 0
 let tk:=ZfP i.2.2.2.2.2.2.1 (flOf r)
 bif i.1==2 then rSet r0 dst (bif src==6 then g1 else rGet r src) else
 bif i.1==3 then rSet r0 dst g1 else
 bif i.1==4 then Zt r0 pr (Zbs g 1) else
 bif i.1==5 then wA r0 (g.getD 3 0) else
 bif i.1==7 then Zt r0 2 (Zbs g 3) else
 bif i.1==9 then wA r0 g1 else
 bif i.1==11 then (r0.1,r0.2.1,r0.2.2.1,r0.2.2.2.2.2.1,r0.2.2.2.2.2.2.1,r0.2.2.2.1,r0.2.2.2.2.1,r0.2.2.2.2.2.2.2) else
 bif i.1==12 then (let q:=rDo c.1 op r.1 (bif src==6 then g1 else rGet r src) (flOf r);wA (wF r0 q.2) q.1) else
 bif i.1==13 then (let q:=rDo c.1 op r.1 g1 (flOf r);wA (wF r0 q.2) q.1) else
 bif i.1==14 then (let q:=rInr c.1 (bif dst==6 then g1 else rGet r dst) (flOf r);rSet (wF r0 q.2) dst q.1) else
 bif i.1==15 then (let q:=rDcr c.1 (bif dst==6 then g1 else rGet r dst) (flOf r);rSet (wF r0 q.2) dst q.1) else
 bif i.1==16 then (let q:=rInx c.1 (Zab r pr) (flOf r);Zt (wF r0 q.2) pr q.1) else
 bif i.1==17 then (let q:=rDcx c.1 (Zab r pr) (flOf r);Zt (wF r0 q.2) pr q.1) else
 bif i.1==18 then (let q:=rDad c.1 (Zab r 2) (Zab r pr) (flOf r);Zt (wF r0 q.2) 2 q.1) else
 bif i.1==19 then (let q:=rDaa c.1 r.1 (flOf r);wA (wF r0 q.2) q.1) else
 bif i.1==20 then wA r0 (notI .u8 r.1) else
 bif i.1==21 then wF r0 (fCY (flOf r) true) else
 bif i.1==22 then wF r0 (fCY (flOf r) (!(flOf r).2.2.2.2.2.2)) else
 bif i.1==23 then (let q:=rRot op r.1 (flOf r).2.2.2.2.2.2;wA (wF r0 (fCY (flOf r) q.2)) q.1) else
 bif i.1==24 then (bif tk then wPC r0 (Zbs g 1) else r0) else
 bif i.1==25 then (bif tk then wPC (wSP r0 (IntKind.wrap .u16 (ZeJ r-2))) (Zbs g 1) else r0) else
 bif i.1==26 then (bif tk then wPC (wSP r0 (IntKind.wrap .u16 (ZeJ r+2))) (Zbs g 1) else r0) else
 bif i.1==27 then wPC (wSP r0 (IntKind.wrap .u16 (ZeJ r-2))) (IntKind.wrap .u16 (IntKind.wrap .i64 (8*i.2.2.2.2.2.2.2))) else
 bif i.1==28 then wPC r0 (Zab r 2) else
 bif i.1==29 then wSP r0 (Zab r 2) else
 bif i.1==30 then wSP r0 (IntKind.wrap .u16 (ZeJ r-2)) else
 bif i.1==31 then (let q:=bif pr==3 then Zoa c.1 r0 (Zbs g 1) else Zt r0 pr (Zbs g 1);wSP q (IntKind.wrap .u16 (ZeJ q+2))) else
 bif i.1==32 then Zt r0 2 (Zbs g 1) else
 bif i.1==33 then wA r0 (g.getD 2 0) else
 bif i.1==40 then (let q:=ZHU (Zab r 2) (Zab r 0);Zt (wF r0 q.2) 2 q.1) else
 bif i.1==41 then (let q:=ZA3 (Zab r 2);Zt (wF r0 (fCY (flOf r) q.2)) 2 q.1) else
 bif i.1==42 then (let q:=ZHy (Zab r 1) (flOf r).2.2.2.2.2.2;Zt (wF r0 (fVCY (flOf r) q.2.2 q.2.1)) 1 q.1) else
 bif i.1==43 then Zt r0 1 (IntKind.wrap .u16 (Zab r 2+IntKind.wrap .u16 g1)) else
 bif i.1==44 then Zt r0 1 (IntKind.wrap .u16 (ZeJ r+IntKind.wrap .u16 g1)) else
 bif i.1==45 then (bif tk then wPC (wSP r0 (IntKind.wrap .u16 (ZeJ r-2))) 64 else r0) else
 bif i.1==47 then Zt r0 2 (Zbs g 1) else
 r0
def finI (c:CpuT) (inj:Bool) (g:List Int) (l:QT0) (i:InsT):CpuT:=
 let r0:=wPC c.2.1 (ZO c inj i)
 let d:CpuT:=(c.1,r0,c.2.2.1,false,false,c.2.2.2.2.2)
 bif i.1==38 then (let q:=rRim d l;(q.2.1,wA q.2.2.1 q.1,q.2.2.2)) else
 bif i.1==39 then rSim d c.2.1.1 else
 (c.1,finR c c.2.1 r0 g i,bif i.1==35 then true else bif i.1==36 then false else c.2.2.1,i.1==35,i.1==37,c.2.2.2.2.2)
def finX (c:CpuT) (s:Int) (g:List Int) (l:QT0):CpuT:=
 bif Za s then (c.1,wPC (wSP c.2.1 (IntKind.wrap .u16 (spOf c-2))) (Zu s),c.2.2)
 else finI c (s==5) g l (Zc c.1 (g.getD 0 0))
theorem ZI9 (c:CpuT) (l):(rRim c l).2=(c.1,c.2.1,c.2.2.1,c.2.2.2.1,c.2.2.2.2.1,c.2.2.2.2.2.1,c.2.2.2.2.2.2.1,c.2.2.2.2.2.2.2.1,c.2.2.2.2.2.2.2.2.1,c.2.2.2.2.2.2.2.2.2.1,false,false,c.2.2.2.2.2.2.2.2.2.2.2.2):=by
 have h3:∀b,Zag b 3=true:=λb=>by cases b<;>rfl
 have h4:∀b,Zag b 4=true:=λb=>by cases b<;>rfl
 have h5:∀b,Zag b 5=true:=λb=>by cases b<;>rfl
 have h6:∀b,Zag b 6=true:=λb=>by cases b<;>rfl
 have h7:∀b,Zag b 7=true:=λb=>by cases b<;>rfl
 simp only[rRim,ZDv,RT.val,h3,h4,h5,h6,h7,Yg,Yn,Ya,getO]
theorem ZfQ (s):ZrI s=true/\Zyq s=bif (s.2.2.2.1.1==13||s.2.2.2.1.2.2.2.1==6) then s.2.2.1.getD 1 0 else rGet s.1.2.1 s.2.2.2.1.2.2.2.1:=by simp only[ZrI,Zyq,ZkM,RT.val,qat1,ZaE];cases (s.2.2.2.1.1==13||s.2.2.2.1.2.2.2.1==6)<;>simp[okB,getO]
theorem ZeL (r:RegT) (f:FlgT) (pc n v:Int):rSet (r.1,r.2.1,r.2.2.1,r.2.2.2.1,r.2.2.2.2.1,r.2.2.2.2.2.1,r.2.2.2.2.2.2.1,f,r.2.2.2.2.2.2.2.2.1,pc) n v=
  ((rSet r n v).1,(rSet r n v).2.1,(rSet r n v).2.2.1,(rSet r n v).2.2.2.1,(rSet r n v).2.2.2.2.1,(rSet r n v).2.2.2.2.2.1,(rSet r n v).2.2.2.2.2.2.1,f,(rSet r n v).2.2.2.2.2.2.2.2.1,pc):=rfl
theorem ZeN (r:RegT) (n v:Int):(rSet r n v).2.2.2.2.2.2.2.1=r.2.2.2.2.2.2.2.1:=rfl
theorem ZeM (r:RegT) (n v:Int):(rSet r n v).2.2.2.2.2.2.2.2=r.2.2.2.2.2.2.2.2:=rfl
theorem Zij (r:RegT) (f:FlgT) (pc n v:Int):Zt (r.1,r.2.1,r.2.2.1,r.2.2.2.1,r.2.2.2.2.1,r.2.2.2.2.2.1,r.2.2.2.2.2.2.1,f,r.2.2.2.2.2.2.2.2.1,pc) n v=
  ((Zt r n v).1,(Zt r n v).2.1,(Zt r n v).2.2.1,(Zt r n v).2.2.2.1,(Zt r n v).2.2.2.2.1,(Zt r n v).2.2.2.2.2.1,(Zt r n v).2.2.2.2.2.2.1,f,(Zt r n v).2.2.2.2.2.2.2.2.1,pc):=by simp only[Zt,ZgG,RT.val];cases (andI i64 n 3==3)<;>rfl
theorem Zik (r:RegT) (n v:Int):(Zt r n v).2.2.2.2.2.2.2.1=r.2.2.2.2.2.2.2.1:=by simp only[Zt,ZgG,RT.val];cases (andI i64 n 3==3)<;>rfl
theorem ZKH (r:RegT) (f:FlgT) (sp pc n:Int):ZAm (r.1,r.2.1,r.2.2.1,r.2.2.2.1,r.2.2.2.2.1,r.2.2.2.2.2.1,r.2.2.2.2.2.2.1,f,sp,pc) n=ZAm r n:=rfl
theorem Zdx (r:RegT) (f:FlgT) (pc n:Int):Zab (r.1,r.2.1,r.2.2.1,r.2.2.2.1,r.2.2.2.2.1,r.2.2.2.2.2.1,r.2.2.2.2.2.2.1,f,r.2.2.2.2.2.2.2.2.1,pc) n=Zab r n:=by simp only[Zab,Zrs,RT.val,rGet,Zvq,ZKH]
theorem bnat {x:Int} (h:inR .u8 x):∃a:Nat,x=a/\a<256:=by rw[Zhe] at h;exact⟨x.toNat,by omega,by omega⟩
theorem w16 {n:Nat} (h:n<65536):IntKind.wrap .u16 (n:Int)=n:=ZtC ⟨by simp[IntKind.min,IntKind.signed],by simp[IntKind.max,IntKind.signed,IntKind.bits];omega⟩
variable {h l:Int}
theorem Zzc (hh:inR .u8 h) (hl:inR .u8 l):Zcv h l=256*h+l:=by
 obtain⟨a,rfl,ha⟩:=bnat hh;obtain⟨b,rfl,hb⟩:=bnat hl;have e1:shlI .u16 (IntKind.wrap .u16 (a:Int)) 8=((a*256:Nat):Int):=by
  rw[w16 (by omega)];simp only[shlI];have:((a:Int)*2^min (8:Int).toNat u16.bits)=((a*256:Nat):Int):=by simp[IntKind.bits]
  rw[this,w16 (by omega)]
 have e2:(BitVec.ofInt u16.bits ((a*256:Nat):Int)|||BitVec.ofInt u16.bits (b:Int)).toNat=a*256+b:=by
  rw[BitVec.toNat_or,BitVec.toNat_ofInt,BitVec.toNat_ofInt];have k1:(((a*256:Nat):Int)%((2^u16.bits:Nat):Int)).toNat=a*256:=by simp[IntKind.bits];omega
  have k2:((b:Int)%((2^u16.bits:Nat):Int)).toNat=b:=by simp[IntKind.bits];omega
  rw[k1,k2];have:=Nat.shiftLeft_add_eq_or_of_lt (i:=8) (b:=b) (by omega) a;rw[Nat.shiftLeft_eq] at this;exact this.symm
 show orI .u16 (shlI .u16 (IntKind.wrap .u16 (a:Int)) 8) (IntKind.wrap .u16 (b:Int))=_;rw[e1,w16 (by omega)];simp only[orI];rw[e2,w16 (by omega)];omega
theorem ZLJ (hh:inR .u8 h) (hl:inR .u8 l):IntKind.wrap .u8 (Zcv h l)=l:=by rw[Zzc hh hl];rw[Zhe] at hl;simp[IntKind.wrap,IntKind.signed,IntKind.bits];omega
theorem ZLK (hh:inR .u8 h) (hl:inR .u8 l):IntKind.wrap .u8 (shrI .u16 (Zcv h l) 8)=h:=by
 rw[Zzc hh hl];rw[Zhe] at hl hh;have:shrI .u16 (256*h+l) 8=h:=by
  simp only[shrI];have:((2:Int)^min (8:Int).toNat u16.bits)=256:=by decide
  rw[this,Int.fdiv_eq_ediv_of_nonneg _ (by decide)];omega
 rw[this];simp[IntKind.wrap,IntKind.signed,IntKind.bits];omega
theorem Zdw (r:RegT) (hh:inR .u8 h) (hl:inR .u8 l):Zt r 2 (Zcv h l)=(r.1,r.2.1,r.2.2.1,r.2.2.2.1,r.2.2.2.2.1,h,l,r.2.2.2.2.2.2.2):=by
 have e:Zt r 2 (Zcv h l)=(r.1,r.2.1,r.2.2.1,r.2.2.2.1,r.2.2.2.2.1,IntKind.wrap .u8 (shrI .u16 (Zcv h l) 8),IntKind.wrap .u8 (Zcv h l),r.2.2.2.2.2.2.2):=by generalize Zcv h l=v;rfl
 rw[e,ZLJ hh hl,ZLK hh hl]
theorem Zio (x:Int):IntKind.wrap .u8 (255-x)=notI .u8 x:=by
 have e:notI .u8 x=IntKind.wrap .u8 ((~~~ (BitVec.ofInt 8 x)).toNat:Int):=by
  show IntKind.wrap .u8 (((BitVec.ofInt 8 255)^^^(BitVec.ofInt 8 x)).toNat:Int)=_;have:BitVec.ofInt 8 255=BitVec.allOnes 8:=by decide
  rw[this,BitVec.allOnes_xor]
 have h1:(BitVec.ofInt 8 x).toNat=(x%256).toNat:=BitVec.toNat_ofInt ..;have h2:((x%256).toNat:Int)=x%256:=by omega
 rw[e,BitVec.toNat_not,h1];have h3:((2^8-1-(x%256).toNat:Nat):Int)=255-x%256:=by omega
 rw[h3];simp[IntKind.wrap,IntKind.signed,IntKind.bits]
end
end Go.Proofs.YtghoimllhpjkjaaGreat
