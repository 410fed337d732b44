import Derived.Test.YtpnjbfjomebppaaGreatKind47
import Derived.Test.YtpnjbfjomebppaaGreatNext1
import Derived.Test.YtpnjbfjomebppaaGreatNext2
import Derived.Test.YtpnjbfjomebppaaGreatNext3
import Derived.Test.YtpnjbfjomebppaaGreatNext4
open Go Go.S3 Go.Proofs
set_option linter.unusedVariables false
set_option linter.unusedSimpArgs false
set_option maxRecDepth 100000
namespace Go.Proofs.YtpnjbfjomebppaaGreat
noncomputable section
theorem nx_2 (c) (s:Int) (g:List Int) (n:Int) (hk:(Zc c.1 (g.getD 0 0)).1=n):(n=4->(ZsE c s g).val=some (Zl c s g))/\(n=8->(ZsA c s g).val=some (Zl c s g))/\(n=13->(Zny c s g).val=some (Zl c s g))/\(n=19->(Zns c s g).val=some (Zl c s g))/\(n=23->(Zno c s g).val=some (Zl c s g))/\(n=31->(Zng c s g).val=some (Zl c s g))/\(n=36->(Znb c s g).val=some (Zl c s g))/\(n=41->(Zm6 c s g).val=some (Zl c s g))/\(n=46->(Zm1 c s g).val=some (Zl c s g))/\(n=4->(ZrF c s g).val=some (Zl c s g))/\(n=8->(ZrB c s g).val=some (Zl c s g))/\(n=13->(Zmf c s g).val=some (Zl c s g))/\(n=19->(Zl9 c s g).val=some (Zl c s g))/\(n=23->(Zl5 c s g).val=some (Zl c s g))/\(n=31->(ZlX c s g).val=some (Zl c s g))/\(n=36->(ZlS c s g).val=some (Zl c s g))/\(n=41->(ZlN c s g).val=some (Zl c s g))/\(n=46->(ZlI c s g).val=some (Zl c s g)):=by
 refine⟨?_,?_,?_,?_,?_,?_,?_,?_,?_,?_,?_,?_,?_,?_,?_,?_,?_,?_⟩;all_goals intro e;subst e
 all_goals simp only[ZsE,ZsA,Zny,Zns,Zno,Zng,Znb,Zm6,Zm1,ZrF,ZrB,Zmf,Zl9,Zl5,ZlX,ZlS,ZlN,ZlI,RT.val,fin3,pk]
 all_goals simp only[qat0,mat0,qat1,mat1,rg0,hk,ZB,Zag,ZaL,ZX,ZY,ZL,ZM,Zb2,Zb3,ZaA,ZA,Za8,Zl,Zi7,ZR,Zbg]
 all_goals generalize Zd s=bi
 all_goals generalize (s==5)=bs
 all_goals cases g with
 |nil=>cases bi<;>cases bs<;>simp[Zoo,ZbD,pcOf,spOf,ZcI]
 |cons o t=>
  simp only[Yw] at hk;simp only[len0,Yw,Zkk,hk,ZcH,Zbg,ZR,Zfs,bne];generalize Zc c.1 o=i at hk|-;cases bi<;>cases bs<;>simp[ZbE,ZcI,popX,pcOf,spOf,opC,ZiX,Zes,ZbV,Zhs,Zdm,setI,R.get]
theorem nx_4 (c) (s:Int) (g:List Int) (n:Int) (hk:(Zc c.1 (g.getD 0 0)).1=n):(n=6->(ZsC c s g).val=some (Zl c s g))/\(n=10->(ZnB c s g).val=some (Zl c s g))/\(n=17->(Znu c s g).val=some (Zl c s g))/\(n=21->(Znq c s g).val=some (Zl c s g))/\(n=28->(Znj c s g).val=some (Zl c s g))/\(n=34->(Znd c s g).val=some (Zl c s g))/\(n=39->(Zm8 c s g).val=some (Zl c s g))/\(n=43->(Zm4 c s g).val=some (Zl c s g))/\(n=6->(ZrD c s g).val=some (Zl c s g))/\(n=10->(Zmi c s g).val=some (Zl c s g))/\(n=17->(Zmb c s g).val=some (Zl c s g))/\(n=21->(Zl7 c s g).val=some (Zl c s g))/\(n=28->(Zl0 c s g).val=some (Zl c s g))/\(n=34->(ZlU c s g).val=some (Zl c s g))/\(n=39->(ZlP c s g).val=some (Zl c s g))/\(n=43->(ZlL c s g).val=some (Zl c s g)):=by
 refine⟨?_,?_,?_,?_,?_,?_,?_,?_,?_,?_,?_,?_,?_,?_,?_,?_⟩;all_goals intro e;subst e
 all_goals simp only[ZsC,ZnB,Znu,Znq,Znj,Znd,Zm8,Zm4,ZrD,Zmi,Zmb,Zl7,Zl0,ZlU,ZlP,ZlL,RT.val,fin3,pk]
 all_goals simp only[qat0,mat0,qat1,mat1,rg0,hk,ZB,Zag,ZaL,ZX,ZY,ZL,ZM,Zb2,Zb3,ZaA,ZA,Za8,Zl,Zi7,ZR,Zbg]
 all_goals generalize Zd s=bi
 all_goals generalize (s==5)=bs
 all_goals cases g with
 |nil=>cases bi<;>cases bs<;>simp[Zoo,ZbD,pcOf,spOf,ZcI]
 |cons o t=>
  simp only[Yw] at hk;simp only[len0,Yw,Zkk,hk,ZcH,Zbg,ZR,Zfs,bne];generalize Zc c.1 o=i at hk|-;cases bi<;>cases bs<;>simp[ZbE,ZcI,popX,pcOf,spOf,opC,ZiX,Zes,ZbV,Zhs,Zdm,setI,R.get]
theorem nx_6 (c) (s:Int) (g:List Int) (n:Int) (hk:(Zc c.1 (g.getD 0 0)).1=n):(n=3->(ZsF c s g).val=some (Zl c s g))/\(n=14->(Znx c s g).val=some (Zl c s g))/\(n=15->(Znw c s g).val=some (Zl c s g))/\(n=3->(ZrG c s g).val=some (Zl c s g))/\(n=14->(Zme c s g).val=some (Zl c s g))/\(n=15->(Zmd c s g).val=some (Zl c s g)):=by
 refine⟨?_,?_,?_,?_,?_,?_⟩;all_goals intro e;subst e
 all_goals simp only[ZsF,Znx,Znw,ZrG,Zme,Zmd,RT.val,fin3,pk]
 all_goals simp only[qat0,mat0,qat1,mat1,rg0,hk,ZB,Zag,ZaL,ZX,ZY,ZL,ZM,Zb2,Zb3,ZaA,ZA,Za8,Zl,Zi7,ZR,Zbg]
 all_goals generalize Zd s=bi
 all_goals generalize (s==5)=bs
 all_goals cases g with
 |nil=>cases bi<;>cases bs<;>simp[Zoo,ZbD,pcOf,spOf,ZcI]
 |cons o t=>
  simp only[Yw] at hk;simp only[len0,Yw,Zkk,hk,ZcH,Zbg,ZR,Zfs,bne];generalize Zc c.1 o=i at hk|-;generalize (i.2.2.1==6)=b0;cases b0<;>cases bi<;>cases bs<;>simp[ZbE,ZcI,popX,pcOf,spOf,opC,ZiX,Zes,ZbV,Zhs,Zdm,setI,R.get]
theorem nx_8 (c) (s:Int) (g:List Int) (n:Int) (hk:(Zc c.1 (g.getD 0 0)).1=n):(n=24->(Znn c s g).val=some (Zl c s g))/\(n=25->(Znm c s g).val=some (Zl c s g))/\(n=24->(Zl4 c s g).val=some (Zl c s g))/\(n=25->(Zl3 c s g).val=some (Zl c s g)):=by
 refine⟨?_,?_,?_,?_⟩;all_goals intro e;subst e
 all_goals simp only[Znn,Znm,Zl4,Zl3,RT.val,fin3,pk]
 all_goals simp only[qat0,mat0,qat1,mat1,rg0,hk,ZB,Zag,ZaL,ZX,ZY,ZL,ZM,Zb2,Zb3,ZaA,ZA,Za8,Zl,Zi7,ZR,Zbg]
 all_goals generalize Zd s=bi
 all_goals generalize (s==5)=bs
 all_goals cases g with
 |nil=>cases bi<;>cases bs<;>simp[Zoo,ZbD,pcOf,spOf,ZcI]
 |cons o t=>
  simp only[Yw] at hk;simp only[len0,Yw,Zkk,hk,ZcH,Zbg,ZR,Zfs,bne];generalize Zc c.1 o=i at hk|-;generalize ZeD _ _=b0;generalize (c.1==2)=b1;cases b0<;>cases b1<;>cases bi<;>cases bs<;>simp[ZbE,ZcI,popX,pcOf,spOf,opC,ZiX,Zes,ZbV,Zhs,Zdm,setI,R.get]
theorem ZW2 (c) (s:Int) (g:List Int) (n:Int) (hk:(Zc c.1 (g.getD 0 0)).1=n):(n=30->(Znh c s g).val=some (Zl c s g))/\(n=30->(ZlY c s g).val=some (Zl c s g)):=by
 refine⟨?_,?_⟩;all_goals intro e;subst e
 all_goals simp only[Znh,ZlY,RT.val,fin3,pk]
 all_goals simp only[qat0,mat0,qat1,mat1,rg0,hk,ZB,Zag,ZaL,ZX,ZY,ZL,ZM,Zb2,Zb3,ZaA,ZA,Za8,Zl,Zi7,ZR,Zbg]
 all_goals generalize Zd s=bi
 all_goals generalize (s==5)=bs
 all_goals cases g with
 |nil=>cases bi<;>cases bs<;>simp[Zoo,ZbD,pcOf,spOf,ZcI]
 |cons o t=>
  simp only[Yw] at hk;simp only[len0,Yw,Zkk,hk,ZcH,Zbg,ZR,Zfs,bne];generalize Zc c.1 o=i at hk|-;generalize (i.2.2.2.2.1==3)=b0;cases b0<;>cases bi<;>cases bs<;>simp[ZbE,ZcI,popX,pcOf,spOf,opC,ZiX,Zes,ZbV,Zhs,Zdm,setI,R.get]
theorem nx_1 (c) (s:Int) (g:List Int) (n:Int) (hk:(Zc c.1 (g.getD 0 0)).1=n):(n=1->(ZsH c s g).val=some (Zl c s g))/\(n=7->(ZsB c s g).val=some (Zl c s g))/\(n=11->(ZnA c s g).val=some (Zl c s g))/\(n=18->(Znt c s g).val=some (Zl c s g))/\(n=22->(Znp c s g).val=some (Zl c s g))/\(n=29->(Zni c s g).val=some (Zl c s g))/\(n=35->(Znc c s g).val=some (Zl c s g))/\(n=40->(Zm7 c s g).val=some (Zl c s g))/\(n=44->(Zm3 c s g).val=some (Zl c s g))/\(n=1->(ZrI c s g).val=some (Zl c s g))/\(n=7->(ZrC c s g).val=some (Zl c s g))/\(n=11->(Zmh c s g).val=some (Zl c s g))/\(n=18->(Zma c s g).val=some (Zl c s g))/\(n=22->(Zl6 c s g).val=some (Zl c s g))/\(n=29->(ZlZ c s g).val=some (Zl c s g))/\(n=35->(ZlT c s g).val=some (Zl c s g))/\(n=40->(ZlO c s g).val=some (Zl c s g))/\(n=44->(ZlK c s g).val=some (Zl c s g)):=by
 refine⟨?_,?_,?_,?_,?_,?_,?_,?_,?_,?_,?_,?_,?_,?_,?_,?_,?_,?_⟩;all_goals intro e;subst e
 all_goals simp only[ZsH,ZsB,ZnA,Znt,Znp,Zni,Znc,Zm7,Zm3,ZrI,ZrC,Zmh,Zma,Zl6,ZlZ,ZlT,ZlO,ZlK,RT.val,fin3,pk]
 all_goals simp only[qat0,mat0,qat1,mat1,rg0,hk,ZB,Zag,ZaL,ZX,ZY,ZL,ZM,Zb2,Zb3,ZaA,ZA,Za8,Zl,Zi7,ZR,Zbg]
 all_goals generalize Zd s=bi
 all_goals generalize (s==5)=bs
 all_goals cases g with
 |nil=>cases bi<;>cases bs<;>simp[Zoo,ZbD,pcOf,spOf,ZcI]
 |cons o t=>
  simp only[Yw] at hk;simp only[len0,Yw,Zkk,hk,ZcH,Zbg,ZR,Zfs,bne];generalize Zc c.1 o=i at hk|-;cases bi<;>cases bs<;>simp[ZbE,ZcI,popX,pcOf,spOf,opC,ZiX,Zes,ZbV,Zhs,Zdm,setI,R.get]
theorem nx_3 (c) (s:Int) (g:List Int) (n:Int) (hk:(Zc c.1 (g.getD 0 0)).1=n):(n=5->(ZsD c s g).val=some (Zl c s g))/\(n=9->(Zsz c s g).val=some (Zl c s g))/\(n=16->(Znv c s g).val=some (Zl c s g))/\(n=20->(Znr c s g).val=some (Zl c s g))/\(n=27->(Znk c s g).val=some (Zl c s g))/\(n=33->(Zne c s g).val=some (Zl c s g))/\(n=38->(Zm9 c s g).val=some (Zl c s g))/\(n=42->(Zm5 c s g).val=some (Zl c s g))/\(n=47->(Zm0 c s g).val=some (Zl c s g))/\(n=5->(ZrE c s g).val=some (Zl c s g))/\(n=9->(ZrA c s g).val=some (Zl c s g))/\(n=16->(Zmc c s g).val=some (Zl c s g))/\(n=20->(Zl8 c s g).val=some (Zl c s g))/\(n=27->(Zl1 c s g).val=some (Zl c s g))/\(n=33->(ZlV c s g).val=some (Zl c s g))/\(n=38->(ZlQ c s g).val=some (Zl c s g))/\(n=42->(ZlM c s g).val=some (Zl c s g))/\(n=47->(ZlH c s g).val=some (Zl c s g)):=by
 refine⟨?_,?_,?_,?_,?_,?_,?_,?_,?_,?_,?_,?_,?_,?_,?_,?_,?_,?_⟩;all_goals intro e;subst e
 all_goals simp only[ZsD,Zsz,Znv,Znr,Znk,Zne,Zm9,Zm5,Zm0,ZrE,ZrA,Zmc,Zl8,Zl1,ZlV,ZlQ,ZlM,ZlH,RT.val,fin3,pk]
 all_goals simp only[qat0,mat0,qat1,mat1,rg0,hk,ZB,Zag,ZaL,ZX,ZY,ZL,ZM,Zb2,Zb3,ZaA,ZA,Za8,Zl,Zi7,ZR,Zbg]
 all_goals generalize Zd s=bi
 all_goals generalize (s==5)=bs
 all_goals cases g with
 |nil=>cases bi<;>cases bs<;>simp[Zoo,ZbD,pcOf,spOf,ZcI]
 |cons o t=>
  simp only[Yw] at hk;simp only[len0,Yw,Zkk,hk,ZcH,Zbg,ZR,Zfs,bne];generalize Zc c.1 o=i at hk|-;cases bi<;>cases bs<;>simp[ZbE,ZcI,popX,pcOf,spOf,opC,ZiX,Zes,ZbV,Zhs,Zdm,setI,R.get]
theorem nx_5 (c) (s:Int) (g:List Int) (n:Int) (hk:(Zc c.1 (g.getD 0 0)).1=n):(n=2->(ZsG c s g).val=some (Zl c s g))/\(n=2->(ZrH c s g).val=some (Zl c s g)):=by
 refine⟨?_,?_⟩;all_goals intro e;subst e
 all_goals simp only[ZsG,ZrH,RT.val,fin3,pk]
 all_goals simp only[qat0,mat0,qat1,mat1,rg0,hk,ZB,Zag,ZaL,ZX,ZY,ZL,ZM,Zb2,Zb3,ZaA,ZA,Za8,Zl,Zi7,ZR,Zbg]
 all_goals generalize Zd s=bi
 all_goals generalize (s==5)=bs
 all_goals cases g with
 |nil=>cases bi<;>cases bs<;>simp[Zoo,ZbD,pcOf,spOf,ZcI]
 |cons o t=>
  simp only[Yw] at hk;simp only[len0,Yw,Zkk,hk,ZcH,Zbg,ZR,Zfs,bne];generalize Zc c.1 o=i at hk|-;generalize (i.2.2.2.1==6)=b0;generalize (i.2.2.1==6)=b1;cases b0<;>cases b1<;>cases bi<;>cases bs<;>simp[ZbE,ZcI,popX,pcOf,spOf,opC,ZiX,Zes,ZbV,Zhs,Zdm,setI,R.get]
theorem nx_7 (c) (s:Int) (g:List Int) (n:Int) (hk:(Zc c.1 (g.getD 0 0)).1=n):(n=12->(Znz c s g).val=some (Zl c s g))/\(n=12->(Zmg c s g).val=some (Zl c s g)):=by
 refine⟨?_,?_⟩;all_goals intro e;subst e
 all_goals simp only[Znz,Zmg,RT.val,fin3,pk]
 all_goals simp only[qat0,mat0,qat1,mat1,rg0,hk,ZB,Zag,ZaL,ZX,ZY,ZL,ZM,Zb2,Zb3,ZaA,ZA,Za8,Zl,Zi7,ZR,Zbg]
 all_goals generalize Zd s=bi
 all_goals generalize (s==5)=bs
 all_goals cases g with
 |nil=>cases bi<;>cases bs<;>simp[Zoo,ZbD,pcOf,spOf,ZcI]
 |cons o t=>
  simp only[Yw] at hk;simp only[len0,Yw,Zkk,hk,ZcH,Zbg,ZR,Zfs,bne];generalize Zc c.1 o=i at hk|-;generalize (i.2.2.2.1==6)=b0;cases b0<;>cases bi<;>cases bs<;>simp[ZbE,ZcI,popX,pcOf,spOf,opC,ZiX,Zes,ZbV,Zhs,Zdm,setI,R.get]
theorem nx_9 (c) (s:Int) (g:List Int) (n:Int) (hk:(Zc c.1 (g.getD 0 0)).1=n):(n=26->(Znl c s g).val=some (Zl c s g))/\(n=45->(Zm2 c s g).val=some (Zl c s g))/\(n=26->(Zl2 c s g).val=some (Zl c s g))/\(n=45->(ZlJ c s g).val=some (Zl c s g)):=by
 refine⟨?_,?_,?_,?_⟩;all_goals intro e;subst e
 all_goals simp only[Znl,Zm2,Zl2,ZlJ,RT.val,fin3,pk]
 all_goals simp only[qat0,mat0,qat1,mat1,rg0,hk,ZB,Zag,ZaL,ZX,ZY,ZL,ZM,Zb2,Zb3,ZaA,ZA,Za8,Zl,Zi7,ZR,Zbg]
 all_goals generalize Zd s=bi
 all_goals generalize (s==5)=bs
 all_goals cases g with
 |nil=>cases bi<;>cases bs<;>simp[Zoo,ZbD,pcOf,spOf,ZcI]
 |cons o t=>
  simp only[Yw] at hk;simp only[len0,Yw,Zkk,hk,ZcH,Zbg,ZR,Zfs,bne];generalize Zc c.1 o=i at hk|-;generalize ZeD _ _=b0;cases b0<;>cases bi<;>cases bs<;>simp[ZbE,ZcI,popX,pcOf,spOf,opC,ZiX,Zes,ZbV,Zhs,Zdm,setI,R.get]
theorem ZW1 (c) (s:Int) (g:List Int) (n:Int) (hk:(Zc c.1 (g.getD 0 0)).1=n):(n=32->(Znf c s g).val=some (Zl c s g))/\(n=37->(Zna c s g).val=some (Zl c s g))/\(n=32->(ZlW c s g).val=some (Zl c s g))/\(n=37->(ZlR c s g).val=some (Zl c s g)):=by
 refine⟨?_,?_,?_,?_⟩;all_goals intro e;subst e
 all_goals simp only[Znf,Zna,ZlW,ZlR,RT.val,fin3,pk]
 all_goals simp only[qat0,mat0,qat1,mat1,rg0,hk,ZB,Zag,ZaL,ZX,ZY,ZL,ZM,Zb2,Zb3,ZaA,ZA,Za8,Zl,Zi7,ZR,Zbg]
 all_goals generalize Zd s=bi
 all_goals generalize (s==5)=bs
 all_goals cases g with
 |nil=>cases bi<;>cases bs<;>simp[Zoo,ZbD,pcOf,spOf,ZcI]
 |cons o t=>
  simp only[Yw] at hk;simp only[len0,Yw,Zkk,hk,ZcH,Zbg,ZR,Zfs,bne];generalize Zc c.1 o=i at hk|-;generalize (c.1==2)=b0;cases b0<;>cases bi<;>cases bs<;>simp[ZbE,ZcI,popX,pcOf,spOf,opC,ZiX,Zes,ZbV,Zhs,Zdm,setI,R.get]
end
end Go.Proofs.YtpnjbfjomebppaaGreat
open Go.Proofs.Tryz (prog)
namespace Go.Proofs.YtpnjbfjomebppaaGreat
noncomputable section
theorem ZP9 (a:HL Zq) (h:okHL Zq a):∃l,Zc7 prog l/\(Zfi (envX prog l [] 1125900980585471 8) Tryz.f82 Zq ZAw a).val=some (Zl a.1 a.2.1 a.2.2):=by
 have hk:=ZBr a.1.1 _ (ZBz h.2.2);refine⟨ZLz (Zc a.1.1 (a.2.2.getD 0 0)).1,ZLy _,?_⟩;show (EV1 _ a).val=_;have n1:=nx_1 a.1 a.2.1 a.2.2;have n5:=nx_5 a.1 a.2.1 a.2.2;have n6:=nx_6 a.1 a.2.1 a.2.2;have n2:=nx_2 a.1 a.2.1 a.2.2;have n3:=nx_3 a.1 a.2.1 a.2.2;have n4:=nx_4 a.1 a.2.1 a.2.2;have n7:=nx_7 a.1 a.2.1 a.2.2;have n8:=nx_8 a.1 a.2.1 a.2.2;have n9:=nx_9 a.1 a.2.1 a.2.2;have n10:=ZW2 a.1 a.2.1 a.2.2;have n11:=ZW1 a.1 a.2.1 a.2.2;rcases ZBq hk.1 hk.2 with e|e|e|e|e|e|e|e|e|e|e|e|e|e|e|e|e|e|e|e|e|e|e|e|e|e|e|e|e|e|e|e|e|e|e|e|e|e|e|e|e|e|e|e|e|e|e
 ·rw[e,ZGf a,((n1 _ e).1 rfl)]
 ·rw[e,ZGe a,((n5 _ e).1 rfl)]
 ·rw[e,ZGd a,((n6 _ e).1 rfl)]
 ·rw[e,ZGc a,((n2 _ e).1 rfl)]
 ·rw[e,ZGb a,((n3 _ e).1 rfl)]
 ·rw[e,ZGa a,((n4 _ e).1 rfl)]
 ·rw[e,ZF9 a,((n1 _ e).2.1 rfl)]
 ·rw[e,ZF8 a,((n2 _ e).2.1 rfl)]
 ·rw[e,ZF7 a,((n3 _ e).2.1 rfl)]
 ·rw[e,ZAv a,((n4 _ e).2.1 rfl)]
 ·rw[e,ZAu a,((n1 _ e).2.2.1 rfl)]
 ·rw[e,ZAt a,((n7 _ e).1 rfl)]
 ·rw[e,ZAs a,((n2 _ e).2.2.1 rfl)]
 ·rw[e,ZAr a,((n6 _ e).2.1 rfl)]
 ·rw[e,ZAq a,((n6 _ e).2.2.1 rfl)]
 ·rw[e,ZAp a,((n3 _ e).2.2.1 rfl)]
 ·rw[e,ZAo a,((n4 _ e).2.2.1 rfl)]
 ·rw[e,ZAn a,((n1 _ e).2.2.2.1 rfl)]
 ·rw[e,ZAm a,((n2 _ e).2.2.2.1 rfl)]
 ·rw[e,ZAl a,((n3 _ e).2.2.2.1 rfl)]
 ·rw[e,ZAk a,((n4 _ e).2.2.2.1 rfl)]
 ·rw[e,ZAj a,((n1 _ e).2.2.2.2.1 rfl)]
 ·rw[e,ZAi a,((n2 _ e).2.2.2.2.1 rfl)]
 ·rw[e,ZAh a,((n8 _ e).1 rfl)]
 ·rw[e,ZAg a,((n8 _ e).2.1 rfl)]
 ·rw[e,ZAf a,((n9 _ e).1 rfl)]
 ·rw[e,ZAe a,((n3 _ e).2.2.2.2.1 rfl)]
 ·rw[e,ZAd a,((n4 _ e).2.2.2.2.1 rfl)]
 ·rw[e,ZAc a,((n1 _ e).2.2.2.2.2.1 rfl)]
 ·rw[e,ZAb a,((n10 _ e).1 rfl)]
 ·rw[e,ZAa a,((n2 _ e).2.2.2.2.2.1 rfl)]
 ·rw[e,Zz9 a,((n11 _ e).1 rfl)]
 ·rw[e,Zz8 a,((n3 _ e).2.2.2.2.2.1 rfl)]
 ·rw[e,Zz7 a,((n4 _ e).2.2.2.2.2.1 rfl)]
 ·rw[e,Zz6 a,((n1 _ e).2.2.2.2.2.2.1 rfl)]
 ·rw[e,Zz5 a,((n2 _ e).2.2.2.2.2.2.1 rfl)]
 ·rw[e,Zz4 a,((n11 _ e).2.1 rfl)]
 ·rw[e,Zz3 a,((n3 _ e).2.2.2.2.2.2.1 rfl)]
 ·rw[e,Zz2 a,((n4 _ e).2.2.2.2.2.2.1 rfl)]
 ·rw[e,Zz1 a,((n1 _ e).2.2.2.2.2.2.2.1 rfl)]
 ·rw[e,Zz0 a,((n2 _ e).2.2.2.2.2.2.2.1 rfl)]
 ·rw[e,ZzZ a,((n3 _ e).2.2.2.2.2.2.2.1 rfl)]
 ·rw[e,ZzY a,((n4 _ e).2.2.2.2.2.2.2.1 rfl)]
 ·rw[e,ZzX a,((n1 _ e).2.2.2.2.2.2.2.2.1 rfl)]
 ·rw[e,ZzW a,((n9 _ e).2.1 rfl)]
 ·rw[e,ZzV a,((n2 _ e).2.2.2.2.2.2.2.2.1 rfl)]
 ·rw[e,ZzU a,((n3 _ e).2.2.2.2.2.2.2.2.1 rfl)]
def Zv5:En:=Zg Zq ZAw (λ_=>none) (λa=>Zl a.1 a.2.1 a.2.2)
theorem Zsy:Za prog 82 Zv5:=ZrQ Tryz.func82 rfl (by kernel_rfl) Tryz.call82 λa h _=>ZP9 a h
theorem ZPn (a:HL Zp) (h:okHL Zp a):∃l,Zc7 prog l/\(Zfi (envX prog l [] 2047 8) Tryz.f166 Zp ZyZ a).val=some (Zl a.1 a.2.1 a.2.2):=by
 have hk:=ZBr a.1.1 _ (ZBz h.2.2);refine⟨ZJF (Zc a.1.1 (a.2.2.getD 0 0)).1,ZJE _,?_⟩;show (EV2 _ a).val=_;have n1:=nx_1 a.1 a.2.1 a.2.2;have n5:=nx_5 a.1 a.2.1 a.2.2;have n6:=nx_6 a.1 a.2.1 a.2.2;have n2:=nx_2 a.1 a.2.1 a.2.2;have n3:=nx_3 a.1 a.2.1 a.2.2;have n4:=nx_4 a.1 a.2.1 a.2.2;have n7:=nx_7 a.1 a.2.1 a.2.2;have n8:=nx_8 a.1 a.2.1 a.2.2;have n9:=nx_9 a.1 a.2.1 a.2.2;have n10:=ZW2 a.1 a.2.1 a.2.2;have n11:=ZW1 a.1 a.2.1 a.2.2;rcases ZBq hk.1 hk.2 with e|e|e|e|e|e|e|e|e|e|e|e|e|e|e|e|e|e|e|e|e|e|e|e|e|e|e|e|e|e|e|e|e|e|e|e|e|e|e|e|e|e|e|e|e|e|e
 ·rw[e,ZFE a,((n1 _ e).2.2.2.2.2.2.2.2.2.1 rfl)]
 ·rw[e,ZFD a,((n5 _ e).2 rfl)]
 ·rw[e,ZFC a,((n6 _ e).2.2.2.1 rfl)]
 ·rw[e,ZFB a,((n2 _ e).2.2.2.2.2.2.2.2.2.1 rfl)]
 ·rw[e,ZFA a,((n3 _ e).2.2.2.2.2.2.2.2.2.1 rfl)]
 ·rw[e,ZFz a,((n4 _ e).2.2.2.2.2.2.2.2.1 rfl)]
 ·rw[e,ZFy a,((n1 _ e).2.2.2.2.2.2.2.2.2.2.1 rfl)]
 ·rw[e,ZFx a,((n2 _ e).2.2.2.2.2.2.2.2.2.2.1 rfl)]
 ·rw[e,ZFw a,((n3 _ e).2.2.2.2.2.2.2.2.2.2.1 rfl)]
 ·rw[e,ZyY a,((n4 _ e).2.2.2.2.2.2.2.2.2.1 rfl)]
 ·rw[e,ZyX a,((n1 _ e).2.2.2.2.2.2.2.2.2.2.2.1 rfl)]
 ·rw[e,ZyW a,((n7 _ e).2 rfl)]
 ·rw[e,ZyV a,((n2 _ e).2.2.2.2.2.2.2.2.2.2.2.1 rfl)]
 ·rw[e,ZyU a,((n6 _ e).2.2.2.2.1 rfl)]
 ·rw[e,ZyT a,((n6 _ e).2.2.2.2.2 rfl)]
 ·rw[e,ZyS a,((n3 _ e).2.2.2.2.2.2.2.2.2.2.2.1 rfl)]
 ·rw[e,ZyR a,((n4 _ e).2.2.2.2.2.2.2.2.2.2.1 rfl)]
 ·rw[e,ZyQ a,((n1 _ e).2.2.2.2.2.2.2.2.2.2.2.2.1 rfl)]
 ·rw[e,ZyP a,((n2 _ e).2.2.2.2.2.2.2.2.2.2.2.2.1 rfl)]
 ·rw[e,ZyO a,((n3 _ e).2.2.2.2.2.2.2.2.2.2.2.2.1 rfl)]
 ·rw[e,ZyN a,((n4 _ e).2.2.2.2.2.2.2.2.2.2.2.1 rfl)]
 ·rw[e,ZyM a,((n1 _ e).2.2.2.2.2.2.2.2.2.2.2.2.2.1 rfl)]
 ·rw[e,ZyL a,((n2 _ e).2.2.2.2.2.2.2.2.2.2.2.2.2.1 rfl)]
 ·rw[e,ZyK a,((n8 _ e).2.2.1 rfl)]
 ·rw[e,ZyJ a,((n8 _ e).2.2.2 rfl)]
 ·rw[e,ZyI a,((n9 _ e).2.2.1 rfl)]
 ·rw[e,ZyH a,((n3 _ e).2.2.2.2.2.2.2.2.2.2.2.2.2.1 rfl)]
 ·rw[e,ZyG a,((n4 _ e).2.2.2.2.2.2.2.2.2.2.2.2.1 rfl)]
 ·rw[e,ZyF a,((n1 _ e).2.2.2.2.2.2.2.2.2.2.2.2.2.2.1 rfl)]
 ·rw[e,ZyE a,((n10 _ e).2 rfl)]
 ·rw[e,ZyD a,((n2 _ e).2.2.2.2.2.2.2.2.2.2.2.2.2.2.1 rfl)]
 ·rw[e,ZyC a,((n11 _ e).2.2.1 rfl)]
 ·rw[e,ZyB a,((n3 _ e).2.2.2.2.2.2.2.2.2.2.2.2.2.2.1 rfl)]
 ·rw[e,ZyA a,((n4 _ e).2.2.2.2.2.2.2.2.2.2.2.2.2.1 rfl)]
 ·rw[e,Zyz a,((n1 _ e).2.2.2.2.2.2.2.2.2.2.2.2.2.2.2.1 rfl)]
 ·rw[e,Zyy a,((n2 _ e).2.2.2.2.2.2.2.2.2.2.2.2.2.2.2.1 rfl)]
 ·rw[e,Zyx a,((n11 _ e).2.2.2 rfl)]
 ·rw[e,Zyw a,((n3 _ e).2.2.2.2.2.2.2.2.2.2.2.2.2.2.2.1 rfl)]
 ·rw[e,Zyv a,((n4 _ e).2.2.2.2.2.2.2.2.2.2.2.2.2.2.1 rfl)]
 ·rw[e,Zyu a,((n1 _ e).2.2.2.2.2.2.2.2.2.2.2.2.2.2.2.2.1 rfl)]
 ·rw[e,Zyt a,((n2 _ e).2.2.2.2.2.2.2.2.2.2.2.2.2.2.2.2.1 rfl)]
 ·rw[e,Zys a,((n3 _ e).2.2.2.2.2.2.2.2.2.2.2.2.2.2.2.2.1 rfl)]
 ·rw[e,Zyr a,((n4 _ e).2.2.2.2.2.2.2.2.2.2.2.2.2.2.2 rfl)]
 ·rw[e,Zyq a,((n1 _ e).2.2.2.2.2.2.2.2.2.2.2.2.2.2.2.2.2 rfl)]
 ·rw[e,Zyp a,((n9 _ e).2.2.2 rfl)]
 ·rw[e,Zyo a,((n2 _ e).2.2.2.2.2.2.2.2.2.2.2.2.2.2.2.2.2 rfl)]
 ·rw[e,Zyn a,((n3 _ e).2.2.2.2.2.2.2.2.2.2.2.2.2.2.2.2.2 rfl)]
def ZRU:En:=Zg Zp ZyZ (λ_=>none) (λa=>Zl a.1 a.2.1 a.2.2)
theorem ZPm:Za prog 166 ZRU:=ZrQ Tryz.func166 rfl (by kernel_rfl) Tryz.call166 λa h _=>ZPn a h
end
end Go.Proofs.YtpnjbfjomebppaaGreat
open Go.IntKind (u8 u16 i64)
namespace Go.Proofs.YtpnjbfjomebppaaGreat
noncomputable section
def wPC (r:RegT) (v:Int):RegT:=(r.1,r.2.1,r.2.2.1,r.2.2.2.1,r.2.2.2.2.1,r.2.2.2.2.2.1,r.2.2.2.2.2.2.1,r.2.2.2.2.2.2.2.1,r.2.2.2.2.2.2.2.2.1,v)
def wSP (r:RegT) (v:Int):RegT:=(r.1,r.2.1,r.2.2.1,r.2.2.2.1,r.2.2.2.2.1,r.2.2.2.2.2.1,r.2.2.2.2.2.2.1,r.2.2.2.2.2.2.2.1,v,r.2.2.2.2.2.2.2.2.2)
def wA (r:RegT) (v:Int):RegT:=(v,r.2)
def wF (r:RegT) (f:FlgT):RegT:=(r.1,r.2.1,r.2.2.1,r.2.2.2.1,r.2.2.2.2.1,r.2.2.2.2.2.1,r.2.2.2.2.2.2.1,f,r.2.2.2.2.2.2.2.2)
def fCY (f:FlgT) (b:Bool):FlgT:=(f.1,f.2.1,f.2.2.1,f.2.2.2.1,f.2.2.2.2.1,f.2.2.2.2.2.1,b)
def fVCY (f:FlgT) (v b:Bool):FlgT:=(f.1,f.2.1,f.2.2.1,f.2.2.2.1,f.2.2.2.2.1,v,b)
def ZfL (r:RegT):Int:=r.2.2.2.2.2.2.2.2.1
def flOf (r:RegT):FlgT:=r.2.2.2.2.2.2.2.1
def finR (c:CpuT) (r r0:RegT) (g:List Int) (i:InsT):RegT:=
 let dst:=i.2.2.1
 let src:=i.2.2.2.1
 let pr:=i.2.2.2.2.1
 let op:=i.2.2.2.2.2.1
 let g1:=g.getD 1 0
 let tk:=ZeD i.2.2.2.2.2.2.1 (flOf r)
 bif i.1==2 then rSet r0 dst (bif src==6 then g1 else rGet r src) else
 bif i.1==3 then rSet r0 dst g1 else
 bif i.1==4 then ZP r0 pr (ZbV g 1) else
 bif i.1==5 then wA r0 (g.getD 3 0) else
 bif i.1==7 then ZP r0 2 (ZbV g 3) else
 bif i.1==9 then wA r0 g1 else
 bif i.1==11 then (r0.1,r0.2.1,r0.2.2.1,r0.2.2.2.2.2.1,r0.2.2.2.2.2.2.1,r0.2.2.2.1,r0.2.2.2.2.1,r0.2.2.2.2.2.2.2) else
 bif i.1==12 then (let q:=rDo c.1 op r.1 (bif src==6 then g1 else rGet r src) (flOf r);wA (wF r0 q.2) q.1) else
 bif i.1==13 then (let q:=rDo c.1 op r.1 g1 (flOf r);wA (wF r0 q.2) q.1) else
 bif i.1==14 then (let q:=rInr c.1 (bif dst==6 then g1 else rGet r dst) (flOf r);rSet (wF r0 q.2) dst q.1) else
 bif i.1==15 then (let q:=rDcr c.1 (bif dst==6 then g1 else rGet r dst) (flOf r);rSet (wF r0 q.2) dst q.1) else
 bif i.1==16 then (let q:=rInx c.1 (Zbe r pr) (flOf r);ZP (wF r0 q.2) pr q.1) else
 bif i.1==17 then (let q:=rDcx c.1 (Zbe r pr) (flOf r);ZP (wF r0 q.2) pr q.1) else
 bif i.1==18 then (let q:=rDad c.1 (Zbe r 2) (Zbe r pr) (flOf r);ZP (wF r0 q.2) 2 q.1) else
 bif i.1==19 then (let q:=rDaa c.1 r.1 (flOf r);wA (wF r0 q.2) q.1) else
 bif i.1==20 then wA r0 (notI .u8 r.1) else
 bif i.1==21 then wF r0 (fCY (flOf r) true) else
 bif i.1==22 then wF r0 (fCY (flOf r) (!(flOf r).2.2.2.2.2.2)) else
 bif i.1==23 then (let q:=rRot op r.1 (flOf r).2.2.2.2.2.2;wA (wF r0 (fCY (flOf r) q.2)) q.1) else
 bif i.1==24 then (bif tk then wPC r0 (ZbV g 1) else r0) else
 bif i.1==25 then (bif tk then wPC (wSP r0 (IntKind.wrap .u16 (ZfL r-2))) (ZbV g 1) else r0) else
 bif i.1==26 then (bif tk then wPC (wSP r0 (IntKind.wrap .u16 (ZfL r+2))) (ZbV g 1) else r0) else
 bif i.1==27 then wPC (wSP r0 (IntKind.wrap .u16 (ZfL r-2))) (IntKind.wrap .u16 (IntKind.wrap .i64 (8*i.2.2.2.2.2.2.2))) else
 bif i.1==28 then wPC r0 (Zbe r 2) else
 bif i.1==29 then wSP r0 (Zbe r 2) else
 bif i.1==30 then wSP r0 (IntKind.wrap .u16 (ZfL r-2)) else
 bif i.1==31 then (let q:=bif pr==3 then ZlD c.1 r0 (ZbV g 1) else ZP r0 pr (ZbV g 1);wSP q (IntKind.wrap .u16 (ZfL q+2))) else
 bif i.1==32 then ZP r0 2 (ZbV g 1) else
 bif i.1==33 then wA r0 (g.getD 2 0) else
 bif i.1==40 then (let q:=ZJW (Zbe r 2) (Zbe r 0);ZP (wF r0 q.2) 2 q.1) else
 bif i.1==41 then (let q:=ZPv (Zbe r 2);ZP (wF r0 (fCY (flOf r) q.2)) 2 q.1) else
 bif i.1==42 then (let q:=ZJg (Zbe r 1) (flOf r).2.2.2.2.2.2;ZP (wF r0 (fVCY (flOf r) q.2.2 q.2.1)) 1 q.1) else
 bif i.1==43 then ZP r0 1 (IntKind.wrap .u16 (Zbe r 2+IntKind.wrap .u16 g1)) else
 bif i.1==44 then ZP r0 1 (IntKind.wrap .u16 (ZfL r+IntKind.wrap .u16 g1)) else
 bif i.1==45 then (bif tk then wPC (wSP r0 (IntKind.wrap .u16 (ZfL r-2))) 64 else r0) else
 bif i.1==47 then ZP r0 2 (ZbV g 1) else
 r0
def finI (c:CpuT) (inj:Bool) (g:List Int) (l:QT1) (i:InsT):CpuT:=
 let r0:=wPC c.2.1 (ZR c inj i)
 let d:CpuT:=(c.1,r0,c.2.2.1,false,false,c.2.2.2.2.2)
 bif i.1==38 then (let q:=rRim d l;(q.2.1,wA q.2.2.1 q.1,q.2.2.2)) else
 bif i.1==39 then rSim d c.2.1.1 else
 (c.1,finR c c.2.1 r0 g i,bif i.1==35 then true else bif i.1==36 then false else c.2.2.1,i.1==35,i.1==37,c.2.2.2.2.2)
def finX (c:CpuT) (s:Int) (g:List Int) (l:QT1):CpuT:=
 bif Zd s then (c.1,wPC (wSP c.2.1 (IntKind.wrap .u16 (spOf c-2))) (Zs s),c.2.2)
 else finI c (s==5) g l (Zc c.1 (g.getD 0 0))
theorem ZV8 (c:CpuT) (l):(rRim c l).2=(c.1,c.2.1,c.2.2.1,c.2.2.2.1,c.2.2.2.2.1,c.2.2.2.2.2.1,c.2.2.2.2.2.2.1,c.2.2.2.2.2.2.2.1,c.2.2.2.2.2.2.2.2.1,c.2.2.2.2.2.2.2.2.2.1,false,false,c.2.2.2.2.2.2.2.2.2.2.2.2):=by
 have h3:∀b,Zar b 3=true:=λb=>by cases b<;>rfl
 have h4:∀b,Zar b 4=true:=λb=>by cases b<;>rfl
 have h5:∀b,Zar b 5=true:=λb=>by cases b<;>rfl
 have h6:∀b,Zar b 6=true:=λb=>by cases b<;>rfl
 have h7:∀b,Zar b 7=true:=λb=>by cases b<;>rfl
 simp only[rRim,ZPb,RT.val,h3,h4,h5,h6,h7,Yg,Yj,Yb,getO]
theorem ZgY (s):ZfT s=true/\ZhZ s=bif (s.2.2.2.1.1==13||s.2.2.2.1.2.2.2.1==6) then s.2.2.1.getD 1 0 else rGet s.1.2.1 s.2.2.2.1.2.2.2.1:=by simp only[ZfT,ZhZ,ZhY,RT.val,qat1,ZaL];cases (s.2.2.2.1.1==13||s.2.2.2.1.2.2.2.1==6)<;>simp[okB,getO]
end
end Go.Proofs.YtpnjbfjomebppaaGreat
