import Derived.Test.YtpnjbfjomebppaaGreatKind47
import Derived.Test.YtpnjbfjomebppaaGreatNext1
import Derived.Test.YtpnjbfjomebppaaGreatNext2
import Derived.Test.YtpnjbfjomebppaaGreatNext3
import Derived.Test.YtpnjbfjomebppaaGreatNext4
open Go Go.S3 Go.Proofs
set_option linter.unusedVariables false
set_option linter.unusedSimpArgs false
set_option maxRecDepth 100000
namespace Go.Proofs.YtpnjbfjomebppaaGreat
noncomputable section
theorem nx_2 (c) (s:Int) (g:List Int) (n:Int) (hk:(Zc c.1 (g.getD 0 0)).1=n):(n=4->(ZtK c s g).val=some (Zj c s g))/\(n=8->(ZtG c s g).val=some (Zj c s g))/\(n=13->(Zow c s g).val=some (Zj c s g))/\(n=19->(Zoq c s g).val=some (Zj c s g))/\(n=23->(Zom c s g).val=some (Zj c s g))/\(n=31->(Zoe c s g).val=some (Zj c s g))/\(n=36->(Zn9 c s g).val=some (Zj c s g))/\(n=41->(Zn4 c s g).val=some (Zj c s g))/\(n=46->(ZnZ c s g).val=some (Zj c s g))/\(n=4->(ZD5 c s g).val=some (Zj c s g))/\(n=8->(ZD1 c s g).val=some (Zj c s g))/\(n=13->(Zxc c s g).val=some (Zj c s g))/\(n=19->(Zw6 c s g).val=some (Zj c s g))/\(n=23->(Zw2 c s g).val=some (Zj c s g))/\(n=31->(ZwU c s g).val=some (Zj c s g))/\(n=36->(ZwP c s g).val=some (Zj c s g))/\(n=41->(ZwK c s g).val=some (Zj c s g))/\(n=46->(ZwF c s g).val=some (Zj c s g)):=by
 refine⟨?_,?_,?_,?_,?_,?_,?_,?_,?_,?_,?_,?_,?_,?_,?_,?_,?_,?_⟩;all_goals intro e;subst e
 all_goals simp only[ZtK,ZtG,Zow,Zoq,Zom,Zoe,Zn9,Zn4,ZnZ,ZD5,ZD1,Zxc,Zw6,Zw2,ZwU,ZwP,ZwK,ZwF,RT.val,fin3,pk]
 all_goals simp only[qat0,mat0,qat1,mat1,rg0,hk,ZH,Zaq,Za6,Zab,Zac,ZV,ZW,Zcx,Zcy,ZaP,ZG,ZbC,Zj,ZdB,ZZ,Zbu]
 all_goals generalize Zd s=bi
 all_goals generalize (s==5)=bs
 all_goals cases g with
 |nil=>cases bi<;>cases bs<;>simp[Zpl,Zb4,pcOf,spOf,ZcJ]
 |cons o t=>
  simp only[YB] at hk;simp only[len0,YB,Zgf,hk,ZbT,Zbu,ZZ,ZfB,bne];generalize Zc c.1 o=i at hk|-;cases bi<;>cases bs<;>simp[Zb5,ZcJ,popX,pcOf,spOf,opC,Zim,ZdG,Zco,Zgr,ZdP,setI,R.get]
theorem nx_4 (c) (s:Int) (g:List Int) (n:Int) (hk:(Zc c.1 (g.getD 0 0)).1=n):(n=6->(ZtI c s g).val=some (Zj c s g))/\(n=10->(Zoz c s g).val=some (Zj c s g))/\(n=17->(Zos c s g).val=some (Zj c s g))/\(n=21->(Zoo c s g).val=some (Zj c s g))/\(n=28->(Zoh c s g).val=some (Zj c s g))/\(n=34->(Zob c s g).val=some (Zj c s g))/\(n=39->(Zn6 c s g).val=some (Zj c s g))/\(n=43->(Zn2 c s g).val=some (Zj c s g))/\(n=6->(ZD3 c s g).val=some (Zj c s g))/\(n=10->(Zxf c s g).val=some (Zj c s g))/\(n=17->(Zw8 c s g).val=some (Zj c s g))/\(n=21->(Zw4 c s g).val=some (Zj c s g))/\(n=28->(ZwX c s g).val=some (Zj c s g))/\(n=34->(ZwR c s g).val=some (Zj c s g))/\(n=39->(ZwM c s g).val=some (Zj c s g))/\(n=43->(ZwI c s g).val=some (Zj c s g)):=by
 refine⟨?_,?_,?_,?_,?_,?_,?_,?_,?_,?_,?_,?_,?_,?_,?_,?_⟩;all_goals intro e;subst e
 all_goals simp only[ZtI,Zoz,Zos,Zoo,Zoh,Zob,Zn6,Zn2,ZD3,Zxf,Zw8,Zw4,ZwX,ZwR,ZwM,ZwI,RT.val,fin3,pk]
 all_goals simp only[qat0,mat0,qat1,mat1,rg0,hk,ZH,Zaq,Za6,Zab,Zac,ZV,ZW,Zcx,Zcy,ZaP,ZG,ZbC,Zj,ZdB,ZZ,Zbu]
 all_goals generalize Zd s=bi
 all_goals generalize (s==5)=bs
 all_goals cases g with
 |nil=>cases bi<;>cases bs<;>simp[Zpl,Zb4,pcOf,spOf,ZcJ]
 |cons o t=>
  simp only[YB] at hk;simp only[len0,YB,Zgf,hk,ZbT,Zbu,ZZ,ZfB,bne];generalize Zc c.1 o=i at hk|-;cases bi<;>cases bs<;>simp[Zb5,ZcJ,popX,pcOf,spOf,opC,Zim,ZdG,Zco,Zgr,ZdP,setI,R.get]
theorem nx_6 (c) (s:Int) (g:List Int) (n:Int) (hk:(Zc c.1 (g.getD 0 0)).1=n):(n=3->(ZtL c s g).val=some (Zj c s g))/\(n=14->(Zov c s g).val=some (Zj c s g))/\(n=15->(Zou c s g).val=some (Zj c s g))/\(n=3->(ZD6 c s g).val=some (Zj c s g))/\(n=14->(Zxb c s g).val=some (Zj c s g))/\(n=15->(Zxa c s g).val=some (Zj c s g)):=by
 refine⟨?_,?_,?_,?_,?_,?_⟩;all_goals intro e;subst e
 all_goals simp only[ZtL,Zov,Zou,ZD6,Zxb,Zxa,RT.val,fin3,pk]
 all_goals simp only[qat0,mat0,qat1,mat1,rg0,hk,ZH,Zaq,Za6,Zab,Zac,ZV,ZW,Zcx,Zcy,ZaP,ZG,ZbC,Zj,ZdB,ZZ,Zbu]
 all_goals generalize Zd s=bi
 all_goals generalize (s==5)=bs
 all_goals cases g with
 |nil=>cases bi<;>cases bs<;>simp[Zpl,Zb4,pcOf,spOf,ZcJ]
 |cons o t=>
  simp only[YB] at hk;simp only[len0,YB,Zgf,hk,ZbT,Zbu,ZZ,ZfB,bne];generalize Zc c.1 o=i at hk|-;generalize (i.2.2.1==6)=b0;cases b0<;>cases bi<;>cases bs<;>simp[Zb5,ZcJ,popX,pcOf,spOf,opC,Zim,ZdG,Zco,Zgr,ZdP,setI,R.get]
theorem nx_8 (c) (s:Int) (g:List Int) (n:Int) (hk:(Zc c.1 (g.getD 0 0)).1=n):(n=24->(Zol c s g).val=some (Zj c s g))/\(n=25->(Zok c s g).val=some (Zj c s g))/\(n=24->(Zw1 c s g).val=some (Zj c s g))/\(n=25->(Zw0 c s g).val=some (Zj c s g)):=by
 refine⟨?_,?_,?_,?_⟩;all_goals intro e;subst e
 all_goals simp only[Zol,Zok,Zw1,Zw0,RT.val,fin3,pk]
 all_goals simp only[qat0,mat0,qat1,mat1,rg0,hk,ZH,Zaq,Za6,Zab,Zac,ZV,ZW,Zcx,Zcy,ZaP,ZG,ZbC,Zj,ZdB,ZZ,Zbu]
 all_goals generalize Zd s=bi
 all_goals generalize (s==5)=bs
 all_goals cases g with
 |nil=>cases bi<;>cases bs<;>simp[Zpl,Zb4,pcOf,spOf,ZcJ]
 |cons o t=>
  simp only[YB] at hk;simp only[len0,YB,Zgf,hk,ZbT,Zbu,ZZ,ZfB,bne];generalize Zc c.1 o=i at hk|-;generalize Zgj _ _=b0;generalize (c.1==2)=b1;cases b0<;>cases b1<;>cases bi<;>cases bs<;>simp[Zb5,ZcJ,popX,pcOf,spOf,opC,Zim,ZdG,Zco,Zgr,ZdP,setI,R.get]
theorem nx_10 (c) (s:Int) (g:List Int) (n:Int) (hk:(Zc c.1 (g.getD 0 0)).1=n):(n=30->(Zof c s g).val=some (Zj c s g))/\(n=30->(ZwV c s g).val=some (Zj c s g)):=by
 refine⟨?_,?_⟩;all_goals intro e;subst e
 all_goals simp only[Zof,ZwV,RT.val,fin3,pk]
 all_goals simp only[qat0,mat0,qat1,mat1,rg0,hk,ZH,Zaq,Za6,Zab,Zac,ZV,ZW,Zcx,Zcy,ZaP,ZG,ZbC,Zj,ZdB,ZZ,Zbu]
 all_goals generalize Zd s=bi
 all_goals generalize (s==5)=bs
 all_goals cases g with
 |nil=>cases bi<;>cases bs<;>simp[Zpl,Zb4,pcOf,spOf,ZcJ]
 |cons o t=>
  simp only[YB] at hk;simp only[len0,YB,Zgf,hk,ZbT,Zbu,ZZ,ZfB,bne];generalize Zc c.1 o=i at hk|-;generalize (i.2.2.2.2.1==3)=b0;cases b0<;>cases bi<;>cases bs<;>simp[Zb5,ZcJ,popX,pcOf,spOf,opC,Zim,ZdG,Zco,Zgr,ZdP,setI,R.get]
theorem nx_1 (c) (s:Int) (g:List Int) (n:Int) (hk:(Zc c.1 (g.getD 0 0)).1=n):(n=1->(ZtN c s g).val=some (Zj c s g))/\(n=7->(ZtH c s g).val=some (Zj c s g))/\(n=11->(Zoy c s g).val=some (Zj c s g))/\(n=18->(Zor c s g).val=some (Zj c s g))/\(n=22->(Zon c s g).val=some (Zj c s g))/\(n=29->(Zog c s g).val=some (Zj c s g))/\(n=35->(Zoa c s g).val=some (Zj c s g))/\(n=40->(Zn5 c s g).val=some (Zj c s g))/\(n=44->(Zn1 c s g).val=some (Zj c s g))/\(n=1->(ZD8 c s g).val=some (Zj c s g))/\(n=7->(ZD2 c s g).val=some (Zj c s g))/\(n=11->(Zxe c s g).val=some (Zj c s g))/\(n=18->(Zw7 c s g).val=some (Zj c s g))/\(n=22->(Zw3 c s g).val=some (Zj c s g))/\(n=29->(ZwW c s g).val=some (Zj c s g))/\(n=35->(ZwQ c s g).val=some (Zj c s g))/\(n=40->(ZwL c s g).val=some (Zj c s g))/\(n=44->(ZwH c s g).val=some (Zj c s g)):=by
 refine⟨?_,?_,?_,?_,?_,?_,?_,?_,?_,?_,?_,?_,?_,?_,?_,?_,?_,?_⟩;all_goals intro e;subst e
 all_goals simp only[ZtN,ZtH,Zoy,Zor,Zon,Zog,Zoa,Zn5,Zn1,ZD8,ZD2,Zxe,Zw7,Zw3,ZwW,ZwQ,ZwL,ZwH,RT.val,fin3,pk]
 all_goals simp only[qat0,mat0,qat1,mat1,rg0,hk,ZH,Zaq,Za6,Zab,Zac,ZV,ZW,Zcx,Zcy,ZaP,ZG,ZbC,Zj,ZdB,ZZ,Zbu]
 all_goals generalize Zd s=bi
 all_goals generalize (s==5)=bs
 all_goals cases g with
 |nil=>cases bi<;>cases bs<;>simp[Zpl,Zb4,pcOf,spOf,ZcJ]
 |cons o t=>
  simp only[YB] at hk;simp only[len0,YB,Zgf,hk,ZbT,Zbu,ZZ,ZfB,bne];generalize Zc c.1 o=i at hk|-;cases bi<;>cases bs<;>simp[Zb5,ZcJ,popX,pcOf,spOf,opC,Zim,ZdG,Zco,Zgr,ZdP,setI,R.get]
theorem nx_3 (c) (s:Int) (g:List Int) (n:Int) (hk:(Zc c.1 (g.getD 0 0)).1=n):(n=5->(ZtJ c s g).val=some (Zj c s g))/\(n=9->(ZtF c s g).val=some (Zj c s g))/\(n=16->(Zot c s g).val=some (Zj c s g))/\(n=20->(Zop c s g).val=some (Zj c s g))/\(n=27->(Zoi c s g).val=some (Zj c s g))/\(n=33->(Zoc c s g).val=some (Zj c s g))/\(n=38->(Zn7 c s g).val=some (Zj c s g))/\(n=42->(Zn3 c s g).val=some (Zj c s g))/\(n=47->(ZnY c s g).val=some (Zj c s g))/\(n=5->(ZD4 c s g).val=some (Zj c s g))/\(n=9->(ZD0 c s g).val=some (Zj c s g))/\(n=16->(Zw9 c s g).val=some (Zj c s g))/\(n=20->(Zw5 c s g).val=some (Zj c s g))/\(n=27->(ZwY c s g).val=some (Zj c s g))/\(n=33->(ZwS c s g).val=some (Zj c s g))/\(n=38->(ZwN c s g).val=some (Zj c s g))/\(n=42->(ZwJ c s g).val=some (Zj c s g))/\(n=47->(ZwE c s g).val=some (Zj c s g)):=by
 refine⟨?_,?_,?_,?_,?_,?_,?_,?_,?_,?_,?_,?_,?_,?_,?_,?_,?_,?_⟩;all_goals intro e;subst e
 all_goals simp only[ZtJ,ZtF,Zot,Zop,Zoi,Zoc,Zn7,Zn3,ZnY,ZD4,ZD0,Zw9,Zw5,ZwY,ZwS,ZwN,ZwJ,ZwE,RT.val,fin3,pk]
 all_goals simp only[qat0,mat0,qat1,mat1,rg0,hk,ZH,Zaq,Za6,Zab,Zac,ZV,ZW,Zcx,Zcy,ZaP,ZG,ZbC,Zj,ZdB,ZZ,Zbu]
 all_goals generalize Zd s=bi
 all_goals generalize (s==5)=bs
 all_goals cases g with
 |nil=>cases bi<;>cases bs<;>simp[Zpl,Zb4,pcOf,spOf,ZcJ]
 |cons o t=>
  simp only[YB] at hk;simp only[len0,YB,Zgf,hk,ZbT,Zbu,ZZ,ZfB,bne];generalize Zc c.1 o=i at hk|-;cases bi<;>cases bs<;>simp[Zb5,ZcJ,popX,pcOf,spOf,opC,Zim,ZdG,Zco,Zgr,ZdP,setI,R.get]
theorem nx_5 (c) (s:Int) (g:List Int) (n:Int) (hk:(Zc c.1 (g.getD 0 0)).1=n):(n=2->(ZtM c s g).val=some (Zj c s g))/\(n=2->(ZD7 c s g).val=some (Zj c s g)):=by
 refine⟨?_,?_⟩;all_goals intro e;subst e
 all_goals simp only[ZtM,ZD7,RT.val,fin3,pk]
 all_goals simp only[qat0,mat0,qat1,mat1,rg0,hk,ZH,Zaq,Za6,Zab,Zac,ZV,ZW,Zcx,Zcy,ZaP,ZG,ZbC,Zj,ZdB,ZZ,Zbu]
 all_goals generalize Zd s=bi
 all_goals generalize (s==5)=bs
 all_goals cases g with
 |nil=>cases bi<;>cases bs<;>simp[Zpl,Zb4,pcOf,spOf,ZcJ]
 |cons o t=>
  simp only[YB] at hk;simp only[len0,YB,Zgf,hk,ZbT,Zbu,ZZ,ZfB,bne];generalize Zc c.1 o=i at hk|-;generalize (i.2.2.2.1==6)=b0;generalize (i.2.2.1==6)=b1;cases b0<;>cases b1<;>cases bi<;>cases bs<;>simp[Zb5,ZcJ,popX,pcOf,spOf,opC,Zim,ZdG,Zco,Zgr,ZdP,setI,R.get]
theorem nx_7 (c) (s:Int) (g:List Int) (n:Int) (hk:(Zc c.1 (g.getD 0 0)).1=n):(n=12->(Zox c s g).val=some (Zj c s g))/\(n=12->(Zxd c s g).val=some (Zj c s g)):=by
 refine⟨?_,?_⟩;all_goals intro e;subst e
 all_goals simp only[Zox,Zxd,RT.val,fin3,pk]
 all_goals simp only[qat0,mat0,qat1,mat1,rg0,hk,ZH,Zaq,Za6,Zab,Zac,ZV,ZW,Zcx,Zcy,ZaP,ZG,ZbC,Zj,ZdB,ZZ,Zbu]
 all_goals generalize Zd s=bi
 all_goals generalize (s==5)=bs
 all_goals cases g with
 |nil=>cases bi<;>cases bs<;>simp[Zpl,Zb4,pcOf,spOf,ZcJ]
 |cons o t=>
  simp only[YB] at hk;simp only[len0,YB,Zgf,hk,ZbT,Zbu,ZZ,ZfB,bne];generalize Zc c.1 o=i at hk|-;generalize (i.2.2.2.1==6)=b0;cases b0<;>cases bi<;>cases bs<;>simp[Zb5,ZcJ,popX,pcOf,spOf,opC,Zim,ZdG,Zco,Zgr,ZdP,setI,R.get]
theorem nx_9 (c) (s:Int) (g:List Int) (n:Int) (hk:(Zc c.1 (g.getD 0 0)).1=n):(n=26->(Zoj c s g).val=some (Zj c s g))/\(n=45->(Zn0 c s g).val=some (Zj c s g))/\(n=26->(ZwZ c s g).val=some (Zj c s g))/\(n=45->(ZwG c s g).val=some (Zj c s g)):=by
 refine⟨?_,?_,?_,?_⟩;all_goals intro e;subst e
 all_goals simp only[Zoj,Zn0,ZwZ,ZwG,RT.val,fin3,pk]
 all_goals simp only[qat0,mat0,qat1,mat1,rg0,hk,ZH,Zaq,Za6,Zab,Zac,ZV,ZW,Zcx,Zcy,ZaP,ZG,ZbC,Zj,ZdB,ZZ,Zbu]
 all_goals generalize Zd s=bi
 all_goals generalize (s==5)=bs
 all_goals cases g with
 |nil=>cases bi<;>cases bs<;>simp[Zpl,Zb4,pcOf,spOf,ZcJ]
 |cons o t=>
  simp only[YB] at hk;simp only[len0,YB,Zgf,hk,ZbT,Zbu,ZZ,ZfB,bne];generalize Zc c.1 o=i at hk|-;generalize Zgj _ _=b0;cases b0<;>cases bi<;>cases bs<;>simp[Zb5,ZcJ,popX,pcOf,spOf,opC,Zim,ZdG,Zco,Zgr,ZdP,setI,R.get]
theorem nx_11 (c) (s:Int) (g:List Int) (n:Int) (hk:(Zc c.1 (g.getD 0 0)).1=n):(n=32->(Zod c s g).val=some (Zj c s g))/\(n=37->(Zn8 c s g).val=some (Zj c s g))/\(n=32->(ZwT c s g).val=some (Zj c s g))/\(n=37->(ZwO c s g).val=some (Zj c s g)):=by
 refine⟨?_,?_,?_,?_⟩;all_goals intro e;subst e
 all_goals simp only[Zod,Zn8,ZwT,ZwO,RT.val,fin3,pk]
 all_goals simp only[qat0,mat0,qat1,mat1,rg0,hk,ZH,Zaq,Za6,Zab,Zac,ZV,ZW,Zcx,Zcy,ZaP,ZG,ZbC,Zj,ZdB,ZZ,Zbu]
 all_goals generalize Zd s=bi
 all_goals generalize (s==5)=bs
 all_goals cases g with
 |nil=>cases bi<;>cases bs<;>simp[Zpl,Zb4,pcOf,spOf,ZcJ]
 |cons o t=>
  simp only[YB] at hk;simp only[len0,YB,Zgf,hk,ZbT,Zbu,ZZ,ZfB,bne];generalize Zc c.1 o=i at hk|-;generalize (c.1==2)=b0;cases b0<;>cases bi<;>cases bs<;>simp[Zb5,ZcJ,popX,pcOf,spOf,opC,Zim,ZdG,Zco,Zgr,ZdP,setI,R.get]
theorem ZRk (a:HL Zv) (h:okHL Zv a):∃l,Zd1 Tryz.prog l/\(Zhg (envX Tryz.prog l [] 1125900980585471 8) Tryz.f82 Zv ZBz a).val=some (Zj a.1 a.2.1 a.2.2):=by
 have hk:=ZOi a.1.1 _ (ZOE h.2.2);refine⟨ZMs (Zc a.1.1 (a.2.2.getD 0 0)).1,ZMr _,?_⟩;show (EV1 _ a).val=_;have n1:=nx_1 a.1 a.2.1 a.2.2;have n5:=nx_5 a.1 a.2.1 a.2.2;have n6:=nx_6 a.1 a.2.1 a.2.2;have n2:=nx_2 a.1 a.2.1 a.2.2;have n3:=nx_3 a.1 a.2.1 a.2.2;have n4:=nx_4 a.1 a.2.1 a.2.2;have n7:=nx_7 a.1 a.2.1 a.2.2;have n8:=nx_8 a.1 a.2.1 a.2.2;have n9:=nx_9 a.1 a.2.1 a.2.2;have n10:=nx_10 a.1 a.2.1 a.2.2;have n11:=nx_11 a.1 a.2.1 a.2.2;rcases ZOh hk.1 hk.2 with e|e|e|e|e|e|e|e|e|e|e|e|e|e|e|e|e|e|e|e|e|e|e|e|e|e|e|e|e|e|e|e|e|e|e|e|e|e|e|e|e|e|e|e|e|e|e
 ·rw[e,ZHj a,((n1 _ e).1 rfl)]
 ·rw[e,ZHi a,((n5 _ e).1 rfl)]
 ·rw[e,ZHh a,((n6 _ e).1 rfl)]
 ·rw[e,ZHg a,((n2 _ e).1 rfl)]
 ·rw[e,ZHf a,((n3 _ e).1 rfl)]
 ·rw[e,ZHe a,((n4 _ e).1 rfl)]
 ·rw[e,ZHd a,((n1 _ e).2.1 rfl)]
 ·rw[e,ZHc a,((n2 _ e).2.1 rfl)]
 ·rw[e,ZHb a,((n3 _ e).2.1 rfl)]
 ·rw[e,ZBy a,((n4 _ e).2.1 rfl)]
 ·rw[e,ZBx a,((n1 _ e).2.2.1 rfl)]
 ·rw[e,ZBw a,((n7 _ e).1 rfl)]
 ·rw[e,ZBv a,((n2 _ e).2.2.1 rfl)]
 ·rw[e,ZBu a,((n6 _ e).2.1 rfl)]
 ·rw[e,ZBt a,((n6 _ e).2.2.1 rfl)]
 ·rw[e,ZBs a,((n3 _ e).2.2.1 rfl)]
 ·rw[e,ZBr a,((n4 _ e).2.2.1 rfl)]
 ·rw[e,ZBq a,((n1 _ e).2.2.2.1 rfl)]
 ·rw[e,ZBp a,((n2 _ e).2.2.2.1 rfl)]
 ·rw[e,ZBo a,((n3 _ e).2.2.2.1 rfl)]
 ·rw[e,ZBn a,((n4 _ e).2.2.2.1 rfl)]
 ·rw[e,ZBm a,((n1 _ e).2.2.2.2.1 rfl)]
 ·rw[e,ZBl a,((n2 _ e).2.2.2.2.1 rfl)]
 ·rw[e,ZBk a,((n8 _ e).1 rfl)]
 ·rw[e,ZBj a,((n8 _ e).2.1 rfl)]
 ·rw[e,ZBi a,((n9 _ e).1 rfl)]
 ·rw[e,ZBh a,((n3 _ e).2.2.2.2.1 rfl)]
 ·rw[e,ZBg a,((n4 _ e).2.2.2.2.1 rfl)]
 ·rw[e,ZBf a,((n1 _ e).2.2.2.2.2.1 rfl)]
 ·rw[e,ZBe a,((n10 _ e).1 rfl)]
 ·rw[e,ZBd a,((n2 _ e).2.2.2.2.2.1 rfl)]
 ·rw[e,ZBc a,((n11 _ e).1 rfl)]
 ·rw[e,ZBb a,((n3 _ e).2.2.2.2.2.1 rfl)]
 ·rw[e,ZBa a,((n4 _ e).2.2.2.2.2.1 rfl)]
 ·rw[e,ZA9 a,((n1 _ e).2.2.2.2.2.2.1 rfl)]
 ·rw[e,ZA8 a,((n2 _ e).2.2.2.2.2.2.1 rfl)]
 ·rw[e,ZA7 a,((n11 _ e).2.1 rfl)]
 ·rw[e,ZA6 a,((n3 _ e).2.2.2.2.2.2.1 rfl)]
 ·rw[e,ZA5 a,((n4 _ e).2.2.2.2.2.2.1 rfl)]
 ·rw[e,ZA4 a,((n1 _ e).2.2.2.2.2.2.2.1 rfl)]
 ·rw[e,ZA3 a,((n2 _ e).2.2.2.2.2.2.2.1 rfl)]
 ·rw[e,ZA2 a,((n3 _ e).2.2.2.2.2.2.2.1 rfl)]
 ·rw[e,ZA1 a,((n4 _ e).2.2.2.2.2.2.2.1 rfl)]
 ·rw[e,ZA0 a,((n1 _ e).2.2.2.2.2.2.2.2.1 rfl)]
 ·rw[e,ZAZ a,((n9 _ e).2.1 rfl)]
 ·rw[e,ZAY a,((n2 _ e).2.2.2.2.2.2.2.2.1 rfl)]
 ·rw[e,ZAX a,((n3 _ e).2.2.2.2.2.2.2.2.1 rfl)]
def ZxP:En:=Zi Zv ZBz (λ_=>none) (λa=>Zj a.1 a.2.1 a.2.2)
theorem ZtE:Zb Tryz.prog 82 ZxP:=ZEi Tryz.func82 rfl (by kernel_rfl) Tryz.call82 λa h _=>ZRk a h
end
end Go.Proofs.YtpnjbfjomebppaaGreat
open Go.IntKind (u8 u16 i64)
namespace Go.Proofs.YtpnjbfjomebppaaGreat
noncomputable section
def wPC (r:RegT) (v:Int):RegT:=(r.1,r.2.1,r.2.2.1,r.2.2.2.1,r.2.2.2.2.1,r.2.2.2.2.2.1,r.2.2.2.2.2.2.1,r.2.2.2.2.2.2.2.1,r.2.2.2.2.2.2.2.2.1,v)
def wSP (r:RegT) (v:Int):RegT:=(r.1,r.2.1,r.2.2.1,r.2.2.2.1,r.2.2.2.2.1,r.2.2.2.2.2.1,r.2.2.2.2.2.2.1,r.2.2.2.2.2.2.2.1,v,r.2.2.2.2.2.2.2.2.2)
def wA (r:RegT) (v:Int):RegT:=(v,r.2)
def wF (r:RegT) (f:FlgT):RegT:=(r.1,r.2.1,r.2.2.1,r.2.2.2.1,r.2.2.2.2.1,r.2.2.2.2.2.1,r.2.2.2.2.2.2.1,f,r.2.2.2.2.2.2.2.2)
def fCY (f:FlgT) (b:Bool):FlgT:=(f.1,f.2.1,f.2.2.1,f.2.2.2.1,f.2.2.2.2.1,f.2.2.2.2.2.1,b)
def fVCY (f:FlgT) (v b:Bool):FlgT:=(f.1,f.2.1,f.2.2.1,f.2.2.2.1,f.2.2.2.2.1,v,b)
def ZgJ (r:RegT):Int:=r.2.2.2.2.2.2.2.2.1
def flOf (r:RegT):FlgT:=r.2.2.2.2.2.2.2.1
def finR (c:CpuT) (r r0:RegT) (g:List Int) (i:InsT):RegT:=
 let dst:=i.2.2.1
 let src:=i.2.2.2.1
 let pr:=i.2.2.2.2.1
 let op:=i.2.2.2.2.2.1
 let g1:=g.getD 1 0
 let tk:=Zgj i.2.2.2.2.2.2.1 (flOf r)
 bif i.1==2 then rSet r0 dst (bif src==6 then g1 else rGet r src) else
 bif i.1==3 then rSet r0 dst g1 else
 bif i.1==4 then Z0 r0 pr (Zco g 1) else
 bif i.1==5 then wA r0 (g.getD 3 0) else
 bif i.1==7 then Z0 r0 2 (Zco g 3) else
 bif i.1==9 then wA r0 g1 else
 bif i.1==11 then (r0.1,r0.2.1,r0.2.2.1,r0.2.2.2.2.2.1,r0.2.2.2.2.2.2.1,r0.2.2.2.1,r0.2.2.2.2.1,r0.2.2.2.2.2.2.2) else
 bif i.1==12 then (let q:=rDo c.1 op r.1 (bif src==6 then g1 else rGet r src) (flOf r);wA (wF r0 q.2) q.1) else
 bif i.1==13 then (let q:=rDo c.1 op r.1 g1 (flOf r);wA (wF r0 q.2) q.1) else
 bif i.1==14 then (let q:=rInr c.1 (bif dst==6 then g1 else rGet r dst) (flOf r);rSet (wF r0 q.2) dst q.1) else
 bif i.1==15 then (let q:=rDcr c.1 (bif dst==6 then g1 else rGet r dst) (flOf r);rSet (wF r0 q.2) dst q.1) else
 bif i.1==16 then (let q:=rInx c.1 (ZbM r pr) (flOf r);Z0 (wF r0 q.2) pr q.1) else
 bif i.1==17 then (let q:=rDcx c.1 (ZbM r pr) (flOf r);Z0 (wF r0 q.2) pr q.1) else
 bif i.1==18 then (let q:=rDad c.1 (ZbM r 2) (ZbM r pr) (flOf r);Z0 (wF r0 q.2) 2 q.1) else
 bif i.1==19 then (let q:=rDaa c.1 r.1 (flOf r);wA (wF r0 q.2) q.1) else
 bif i.1==20 then wA r0 (notI .u8 r.1) else
 bif i.1==21 then wF r0 (fCY (flOf r) true) else
 bif i.1==22 then wF r0 (fCY (flOf r) (!(flOf r).2.2.2.2.2.2)) else
 bif i.1==23 then (let q:=rRot op r.1 (flOf r).2.2.2.2.2.2;wA (wF r0 (fCY (flOf r) q.2)) q.1) else
 bif i.1==24 then (bif tk then wPC r0 (Zco g 1) else r0) else
 bif i.1==25 then (bif tk then wPC (wSP r0 (IntKind.wrap .u16 (ZgJ r-2))) (Zco g 1) else r0) else
 bif i.1==26 then (bif tk then wPC (wSP r0 (IntKind.wrap .u16 (ZgJ r+2))) (Zco g 1) else r0) else
 bif i.1==27 then wPC (wSP r0 (IntKind.wrap .u16 (ZgJ r-2))) (IntKind.wrap .u16 (IntKind.wrap .i64 (8*i.2.2.2.2.2.2.2))) else
 bif i.1==28 then wPC r0 (ZbM r 2) else
 bif i.1==29 then wSP r0 (ZbM r 2) else
 bif i.1==30 then wSP r0 (IntKind.wrap .u16 (ZgJ r-2)) else
 bif i.1==31 then (let q:=bif pr==3 then Zna c.1 r0 (Zco g 1) else Z0 r0 pr (Zco g 1);wSP q (IntKind.wrap .u16 (ZgJ q+2))) else
 bif i.1==32 then Z0 r0 2 (Zco g 1) else
 bif i.1==33 then wA r0 (g.getD 2 0) else
 bif i.1==40 then (let q:=ZKU (ZbM r 2) (ZbM r 0);Z0 (wF r0 q.2) 2 q.1) else
 bif i.1==41 then (let q:=ZQD (ZbM r 2);Z0 (wF r0 (fCY (flOf r) q.2)) 2 q.1) else
 bif i.1==42 then (let q:=ZKD (ZbM r 1) (flOf r).2.2.2.2.2.2;Z0 (wF r0 (fVCY (flOf r) q.2.2 q.2.1)) 1 q.1) else
 bif i.1==43 then Z0 r0 1 (IntKind.wrap .u16 (ZbM r 2+IntKind.wrap .u16 g1)) else
 bif i.1==44 then Z0 r0 1 (IntKind.wrap .u16 (ZgJ r+IntKind.wrap .u16 g1)) else
 bif i.1==45 then (bif tk then wPC (wSP r0 (IntKind.wrap .u16 (ZgJ r-2))) 64 else r0) else
 bif i.1==47 then Z0 r0 2 (Zco g 1) else
 r0
def finI (c:CpuT) (inj:Bool) (g:List Int) (l:QT1) (i:InsT):CpuT:=
 let r0:=wPC c.2.1 (ZZ c inj i)
 let d:CpuT:=(c.1,r0,c.2.2.1,false,false,c.2.2.2.2.2)
 bif i.1==38 then (let q:=rRim d l;(q.2.1,wA q.2.2.1 q.1,q.2.2.2)) else
 bif i.1==39 then rSim d c.2.1.1 else
 (c.1,finR c c.2.1 r0 g i,bif i.1==35 then true else bif i.1==36 then false else c.2.2.1,i.1==35,i.1==37,c.2.2.2.2.2)
def finX (c:CpuT) (s:Int) (g:List Int) (l:QT1):CpuT:=
 bif Zd s then (c.1,wPC (wSP c.2.1 (IntKind.wrap .u16 (spOf c-2))) (Zx s),c.2.2)
 else finI c (s==5) g l (Zc c.1 (g.getD 0 0))
theorem ZS5 (c:CpuT) (l):(rRim c l).2=(c.1,c.2.1,c.2.2.1,c.2.2.2.1,c.2.2.2.2.1,c.2.2.2.2.2.1,c.2.2.2.2.2.2.1,c.2.2.2.2.2.2.2.1,c.2.2.2.2.2.2.2.2.1,c.2.2.2.2.2.2.2.2.2.1,false,false,c.2.2.2.2.2.2.2.2.2.2.2.2):=by
 have h3:∀b,ZaC b 3=true:=λb=>by cases b<;>rfl
 have h4:∀b,ZaC b 4=true:=λb=>by cases b<;>rfl
 have h5:∀b,ZaC b 5=true:=λb=>by cases b<;>rfl
 have h6:∀b,ZaC b 6=true:=λb=>by cases b<;>rfl
 have h7:∀b,ZaC b 7=true:=λb=>by cases b<;>rfl
 simp only[rRim,ZQr,RT.val,h3,h4,h5,h6,h7,Yf,Yh,Ya,getO]
theorem Zh5 (s):ZgS s=true/\Zjd s=bif (s.2.2.2.1.1==13||s.2.2.2.1.2.2.2.1==6) then s.2.2.1.getD 1 0 else rGet s.1.2.1 s.2.2.2.1.2.2.2.1:=by simp only[ZgS,Zjd,Zjc,RT.val,qat1,Za6];cases (s.2.2.2.1.1==13||s.2.2.2.1.2.2.2.1==6)<;>simp[okB,getO]
