import Derived.Test.YtghoimllhpjkjaaGreatKind47
import Derived.Test.YtghoimllhpjkjaaGreatNext1
import Derived.Test.YtghoimllhpjkjaaGreatNext2
import Derived.Test.YtghoimllhpjkjaaGreatNext3
import Derived.Test.YtghoimllhpjkjaaGreatNext4
open Go Go.S3 Go.Proofs
set_option linter.unusedVariables false
set_option linter.unusedSimpArgs false
set_option maxRecDepth 100000
namespace Go.Proofs.YtghoimllhpjkjaaGreat
noncomputable section
theorem nx_2 (c) (s:Int) (g:List Int) (n:Int) (hk:(Zb c.1 (g.getD 0 0)).1=n):(n=4->(ZuJ c s g).val=some (Zl c s g))/\(n=8->(ZuF c s g).val=some (Zl c s g))/\(n=13->(ZoA c s g).val=some (Zl c s g))/\(n=19->(Zou c s g).val=some (Zl c s g))/\(n=23->(Zoq c s g).val=some (Zl c s g))/\(n=31->(Zoi c s g).val=some (Zl c s g))/\(n=36->(Zod c s g).val=some (Zl c s g))/\(n=41->(Zn8 c s g).val=some (Zl c s g))/\(n=46->(Zn3 c s g).val=some (Zl c s g))/\(n=4->(Ztm c s g).val=some (Zl c s g))/\(n=8->(Zti c s g).val=some (Zl c s g))/\(n=13->(Zns c s g).val=some (Zl c s g))/\(n=19->(Znm c s g).val=some (Zl c s g))/\(n=23->(Zni c s g).val=some (Zl c s g))/\(n=31->(Zna c s g).val=some (Zl c s g))/\(n=36->(Zm5 c s g).val=some (Zl c s g))/\(n=41->(Zm0 c s g).val=some (Zl c s g))/\(n=46->(ZmV c s g).val=some (Zl c s g)):=by
 refine⟨?_,?_,?_,?_,?_,?_,?_,?_,?_,?_,?_,?_,?_,?_,?_,?_,?_,?_⟩
 all_goals intro e;subst e
 all_goals simp only[ZuJ,ZuF,ZoA,Zou,Zoq,Zoi,Zod,Zn8,Zn3,Ztm,Zti,Zns,Znm,Zni,Zna,Zm5,Zm0,ZmV,RT.val,fin3,pk]
 all_goals simp only[qat0,mat0,qat1,mat1,rg0,hk,Zw,ZZ,Zaf,ZJ,ZK,Zz,ZA,ZaS,ZaV,ZaT,Zv,ZaU,Zl,Zgs,ZL,Zbn]
 all_goals generalize Zc s=bi
 all_goals generalize (s==5)=bs
 all_goals cases g with
 |nil=>cases bi<;>cases bs<;>simp[Zpo,ZbQ,pcOf,spOf,ZcC]
 |cons o t=>
  simp only[List.getD_cons_zero] at hk
  simp only[len0,List.getD_cons_zero,Zh8,hk,Zcx,Zbn,ZL,Zfb,bne]
  generalize Zb c.1 o=i at hk|-
  cases bi<;>cases bs<;>simp[ZbR,ZcC,popX,pcOf,spOf,opC,ZjS,Zet,Zbd,Zhr,ZbZ,setI,R.get]
theorem nx_4 (c) (s:Int) (g:List Int) (n:Int) (hk:(Zb c.1 (g.getD 0 0)).1=n):(n=6->(ZuH c s g).val=some (Zl c s g))/\(n=10->(ZoD c s g).val=some (Zl c s g))/\(n=17->(Zow c s g).val=some (Zl c s g))/\(n=21->(Zos c s g).val=some (Zl c s g))/\(n=28->(Zol c s g).val=some (Zl c s g))/\(n=34->(Zof c s g).val=some (Zl c s g))/\(n=39->(Zoa c s g).val=some (Zl c s g))/\(n=43->(Zn6 c s g).val=some (Zl c s g))/\(n=6->(Ztk c s g).val=some (Zl c s g))/\(n=10->(Znv c s g).val=some (Zl c s g))/\(n=17->(Zno c s g).val=some (Zl c s g))/\(n=21->(Znk c s g).val=some (Zl c s g))/\(n=28->(Znd c s g).val=some (Zl c s g))/\(n=34->(Zm7 c s g).val=some (Zl c s g))/\(n=39->(Zm2 c s g).val=some (Zl c s g))/\(n=43->(ZmY c s g).val=some (Zl c s g)):=by
 refine⟨?_,?_,?_,?_,?_,?_,?_,?_,?_,?_,?_,?_,?_,?_,?_,?_⟩
 all_goals intro e;subst e
 all_goals simp only[ZuH,ZoD,Zow,Zos,Zol,Zof,Zoa,Zn6,Ztk,Znv,Zno,Znk,Znd,Zm7,Zm2,ZmY,RT.val,fin3,pk]
 all_goals simp only[qat0,mat0,qat1,mat1,rg0,hk,Zw,ZZ,Zaf,ZJ,ZK,Zz,ZA,ZaS,ZaV,ZaT,Zv,ZaU,Zl,Zgs,ZL,Zbn]
 all_goals generalize Zc s=bi
 all_goals generalize (s==5)=bs
 all_goals cases g with
 |nil=>cases bi<;>cases bs<;>simp[Zpo,ZbQ,pcOf,spOf,ZcC]
 |cons o t=>
  simp only[List.getD_cons_zero] at hk
  simp only[len0,List.getD_cons_zero,Zh8,hk,Zcx,Zbn,ZL,Zfb,bne]
  generalize Zb c.1 o=i at hk|-
  cases bi<;>cases bs<;>simp[ZbR,ZcC,popX,pcOf,spOf,opC,ZjS,Zet,Zbd,Zhr,ZbZ,setI,R.get]
theorem nx_6 (c) (s:Int) (g:List Int) (n:Int) (hk:(Zb c.1 (g.getD 0 0)).1=n):(n=3->(ZuK c s g).val=some (Zl c s g))/\(n=14->(Zoz c s g).val=some (Zl c s g))/\(n=15->(Zoy c s g).val=some (Zl c s g))/\(n=3->(Ztn c s g).val=some (Zl c s g))/\(n=14->(Znr c s g).val=some (Zl c s g))/\(n=15->(Znq c s g).val=some (Zl c s g)):=by
 refine⟨?_,?_,?_,?_,?_,?_⟩
 all_goals intro e;subst e
 all_goals simp only[ZuK,Zoz,Zoy,Ztn,Znr,Znq,RT.val,fin3,pk]
 all_goals simp only[qat0,mat0,qat1,mat1,rg0,hk,Zw,ZZ,Zaf,ZJ,ZK,Zz,ZA,ZaS,ZaV,ZaT,Zv,ZaU,Zl,Zgs,ZL,Zbn]
 all_goals generalize Zc s=bi
 all_goals generalize (s==5)=bs
 all_goals cases g with
 |nil=>cases bi<;>cases bs<;>simp[Zpo,ZbQ,pcOf,spOf,ZcC]
 |cons o t=>
  simp only[List.getD_cons_zero] at hk
  simp only[len0,List.getD_cons_zero,Zh8,hk,Zcx,Zbn,ZL,Zfb,bne]
  generalize Zb c.1 o=i at hk|-
  generalize (i.2.2.1==6)=b0
  cases b0<;>cases bi<;>cases bs<;>simp[ZbR,ZcC,popX,pcOf,spOf,opC,ZjS,Zet,Zbd,Zhr,ZbZ,setI,R.get]
theorem nx_8 (c) (s:Int) (g:List Int) (n:Int) (hk:(Zb c.1 (g.getD 0 0)).1=n):(n=24->(Zop c s g).val=some (Zl c s g))/\(n=25->(Zoo c s g).val=some (Zl c s g))/\(n=24->(Znh c s g).val=some (Zl c s g))/\(n=25->(Zng c s g).val=some (Zl c s g)):=by
 refine⟨?_,?_,?_,?_⟩
 all_goals intro e;subst e
 all_goals simp only[Zop,Zoo,Znh,Zng,RT.val,fin3,pk]
 all_goals simp only[qat0,mat0,qat1,mat1,rg0,hk,Zw,ZZ,Zaf,ZJ,ZK,Zz,ZA,ZaS,ZaV,ZaT,Zv,ZaU,Zl,Zgs,ZL,Zbn]
 all_goals generalize Zc s=bi
 all_goals generalize (s==5)=bs
 all_goals cases g with
 |nil=>cases bi<;>cases bs<;>simp[Zpo,ZbQ,pcOf,spOf,ZcC]
 |cons o t=>
  simp only[List.getD_cons_zero] at hk
  simp only[len0,List.getD_cons_zero,Zh8,hk,Zcx,Zbn,ZL,Zfb,bne]
  generalize Zb c.1 o=i at hk|-
  generalize Zey _ _=b0
  generalize (c.1==2)=b1
  cases b0<;>cases b1<;>cases bi<;>cases bs<;>simp[ZbR,ZcC,popX,pcOf,spOf,opC,ZjS,Zet,Zbd,Zhr,ZbZ,setI,R.get]
theorem Z06 (c) (s:Int) (g:List Int) (n:Int) (hk:(Zb c.1 (g.getD 0 0)).1=n):(n=30->(Zoj c s g).val=some (Zl c s g))/\(n=30->(Znb c s g).val=some (Zl c s g)):=by
 refine⟨?_,?_⟩
 all_goals intro e;subst e
 all_goals simp only[Zoj,Znb,RT.val,fin3,pk]
 all_goals simp only[qat0,mat0,qat1,mat1,rg0,hk,Zw,ZZ,Zaf,ZJ,ZK,Zz,ZA,ZaS,ZaV,ZaT,Zv,ZaU,Zl,Zgs,ZL,Zbn]
 all_goals generalize Zc s=bi
 all_goals generalize (s==5)=bs
 all_goals cases g with
 |nil=>cases bi<;>cases bs<;>simp[Zpo,ZbQ,pcOf,spOf,ZcC]
 |cons o t=>
  simp only[List.getD_cons_zero] at hk
  simp only[len0,List.getD_cons_zero,Zh8,hk,Zcx,Zbn,ZL,Zfb,bne]
  generalize Zb c.1 o=i at hk|-
  generalize (i.2.2.2.2.1==3)=b0
  cases b0<;>cases bi<;>cases bs<;>simp[ZbR,ZcC,popX,pcOf,spOf,opC,ZjS,Zet,Zbd,Zhr,ZbZ,setI,R.get]
theorem nx_1 (c) (s:Int) (g:List Int) (n:Int) (hk:(Zb c.1 (g.getD 0 0)).1=n):(n=1->(ZuM c s g).val=some (Zl c s g))/\(n=7->(ZuG c s g).val=some (Zl c s g))/\(n=11->(ZoC c s g).val=some (Zl c s g))/\(n=18->(Zov c s g).val=some (Zl c s g))/\(n=22->(Zor c s g).val=some (Zl c s g))/\(n=29->(Zok c s g).val=some (Zl c s g))/\(n=35->(Zoe c s g).val=some (Zl c s g))/\(n=40->(Zn9 c s g).val=some (Zl c s g))/\(n=44->(Zn5 c s g).val=some (Zl c s g))/\(n=1->(Ztp c s g).val=some (Zl c s g))/\(n=7->(Ztj c s g).val=some (Zl c s g))/\(n=11->(Znu c s g).val=some (Zl c s g))/\(n=18->(Znn c s g).val=some (Zl c s g))/\(n=22->(Znj c s g).val=some (Zl c s g))/\(n=29->(Znc c s g).val=some (Zl c s g))/\(n=35->(Zm6 c s g).val=some (Zl c s g))/\(n=40->(Zm1 c s g).val=some (Zl c s g))/\(n=44->(ZmX c s g).val=some (Zl c s g)):=by
 refine⟨?_,?_,?_,?_,?_,?_,?_,?_,?_,?_,?_,?_,?_,?_,?_,?_,?_,?_⟩
 all_goals intro e;subst e
 all_goals simp only[ZuM,ZuG,ZoC,Zov,Zor,Zok,Zoe,Zn9,Zn5,Ztp,Ztj,Znu,Znn,Znj,Znc,Zm6,Zm1,ZmX,RT.val,fin3,pk]
 all_goals simp only[qat0,mat0,qat1,mat1,rg0,hk,Zw,ZZ,Zaf,ZJ,ZK,Zz,ZA,ZaS,ZaV,ZaT,Zv,ZaU,Zl,Zgs,ZL,Zbn]
 all_goals generalize Zc s=bi
 all_goals generalize (s==5)=bs
 all_goals cases g with
 |nil=>cases bi<;>cases bs<;>simp[Zpo,ZbQ,pcOf,spOf,ZcC]
 |cons o t=>
  simp only[List.getD_cons_zero] at hk
  simp only[len0,List.getD_cons_zero,Zh8,hk,Zcx,Zbn,ZL,Zfb,bne]
  generalize Zb c.1 o=i at hk|-
  cases bi<;>cases bs<;>simp[ZbR,ZcC,popX,pcOf,spOf,opC,ZjS,Zet,Zbd,Zhr,ZbZ,setI,R.get]
theorem nx_3 (c) (s:Int) (g:List Int) (n:Int) (hk:(Zb c.1 (g.getD 0 0)).1=n):(n=5->(ZuI c s g).val=some (Zl c s g))/\(n=9->(ZuE c s g).val=some (Zl c s g))/\(n=16->(Zox c s g).val=some (Zl c s g))/\(n=20->(Zot c s g).val=some (Zl c s g))/\(n=27->(Zom c s g).val=some (Zl c s g))/\(n=33->(Zog c s g).val=some (Zl c s g))/\(n=38->(Zob c s g).val=some (Zl c s g))/\(n=42->(Zn7 c s g).val=some (Zl c s g))/\(n=47->(Zn2 c s g).val=some (Zl c s g))/\(n=5->(Ztl c s g).val=some (Zl c s g))/\(n=9->(Zth c s g).val=some (Zl c s g))/\(n=16->(Znp c s g).val=some (Zl c s g))/\(n=20->(Znl c s g).val=some (Zl c s g))/\(n=27->(Zne c s g).val=some (Zl c s g))/\(n=33->(Zm8 c s g).val=some (Zl c s g))/\(n=38->(Zm3 c s g).val=some (Zl c s g))/\(n=42->(ZmZ c s g).val=some (Zl c s g))/\(n=47->(ZmU c s g).val=some (Zl c s g)):=by
 refine⟨?_,?_,?_,?_,?_,?_,?_,?_,?_,?_,?_,?_,?_,?_,?_,?_,?_,?_⟩
 all_goals intro e;subst e
 all_goals simp only[ZuI,ZuE,Zox,Zot,Zom,Zog,Zob,Zn7,Zn2,Ztl,Zth,Znp,Znl,Zne,Zm8,Zm3,ZmZ,ZmU,RT.val,fin3,pk]
 all_goals simp only[qat0,mat0,qat1,mat1,rg0,hk,Zw,ZZ,Zaf,ZJ,ZK,Zz,ZA,ZaS,ZaV,ZaT,Zv,ZaU,Zl,Zgs,ZL,Zbn]
 all_goals generalize Zc s=bi
 all_goals generalize (s==5)=bs
 all_goals cases g with
 |nil=>cases bi<;>cases bs<;>simp[Zpo,ZbQ,pcOf,spOf,ZcC]
 |cons o t=>
  simp only[List.getD_cons_zero] at hk
  simp only[len0,List.getD_cons_zero,Zh8,hk,Zcx,Zbn,ZL,Zfb,bne]
  generalize Zb c.1 o=i at hk|-
  cases bi<;>cases bs<;>simp[ZbR,ZcC,popX,pcOf,spOf,opC,ZjS,Zet,Zbd,Zhr,ZbZ,setI,R.get]
theorem nx_5 (c) (s:Int) (g:List Int) (n:Int) (hk:(Zb c.1 (g.getD 0 0)).1=n):(n=2->(ZuL c s g).val=some (Zl c s g))/\(n=2->(Zto c s g).val=some (Zl c s g)):=by
 refine⟨?_,?_⟩
 all_goals intro e;subst e
 all_goals simp only[ZuL,Zto,RT.val,fin3,pk]
 all_goals simp only[qat0,mat0,qat1,mat1,rg0,hk,Zw,ZZ,Zaf,ZJ,ZK,Zz,ZA,ZaS,ZaV,ZaT,Zv,ZaU,Zl,Zgs,ZL,Zbn]
 all_goals generalize Zc s=bi
 all_goals generalize (s==5)=bs
 all_goals cases g with
 |nil=>cases bi<;>cases bs<;>simp[Zpo,ZbQ,pcOf,spOf,ZcC]
 |cons o t=>
  simp only[List.getD_cons_zero] at hk
  simp only[len0,List.getD_cons_zero,Zh8,hk,Zcx,Zbn,ZL,Zfb,bne]
  generalize Zb c.1 o=i at hk|-
  generalize (i.2.2.2.1==6)=b0
  generalize (i.2.2.1==6)=b1
  cases b0<;>cases b1<;>cases bi<;>cases bs<;>simp[ZbR,ZcC,popX,pcOf,spOf,opC,ZjS,Zet,Zbd,Zhr,ZbZ,setI,R.get]
theorem nx_7 (c) (s:Int) (g:List Int) (n:Int) (hk:(Zb c.1 (g.getD 0 0)).1=n):(n=12->(ZoB c s g).val=some (Zl c s g))/\(n=12->(Znt c s g).val=some (Zl c s g)):=by
 refine⟨?_,?_⟩
 all_goals intro e;subst e
 all_goals simp only[ZoB,Znt,RT.val,fin3,pk]
 all_goals simp only[qat0,mat0,qat1,mat1,rg0,hk,Zw,ZZ,Zaf,ZJ,ZK,Zz,ZA,ZaS,ZaV,ZaT,Zv,ZaU,Zl,Zgs,ZL,Zbn]
 all_goals generalize Zc s=bi
 all_goals generalize (s==5)=bs
 all_goals cases g with
 |nil=>cases bi<;>cases bs<;>simp[Zpo,ZbQ,pcOf,spOf,ZcC]
 |cons o t=>
  simp only[List.getD_cons_zero] at hk
  simp only[len0,List.getD_cons_zero,Zh8,hk,Zcx,Zbn,ZL,Zfb,bne]
  generalize Zb c.1 o=i at hk|-
  generalize (i.2.2.2.1==6)=b0
  cases b0<;>cases bi<;>cases bs<;>simp[ZbR,ZcC,popX,pcOf,spOf,opC,ZjS,Zet,Zbd,Zhr,ZbZ,setI,R.get]
theorem nx_9 (c) (s:Int) (g:List Int) (n:Int) (hk:(Zb c.1 (g.getD 0 0)).1=n):(n=26->(Zon c s g).val=some (Zl c s g))/\(n=45->(Zn4 c s g).val=some (Zl c s g))/\(n=26->(Znf c s g).val=some (Zl c s g))/\(n=45->(ZmW c s g).val=some (Zl c s g)):=by
 refine⟨?_,?_,?_,?_⟩
 all_goals intro e;subst e
 all_goals simp only[Zon,Zn4,Znf,ZmW,RT.val,fin3,pk]
 all_goals simp only[qat0,mat0,qat1,mat1,rg0,hk,Zw,ZZ,Zaf,ZJ,ZK,Zz,ZA,ZaS,ZaV,ZaT,Zv,ZaU,Zl,Zgs,ZL,Zbn]
 all_goals generalize Zc s=bi
 all_goals generalize (s==5)=bs
 all_goals cases g with
 |nil=>cases bi<;>cases bs<;>simp[Zpo,ZbQ,pcOf,spOf,ZcC]
 |cons o t=>
  simp only[List.getD_cons_zero] at hk
  simp only[len0,List.getD_cons_zero,Zh8,hk,Zcx,Zbn,ZL,Zfb,bne]
  generalize Zb c.1 o=i at hk|-
  generalize Zey _ _=b0
  cases b0<;>cases bi<;>cases bs<;>simp[ZbR,ZcC,popX,pcOf,spOf,opC,ZjS,Zet,Zbd,Zhr,ZbZ,setI,R.get]
theorem ZUx (c) (s:Int) (g:List Int) (n:Int) (hk:(Zb c.1 (g.getD 0 0)).1=n):(n=32->(Zoh c s g).val=some (Zl c s g))/\(n=37->(Zoc c s g).val=some (Zl c s g))/\(n=32->(Zm9 c s g).val=some (Zl c s g))/\(n=37->(Zm4 c s g).val=some (Zl c s g)):=by
 refine⟨?_,?_,?_,?_⟩
 all_goals intro e;subst e
 all_goals simp only[Zoh,Zoc,Zm9,Zm4,RT.val,fin3,pk]
 all_goals simp only[qat0,mat0,qat1,mat1,rg0,hk,Zw,ZZ,Zaf,ZJ,ZK,Zz,ZA,ZaS,ZaV,ZaT,Zv,ZaU,Zl,Zgs,ZL,Zbn]
 all_goals generalize Zc s=bi
 all_goals generalize (s==5)=bs
 all_goals cases g with
 |nil=>cases bi<;>cases bs<;>simp[Zpo,ZbQ,pcOf,spOf,ZcC]
 |cons o t=>
  simp only[List.getD_cons_zero] at hk
  simp only[len0,List.getD_cons_zero,Zh8,hk,Zcx,Zbn,ZL,Zfb,bne]
  generalize Zb c.1 o=i at hk|-
  generalize (c.1==2)=b0
  cases b0<;>cases bi<;>cases bs<;>simp[ZbR,ZcC,popX,pcOf,spOf,opC,ZjS,Zet,Zbd,Zhr,ZbZ,setI,R.get]
end
end Go.Proofs.YtghoimllhpjkjaaGreat
open Go.Proofs.Tryz (prog)
namespace Go.Proofs.YtghoimllhpjkjaaGreat
noncomputable section
theorem ZUe (a:HL Zk) (h:okHL Zk a):∃l,Zde prog l/\(Zh (envX prog l [] 1125900980585471 8) Tryz.f113 Zk ZG a).val=some (Zl a.1 a.2.1 a.2.2):=by
 have hk:=ZvW a.1.1 _ (Zv1 h.2.2)
 refine⟨Z3 (Zb a.1.1 (a.2.2.getD 0 0)).1,ZPS _,?_⟩
 rcases ZvV hk.1 hk.2 with e|e|e|e|e|e|e|e|e|e|e|e|e|e|e|e|e|e|e|e|e|e|e|e|e|e|e|e|e|e|e|e|e|e|e|e|e|e|e|e|e|e|e|e|e|e|e
 ·rw[e,ZJJ a,((nx_1 a.1 a.2.1 a.2.2 _ e).1 rfl)]
 ·rw[e,ZJI a,((nx_5 a.1 a.2.1 a.2.2 _ e).1 rfl)]
 ·rw[e,ZJH a,((nx_6 a.1 a.2.1 a.2.2 _ e).1 rfl)]
 ·rw[e,ZJG a,((nx_2 a.1 a.2.1 a.2.2 _ e).1 rfl)]
 ·rw[e,ZJF a,((nx_3 a.1 a.2.1 a.2.2 _ e).1 rfl)]
 ·rw[e,ZJE a,((nx_4 a.1 a.2.1 a.2.2 _ e).1 rfl)]
 ·rw[e,ZJD a,((nx_1 a.1 a.2.1 a.2.2 _ e).2.1 rfl)]
 ·rw[e,ZJC a,((nx_2 a.1 a.2.1 a.2.2 _ e).2.1 rfl)]
 ·rw[e,ZJB a,((nx_3 a.1 a.2.1 a.2.2 _ e).2.1 rfl)]
 ·rw[e,ZCW a,((nx_4 a.1 a.2.1 a.2.2 _ e).2.1 rfl)]
 ·rw[e,ZCV a,((nx_1 a.1 a.2.1 a.2.2 _ e).2.2.1 rfl)]
 ·rw[e,ZCU a,((nx_7 a.1 a.2.1 a.2.2 _ e).1 rfl)]
 ·rw[e,ZCT a,((nx_2 a.1 a.2.1 a.2.2 _ e).2.2.1 rfl)]
 ·rw[e,ZCS a,((nx_6 a.1 a.2.1 a.2.2 _ e).2.1 rfl)]
 ·rw[e,ZCR a,((nx_6 a.1 a.2.1 a.2.2 _ e).2.2.1 rfl)]
 ·rw[e,ZCQ a,((nx_3 a.1 a.2.1 a.2.2 _ e).2.2.1 rfl)]
 ·rw[e,ZCP a,((nx_4 a.1 a.2.1 a.2.2 _ e).2.2.1 rfl)]
 ·rw[e,ZCO a,((nx_1 a.1 a.2.1 a.2.2 _ e).2.2.2.1 rfl)]
 ·rw[e,ZCN a,((nx_2 a.1 a.2.1 a.2.2 _ e).2.2.2.1 rfl)]
 ·rw[e,ZCM a,((nx_3 a.1 a.2.1 a.2.2 _ e).2.2.2.1 rfl)]
 ·rw[e,ZCL a,((nx_4 a.1 a.2.1 a.2.2 _ e).2.2.2.1 rfl)]
 ·rw[e,ZCK a,((nx_1 a.1 a.2.1 a.2.2 _ e).2.2.2.2.1 rfl)]
 ·rw[e,ZCJ a,((nx_2 a.1 a.2.1 a.2.2 _ e).2.2.2.2.1 rfl)]
 ·rw[e,ZCI a,((nx_8 a.1 a.2.1 a.2.2 _ e).1 rfl)]
 ·rw[e,ZCH a,((nx_8 a.1 a.2.1 a.2.2 _ e).2.1 rfl)]
 ·rw[e,ZCG a,((nx_9 a.1 a.2.1 a.2.2 _ e).1 rfl)]
 ·rw[e,ZCF a,((nx_3 a.1 a.2.1 a.2.2 _ e).2.2.2.2.1 rfl)]
 ·rw[e,ZCE a,((nx_4 a.1 a.2.1 a.2.2 _ e).2.2.2.2.1 rfl)]
 ·rw[e,ZCD a,((nx_1 a.1 a.2.1 a.2.2 _ e).2.2.2.2.2.1 rfl)]
 ·rw[e,ZCC a,((Z06 a.1 a.2.1 a.2.2 _ e).1 rfl)]
 ·rw[e,ZCB a,((nx_2 a.1 a.2.1 a.2.2 _ e).2.2.2.2.2.1 rfl)]
 ·rw[e,ZCA a,((ZUx a.1 a.2.1 a.2.2 _ e).1 rfl)]
 ·rw[e,ZCz a,((nx_3 a.1 a.2.1 a.2.2 _ e).2.2.2.2.2.1 rfl)]
 ·rw[e,ZCy a,((nx_4 a.1 a.2.1 a.2.2 _ e).2.2.2.2.2.1 rfl)]
 ·rw[e,ZCx a,((nx_1 a.1 a.2.1 a.2.2 _ e).2.2.2.2.2.2.1 rfl)]
 ·rw[e,ZCw a,((nx_2 a.1 a.2.1 a.2.2 _ e).2.2.2.2.2.2.1 rfl)]
 ·rw[e,ZCv a,((ZUx a.1 a.2.1 a.2.2 _ e).2.1 rfl)]
 ·rw[e,ZCu a,((nx_3 a.1 a.2.1 a.2.2 _ e).2.2.2.2.2.2.1 rfl)]
 ·rw[e,ZCt a,((nx_4 a.1 a.2.1 a.2.2 _ e).2.2.2.2.2.2.1 rfl)]
 ·rw[e,ZCs a,((nx_1 a.1 a.2.1 a.2.2 _ e).2.2.2.2.2.2.2.1 rfl)]
 ·rw[e,ZCr a,((nx_2 a.1 a.2.1 a.2.2 _ e).2.2.2.2.2.2.2.1 rfl)]
 ·rw[e,ZCq a,((nx_3 a.1 a.2.1 a.2.2 _ e).2.2.2.2.2.2.2.1 rfl)]
 ·rw[e,ZCp a,((nx_4 a.1 a.2.1 a.2.2 _ e).2.2.2.2.2.2.2.1 rfl)]
 ·rw[e,ZCo a,((nx_1 a.1 a.2.1 a.2.2 _ e).2.2.2.2.2.2.2.2.1 rfl)]
 ·rw[e,ZCn a,((nx_9 a.1 a.2.1 a.2.2 _ e).2.1 rfl)]
 ·rw[e,ZCm a,((nx_2 a.1 a.2.1 a.2.2 _ e).2.2.2.2.2.2.2.2.1 rfl)]
 ·rw[e,ZCl a,((nx_3 a.1 a.2.1 a.2.2 _ e).2.2.2.2.2.2.2.2.1 rfl)]
def ZPT:Entry:=Zg Zk ZG (λ_=>none) (λa=>Zl a.1 a.2.1 a.2.2)
theorem ZGF:Za prog 113 ZPT:=ZlC Tryz.func113 rfl (by kernel_rfl) Tryz.call113 λa h _=>ZUe a h
theorem ZTF (a:HL Zj) (h:okHL Zj a):∃l,Zde prog l/\(Zh (envX prog l [] 2047 8) Tryz.f42 Zj ZF a).val=some (Zl a.1 a.2.1 a.2.2):=by
 have hk:=ZvW a.1.1 _ (Zv1 h.2.2)
 refine⟨Z1 (Zb a.1.1 (a.2.2.getD 0 0)).1,ZOd _,?_⟩
 rcases ZvV hk.1 hk.2 with e|e|e|e|e|e|e|e|e|e|e|e|e|e|e|e|e|e|e|e|e|e|e|e|e|e|e|e|e|e|e|e|e|e|e|e|e|e|e|e|e|e|e|e|e|e|e
 ·rw[e,ZIB a,((nx_1 a.1 a.2.1 a.2.2 _ e).2.2.2.2.2.2.2.2.2.1 rfl)]
 ·rw[e,ZIA a,((nx_5 a.1 a.2.1 a.2.2 _ e).2 rfl)]
 ·rw[e,ZIz a,((nx_6 a.1 a.2.1 a.2.2 _ e).2.2.2.1 rfl)]
 ·rw[e,ZIy a,((nx_2 a.1 a.2.1 a.2.2 _ e).2.2.2.2.2.2.2.2.2.1 rfl)]
 ·rw[e,ZIx a,((nx_3 a.1 a.2.1 a.2.2 _ e).2.2.2.2.2.2.2.2.2.1 rfl)]
 ·rw[e,ZIw a,((nx_4 a.1 a.2.1 a.2.2 _ e).2.2.2.2.2.2.2.2.1 rfl)]
 ·rw[e,ZIv a,((nx_1 a.1 a.2.1 a.2.2 _ e).2.2.2.2.2.2.2.2.2.2.1 rfl)]
 ·rw[e,ZIu a,((nx_2 a.1 a.2.1 a.2.2 _ e).2.2.2.2.2.2.2.2.2.2.1 rfl)]
 ·rw[e,ZIt a,((nx_3 a.1 a.2.1 a.2.2 _ e).2.2.2.2.2.2.2.2.2.2.1 rfl)]
 ·rw[e,ZBw a,((nx_4 a.1 a.2.1 a.2.2 _ e).2.2.2.2.2.2.2.2.2.1 rfl)]
 ·rw[e,ZBv a,((nx_1 a.1 a.2.1 a.2.2 _ e).2.2.2.2.2.2.2.2.2.2.2.1 rfl)]
 ·rw[e,ZBu a,((nx_7 a.1 a.2.1 a.2.2 _ e).2 rfl)]
 ·rw[e,ZBt a,((nx_2 a.1 a.2.1 a.2.2 _ e).2.2.2.2.2.2.2.2.2.2.2.1 rfl)]
 ·rw[e,ZBs a,((nx_6 a.1 a.2.1 a.2.2 _ e).2.2.2.2.1 rfl)]
 ·rw[e,ZBr a,((nx_6 a.1 a.2.1 a.2.2 _ e).2.2.2.2.2 rfl)]
 ·rw[e,ZBq a,((nx_3 a.1 a.2.1 a.2.2 _ e).2.2.2.2.2.2.2.2.2.2.2.1 rfl)]
 ·rw[e,ZBp a,((nx_4 a.1 a.2.1 a.2.2 _ e).2.2.2.2.2.2.2.2.2.2.1 rfl)]
 ·rw[e,ZBo a,((nx_1 a.1 a.2.1 a.2.2 _ e).2.2.2.2.2.2.2.2.2.2.2.2.1 rfl)]
 ·rw[e,ZBn a,((nx_2 a.1 a.2.1 a.2.2 _ e).2.2.2.2.2.2.2.2.2.2.2.2.1 rfl)]
 ·rw[e,ZBm a,((nx_3 a.1 a.2.1 a.2.2 _ e).2.2.2.2.2.2.2.2.2.2.2.2.1 rfl)]
 ·rw[e,ZBl a,((nx_4 a.1 a.2.1 a.2.2 _ e).2.2.2.2.2.2.2.2.2.2.2.1 rfl)]
 ·rw[e,ZBk a,((nx_1 a.1 a.2.1 a.2.2 _ e).2.2.2.2.2.2.2.2.2.2.2.2.2.1 rfl)]
 ·rw[e,ZBj a,((nx_2 a.1 a.2.1 a.2.2 _ e).2.2.2.2.2.2.2.2.2.2.2.2.2.1 rfl)]
 ·rw[e,ZBi a,((nx_8 a.1 a.2.1 a.2.2 _ e).2.2.1 rfl)]
 ·rw[e,ZBh a,((nx_8 a.1 a.2.1 a.2.2 _ e).2.2.2 rfl)]
 ·rw[e,ZBg a,((nx_9 a.1 a.2.1 a.2.2 _ e).2.2.1 rfl)]
 ·rw[e,ZBf a,((nx_3 a.1 a.2.1 a.2.2 _ e).2.2.2.2.2.2.2.2.2.2.2.2.2.1 rfl)]
 ·rw[e,ZBe a,((nx_4 a.1 a.2.1 a.2.2 _ e).2.2.2.2.2.2.2.2.2.2.2.2.1 rfl)]
 ·rw[e,ZBd a,((nx_1 a.1 a.2.1 a.2.2 _ e).2.2.2.2.2.2.2.2.2.2.2.2.2.2.1 rfl)]
 ·rw[e,ZBc a,((Z06 a.1 a.2.1 a.2.2 _ e).2 rfl)]
 ·rw[e,ZBb a,((nx_2 a.1 a.2.1 a.2.2 _ e).2.2.2.2.2.2.2.2.2.2.2.2.2.2.1 rfl)]
 ·rw[e,ZBa a,((ZUx a.1 a.2.1 a.2.2 _ e).2.2.1 rfl)]
 ·rw[e,ZA9 a,((nx_3 a.1 a.2.1 a.2.2 _ e).2.2.2.2.2.2.2.2.2.2.2.2.2.2.1 rfl)]
 ·rw[e,ZA8 a,((nx_4 a.1 a.2.1 a.2.2 _ e).2.2.2.2.2.2.2.2.2.2.2.2.2.1 rfl)]
 ·rw[e,ZA7 a,((nx_1 a.1 a.2.1 a.2.2 _ e).2.2.2.2.2.2.2.2.2.2.2.2.2.2.2.1 rfl)]
 ·rw[e,ZA6 a,((nx_2 a.1 a.2.1 a.2.2 _ e).2.2.2.2.2.2.2.2.2.2.2.2.2.2.2.1 rfl)]
 ·rw[e,ZA5 a,((ZUx a.1 a.2.1 a.2.2 _ e).2.2.2 rfl)]
 ·rw[e,ZA4 a,((nx_3 a.1 a.2.1 a.2.2 _ e).2.2.2.2.2.2.2.2.2.2.2.2.2.2.2.1 rfl)]
 ·rw[e,ZA3 a,((nx_4 a.1 a.2.1 a.2.2 _ e).2.2.2.2.2.2.2.2.2.2.2.2.2.2.1 rfl)]
 ·rw[e,ZA2 a,((nx_1 a.1 a.2.1 a.2.2 _ e).2.2.2.2.2.2.2.2.2.2.2.2.2.2.2.2.1 rfl)]
 ·rw[e,ZA1 a,((nx_2 a.1 a.2.1 a.2.2 _ e).2.2.2.2.2.2.2.2.2.2.2.2.2.2.2.2.1 rfl)]
 ·rw[e,ZA0 a,((nx_3 a.1 a.2.1 a.2.2 _ e).2.2.2.2.2.2.2.2.2.2.2.2.2.2.2.2.1 rfl)]
 ·rw[e,ZAZ a,((nx_4 a.1 a.2.1 a.2.2 _ e).2.2.2.2.2.2.2.2.2.2.2.2.2.2.2 rfl)]
 ·rw[e,ZAY a,((nx_1 a.1 a.2.1 a.2.2 _ e).2.2.2.2.2.2.2.2.2.2.2.2.2.2.2.2.2 rfl)]
 ·rw[e,ZAX a,((nx_9 a.1 a.2.1 a.2.2 _ e).2.2.2 rfl)]
 ·rw[e,ZAW a,((nx_2 a.1 a.2.1 a.2.2 _ e).2.2.2.2.2.2.2.2.2.2.2.2.2.2.2.2.2 rfl)]
 ·rw[e,ZAV a,((nx_3 a.1 a.2.1 a.2.2 _ e).2.2.2.2.2.2.2.2.2.2.2.2.2.2.2.2.2 rfl)]
def ZFS:Entry:=Zg Zj ZF (λ_=>none) (λa=>Zl a.1 a.2.1 a.2.2)
theorem Ztg:Za prog 42 ZFS:=ZlC Tryz.func42 rfl (by kernel_rfl) Tryz.call42 λa h _=>ZTF a h
end
end Go.Proofs.YtghoimllhpjkjaaGreat
open Go.IntKind (u8 u16 i64)
namespace Go.Proofs.YtghoimllhpjkjaaGreat
noncomputable section
def wPC (r:RegT) (v:Int):RegT:=(r.1,r.2.1,r.2.2.1,r.2.2.2.1,r.2.2.2.2.1,r.2.2.2.2.2.1,r.2.2.2.2.2.2.1,r.2.2.2.2.2.2.2.1,r.2.2.2.2.2.2.2.2.1,v)
def wSP (r:RegT) (v:Int):RegT:=(r.1,r.2.1,r.2.2.1,r.2.2.2.1,r.2.2.2.2.1,r.2.2.2.2.2.1,r.2.2.2.2.2.2.1,r.2.2.2.2.2.2.2.1,v,r.2.2.2.2.2.2.2.2.2)
def wA (r:RegT) (v:Int):RegT:=(v,r.2)
def wF (r:RegT) (f:FlgT):RegT:=(r.1,r.2.1,r.2.2.1,r.2.2.2.1,r.2.2.2.2.1,r.2.2.2.2.2.1,r.2.2.2.2.2.2.1,f,r.2.2.2.2.2.2.2.2)
def fCY (f:FlgT) (b:Bool):FlgT:=(f.1,f.2.1,f.2.2.1,f.2.2.2.1,f.2.2.2.2.1,f.2.2.2.2.2.1,b)
def fVCY (f:FlgT) (v b:Bool):FlgT:=(f.1,f.2.1,f.2.2.1,f.2.2.2.1,f.2.2.2.2.1,v,b)
def ZcX (r:RegT):Int:=r.2.2.2.2.2.2.2.2.1
def flOf (r:RegT):FlgT:=r.2.2.2.2.2.2.2.1
def finR (c:CpuT) (r r0:RegT) (g:List Int) (i:InsT):RegT:=
 let dst:=i.2.2.1
 let src:=i.2.2.2.1
 let pr:=i.2.2.2.2.1
 let op:=i.2.2.2.2.2.1
 let g1:=g.getD 1 0
 let tk:=Zey i.2.2.2.2.2.2.1 (flOf r)
 bif i.1==2 then rSet r0 dst (bif src==6 then g1 else rGet r src) else
 bif i.1==3 then rSet r0 dst g1 else
 bif i.1==4 then Zr r0 pr (Zbd g 1) else
 bif i.1==5 then wA r0 (g.getD 3 0) else
 bif i.1==7 then Zr r0 2 (Zbd g 3) else
 bif i.1==9 then wA r0 g1 else
 bif i.1==11 then (r0.1,r0.2.1,r0.2.2.1,r0.2.2.2.2.2.1,r0.2.2.2.2.2.2.1,r0.2.2.2.1,r0.2.2.2.2.1,r0.2.2.2.2.2.2.2) else
 bif i.1==12 then (let q:=rDo c.1 op r.1 (bif src==6 then g1 else rGet r src) (flOf r);wA (wF r0 q.2) q.1) else
 bif i.1==13 then (let q:=rDo c.1 op r.1 g1 (flOf r);wA (wF r0 q.2) q.1) else
 bif i.1==14 then (let q:=rInr c.1 (bif dst==6 then g1 else rGet r dst) (flOf r);rSet (wF r0 q.2) dst q.1) else
 bif i.1==15 then (let q:=rDcr c.1 (bif dst==6 then g1 else rGet r dst) (flOf r);rSet (wF r0 q.2) dst q.1) else
 bif i.1==16 then (let q:=rInx c.1 (Zal r pr) (flOf r);Zr (wF r0 q.2) pr q.1) else
 bif i.1==17 then (let q:=rDcx c.1 (Zal r pr) (flOf r);Zr (wF r0 q.2) pr q.1) else
 bif i.1==18 then (let q:=rDad c.1 (Zal r 2) (Zal r pr) (flOf r);Zr (wF r0 q.2) 2 q.1) else
 bif i.1==19 then (let q:=rDaa c.1 r.1 (flOf r);wA (wF r0 q.2) q.1) else
 bif i.1==20 then wA r0 (notI .u8 r.1) else
 bif i.1==21 then wF r0 (fCY (flOf r) true) else
 bif i.1==22 then wF r0 (fCY (flOf r) (!(flOf r).2.2.2.2.2.2)) else
 bif i.1==23 then (let q:=rRot op r.1 (flOf r).2.2.2.2.2.2;wA (wF r0 (fCY (flOf r) q.2)) q.1) else
 bif i.1==24 then (bif tk then wPC r0 (Zbd g 1) else r0) else
 bif i.1==25 then (bif tk then wPC (wSP r0 (IntKind.wrap .u16 (ZcX r-2))) (Zbd g 1) else r0) else
 bif i.1==26 then (bif tk then wPC (wSP r0 (IntKind.wrap .u16 (ZcX r+2))) (Zbd g 1) else r0) else
 bif i.1==27 then wPC (wSP r0 (IntKind.wrap .u16 (ZcX r-2))) (IntKind.wrap .u16 (IntKind.wrap .i64 (8*i.2.2.2.2.2.2.2))) else
 bif i.1==28 then wPC r0 (Zal r 2) else
 bif i.1==29 then wSP r0 (Zal r 2) else
 bif i.1==30 then wSP r0 (IntKind.wrap .u16 (ZcX r-2)) else
 bif i.1==31 then (let q:=bif pr==3 then Zgi c.1 r0 (Zbd g 1) else Zr r0 pr (Zbd g 1);wSP q (IntKind.wrap .u16 (ZcX q+2))) else
 bif i.1==32 then Zr r0 2 (Zbd g 1) else
 bif i.1==33 then wA r0 (g.getD 2 0) else
 bif i.1==40 then (let q:=ZxV (Zal r 2) (Zal r 0);Zr (wF r0 q.2) 2 q.1) else
 bif i.1==41 then (let q:=Zuc (Zal r 2);Zr (wF r0 (fCY (flOf r) q.2)) 2 q.1) else
 bif i.1==42 then (let q:=ZxH (Zal r 1) (flOf r).2.2.2.2.2.2;Zr (wF r0 (fVCY (flOf r) q.2.2 q.2.1)) 1 q.1) else
 bif i.1==43 then Zr r0 1 (IntKind.wrap .u16 (Zal r 2+IntKind.wrap .u16 g1)) else
 bif i.1==44 then Zr r0 1 (IntKind.wrap .u16 (ZcX r+IntKind.wrap .u16 g1)) else
 bif i.1==45 then (bif tk then wPC (wSP r0 (IntKind.wrap .u16 (ZcX r-2))) 64 else r0) else
 bif i.1==47 then Zr r0 2 (Zbd g 1) else
 r0
def finI (c:CpuT) (inj:Bool) (g:List Int) (l:QT0) (i:InsT):CpuT:=
 let r0:=wPC c.2.1 (ZL c inj i)
 let d:CpuT:=(c.1,r0,c.2.2.1,false,false,c.2.2.2.2.2)
 bif i.1==38 then (let q:=rRim d l;(q.2.1,wA q.2.2.1 q.1,q.2.2.2)) else
 bif i.1==39 then rSim d c.2.1.1 else
 (c.1,finR c c.2.1 r0 g i,bif i.1==35 then true else bif i.1==36 then false else c.2.2.1,i.1==35,i.1==37,c.2.2.2.2.2)
def finX (c:CpuT) (s:Int) (g:List Int) (l:QT0):CpuT:=
 bif Zc s then (c.1,wPC (wSP c.2.1 (IntKind.wrap .u16 (spOf c-2))) (Zi s),c.2.2)
 else finI c (s==5) g l (Zb c.1 (g.getD 0 0))
theorem ZVQ (c:CpuT) (l):(rRim c l).2=(c.1,c.2.1,c.2.2.1,c.2.2.2.1,c.2.2.2.2.1,c.2.2.2.2.2.1,c.2.2.2.2.2.2.1,c.2.2.2.2.2.2.2.1,c.2.2.2.2.2.2.2.2.1,c.2.2.2.2.2.2.2.2.2.1,false,false,c.2.2.2.2.2.2.2.2.2.2.2.2):=by
 have h3:∀b,Zax b 3=true:=λb=>by cases b<;>rfl
 have h4:∀b,Zax b 4=true:=λb=>by cases b<;>rfl
 have h5:∀b,Zax b 5=true:=λb=>by cases b<;>rfl
 have h6:∀b,Zax b 6=true:=λb=>by cases b<;>rfl
 have h7:∀b,Zax b 7=true:=λb=>by cases b<;>rfl
 simp only[rRim,ZNJ,RT.val,h3,h4,h5,h6,h7,Bool.not_true,Bool.false_or,cond_true,getO]
theorem Zcr (s):Zgp s=true/\ZiS s=bif (s.2.2.2.1.1==13||s.2.2.2.1.2.2.2.1==6) then s.2.2.1.getD 1 0 else rGet s.1.2.1 s.2.2.2.1.2.2.2.1:=by
 simp only[Zgp,ZiS,ZiR,RT.val,qat1,Zaf]
 cases (s.2.2.2.1.1==13||s.2.2.2.1.2.2.2.1==6)<;>simp[okB,getO]
theorem Zgb (r:RegT) (f:FlgT) (pc n v:Int):rSet (r.1,r.2.1,r.2.2.1,r.2.2.2.1,r.2.2.2.2.1,r.2.2.2.2.2.1,r.2.2.2.2.2.2.1,f,r.2.2.2.2.2.2.2.2.1,pc) n v=
  ((rSet r n v).1,(rSet r n v).2.1,(rSet r n v).2.2.1,(rSet r n v).2.2.2.1,(rSet r n v).2.2.2.2.1,(rSet r n v).2.2.2.2.2.1,(rSet r n v).2.2.2.2.2.2.1,f,(rSet r n v).2.2.2.2.2.2.2.2.1,pc):=rfl
theorem Zgd (r:RegT) (n v:Int):(rSet r n v).2.2.2.2.2.2.2.1=r.2.2.2.2.2.2.2.1:=rfl
theorem Zgc (r:RegT) (n v:Int):(rSet r n v).2.2.2.2.2.2.2.2=r.2.2.2.2.2.2.2.2:=rfl
theorem ZkL (r:RegT) (f:FlgT) (pc n v:Int):Zr (r.1,r.2.1,r.2.2.1,r.2.2.2.1,r.2.2.2.2.1,r.2.2.2.2.2.1,r.2.2.2.2.2.2.1,f,r.2.2.2.2.2.2.2.2.1,pc) n v=
  ((Zr r n v).1,(Zr r n v).2.1,(Zr r n v).2.2.1,(Zr r n v).2.2.2.1,(Zr r n v).2.2.2.2.1,(Zr r n v).2.2.2.2.2.1,(Zr r n v).2.2.2.2.2.2.1,f,(Zr r n v).2.2.2.2.2.2.2.2.1,pc):=by
 simp only[Zr,Zgg,RT.val]
 cases (andI i64 n 3==3)<;>rfl
theorem ZkM (r:RegT) (n v:Int):(Zr r n v).2.2.2.2.2.2.2.1=r.2.2.2.2.2.2.2.1:=by
 simp only[Zr,Zgg,RT.val]
 cases (andI i64 n 3==3)<;>rfl
theorem ZXY (r:RegT) (f:FlgT) (sp pc n:Int):ZBC (r.1,r.2.1,r.2.2.1,r.2.2.2.1,r.2.2.2.2.1,r.2.2.2.2.2.1,r.2.2.2.2.2.2.1,f,sp,pc) n=ZBC r n:=rfl
theorem Zew (r:RegT) (f:FlgT) (pc n:Int):Zal (r.1,r.2.1,r.2.2.1,r.2.2.2.1,r.2.2.2.2.1,r.2.2.2.2.2.1,r.2.2.2.2.2.2.1,f,r.2.2.2.2.2.2.2.2.1,pc) n=Zal r n:=by
 simp only[Zal,Zrb,RT.val,rGet,ZBE,ZXY]
theorem bnat {x:Int} (h:inR .u8 x):∃a:Nat,x=a/\a<256:=by
 rw[ZgF] at h
 exact⟨x.toNat,by omega,by omega⟩
theorem w16 {n:Nat} (h:n<65536):IntKind.wrap .u16 (n:Int)=n:=ZlW ⟨by simp[IntKind.min,IntKind.signed],by simp[IntKind.max,IntKind.signed,IntKind.bits];omega⟩
theorem ZHt {h l:Int} (hh:inR .u8 h) (hl:inR .u8 l):ZcN h l=256*h+l:=by
 obtain⟨a,rfl,ha⟩:=bnat hh
 obtain⟨b,rfl,hb⟩:=bnat hl
 have e1:shlI .u16 (IntKind.wrap .u16 (a:Int)) 8=((a*256:Nat):Int):=by
  rw[w16 (by omega)]
  simp only[shlI]
  have:((a:Int)*2^min (8:Int).toNat u16.bits)=((a*256:Nat):Int):=by simp[IntKind.bits]
  rw[this,w16 (by omega)]
 have e2:(BitVec.ofInt u16.bits ((a*256:Nat):Int)|||BitVec.ofInt u16.bits (b:Int)).toNat=a*256+b:=by
  rw[BitVec.toNat_or,BitVec.toNat_ofInt,BitVec.toNat_ofInt]
  have k1:(((a*256:Nat):Int)%((2^u16.bits:Nat):Int)).toNat=a*256:=by simp[IntKind.bits];omega
  have k2:((b:Int)%((2^u16.bits:Nat):Int)).toNat=b:=by simp[IntKind.bits];omega
  rw[k1,k2]
  have:=Nat.shiftLeft_add_eq_or_of_lt (i:=8) (b:=b) (by omega) a
  rw[Nat.shiftLeft_eq] at this
  exact this.symm
 show orI .u16 (shlI .u16 (IntKind.wrap .u16 (a:Int)) 8) (IntKind.wrap .u16 (b:Int))=_
 rw[e1,w16 (by omega)]
 simp only[orI]
 rw[e2,w16 (by omega)]
 omega
theorem ZZA {h l:Int} (hh:inR .u8 h) (hl:inR .u8 l):IntKind.wrap .u8 (ZcN h l)=l:=by
 rw[ZHt hh hl]
 rw[ZgF] at hl
 simp[IntKind.wrap,IntKind.signed,IntKind.bits];omega
theorem ZZB {h l:Int} (hh:inR .u8 h) (hl:inR .u8 l):IntKind.wrap .u8 (shrI .u16 (ZcN h l) 8)=h:=by
 rw[ZHt hh hl]
 rw[ZgF] at hl hh
 have:shrI .u16 (256*h+l) 8=h:=by
  simp only[shrI]
  have:((2:Int)^min (8:Int).toNat u16.bits)=256:=by decide
  rw[this,Int.fdiv_eq_ediv_of_nonneg _ (by decide)];omega
 rw[this]
 simp[IntKind.wrap,IntKind.signed,IntKind.bits];omega
theorem Zev (r:RegT) {h l:Int} (hh:inR .u8 h) (hl:inR .u8 l):Zr r 2 (ZcN h l)=(r.1,r.2.1,r.2.2.1,r.2.2.2.1,r.2.2.2.2.1,h,l,r.2.2.2.2.2.2.2):=by
 have e:Zr r 2 (ZcN h l)=(r.1,r.2.1,r.2.2.1,r.2.2.2.1,r.2.2.2.2.1,IntKind.wrap .u8 (shrI .u16 (ZcN h l) 8),IntKind.wrap .u8 (ZcN h l),r.2.2.2.2.2.2.2):=by
  generalize ZcN h l=v
  rfl
 rw[e,ZZA hh hl,ZZB hh hl]
theorem ZkQ (x:Int):IntKind.wrap .u8 (255-x)=notI .u8 x:=by
 have e:notI .u8 x=IntKind.wrap .u8 ((~~~ (BitVec.ofInt 8 x)).toNat:Int):=by
  show IntKind.wrap .u8 (((BitVec.ofInt 8 255)^^^(BitVec.ofInt 8 x)).toNat:Int)=_
  have:BitVec.ofInt 8 255=BitVec.allOnes 8:=by decide
  rw[this,BitVec.allOnes_xor]
 have h1:(BitVec.ofInt 8 x).toNat=(x%256).toNat:=BitVec.toNat_ofInt ..
 have h2:((x%256).toNat:Int)=x%256:=by omega
 rw[e,BitVec.toNat_not,h1]
 have h3:((2^8-1-(x%256).toNat:Nat):Int)=255-x%256:=by omega
 rw[h3]
 simp[IntKind.wrap,IntKind.signed,IntKind.bits]
end
end Go.Proofs.YtghoimllhpjkjaaGreat
