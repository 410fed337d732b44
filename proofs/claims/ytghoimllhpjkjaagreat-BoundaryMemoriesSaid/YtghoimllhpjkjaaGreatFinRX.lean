import Derived.Test.YtghoimllhpjkjaaGreatKind47
import Derived.Test.YtghoimllhpjkjaaGreatNext1
import Derived.Test.YtghoimllhpjkjaaGreatNext2
import Derived.Test.YtghoimllhpjkjaaGreatNext3
import Derived.Test.YtghoimllhpjkjaaGreatNext4
open Go Go.S3 Go.Proofs
set_option linter.unusedVariables false
set_option linter.unusedSimpArgs false
set_option maxRecDepth 100000
namespace Go.Proofs.YtghoimllhpjkjaaGreat
noncomputable section
theorem nx_2 (c) (s:Int) (g:List Int) (n:Int) (hk:(Zb c.1 (g.getD 0 0)).1=n):(n=4->(Zuj c s g).val=some (Zj c s g))/\(n=8->(Zuf c s g).val=some (Zj c s g))/\(n=13->(Zoi c s g).val=some (Zj c s g))/\(n=19->(Zoc c s g).val=some (Zj c s g))/\(n=23->(Zn8 c s g).val=some (Zj c s g))/\(n=31->(Zn0 c s g).val=some (Zj c s g))/\(n=36->(ZnV c s g).val=some (Zj c s g))/\(n=41->(ZnQ c s g).val=some (Zj c s g))/\(n=46->(ZnL c s g).val=some (Zj c s g))/\(n=4->(ZsW c s g).val=some (Zj c s g))/\(n=8->(ZsS c s g).val=some (Zj c s g))/\(n=13->(Zna c s g).val=some (Zj c s g))/\(n=19->(Zm4 c s g).val=some (Zj c s g))/\(n=23->(Zm0 c s g).val=some (Zj c s g))/\(n=31->(ZmS c s g).val=some (Zj c s g))/\(n=36->(ZmN c s g).val=some (Zj c s g))/\(n=41->(ZmI c s g).val=some (Zj c s g))/\(n=46->(ZmD c s g).val=some (Zj c s g)):=by
 refine⟨?_,?_,?_,?_,?_,?_,?_,?_,?_,?_,?_,?_,?_,?_,?_,?_,?_,?_⟩
 all_goals intro e;subst e
 all_goals simp only[Zuj,Zuf,Zoi,Zoc,Zn8,Zn0,ZnV,ZnQ,ZnL,ZsW,ZsS,Zna,Zm4,Zm0,ZmS,ZmN,ZmI,ZmD,RT.val,fin3,pk]
 all_goals simp only[qat0,mat0,qat1,mat1,rg0,hk,Zw,Z0,Zah,ZI,ZJ,Zz,ZA,ZaS,ZaW,ZaT,Zv,ZaU,Zj,Zgo,ZL,Zbp]
 all_goals generalize Zc s=bi
 all_goals generalize (s==5)=bs
 all_goals cases g with
 |nil=>cases bi<;>cases bs<;>simp[Zo6,ZbT,pcOf,spOf,ZcI]
 |cons o t=>
  simp only[List.getD_cons_zero] at hk
  simp only[len0,List.getD_cons_zero,ZhY,hk,ZcC,Zbp,ZL,Zfb,bne]
  generalize Zb c.1 o=i at hk|-
  cases bi<;>cases bs<;>simp[ZbU,ZcI,popX,pcOf,spOf,opC,Zjy,Zex,Zbg,Zhk,Zb5,setI,R.get]
theorem nx_4 (c) (s:Int) (g:List Int) (n:Int) (hk:(Zb c.1 (g.getD 0 0)).1=n):(n=6->(Zuh c s g).val=some (Zj c s g))/\(n=10->(Zol c s g).val=some (Zj c s g))/\(n=17->(Zoe c s g).val=some (Zj c s g))/\(n=21->(Zoa c s g).val=some (Zj c s g))/\(n=28->(Zn3 c s g).val=some (Zj c s g))/\(n=34->(ZnX c s g).val=some (Zj c s g))/\(n=39->(ZnS c s g).val=some (Zj c s g))/\(n=43->(ZnO c s g).val=some (Zj c s g))/\(n=6->(ZsU c s g).val=some (Zj c s g))/\(n=10->(Znd c s g).val=some (Zj c s g))/\(n=17->(Zm6 c s g).val=some (Zj c s g))/\(n=21->(Zm2 c s g).val=some (Zj c s g))/\(n=28->(ZmV c s g).val=some (Zj c s g))/\(n=34->(ZmP c s g).val=some (Zj c s g))/\(n=39->(ZmK c s g).val=some (Zj c s g))/\(n=43->(ZmG c s g).val=some (Zj c s g)):=by
 refine⟨?_,?_,?_,?_,?_,?_,?_,?_,?_,?_,?_,?_,?_,?_,?_,?_⟩
 all_goals intro e;subst e
 all_goals simp only[Zuh,Zol,Zoe,Zoa,Zn3,ZnX,ZnS,ZnO,ZsU,Znd,Zm6,Zm2,ZmV,ZmP,ZmK,ZmG,RT.val,fin3,pk]
 all_goals simp only[qat0,mat0,qat1,mat1,rg0,hk,Zw,Z0,Zah,ZI,ZJ,Zz,ZA,ZaS,ZaW,ZaT,Zv,ZaU,Zj,Zgo,ZL,Zbp]
 all_goals generalize Zc s=bi
 all_goals generalize (s==5)=bs
 all_goals cases g with
 |nil=>cases bi<;>cases bs<;>simp[Zo6,ZbT,pcOf,spOf,ZcI]
 |cons o t=>
  simp only[List.getD_cons_zero] at hk
  simp only[len0,List.getD_cons_zero,ZhY,hk,ZcC,Zbp,ZL,Zfb,bne]
  generalize Zb c.1 o=i at hk|-
  cases bi<;>cases bs<;>simp[ZbU,ZcI,popX,pcOf,spOf,opC,Zjy,Zex,Zbg,Zhk,Zb5,setI,R.get]
theorem nx_6 (c) (s:Int) (g:List Int) (n:Int) (hk:(Zb c.1 (g.getD 0 0)).1=n):(n=3->(Zuk c s g).val=some (Zj c s g))/\(n=14->(Zoh c s g).val=some (Zj c s g))/\(n=15->(Zog c s g).val=some (Zj c s g))/\(n=3->(ZsX c s g).val=some (Zj c s g))/\(n=14->(Zm9 c s g).val=some (Zj c s g))/\(n=15->(Zm8 c s g).val=some (Zj c s g)):=by
 refine⟨?_,?_,?_,?_,?_,?_⟩
 all_goals intro e;subst e
 all_goals simp only[Zuk,Zoh,Zog,ZsX,Zm9,Zm8,RT.val,fin3,pk]
 all_goals simp only[qat0,mat0,qat1,mat1,rg0,hk,Zw,Z0,Zah,ZI,ZJ,Zz,ZA,ZaS,ZaW,ZaT,Zv,ZaU,Zj,Zgo,ZL,Zbp]
 all_goals generalize Zc s=bi
 all_goals generalize (s==5)=bs
 all_goals cases g with
 |nil=>cases bi<;>cases bs<;>simp[Zo6,ZbT,pcOf,spOf,ZcI]
 |cons o t=>
  simp only[List.getD_cons_zero] at hk
  simp only[len0,List.getD_cons_zero,ZhY,hk,ZcC,Zbp,ZL,Zfb,bne]
  generalize Zb c.1 o=i at hk|-
  generalize (i.2.2.1==6)=b0
  cases b0<;>cases bi<;>cases bs<;>simp[ZbU,ZcI,popX,pcOf,spOf,opC,Zjy,Zex,Zbg,Zhk,Zb5,setI,R.get]
theorem nx_8 (c) (s:Int) (g:List Int) (n:Int) (hk:(Zb c.1 (g.getD 0 0)).1=n):(n=24->(Zn7 c s g).val=some (Zj c s g))/\(n=25->(Zn6 c s g).val=some (Zj c s g))/\(n=24->(ZmZ c s g).val=some (Zj c s g))/\(n=25->(ZmY c s g).val=some (Zj c s g)):=by
 refine⟨?_,?_,?_,?_⟩
 all_goals intro e;subst e
 all_goals simp only[Zn7,Zn6,ZmZ,ZmY,RT.val,fin3,pk]
 all_goals simp only[qat0,mat0,qat1,mat1,rg0,hk,Zw,Z0,Zah,ZI,ZJ,Zz,ZA,ZaS,ZaW,ZaT,Zv,ZaU,Zj,Zgo,ZL,Zbp]
 all_goals generalize Zc s=bi
 all_goals generalize (s==5)=bs
 all_goals cases g with
 |nil=>cases bi<;>cases bs<;>simp[Zo6,ZbT,pcOf,spOf,ZcI]
 |cons o t=>
  simp only[List.getD_cons_zero] at hk
  simp only[len0,List.getD_cons_zero,ZhY,hk,ZcC,Zbp,ZL,Zfb,bne]
  generalize Zb c.1 o=i at hk|-
  generalize ZeC _ _=b0
  generalize (c.1==2)=b1
  cases b0<;>cases b1<;>cases bi<;>cases bs<;>simp[ZbU,ZcI,popX,pcOf,spOf,opC,Zjy,Zex,Zbg,Zhk,Zb5,setI,R.get]
theorem Z0C (c) (s:Int) (g:List Int) (n:Int) (hk:(Zb c.1 (g.getD 0 0)).1=n):(n=30->(Zn1 c s g).val=some (Zj c s g))/\(n=30->(ZmT c s g).val=some (Zj c s g)):=by
 refine⟨?_,?_⟩
 all_goals intro e;subst e
 all_goals simp only[Zn1,ZmT,RT.val,fin3,pk]
 all_goals simp only[qat0,mat0,qat1,mat1,rg0,hk,Zw,Z0,Zah,ZI,ZJ,Zz,ZA,ZaS,ZaW,ZaT,Zv,ZaU,Zj,Zgo,ZL,Zbp]
 all_goals generalize Zc s=bi
 all_goals generalize (s==5)=bs
 all_goals cases g with
 |nil=>cases bi<;>cases bs<;>simp[Zo6,ZbT,pcOf,spOf,ZcI]
 |cons o t=>
  simp only[List.getD_cons_zero] at hk
  simp only[len0,List.getD_cons_zero,ZhY,hk,ZcC,Zbp,ZL,Zfb,bne]
  generalize Zb c.1 o=i at hk|-
  generalize (i.2.2.2.2.1==3)=b0
  cases b0<;>cases bi<;>cases bs<;>simp[ZbU,ZcI,popX,pcOf,spOf,opC,Zjy,Zex,Zbg,Zhk,Zb5,setI,R.get]
theorem nx_1 (c) (s:Int) (g:List Int) (n:Int) (hk:(Zb c.1 (g.getD 0 0)).1=n):(n=1->(Zum c s g).val=some (Zj c s g))/\(n=7->(Zug c s g).val=some (Zj c s g))/\(n=11->(Zok c s g).val=some (Zj c s g))/\(n=18->(Zod c s g).val=some (Zj c s g))/\(n=22->(Zn9 c s g).val=some (Zj c s g))/\(n=29->(Zn2 c s g).val=some (Zj c s g))/\(n=35->(ZnW c s g).val=some (Zj c s g))/\(n=40->(ZnR c s g).val=some (Zj c s g))/\(n=44->(ZnN c s g).val=some (Zj c s g))/\(n=1->(ZsZ c s g).val=some (Zj c s g))/\(n=7->(ZsT c s g).val=some (Zj c s g))/\(n=11->(Znc c s g).val=some (Zj c s g))/\(n=18->(Zm5 c s g).val=some (Zj c s g))/\(n=22->(Zm1 c s g).val=some (Zj c s g))/\(n=29->(ZmU c s g).val=some (Zj c s g))/\(n=35->(ZmO c s g).val=some (Zj c s g))/\(n=40->(ZmJ c s g).val=some (Zj c s g))/\(n=44->(ZmF c s g).val=some (Zj c s g)):=by
 refine⟨?_,?_,?_,?_,?_,?_,?_,?_,?_,?_,?_,?_,?_,?_,?_,?_,?_,?_⟩
 all_goals intro e;subst e
 all_goals simp only[Zum,Zug,Zok,Zod,Zn9,Zn2,ZnW,ZnR,ZnN,ZsZ,ZsT,Znc,Zm5,Zm1,ZmU,ZmO,ZmJ,ZmF,RT.val,fin3,pk]
 all_goals simp only[qat0,mat0,qat1,mat1,rg0,hk,Zw,Z0,Zah,ZI,ZJ,Zz,ZA,ZaS,ZaW,ZaT,Zv,ZaU,Zj,Zgo,ZL,Zbp]
 all_goals generalize Zc s=bi
 all_goals generalize (s==5)=bs
 all_goals cases g with
 |nil=>cases bi<;>cases bs<;>simp[Zo6,ZbT,pcOf,spOf,ZcI]
 |cons o t=>
  simp only[List.getD_cons_zero] at hk
  simp only[len0,List.getD_cons_zero,ZhY,hk,ZcC,Zbp,ZL,Zfb,bne]
  generalize Zb c.1 o=i at hk|-
  cases bi<;>cases bs<;>simp[ZbU,ZcI,popX,pcOf,spOf,opC,Zjy,Zex,Zbg,Zhk,Zb5,setI,R.get]
theorem nx_3 (c) (s:Int) (g:List Int) (n:Int) (hk:(Zb c.1 (g.getD 0 0)).1=n):(n=5->(Zui c s g).val=some (Zj c s g))/\(n=9->(Zue c s g).val=some (Zj c s g))/\(n=16->(Zof c s g).val=some (Zj c s g))/\(n=20->(Zob c s g).val=some (Zj c s g))/\(n=27->(Zn4 c s g).val=some (Zj c s g))/\(n=33->(ZnY c s g).val=some (Zj c s g))/\(n=38->(ZnT c s g).val=some (Zj c s g))/\(n=42->(ZnP c s g).val=some (Zj c s g))/\(n=47->(ZnK c s g).val=some (Zj c s g))/\(n=5->(ZsV c s g).val=some (Zj c s g))/\(n=9->(ZsR c s g).val=some (Zj c s g))/\(n=16->(Zm7 c s g).val=some (Zj c s g))/\(n=20->(Zm3 c s g).val=some (Zj c s g))/\(n=27->(ZmW c s g).val=some (Zj c s g))/\(n=33->(ZmQ c s g).val=some (Zj c s g))/\(n=38->(ZmL c s g).val=some (Zj c s g))/\(n=42->(ZmH c s g).val=some (Zj c s g))/\(n=47->(ZmC c s g).val=some (Zj c s g)):=by
 refine⟨?_,?_,?_,?_,?_,?_,?_,?_,?_,?_,?_,?_,?_,?_,?_,?_,?_,?_⟩
 all_goals intro e;subst e
 all_goals simp only[Zui,Zue,Zof,Zob,Zn4,ZnY,ZnT,ZnP,ZnK,ZsV,ZsR,Zm7,Zm3,ZmW,ZmQ,ZmL,ZmH,ZmC,RT.val,fin3,pk]
 all_goals simp only[qat0,mat0,qat1,mat1,rg0,hk,Zw,Z0,Zah,ZI,ZJ,Zz,ZA,ZaS,ZaW,ZaT,Zv,ZaU,Zj,Zgo,ZL,Zbp]
 all_goals generalize Zc s=bi
 all_goals generalize (s==5)=bs
 all_goals cases g with
 |nil=>cases bi<;>cases bs<;>simp[Zo6,ZbT,pcOf,spOf,ZcI]
 |cons o t=>
  simp only[List.getD_cons_zero] at hk
  simp only[len0,List.getD_cons_zero,ZhY,hk,ZcC,Zbp,ZL,Zfb,bne]
  generalize Zb c.1 o=i at hk|-
  cases bi<;>cases bs<;>simp[ZbU,ZcI,popX,pcOf,spOf,opC,Zjy,Zex,Zbg,Zhk,Zb5,setI,R.get]
theorem nx_5 (c) (s:Int) (g:List Int) (n:Int) (hk:(Zb c.1 (g.getD 0 0)).1=n):(n=2->(Zul c s g).val=some (Zj c s g))/\(n=2->(ZsY c s g).val=some (Zj c s g)):=by
 refine⟨?_,?_⟩
 all_goals intro e;subst e
 all_goals simp only[Zul,ZsY,RT.val,fin3,pk]
 all_goals simp only[qat0,mat0,qat1,mat1,rg0,hk,Zw,Z0,Zah,ZI,ZJ,Zz,ZA,ZaS,ZaW,ZaT,Zv,ZaU,Zj,Zgo,ZL,Zbp]
 all_goals generalize Zc s=bi
 all_goals generalize (s==5)=bs
 all_goals cases g with
 |nil=>cases bi<;>cases bs<;>simp[Zo6,ZbT,pcOf,spOf,ZcI]
 |cons o t=>
  simp only[List.getD_cons_zero] at hk
  simp only[len0,List.getD_cons_zero,ZhY,hk,ZcC,Zbp,ZL,Zfb,bne]
  generalize Zb c.1 o=i at hk|-
  generalize (i.2.2.2.1==6)=b0
  generalize (i.2.2.1==6)=b1
  cases b0<;>cases b1<;>cases bi<;>cases bs<;>simp[ZbU,ZcI,popX,pcOf,spOf,opC,Zjy,Zex,Zbg,Zhk,Zb5,setI,R.get]
theorem nx_7 (c) (s:Int) (g:List Int) (n:Int) (hk:(Zb c.1 (g.getD 0 0)).1=n):(n=12->(Zoj c s g).val=some (Zj c s g))/\(n=12->(Znb c s g).val=some (Zj c s g)):=by
 refine⟨?_,?_⟩
 all_goals intro e;subst e
 all_goals simp only[Zoj,Znb,RT.val,fin3,pk]
 all_goals simp only[qat0,mat0,qat1,mat1,rg0,hk,Zw,Z0,Zah,ZI,ZJ,Zz,ZA,ZaS,ZaW,ZaT,Zv,ZaU,Zj,Zgo,ZL,Zbp]
 all_goals generalize Zc s=bi
 all_goals generalize (s==5)=bs
 all_goals cases g with
 |nil=>cases bi<;>cases bs<;>simp[Zo6,ZbT,pcOf,spOf,ZcI]
 |cons o t=>
  simp only[List.getD_cons_zero] at hk
  simp only[len0,List.getD_cons_zero,ZhY,hk,ZcC,Zbp,ZL,Zfb,bne]
  generalize Zb c.1 o=i at hk|-
  generalize (i.2.2.2.1==6)=b0
  cases b0<;>cases bi<;>cases bs<;>simp[ZbU,ZcI,popX,pcOf,spOf,opC,Zjy,Zex,Zbg,Zhk,Zb5,setI,R.get]
theorem nx_9 (c) (s:Int) (g:List Int) (n:Int) (hk:(Zb c.1 (g.getD 0 0)).1=n):(n=26->(Zn5 c s g).val=some (Zj c s g))/\(n=45->(ZnM c s g).val=some (Zj c s g))/\(n=26->(ZmX c s g).val=some (Zj c s g))/\(n=45->(ZmE c s g).val=some (Zj c s g)):=by
 refine⟨?_,?_,?_,?_⟩
 all_goals intro e;subst e
 all_goals simp only[Zn5,ZnM,ZmX,ZmE,RT.val,fin3,pk]
 all_goals simp only[qat0,mat0,qat1,mat1,rg0,hk,Zw,Z0,Zah,ZI,ZJ,Zz,ZA,ZaS,ZaW,ZaT,Zv,ZaU,Zj,Zgo,ZL,Zbp]
 all_goals generalize Zc s=bi
 all_goals generalize (s==5)=bs
 all_goals cases g with
 |nil=>cases bi<;>cases bs<;>simp[Zo6,ZbT,pcOf,spOf,ZcI]
 |cons o t=>
  simp only[List.getD_cons_zero] at hk
  simp only[len0,List.getD_cons_zero,ZhY,hk,ZcC,Zbp,ZL,Zfb,bne]
  generalize Zb c.1 o=i at hk|-
  generalize ZeC _ _=b0
  cases b0<;>cases bi<;>cases bs<;>simp[ZbU,ZcI,popX,pcOf,spOf,opC,Zjy,Zex,Zbg,Zhk,Zb5,setI,R.get]
theorem ZT0 (c) (s:Int) (g:List Int) (n:Int) (hk:(Zb c.1 (g.getD 0 0)).1=n):(n=32->(ZnZ c s g).val=some (Zj c s g))/\(n=37->(ZnU c s g).val=some (Zj c s g))/\(n=32->(ZmR c s g).val=some (Zj c s g))/\(n=37->(ZmM c s g).val=some (Zj c s g)):=by
 refine⟨?_,?_,?_,?_⟩
 all_goals intro e;subst e
 all_goals simp only[ZnZ,ZnU,ZmR,ZmM,RT.val,fin3,pk]
 all_goals simp only[qat0,mat0,qat1,mat1,rg0,hk,Zw,Z0,Zah,ZI,ZJ,Zz,ZA,ZaS,ZaW,ZaT,Zv,ZaU,Zj,Zgo,ZL,Zbp]
 all_goals generalize Zc s=bi
 all_goals generalize (s==5)=bs
 all_goals cases g with
 |nil=>cases bi<;>cases bs<;>simp[Zo6,ZbT,pcOf,spOf,ZcI]
 |cons o t=>
  simp only[List.getD_cons_zero] at hk
  simp only[len0,List.getD_cons_zero,ZhY,hk,ZcC,Zbp,ZL,Zfb,bne]
  generalize Zb c.1 o=i at hk|-
  generalize (c.1==2)=b0
  cases b0<;>cases bi<;>cases bs<;>simp[ZbU,ZcI,popX,pcOf,spOf,opC,Zjy,Zex,Zbg,Zhk,Zb5,setI,R.get]
end
end Go.Proofs.YtghoimllhpjkjaaGreat
open Go.Proofs.Tryz (prog)
namespace Go.Proofs.YtghoimllhpjkjaaGreat
noncomputable section
theorem ZTH (a:HL Zl) (h:okHL Zl a):∃l,Zdk prog l/\(Zh (envX prog l [] 1125900980585471 8) Tryz.f113 Zl ZH a).val=some (Zj a.1 a.2.1 a.2.2):=by
 have hk:=Zvw a.1.1 _ (Zvz h.2.2)
 refine⟨Z8 (Zb a.1.1 (a.2.2.getD 0 0)).1,ZPr _,?_⟩
 rcases Zvv hk.1 hk.2 with e|e|e|e|e|e|e|e|e|e|e|e|e|e|e|e|e|e|e|e|e|e|e|e|e|e|e|e|e|e|e|e|e|e|e|e|e|e|e|e|e|e|e|e|e|e|e
 ·rw[e,ZJm a,((nx_1 a.1 a.2.1 a.2.2 _ e).1 rfl)]
 ·rw[e,ZJl a,((nx_5 a.1 a.2.1 a.2.2 _ e).1 rfl)]
 ·rw[e,ZJk a,((nx_6 a.1 a.2.1 a.2.2 _ e).1 rfl)]
 ·rw[e,ZJj a,((nx_2 a.1 a.2.1 a.2.2 _ e).1 rfl)]
 ·rw[e,ZJi a,((nx_3 a.1 a.2.1 a.2.2 _ e).1 rfl)]
 ·rw[e,ZJh a,((nx_4 a.1 a.2.1 a.2.2 _ e).1 rfl)]
 ·rw[e,ZJg a,((nx_1 a.1 a.2.1 a.2.2 _ e).2.1 rfl)]
 ·rw[e,ZJf a,((nx_2 a.1 a.2.1 a.2.2 _ e).2.1 rfl)]
 ·rw[e,ZJe a,((nx_3 a.1 a.2.1 a.2.2 _ e).2.1 rfl)]
 ·rw[e,ZCz a,((nx_4 a.1 a.2.1 a.2.2 _ e).2.1 rfl)]
 ·rw[e,ZCy a,((nx_1 a.1 a.2.1 a.2.2 _ e).2.2.1 rfl)]
 ·rw[e,ZCx a,((nx_7 a.1 a.2.1 a.2.2 _ e).1 rfl)]
 ·rw[e,ZCw a,((nx_2 a.1 a.2.1 a.2.2 _ e).2.2.1 rfl)]
 ·rw[e,ZCv a,((nx_6 a.1 a.2.1 a.2.2 _ e).2.1 rfl)]
 ·rw[e,ZCu a,((nx_6 a.1 a.2.1 a.2.2 _ e).2.2.1 rfl)]
 ·rw[e,ZCt a,((nx_3 a.1 a.2.1 a.2.2 _ e).2.2.1 rfl)]
 ·rw[e,ZCs a,((nx_4 a.1 a.2.1 a.2.2 _ e).2.2.1 rfl)]
 ·rw[e,ZCr a,((nx_1 a.1 a.2.1 a.2.2 _ e).2.2.2.1 rfl)]
 ·rw[e,ZCq a,((nx_2 a.1 a.2.1 a.2.2 _ e).2.2.2.1 rfl)]
 ·rw[e,ZCp a,((nx_3 a.1 a.2.1 a.2.2 _ e).2.2.2.1 rfl)]
 ·rw[e,ZCo a,((nx_4 a.1 a.2.1 a.2.2 _ e).2.2.2.1 rfl)]
 ·rw[e,ZCn a,((nx_1 a.1 a.2.1 a.2.2 _ e).2.2.2.2.1 rfl)]
 ·rw[e,ZCm a,((nx_2 a.1 a.2.1 a.2.2 _ e).2.2.2.2.1 rfl)]
 ·rw[e,ZCl a,((nx_8 a.1 a.2.1 a.2.2 _ e).1 rfl)]
 ·rw[e,ZCk a,((nx_8 a.1 a.2.1 a.2.2 _ e).2.1 rfl)]
 ·rw[e,ZCj a,((nx_9 a.1 a.2.1 a.2.2 _ e).1 rfl)]
 ·rw[e,ZCi a,((nx_3 a.1 a.2.1 a.2.2 _ e).2.2.2.2.1 rfl)]
 ·rw[e,ZCh a,((nx_4 a.1 a.2.1 a.2.2 _ e).2.2.2.2.1 rfl)]
 ·rw[e,ZCg a,((nx_1 a.1 a.2.1 a.2.2 _ e).2.2.2.2.2.1 rfl)]
 ·rw[e,ZCf a,((Z0C a.1 a.2.1 a.2.2 _ e).1 rfl)]
 ·rw[e,ZCe a,((nx_2 a.1 a.2.1 a.2.2 _ e).2.2.2.2.2.1 rfl)]
 ·rw[e,ZCd a,((ZT0 a.1 a.2.1 a.2.2 _ e).1 rfl)]
 ·rw[e,ZCc a,((nx_3 a.1 a.2.1 a.2.2 _ e).2.2.2.2.2.1 rfl)]
 ·rw[e,ZCb a,((nx_4 a.1 a.2.1 a.2.2 _ e).2.2.2.2.2.1 rfl)]
 ·rw[e,ZCa a,((nx_1 a.1 a.2.1 a.2.2 _ e).2.2.2.2.2.2.1 rfl)]
 ·rw[e,ZB9 a,((nx_2 a.1 a.2.1 a.2.2 _ e).2.2.2.2.2.2.1 rfl)]
 ·rw[e,ZB8 a,((ZT0 a.1 a.2.1 a.2.2 _ e).2.1 rfl)]
 ·rw[e,ZB7 a,((nx_3 a.1 a.2.1 a.2.2 _ e).2.2.2.2.2.2.1 rfl)]
 ·rw[e,ZB6 a,((nx_4 a.1 a.2.1 a.2.2 _ e).2.2.2.2.2.2.1 rfl)]
 ·rw[e,ZB5 a,((nx_1 a.1 a.2.1 a.2.2 _ e).2.2.2.2.2.2.2.1 rfl)]
 ·rw[e,ZB4 a,((nx_2 a.1 a.2.1 a.2.2 _ e).2.2.2.2.2.2.2.1 rfl)]
 ·rw[e,ZB3 a,((nx_3 a.1 a.2.1 a.2.2 _ e).2.2.2.2.2.2.2.1 rfl)]
 ·rw[e,ZB2 a,((nx_4 a.1 a.2.1 a.2.2 _ e).2.2.2.2.2.2.2.1 rfl)]
 ·rw[e,ZB1 a,((nx_1 a.1 a.2.1 a.2.2 _ e).2.2.2.2.2.2.2.2.1 rfl)]
 ·rw[e,ZB0 a,((nx_9 a.1 a.2.1 a.2.2 _ e).2.1 rfl)]
 ·rw[e,ZBZ a,((nx_2 a.1 a.2.1 a.2.2 _ e).2.2.2.2.2.2.2.2.1 rfl)]
 ·rw[e,ZBY a,((nx_3 a.1 a.2.1 a.2.2 _ e).2.2.2.2.2.2.2.2.1 rfl)]
def ZPs:Entry:=Zg Zl ZH (λ_=>none) (λa=>Zj a.1 a.2.1 a.2.2)
theorem ZGj:Za prog 113 ZPs:=Zll Tryz.func113 rfl (by kernel_rfl) Tryz.call113 λa h _=>ZTH a h
theorem ZS8 (a:HL Zk) (h:okHL Zk a):∃l,Zdk prog l/\(Zh (envX prog l [] 2047 8) Tryz.f42 Zk ZG a).val=some (Zj a.1 a.2.1 a.2.2):=by
 have hk:=Zvw a.1.1 _ (Zvz h.2.2)
 refine⟨Z6 (Zb a.1.1 (a.2.2.getD 0 0)).1,ZNN _,?_⟩
 rcases Zvv hk.1 hk.2 with e|e|e|e|e|e|e|e|e|e|e|e|e|e|e|e|e|e|e|e|e|e|e|e|e|e|e|e|e|e|e|e|e|e|e|e|e|e|e|e|e|e|e|e|e|e|e
 ·rw[e,ZIe a,((nx_1 a.1 a.2.1 a.2.2 _ e).2.2.2.2.2.2.2.2.2.1 rfl)]
 ·rw[e,ZId a,((nx_5 a.1 a.2.1 a.2.2 _ e).2 rfl)]
 ·rw[e,ZIc a,((nx_6 a.1 a.2.1 a.2.2 _ e).2.2.2.1 rfl)]
 ·rw[e,ZIb a,((nx_2 a.1 a.2.1 a.2.2 _ e).2.2.2.2.2.2.2.2.2.1 rfl)]
 ·rw[e,ZIa a,((nx_3 a.1 a.2.1 a.2.2 _ e).2.2.2.2.2.2.2.2.2.1 rfl)]
 ·rw[e,ZH9 a,((nx_4 a.1 a.2.1 a.2.2 _ e).2.2.2.2.2.2.2.2.1 rfl)]
 ·rw[e,ZH8 a,((nx_1 a.1 a.2.1 a.2.2 _ e).2.2.2.2.2.2.2.2.2.2.1 rfl)]
 ·rw[e,ZH7 a,((nx_2 a.1 a.2.1 a.2.2 _ e).2.2.2.2.2.2.2.2.2.2.1 rfl)]
 ·rw[e,ZH6 a,((nx_3 a.1 a.2.1 a.2.2 _ e).2.2.2.2.2.2.2.2.2.2.1 rfl)]
 ·rw[e,ZA9 a,((nx_4 a.1 a.2.1 a.2.2 _ e).2.2.2.2.2.2.2.2.2.1 rfl)]
 ·rw[e,ZA8 a,((nx_1 a.1 a.2.1 a.2.2 _ e).2.2.2.2.2.2.2.2.2.2.2.1 rfl)]
 ·rw[e,ZA7 a,((nx_7 a.1 a.2.1 a.2.2 _ e).2 rfl)]
 ·rw[e,ZA6 a,((nx_2 a.1 a.2.1 a.2.2 _ e).2.2.2.2.2.2.2.2.2.2.2.1 rfl)]
 ·rw[e,ZA5 a,((nx_6 a.1 a.2.1 a.2.2 _ e).2.2.2.2.1 rfl)]
 ·rw[e,ZA4 a,((nx_6 a.1 a.2.1 a.2.2 _ e).2.2.2.2.2 rfl)]
 ·rw[e,ZA3 a,((nx_3 a.1 a.2.1 a.2.2 _ e).2.2.2.2.2.2.2.2.2.2.2.1 rfl)]
 ·rw[e,ZA2 a,((nx_4 a.1 a.2.1 a.2.2 _ e).2.2.2.2.2.2.2.2.2.2.1 rfl)]
 ·rw[e,ZA1 a,((nx_1 a.1 a.2.1 a.2.2 _ e).2.2.2.2.2.2.2.2.2.2.2.2.1 rfl)]
 ·rw[e,ZA0 a,((nx_2 a.1 a.2.1 a.2.2 _ e).2.2.2.2.2.2.2.2.2.2.2.2.1 rfl)]
 ·rw[e,ZAZ a,((nx_3 a.1 a.2.1 a.2.2 _ e).2.2.2.2.2.2.2.2.2.2.2.2.1 rfl)]
 ·rw[e,ZAY a,((nx_4 a.1 a.2.1 a.2.2 _ e).2.2.2.2.2.2.2.2.2.2.2.1 rfl)]
 ·rw[e,ZAX a,((nx_1 a.1 a.2.1 a.2.2 _ e).2.2.2.2.2.2.2.2.2.2.2.2.2.1 rfl)]
 ·rw[e,ZAW a,((nx_2 a.1 a.2.1 a.2.2 _ e).2.2.2.2.2.2.2.2.2.2.2.2.2.1 rfl)]
 ·rw[e,ZAV a,((nx_8 a.1 a.2.1 a.2.2 _ e).2.2.1 rfl)]
 ·rw[e,ZAU a,((nx_8 a.1 a.2.1 a.2.2 _ e).2.2.2 rfl)]
 ·rw[e,ZAT a,((nx_9 a.1 a.2.1 a.2.2 _ e).2.2.1 rfl)]
 ·rw[e,ZAS a,((nx_3 a.1 a.2.1 a.2.2 _ e).2.2.2.2.2.2.2.2.2.2.2.2.2.1 rfl)]
 ·rw[e,ZAR a,((nx_4 a.1 a.2.1 a.2.2 _ e).2.2.2.2.2.2.2.2.2.2.2.2.1 rfl)]
 ·rw[e,ZAQ a,((nx_1 a.1 a.2.1 a.2.2 _ e).2.2.2.2.2.2.2.2.2.2.2.2.2.2.1 rfl)]
 ·rw[e,ZAP a,((Z0C a.1 a.2.1 a.2.2 _ e).2 rfl)]
 ·rw[e,ZAO a,((nx_2 a.1 a.2.1 a.2.2 _ e).2.2.2.2.2.2.2.2.2.2.2.2.2.2.1 rfl)]
 ·rw[e,ZAN a,((ZT0 a.1 a.2.1 a.2.2 _ e).2.2.1 rfl)]
 ·rw[e,ZAM a,((nx_3 a.1 a.2.1 a.2.2 _ e).2.2.2.2.2.2.2.2.2.2.2.2.2.2.1 rfl)]
 ·rw[e,ZAL a,((nx_4 a.1 a.2.1 a.2.2 _ e).2.2.2.2.2.2.2.2.2.2.2.2.2.1 rfl)]
 ·rw[e,ZAK a,((nx_1 a.1 a.2.1 a.2.2 _ e).2.2.2.2.2.2.2.2.2.2.2.2.2.2.2.1 rfl)]
 ·rw[e,ZAJ a,((nx_2 a.1 a.2.1 a.2.2 _ e).2.2.2.2.2.2.2.2.2.2.2.2.2.2.2.1 rfl)]
 ·rw[e,ZAI a,((ZT0 a.1 a.2.1 a.2.2 _ e).2.2.2 rfl)]
 ·rw[e,ZAH a,((nx_3 a.1 a.2.1 a.2.2 _ e).2.2.2.2.2.2.2.2.2.2.2.2.2.2.2.1 rfl)]
 ·rw[e,ZAG a,((nx_4 a.1 a.2.1 a.2.2 _ e).2.2.2.2.2.2.2.2.2.2.2.2.2.2.1 rfl)]
 ·rw[e,ZAF a,((nx_1 a.1 a.2.1 a.2.2 _ e).2.2.2.2.2.2.2.2.2.2.2.2.2.2.2.2.1 rfl)]
 ·rw[e,ZAE a,((nx_2 a.1 a.2.1 a.2.2 _ e).2.2.2.2.2.2.2.2.2.2.2.2.2.2.2.2.1 rfl)]
 ·rw[e,ZAD a,((nx_3 a.1 a.2.1 a.2.2 _ e).2.2.2.2.2.2.2.2.2.2.2.2.2.2.2.2.1 rfl)]
 ·rw[e,ZAC a,((nx_4 a.1 a.2.1 a.2.2 _ e).2.2.2.2.2.2.2.2.2.2.2.2.2.2.2 rfl)]
 ·rw[e,ZAB a,((nx_1 a.1 a.2.1 a.2.2 _ e).2.2.2.2.2.2.2.2.2.2.2.2.2.2.2.2.2 rfl)]
 ·rw[e,ZAA a,((nx_9 a.1 a.2.1 a.2.2 _ e).2.2.2 rfl)]
 ·rw[e,ZAz a,((nx_2 a.1 a.2.1 a.2.2 _ e).2.2.2.2.2.2.2.2.2.2.2.2.2.2.2.2.2 rfl)]
 ·rw[e,ZAy a,((nx_3 a.1 a.2.1 a.2.2 _ e).2.2.2.2.2.2.2.2.2.2.2.2.2.2.2.2.2 rfl)]
def ZFw:Entry:=Zg Zk ZG (λ_=>none) (λa=>Zj a.1 a.2.1 a.2.2)
theorem ZsQ:Za prog 42 ZFw:=Zll Tryz.func42 rfl (by kernel_rfl) Tryz.call42 λa h _=>ZS8 a h
end
end Go.Proofs.YtghoimllhpjkjaaGreat
open Go.IntKind (u8 u16 i64)
namespace Go.Proofs.YtghoimllhpjkjaaGreat
noncomputable section
def wPC (r:RegT) (v:Int):RegT:=(r.1,r.2.1,r.2.2.1,r.2.2.2.1,r.2.2.2.2.1,r.2.2.2.2.2.1,r.2.2.2.2.2.2.1,r.2.2.2.2.2.2.2.1,r.2.2.2.2.2.2.2.2.1,v)
def wSP (r:RegT) (v:Int):RegT:=(r.1,r.2.1,r.2.2.1,r.2.2.2.1,r.2.2.2.2.1,r.2.2.2.2.2.1,r.2.2.2.2.2.2.1,r.2.2.2.2.2.2.2.1,v,r.2.2.2.2.2.2.2.2.2)
def wA (r:RegT) (v:Int):RegT:=(v,r.2)
def wF (r:RegT) (f:FlgT):RegT:=(r.1,r.2.1,r.2.2.1,r.2.2.2.1,r.2.2.2.2.1,r.2.2.2.2.2.1,r.2.2.2.2.2.2.1,f,r.2.2.2.2.2.2.2.2)
def fCY (f:FlgT) (b:Bool):FlgT:=(f.1,f.2.1,f.2.2.1,f.2.2.2.1,f.2.2.2.2.1,f.2.2.2.2.2.1,b)
def fVCY (f:FlgT) (v b:Bool):FlgT:=(f.1,f.2.1,f.2.2.1,f.2.2.2.1,f.2.2.2.2.1,v,b)
def Zc2 (r:RegT):Int:=r.2.2.2.2.2.2.2.2.1
def flOf (r:RegT):FlgT:=r.2.2.2.2.2.2.2.1
def finR (c:CpuT) (r r0:RegT) (g:List Int) (i:InsT):RegT:=
 let dst:=i.2.2.1
 let src:=i.2.2.2.1
 let pr:=i.2.2.2.2.1
 let op:=i.2.2.2.2.2.1
 let g1:=g.getD 1 0
 let tk:=ZeC i.2.2.2.2.2.2.1 (flOf r)
 bif i.1==2 then rSet r0 dst (bif src==6 then g1 else rGet r src) else
 bif i.1==3 then rSet r0 dst g1 else
 bif i.1==4 then Zr r0 pr (Zbg g 1) else
 bif i.1==5 then wA r0 (g.getD 3 0) else
 bif i.1==7 then Zr r0 2 (Zbg g 3) else
 bif i.1==9 then wA r0 g1 else
 bif i.1==11 then (r0.1,r0.2.1,r0.2.2.1,r0.2.2.2.2.2.1,r0.2.2.2.2.2.2.1,r0.2.2.2.1,r0.2.2.2.2.1,r0.2.2.2.2.2.2.2) else
 bif i.1==12 then (let q:=rDo c.1 op r.1 (bif src==6 then g1 else rGet r src) (flOf r);wA (wF r0 q.2) q.1) else
 bif i.1==13 then (let q:=rDo c.1 op r.1 g1 (flOf r);wA (wF r0 q.2) q.1) else
 bif i.1==14 then (let q:=rInr c.1 (bif dst==6 then g1 else rGet r dst) (flOf r);rSet (wF r0 q.2) dst q.1) else
 bif i.1==15 then (let q:=rDcr c.1 (bif dst==6 then g1 else rGet r dst) (flOf r);rSet (wF r0 q.2) dst q.1) else
 bif i.1==16 then (let q:=rInx c.1 (Zan r pr) (flOf r);Zr (wF r0 q.2) pr q.1) else
 bif i.1==17 then (let q:=rDcx c.1 (Zan r pr) (flOf r);Zr (wF r0 q.2) pr q.1) else
 bif i.1==18 then (let q:=rDad c.1 (Zan r 2) (Zan r pr) (flOf r);Zr (wF r0 q.2) 2 q.1) else
 bif i.1==19 then (let q:=rDaa c.1 r.1 (flOf r);wA (wF r0 q.2) q.1) else
 bif i.1==20 then wA r0 (notI .u8 r.1) else
 bif i.1==21 then wF r0 (fCY (flOf r) true) else
 bif i.1==22 then wF r0 (fCY (flOf r) (!(flOf r).2.2.2.2.2.2)) else
 bif i.1==23 then (let q:=rRot op r.1 (flOf r).2.2.2.2.2.2;wA (wF r0 (fCY (flOf r) q.2)) q.1) else
 bif i.1==24 then (bif tk then wPC r0 (Zbg g 1) else r0) else
 bif i.1==25 then (bif tk then wPC (wSP r0 (IntKind.wrap .u16 (Zc2 r-2))) (Zbg g 1) else r0) else
 bif i.1==26 then (bif tk then wPC (wSP r0 (IntKind.wrap .u16 (Zc2 r+2))) (Zbg g 1) else r0) else
 bif i.1==27 then wPC (wSP r0 (IntKind.wrap .u16 (Zc2 r-2))) (IntKind.wrap .u16 (IntKind.wrap .i64 (8*i.2.2.2.2.2.2.2))) else
 bif i.1==28 then wPC r0 (Zan r 2) else
 bif i.1==29 then wSP r0 (Zan r 2) else
 bif i.1==30 then wSP r0 (IntKind.wrap .u16 (Zc2 r-2)) else
 bif i.1==31 then (let q:=bif pr==3 then Zge c.1 r0 (Zbg g 1) else Zr r0 pr (Zbg g 1);wSP q (IntKind.wrap .u16 (Zc2 q+2))) else
 bif i.1==32 then Zr r0 2 (Zbg g 1) else
 bif i.1==33 then wA r0 (g.getD 2 0) else
 bif i.1==40 then (let q:=Zxw (Zan r 2) (Zan r 0);Zr (wF r0 q.2) 2 q.1) else
 bif i.1==41 then (let q:=ZtM (Zan r 2);Zr (wF r0 (fCY (flOf r) q.2)) 2 q.1) else
 bif i.1==42 then (let q:=Zxi (Zan r 1) (flOf r).2.2.2.2.2.2;Zr (wF r0 (fVCY (flOf r) q.2.2 q.2.1)) 1 q.1) else
 bif i.1==43 then Zr r0 1 (IntKind.wrap .u16 (Zan r 2+IntKind.wrap .u16 g1)) else
 bif i.1==44 then Zr r0 1 (IntKind.wrap .u16 (Zc2 r+IntKind.wrap .u16 g1)) else
 bif i.1==45 then (bif tk then wPC (wSP r0 (IntKind.wrap .u16 (Zc2 r-2))) 64 else r0) else
 bif i.1==47 then Zr r0 2 (Zbg g 1) else
 r0
def finI (c:CpuT) (inj:Bool) (g:List Int) (l:QT0) (i:InsT):CpuT:=
 let r0:=wPC c.2.1 (ZL c inj i)
 let d:CpuT:=(c.1,r0,c.2.2.1,false,false,c.2.2.2.2.2)
 bif i.1==38 then (let q:=rRim d l;(q.2.1,wA q.2.2.1 q.1,q.2.2.2)) else
 bif i.1==39 then rSim d c.2.1.1 else
 (c.1,finR c c.2.1 r0 g i,bif i.1==35 then true else bif i.1==36 then false else c.2.2.1,i.1==35,i.1==37,c.2.2.2.2.2)
def finX (c:CpuT) (s:Int) (g:List Int) (l:QT0):CpuT:=
 bif Zc s then (c.1,wPC (wSP c.2.1 (IntKind.wrap .u16 (spOf c-2))) (Zi s),c.2.2)
 else finI c (s==5) g l (Zb c.1 (g.getD 0 0))
theorem ZVi (c:CpuT) (l):(rRim c l).2=(c.1,c.2.1,c.2.2.1,c.2.2.2.1,c.2.2.2.2.1,c.2.2.2.2.2.1,c.2.2.2.2.2.2.1,c.2.2.2.2.2.2.2.1,c.2.2.2.2.2.2.2.2.1,c.2.2.2.2.2.2.2.2.2.1,false,false,c.2.2.2.2.2.2.2.2.2.2.2.2):=by
 have h3:∀b,Zay b 3=true:=λb=>by cases b<;>rfl
 have h4:∀b,Zay b 4=true:=λb=>by cases b<;>rfl
 have h5:∀b,Zay b 5=true:=λb=>by cases b<;>rfl
 have h6:∀b,Zay b 6=true:=λb=>by cases b<;>rfl
 have h7:∀b,Zay b 7=true:=λb=>by cases b<;>rfl
 simp only[rRim,ZNj,RT.val,h3,h4,h5,h6,h7,Bool.not_true,Bool.false_or,cond_true,getO]
theorem Zcz (s):Zgl s=true/\ZiA s=bif (s.2.2.2.1.1==13||s.2.2.2.1.2.2.2.1==6) then s.2.2.1.getD 1 0 else rGet s.1.2.1 s.2.2.2.1.2.2.2.1:=by
 simp only[Zgl,ZiA,Ziz,RT.val,qat1,Zah]
 cases (s.2.2.2.1.1==13||s.2.2.2.1.2.2.2.1==6)<;>simp[okB,getO]
theorem Zf7 (r:RegT) (f:FlgT) (pc n v:Int):rSet (r.1,r.2.1,r.2.2.1,r.2.2.2.1,r.2.2.2.2.1,r.2.2.2.2.2.1,r.2.2.2.2.2.2.1,f,r.2.2.2.2.2.2.2.2.1,pc) n v=
  ((rSet r n v).1,(rSet r n v).2.1,(rSet r n v).2.2.1,(rSet r n v).2.2.2.1,(rSet r n v).2.2.2.2.1,(rSet r n v).2.2.2.2.2.1,(rSet r n v).2.2.2.2.2.2.1,f,(rSet r n v).2.2.2.2.2.2.2.2.1,pc):=rfl
theorem Zf9 (r:RegT) (n v:Int):(rSet r n v).2.2.2.2.2.2.2.1=r.2.2.2.2.2.2.2.1:=rfl
theorem Zf8 (r:RegT) (n v:Int):(rSet r n v).2.2.2.2.2.2.2.2=r.2.2.2.2.2.2.2.2:=rfl
theorem Zkr (r:RegT) (f:FlgT) (pc n v:Int):Zr (r.1,r.2.1,r.2.2.1,r.2.2.2.1,r.2.2.2.2.1,r.2.2.2.2.2.1,r.2.2.2.2.2.2.1,f,r.2.2.2.2.2.2.2.2.1,pc) n v=
  ((Zr r n v).1,(Zr r n v).2.1,(Zr r n v).2.2.1,(Zr r n v).2.2.2.1,(Zr r n v).2.2.2.2.1,(Zr r n v).2.2.2.2.2.1,(Zr r n v).2.2.2.2.2.2.1,f,(Zr r n v).2.2.2.2.2.2.2.2.1,pc):=by
 simp only[Zr,Zgc,RT.val]
 cases (andI i64 n 3==3)<;>rfl
theorem Zks (r:RegT) (n v:Int):(Zr r n v).2.2.2.2.2.2.2.1=r.2.2.2.2.2.2.2.1:=by
 simp only[Zr,Zgc,RT.val]
 cases (andI i64 n 3==3)<;>rfl
theorem ZXs (r:RegT) (f:FlgT) (sp pc n:Int):ZBf (r.1,r.2.1,r.2.2.1,r.2.2.2.1,r.2.2.2.2.1,r.2.2.2.2.2.1,r.2.2.2.2.2.2.1,f,sp,pc) n=ZBf r n:=rfl
theorem ZeA (r:RegT) (f:FlgT) (pc n:Int):Zan (r.1,r.2.1,r.2.2.1,r.2.2.2.1,r.2.2.2.2.1,r.2.2.2.2.2.1,r.2.2.2.2.2.2.1,f,r.2.2.2.2.2.2.2.2.1,pc) n=Zan r n:=by
 simp only[Zan,ZqO,RT.val,rGet,ZBh,ZXs]
theorem bnat {x:Int} (h:inR .u8 x):∃a:Nat,x=a/\a<256:=by
 rw[ZgB] at h
 exact⟨x.toNat,by omega,by omega⟩
theorem w16 {n:Nat} (h:n<65536):IntKind.wrap .u16 (n:Int)=n:=ZlG ⟨by simp[IntKind.min,IntKind.signed],by simp[IntKind.max,IntKind.signed,IntKind.bits];omega⟩
theorem ZHa {h l:Int} (hh:inR .u8 h) (hl:inR .u8 l):ZcS h l=256*h+l:=by
 obtain⟨a,rfl,ha⟩:=bnat hh
 obtain⟨b,rfl,hb⟩:=bnat hl
 have e1:shlI .u16 (IntKind.wrap .u16 (a:Int)) 8=((a*256:Nat):Int):=by
  rw[w16 (by omega)]
  simp only[shlI]
  have:((a:Int)*2^min (8:Int).toNat u16.bits)=((a*256:Nat):Int):=by simp[IntKind.bits]
  rw[this,w16 (by omega)]
 have e2:(BitVec.ofInt u16.bits ((a*256:Nat):Int)|||BitVec.ofInt u16.bits (b:Int)).toNat=a*256+b:=by
  rw[BitVec.toNat_or,BitVec.toNat_ofInt,BitVec.toNat_ofInt]
  have k1:(((a*256:Nat):Int)%((2^u16.bits:Nat):Int)).toNat=a*256:=by simp[IntKind.bits];omega
  have k2:((b:Int)%((2^u16.bits:Nat):Int)).toNat=b:=by simp[IntKind.bits];omega
  rw[k1,k2]
  have:=Nat.shiftLeft_add_eq_or_of_lt (i:=8) (b:=b) (by omega) a
  rw[Nat.shiftLeft_eq] at this
  exact this.symm
 show orI .u16 (shlI .u16 (IntKind.wrap .u16 (a:Int)) 8) (IntKind.wrap .u16 (b:Int))=_
 rw[e1,w16 (by omega)]
 simp only[orI]
 rw[e2,w16 (by omega)]
 omega
theorem ZY3 {h l:Int} (hh:inR .u8 h) (hl:inR .u8 l):IntKind.wrap .u8 (ZcS h l)=l:=by
 rw[ZHa hh hl]
 rw[ZgB] at hl
 simp[IntKind.wrap,IntKind.signed,IntKind.bits];omega
theorem ZY4 {h l:Int} (hh:inR .u8 h) (hl:inR .u8 l):IntKind.wrap .u8 (shrI .u16 (ZcS h l) 8)=h:=by
 rw[ZHa hh hl]
 rw[ZgB] at hl hh
 have:shrI .u16 (256*h+l) 8=h:=by
  simp only[shrI]
  have:((2:Int)^min (8:Int).toNat u16.bits)=256:=by decide
  rw[this,Int.fdiv_eq_ediv_of_nonneg _ (by decide)];omega
 rw[this]
 simp[IntKind.wrap,IntKind.signed,IntKind.bits];omega
theorem Zez (r:RegT) {h l:Int} (hh:inR .u8 h) (hl:inR .u8 l):Zr r 2 (ZcS h l)=(r.1,r.2.1,r.2.2.1,r.2.2.2.1,r.2.2.2.2.1,h,l,r.2.2.2.2.2.2.2):=by
 have e:Zr r 2 (ZcS h l)=(r.1,r.2.1,r.2.2.1,r.2.2.2.1,r.2.2.2.2.1,IntKind.wrap .u8 (shrI .u16 (ZcS h l) 8),IntKind.wrap .u8 (ZcS h l),r.2.2.2.2.2.2.2):=by
  generalize ZcS h l=v
  rfl
 rw[e,ZY3 hh hl,ZY4 hh hl]
theorem Zkw (x:Int):IntKind.wrap .u8 (255-x)=notI .u8 x:=by
 have e:notI .u8 x=IntKind.wrap .u8 ((~~~ (BitVec.ofInt 8 x)).toNat:Int):=by
  show IntKind.wrap .u8 (((BitVec.ofInt 8 255)^^^(BitVec.ofInt 8 x)).toNat:Int)=_
  have:BitVec.ofInt 8 255=BitVec.allOnes 8:=by decide
  rw[this,BitVec.allOnes_xor]
 have h1:(BitVec.ofInt 8 x).toNat=(x%256).toNat:=BitVec.toNat_ofInt ..
 have h2:((x%256).toNat:Int)=x%256:=by omega
 rw[e,BitVec.toNat_not,h1]
 have h3:((2^8-1-(x%256).toNat:Nat):Int)=255-x%256:=by omega
 rw[h3]
 simp[IntKind.wrap,IntKind.signed,IntKind.bits]
end
end Go.Proofs.YtghoimllhpjkjaaGreat
