import Derived.Test.YtpnjbfjomebppaaGreatKind47
import Derived.Test.YtpnjbfjomebppaaGreatNext1
import Derived.Test.YtpnjbfjomebppaaGreatNext2
import Derived.Test.YtpnjbfjomebppaaGreatNext3
import Derived.Test.YtpnjbfjomebppaaGreatNext4
open Go Go.S3 Go.Proofs
set_option linter.unusedVariables false
set_option linter.unusedSimpArgs false
set_option maxRecDepth 100000
namespace Go.Proofs.YtpnjbfjomebppaaGreat
noncomputable section
theorem nx_2 (c) (s:Int) (g:List Int) (n:Int) (hk:(Zc c.1 (g.getD 0 0)).1=n):(n=4->(Zzj c s g).val=some (Zg c s g))/\(n=8->(Zzf c s g).val=some (Zg c s g))/\(n=13->(ZsP c s g).val=some (Zg c s g))/\(n=19->(ZsJ c s g).val=some (Zg c s g))/\(n=23->(ZsF c s g).val=some (Zg c s g))/\(n=31->(Zsx c s g).val=some (Zg c s g))/\(n=36->(Zss c s g).val=some (Zg c s g))/\(n=41->(Zsn c s g).val=some (Zg c s g))/\(n=46->(Zsi c s g).val=some (Zg c s g))/\(n=4->(ZoU c s g).val=some (Zg c s g))/\(n=8->(ZoQ c s g).val=some (Zg c s g))/\(n=13->(ZkQ c s g).val=some (Zg c s g))/\(n=19->(ZkK c s g).val=some (Zg c s g))/\(n=23->(ZkG c s g).val=some (Zg c s g))/\(n=31->(Zky c s g).val=some (Zg c s g))/\(n=36->(Zkt c s g).val=some (Zg c s g))/\(n=41->(Zko c s g).val=some (Zg c s g))/\(n=46->(Zkj c s g).val=some (Zg c s g)):=by
 refine⟨?_,?_,?_,?_,?_,?_,?_,?_,?_,?_,?_,?_,?_,?_,?_,?_,?_,?_⟩;all_goals intro e;subst e
 all_goals simp only[Zzj,Zzf,ZsP,ZsJ,ZsF,Zsx,Zss,Zsn,Zsi,ZoU,ZoQ,ZkQ,ZkK,ZkG,Zky,Zkt,Zko,Zkj,RT.val,fin3,pk]
 all_goals simp only[qat0,mat0,qat1,mat1,rg0,hk,Zz,Zag,ZaM,ZY,ZZ,ZL,ZM,ZbK,ZbN,ZaF,Zy,Zcm,Zg,ZdV,ZO,Za0]
 all_goals generalize Za s=bi
 all_goals generalize (s==5)=bs
 all_goals cases g with
 |nil=>cases bi<;>cases bs<;>simp[ZlP,Zbo,pcOf,spOf,Zb5]
 |cons o t=>
  simp only[Yu] at hk;simp only[len0,Yu,Zfp,hk,ZbE,Za0,ZO,Zem,bne];generalize Zc c.1 o=i at hk|-;cases bi<;>cases bs<;>simp[Zbp,Zb5,popX,pcOf,spOf,opC,ZgS,Zdj,ZbB,Zfg,Zc2,setI,R.get]
theorem nx_4 (c) (s:Int) (g:List Int) (n:Int) (hk:(Zc c.1 (g.getD 0 0)).1=n):(n=6->(Zzh c s g).val=some (Zg c s g))/\(n=10->(ZsS c s g).val=some (Zg c s g))/\(n=17->(ZsL c s g).val=some (Zg c s g))/\(n=21->(ZsH c s g).val=some (Zg c s g))/\(n=28->(ZsA c s g).val=some (Zg c s g))/\(n=34->(Zsu c s g).val=some (Zg c s g))/\(n=39->(Zsp c s g).val=some (Zg c s g))/\(n=43->(Zsl c s g).val=some (Zg c s g))/\(n=6->(ZoS c s g).val=some (Zg c s g))/\(n=10->(ZkT c s g).val=some (Zg c s g))/\(n=17->(ZkM c s g).val=some (Zg c s g))/\(n=21->(ZkI c s g).val=some (Zg c s g))/\(n=28->(ZkB c s g).val=some (Zg c s g))/\(n=34->(Zkv c s g).val=some (Zg c s g))/\(n=39->(Zkq c s g).val=some (Zg c s g))/\(n=43->(Zkm c s g).val=some (Zg c s g)):=by
 refine⟨?_,?_,?_,?_,?_,?_,?_,?_,?_,?_,?_,?_,?_,?_,?_,?_⟩;all_goals intro e;subst e
 all_goals simp only[Zzh,ZsS,ZsL,ZsH,ZsA,Zsu,Zsp,Zsl,ZoS,ZkT,ZkM,ZkI,ZkB,Zkv,Zkq,Zkm,RT.val,fin3,pk]
 all_goals simp only[qat0,mat0,qat1,mat1,rg0,hk,Zz,Zag,ZaM,ZY,ZZ,ZL,ZM,ZbK,ZbN,ZaF,Zy,Zcm,Zg,ZdV,ZO,Za0]
 all_goals generalize Za s=bi
 all_goals generalize (s==5)=bs
 all_goals cases g with
 |nil=>cases bi<;>cases bs<;>simp[ZlP,Zbo,pcOf,spOf,Zb5]
 |cons o t=>
  simp only[Yu] at hk;simp only[len0,Yu,Zfp,hk,ZbE,Za0,ZO,Zem,bne];generalize Zc c.1 o=i at hk|-;cases bi<;>cases bs<;>simp[Zbp,Zb5,popX,pcOf,spOf,opC,ZgS,Zdj,ZbB,Zfg,Zc2,setI,R.get]
theorem nx_6 (c) (s:Int) (g:List Int) (n:Int) (hk:(Zc c.1 (g.getD 0 0)).1=n):(n=3->(Zzk c s g).val=some (Zg c s g))/\(n=14->(ZsO c s g).val=some (Zg c s g))/\(n=15->(ZsN c s g).val=some (Zg c s g))/\(n=3->(ZoV c s g).val=some (Zg c s g))/\(n=14->(ZkP c s g).val=some (Zg c s g))/\(n=15->(ZkO c s g).val=some (Zg c s g)):=by
 refine⟨?_,?_,?_,?_,?_,?_⟩;all_goals intro e;subst e
 all_goals simp only[Zzk,ZsO,ZsN,ZoV,ZkP,ZkO,RT.val,fin3,pk]
 all_goals simp only[qat0,mat0,qat1,mat1,rg0,hk,Zz,Zag,ZaM,ZY,ZZ,ZL,ZM,ZbK,ZbN,ZaF,Zy,Zcm,Zg,ZdV,ZO,Za0]
 all_goals generalize Za s=bi
 all_goals generalize (s==5)=bs
 all_goals cases g with
 |nil=>cases bi<;>cases bs<;>simp[ZlP,Zbo,pcOf,spOf,Zb5]
 |cons o t=>
  simp only[Yu] at hk;simp only[len0,Yu,Zfp,hk,ZbE,Za0,ZO,Zem,bne];generalize Zc c.1 o=i at hk|-;generalize (i.2.2.1==6)=b0;cases b0<;>cases bi<;>cases bs<;>simp[Zbp,Zb5,popX,pcOf,spOf,opC,ZgS,Zdj,ZbB,Zfg,Zc2,setI,R.get]
theorem nx_8 (c) (s:Int) (g:List Int) (n:Int) (hk:(Zc c.1 (g.getD 0 0)).1=n):(n=24->(ZsE c s g).val=some (Zg c s g))/\(n=25->(ZsD c s g).val=some (Zg c s g))/\(n=24->(ZkF c s g).val=some (Zg c s g))/\(n=25->(ZkE c s g).val=some (Zg c s g)):=by
 refine⟨?_,?_,?_,?_⟩;all_goals intro e;subst e
 all_goals simp only[ZsE,ZsD,ZkF,ZkE,RT.val,fin3,pk]
 all_goals simp only[qat0,mat0,qat1,mat1,rg0,hk,Zz,Zag,ZaM,ZY,ZZ,ZL,ZM,ZbK,ZbN,ZaF,Zy,Zcm,Zg,ZdV,ZO,Za0]
 all_goals generalize Za s=bi
 all_goals generalize (s==5)=bs
 all_goals cases g with
 |nil=>cases bi<;>cases bs<;>simp[ZlP,Zbo,pcOf,spOf,Zb5]
 |cons o t=>
  simp only[Yu] at hk;simp only[len0,Yu,Zfp,hk,ZbE,Za0,ZO,Zem,bne];generalize Zc c.1 o=i at hk|-;generalize Zf4 _ _=b0;generalize (c.1==2)=b1;cases b0<;>cases b1<;>cases bi<;>cases bs<;>simp[Zbp,Zb5,popX,pcOf,spOf,opC,ZgS,Zdj,ZbB,Zfg,Zc2,setI,R.get]
theorem nx_10 (c) (s:Int) (g:List Int) (n:Int) (hk:(Zc c.1 (g.getD 0 0)).1=n):(n=30->(Zsy c s g).val=some (Zg c s g))/\(n=30->(Zkz c s g).val=some (Zg c s g)):=by
 refine⟨?_,?_⟩;all_goals intro e;subst e
 all_goals simp only[Zsy,Zkz,RT.val,fin3,pk]
 all_goals simp only[qat0,mat0,qat1,mat1,rg0,hk,Zz,Zag,ZaM,ZY,ZZ,ZL,ZM,ZbK,ZbN,ZaF,Zy,Zcm,Zg,ZdV,ZO,Za0]
 all_goals generalize Za s=bi
 all_goals generalize (s==5)=bs
 all_goals cases g with
 |nil=>cases bi<;>cases bs<;>simp[ZlP,Zbo,pcOf,spOf,Zb5]
 |cons o t=>
  simp only[Yu] at hk;simp only[len0,Yu,Zfp,hk,ZbE,Za0,ZO,Zem,bne];generalize Zc c.1 o=i at hk|-;generalize (i.2.2.2.2.1==3)=b0;cases b0<;>cases bi<;>cases bs<;>simp[Zbp,Zb5,popX,pcOf,spOf,opC,ZgS,Zdj,ZbB,Zfg,Zc2,setI,R.get]
theorem nx_1 (c) (s:Int) (g:List Int) (n:Int) (hk:(Zc c.1 (g.getD 0 0)).1=n):(n=1->(Zzm c s g).val=some (Zg c s g))/\(n=7->(Zzg c s g).val=some (Zg c s g))/\(n=11->(ZsR c s g).val=some (Zg c s g))/\(n=18->(ZsK c s g).val=some (Zg c s g))/\(n=22->(ZsG c s g).val=some (Zg c s g))/\(n=29->(Zsz c s g).val=some (Zg c s g))/\(n=35->(Zst c s g).val=some (Zg c s g))/\(n=40->(Zso c s g).val=some (Zg c s g))/\(n=44->(Zsk c s g).val=some (Zg c s g))/\(n=1->(ZoX c s g).val=some (Zg c s g))/\(n=7->(ZoR c s g).val=some (Zg c s g))/\(n=11->(ZkS c s g).val=some (Zg c s g))/\(n=18->(ZkL c s g).val=some (Zg c s g))/\(n=22->(ZkH c s g).val=some (Zg c s g))/\(n=29->(ZkA c s g).val=some (Zg c s g))/\(n=35->(Zku c s g).val=some (Zg c s g))/\(n=40->(Zkp c s g).val=some (Zg c s g))/\(n=44->(Zkl c s g).val=some (Zg c s g)):=by
 refine⟨?_,?_,?_,?_,?_,?_,?_,?_,?_,?_,?_,?_,?_,?_,?_,?_,?_,?_⟩;all_goals intro e;subst e
 all_goals simp only[Zzm,Zzg,ZsR,ZsK,ZsG,Zsz,Zst,Zso,Zsk,ZoX,ZoR,ZkS,ZkL,ZkH,ZkA,Zku,Zkp,Zkl,RT.val,fin3,pk]
 all_goals simp only[qat0,mat0,qat1,mat1,rg0,hk,Zz,Zag,ZaM,ZY,ZZ,ZL,ZM,ZbK,ZbN,ZaF,Zy,Zcm,Zg,ZdV,ZO,Za0]
 all_goals generalize Za s=bi
 all_goals generalize (s==5)=bs
 all_goals cases g with
 |nil=>cases bi<;>cases bs<;>simp[ZlP,Zbo,pcOf,spOf,Zb5]
 |cons o t=>
  simp only[Yu] at hk;simp only[len0,Yu,Zfp,hk,ZbE,Za0,ZO,Zem,bne];generalize Zc c.1 o=i at hk|-;cases bi<;>cases bs<;>simp[Zbp,Zb5,popX,pcOf,spOf,opC,ZgS,Zdj,ZbB,Zfg,Zc2,setI,R.get]
theorem nx_3 (c) (s:Int) (g:List Int) (n:Int) (hk:(Zc c.1 (g.getD 0 0)).1=n):(n=5->(Zzi c s g).val=some (Zg c s g))/\(n=9->(Zze c s g).val=some (Zg c s g))/\(n=16->(ZsM c s g).val=some (Zg c s g))/\(n=20->(ZsI c s g).val=some (Zg c s g))/\(n=27->(ZsB c s g).val=some (Zg c s g))/\(n=33->(Zsv c s g).val=some (Zg c s g))/\(n=38->(Zsq c s g).val=some (Zg c s g))/\(n=42->(Zsm c s g).val=some (Zg c s g))/\(n=47->(Zsh c s g).val=some (Zg c s g))/\(n=5->(ZoT c s g).val=some (Zg c s g))/\(n=9->(ZoP c s g).val=some (Zg c s g))/\(n=16->(ZkN c s g).val=some (Zg c s g))/\(n=20->(ZkJ c s g).val=some (Zg c s g))/\(n=27->(ZkC c s g).val=some (Zg c s g))/\(n=33->(Zkw c s g).val=some (Zg c s g))/\(n=38->(Zkr c s g).val=some (Zg c s g))/\(n=42->(Zkn c s g).val=some (Zg c s g))/\(n=47->(Zki c s g).val=some (Zg c s g)):=by
 refine⟨?_,?_,?_,?_,?_,?_,?_,?_,?_,?_,?_,?_,?_,?_,?_,?_,?_,?_⟩;all_goals intro e;subst e
 all_goals simp only[Zzi,Zze,ZsM,ZsI,ZsB,Zsv,Zsq,Zsm,Zsh,ZoT,ZoP,ZkN,ZkJ,ZkC,Zkw,Zkr,Zkn,Zki,RT.val,fin3,pk]
 all_goals simp only[qat0,mat0,qat1,mat1,rg0,hk,Zz,Zag,ZaM,ZY,ZZ,ZL,ZM,ZbK,ZbN,ZaF,Zy,Zcm,Zg,ZdV,ZO,Za0]
 all_goals generalize Za s=bi
 all_goals generalize (s==5)=bs
 all_goals cases g with
 |nil=>cases bi<;>cases bs<;>simp[ZlP,Zbo,pcOf,spOf,Zb5]
 |cons o t=>
  simp only[Yu] at hk;simp only[len0,Yu,Zfp,hk,ZbE,Za0,ZO,Zem,bne];generalize Zc c.1 o=i at hk|-;cases bi<;>cases bs<;>simp[Zbp,Zb5,popX,pcOf,spOf,opC,ZgS,Zdj,ZbB,Zfg,Zc2,setI,R.get]
theorem nx_5 (c) (s:Int) (g:List Int) (n:Int) (hk:(Zc c.1 (g.getD 0 0)).1=n):(n=2->(Zzl c s g).val=some (Zg c s g))/\(n=2->(ZoW c s g).val=some (Zg c s g)):=by
 refine⟨?_,?_⟩;all_goals intro e;subst e
 all_goals simp only[Zzl,ZoW,RT.val,fin3,pk]
 all_goals simp only[qat0,mat0,qat1,mat1,rg0,hk,Zz,Zag,ZaM,ZY,ZZ,ZL,ZM,ZbK,ZbN,ZaF,Zy,Zcm,Zg,ZdV,ZO,Za0]
 all_goals generalize Za s=bi
 all_goals generalize (s==5)=bs
 all_goals cases g with
 |nil=>cases bi<;>cases bs<;>simp[ZlP,Zbo,pcOf,spOf,Zb5]
 |cons o t=>
  simp only[Yu] at hk;simp only[len0,Yu,Zfp,hk,ZbE,Za0,ZO,Zem,bne];generalize Zc c.1 o=i at hk|-;generalize (i.2.2.2.1==6)=b0;generalize (i.2.2.1==6)=b1;cases b0<;>cases b1<;>cases bi<;>cases bs<;>simp[Zbp,Zb5,popX,pcOf,spOf,opC,ZgS,Zdj,ZbB,Zfg,Zc2,setI,R.get]
theorem nx_7 (c) (s:Int) (g:List Int) (n:Int) (hk:(Zc c.1 (g.getD 0 0)).1=n):(n=12->(ZsQ c s g).val=some (Zg c s g))/\(n=12->(ZkR c s g).val=some (Zg c s g)):=by
 refine⟨?_,?_⟩;all_goals intro e;subst e
 all_goals simp only[ZsQ,ZkR,RT.val,fin3,pk]
 all_goals simp only[qat0,mat0,qat1,mat1,rg0,hk,Zz,Zag,ZaM,ZY,ZZ,ZL,ZM,ZbK,ZbN,ZaF,Zy,Zcm,Zg,ZdV,ZO,Za0]
 all_goals generalize Za s=bi
 all_goals generalize (s==5)=bs
 all_goals cases g with
 |nil=>cases bi<;>cases bs<;>simp[ZlP,Zbo,pcOf,spOf,Zb5]
 |cons o t=>
  simp only[Yu] at hk;simp only[len0,Yu,Zfp,hk,ZbE,Za0,ZO,Zem,bne];generalize Zc c.1 o=i at hk|-;generalize (i.2.2.2.1==6)=b0;cases b0<;>cases bi<;>cases bs<;>simp[Zbp,Zb5,popX,pcOf,spOf,opC,ZgS,Zdj,ZbB,Zfg,Zc2,setI,R.get]
theorem nx_9 (c) (s:Int) (g:List Int) (n:Int) (hk:(Zc c.1 (g.getD 0 0)).1=n):(n=26->(ZsC c s g).val=some (Zg c s g))/\(n=45->(Zsj c s g).val=some (Zg c s g))/\(n=26->(ZkD c s g).val=some (Zg c s g))/\(n=45->(Zkk c s g).val=some (Zg c s g)):=by
 refine⟨?_,?_,?_,?_⟩;all_goals intro e;subst e
 all_goals simp only[ZsC,Zsj,ZkD,Zkk,RT.val,fin3,pk]
 all_goals simp only[qat0,mat0,qat1,mat1,rg0,hk,Zz,Zag,ZaM,ZY,ZZ,ZL,ZM,ZbK,ZbN,ZaF,Zy,Zcm,Zg,ZdV,ZO,Za0]
 all_goals generalize Za s=bi
 all_goals generalize (s==5)=bs
 all_goals cases g with
 |nil=>cases bi<;>cases bs<;>simp[ZlP,Zbo,pcOf,spOf,Zb5]
 |cons o t=>
  simp only[Yu] at hk;simp only[len0,Yu,Zfp,hk,ZbE,Za0,ZO,Zem,bne];generalize Zc c.1 o=i at hk|-;generalize Zf4 _ _=b0;cases b0<;>cases bi<;>cases bs<;>simp[Zbp,Zb5,popX,pcOf,spOf,opC,ZgS,Zdj,ZbB,Zfg,Zc2,setI,R.get]
theorem nx_11 (c) (s:Int) (g:List Int) (n:Int) (hk:(Zc c.1 (g.getD 0 0)).1=n):(n=32->(Zsw c s g).val=some (Zg c s g))/\(n=37->(Zsr c s g).val=some (Zg c s g))/\(n=32->(Zkx c s g).val=some (Zg c s g))/\(n=37->(Zks c s g).val=some (Zg c s g)):=by
 refine⟨?_,?_,?_,?_⟩;all_goals intro e;subst e
 all_goals simp only[Zsw,Zsr,Zkx,Zks,RT.val,fin3,pk]
 all_goals simp only[qat0,mat0,qat1,mat1,rg0,hk,Zz,Zag,ZaM,ZY,ZZ,ZL,ZM,ZbK,ZbN,ZaF,Zy,Zcm,Zg,ZdV,ZO,Za0]
 all_goals generalize Za s=bi
 all_goals generalize (s==5)=bs
 all_goals cases g with
 |nil=>cases bi<;>cases bs<;>simp[ZlP,Zbo,pcOf,spOf,Zb5]
 |cons o t=>
  simp only[Yu] at hk;simp only[len0,Yu,Zfp,hk,ZbE,Za0,ZO,Zem,bne];generalize Zc c.1 o=i at hk|-;generalize (c.1==2)=b0;cases b0<;>cases bi<;>cases bs<;>simp[Zbp,Zb5,popX,pcOf,spOf,opC,ZgS,Zdj,ZbB,Zfg,Zc2,setI,R.get]
theorem ZIy (a:HL Zr) (h:okHL Zr a):∃l,ZeK Tryz.prog l/\(Zfk (envX Tryz.prog l [] 2047 8) Tryz.f166 Zr ZvR a).val=some (Zg a.1 a.2.1 a.2.2):=by
 have hk:=ZGr a.1.1 _ (ZGI h.2.2);refine⟨ZEH (Zc a.1.1 (a.2.2.getD 0 0)).1,ZEG _,?_⟩;show (EV1 _ a).val=_;have n1:=nx_1 a.1 a.2.1 a.2.2;have n5:=nx_5 a.1 a.2.1 a.2.2;have n6:=nx_6 a.1 a.2.1 a.2.2;have n2:=nx_2 a.1 a.2.1 a.2.2;have n3:=nx_3 a.1 a.2.1 a.2.2;have n4:=nx_4 a.1 a.2.1 a.2.2;have n7:=nx_7 a.1 a.2.1 a.2.2;have n8:=nx_8 a.1 a.2.1 a.2.2;have n9:=nx_9 a.1 a.2.1 a.2.2;have n10:=nx_10 a.1 a.2.1 a.2.2;have n11:=nx_11 a.1 a.2.1 a.2.2;rcases ZGq hk.1 hk.2 with e|e|e|e|e|e|e|e|e|e|e|e|e|e|e|e|e|e|e|e|e|e|e|e|e|e|e|e|e|e|e|e|e|e|e|e|e|e|e|e|e|e|e|e|e|e|e
 ·rw[e,ZAX a,((n1 _ e).2.2.2.2.2.2.2.2.2.1 rfl)]
 ·rw[e,ZAW a,((n5 _ e).2 rfl)]
 ·rw[e,ZAV a,((n6 _ e).2.2.2.1 rfl)]
 ·rw[e,ZAU a,((n2 _ e).2.2.2.2.2.2.2.2.2.1 rfl)]
 ·rw[e,ZAT a,((n3 _ e).2.2.2.2.2.2.2.2.2.1 rfl)]
 ·rw[e,ZAS a,((n4 _ e).2.2.2.2.2.2.2.2.1 rfl)]
 ·rw[e,ZAR a,((n1 _ e).2.2.2.2.2.2.2.2.2.2.1 rfl)]
 ·rw[e,ZAQ a,((n2 _ e).2.2.2.2.2.2.2.2.2.2.1 rfl)]
 ·rw[e,ZAP a,((n3 _ e).2.2.2.2.2.2.2.2.2.2.1 rfl)]
 ·rw[e,ZvQ a,((n4 _ e).2.2.2.2.2.2.2.2.2.1 rfl)]
 ·rw[e,ZvP a,((n1 _ e).2.2.2.2.2.2.2.2.2.2.2.1 rfl)]
 ·rw[e,ZvO a,((n7 _ e).2 rfl)]
 ·rw[e,ZvN a,((n2 _ e).2.2.2.2.2.2.2.2.2.2.2.1 rfl)]
 ·rw[e,ZvM a,((n6 _ e).2.2.2.2.1 rfl)]
 ·rw[e,ZvL a,((n6 _ e).2.2.2.2.2 rfl)]
 ·rw[e,ZvK a,((n3 _ e).2.2.2.2.2.2.2.2.2.2.2.1 rfl)]
 ·rw[e,ZvJ a,((n4 _ e).2.2.2.2.2.2.2.2.2.2.1 rfl)]
 ·rw[e,ZvI a,((n1 _ e).2.2.2.2.2.2.2.2.2.2.2.2.1 rfl)]
 ·rw[e,ZvH a,((n2 _ e).2.2.2.2.2.2.2.2.2.2.2.2.1 rfl)]
 ·rw[e,ZvG a,((n3 _ e).2.2.2.2.2.2.2.2.2.2.2.2.1 rfl)]
 ·rw[e,ZvF a,((n4 _ e).2.2.2.2.2.2.2.2.2.2.2.1 rfl)]
 ·rw[e,ZvE a,((n1 _ e).2.2.2.2.2.2.2.2.2.2.2.2.2.1 rfl)]
 ·rw[e,ZvD a,((n2 _ e).2.2.2.2.2.2.2.2.2.2.2.2.2.1 rfl)]
 ·rw[e,ZvC a,((n8 _ e).2.2.1 rfl)]
 ·rw[e,ZvB a,((n8 _ e).2.2.2 rfl)]
 ·rw[e,ZvA a,((n9 _ e).2.2.1 rfl)]
 ·rw[e,Zvz a,((n3 _ e).2.2.2.2.2.2.2.2.2.2.2.2.2.1 rfl)]
 ·rw[e,Zvy a,((n4 _ e).2.2.2.2.2.2.2.2.2.2.2.2.1 rfl)]
 ·rw[e,Zvx a,((n1 _ e).2.2.2.2.2.2.2.2.2.2.2.2.2.2.1 rfl)]
 ·rw[e,Zvw a,((n10 _ e).2 rfl)]
 ·rw[e,Zvv a,((n2 _ e).2.2.2.2.2.2.2.2.2.2.2.2.2.2.1 rfl)]
 ·rw[e,Zvu a,((n11 _ e).2.2.1 rfl)]
 ·rw[e,Zvt a,((n3 _ e).2.2.2.2.2.2.2.2.2.2.2.2.2.2.1 rfl)]
 ·rw[e,Zvs a,((n4 _ e).2.2.2.2.2.2.2.2.2.2.2.2.2.1 rfl)]
 ·rw[e,Zvr a,((n1 _ e).2.2.2.2.2.2.2.2.2.2.2.2.2.2.2.1 rfl)]
 ·rw[e,Zvq a,((n2 _ e).2.2.2.2.2.2.2.2.2.2.2.2.2.2.2.1 rfl)]
 ·rw[e,Zvp a,((n11 _ e).2.2.2 rfl)]
 ·rw[e,Zvo a,((n3 _ e).2.2.2.2.2.2.2.2.2.2.2.2.2.2.2.1 rfl)]
 ·rw[e,Zvn a,((n4 _ e).2.2.2.2.2.2.2.2.2.2.2.2.2.2.1 rfl)]
 ·rw[e,Zvm a,((n1 _ e).2.2.2.2.2.2.2.2.2.2.2.2.2.2.2.2.1 rfl)]
 ·rw[e,Zvl a,((n2 _ e).2.2.2.2.2.2.2.2.2.2.2.2.2.2.2.2.1 rfl)]
 ·rw[e,Zvk a,((n3 _ e).2.2.2.2.2.2.2.2.2.2.2.2.2.2.2.2.1 rfl)]
 ·rw[e,Zvj a,((n4 _ e).2.2.2.2.2.2.2.2.2.2.2.2.2.2.2 rfl)]
 ·rw[e,Zvi a,((n1 _ e).2.2.2.2.2.2.2.2.2.2.2.2.2.2.2.2.2 rfl)]
 ·rw[e,Zvh a,((n9 _ e).2.2.2 rfl)]
 ·rw[e,Zvg a,((n2 _ e).2.2.2.2.2.2.2.2.2.2.2.2.2.2.2.2.2 rfl)]
 ·rw[e,Zvf a,((n3 _ e).2.2.2.2.2.2.2.2.2.2.2.2.2.2.2.2.2 rfl)]
def ZyE:En:=Zi Zr ZvR (λ_=>none) (λa=>Zg a.1 a.2.1 a.2.2)
theorem ZoO:Zd Tryz.prog 166 ZyE:=Zy8 Tryz.func166 rfl (by kernel_rfl) Tryz.call166 λa h _=>ZIy a h
end
end Go.Proofs.YtpnjbfjomebppaaGreat
open Go.IntKind (u8 u16 i64)
namespace Go.Proofs.YtpnjbfjomebppaaGreat
noncomputable section
def wPC (r:RegT) (v:Int):RegT:=(r.1,r.2.1,r.2.2.1,r.2.2.2.1,r.2.2.2.2.1,r.2.2.2.2.2.1,r.2.2.2.2.2.2.1,r.2.2.2.2.2.2.2.1,r.2.2.2.2.2.2.2.2.1,v)
def wSP (r:RegT) (v:Int):RegT:=(r.1,r.2.1,r.2.2.1,r.2.2.2.1,r.2.2.2.2.1,r.2.2.2.2.2.1,r.2.2.2.2.2.2.1,r.2.2.2.2.2.2.2.1,v,r.2.2.2.2.2.2.2.2.2)
def wA (r:RegT) (v:Int):RegT:=(v,r.2)
def wF (r:RegT) (f:FlgT):RegT:=(r.1,r.2.1,r.2.2.1,r.2.2.2.1,r.2.2.2.2.1,r.2.2.2.2.2.1,r.2.2.2.2.2.2.1,f,r.2.2.2.2.2.2.2.2)
def fCY (f:FlgT) (b:Bool):FlgT:=(f.1,f.2.1,f.2.2.1,f.2.2.2.1,f.2.2.2.2.1,f.2.2.2.2.2.1,b)
def fVCY (f:FlgT) (v b:Bool):FlgT:=(f.1,f.2.1,f.2.2.1,f.2.2.2.1,f.2.2.2.2.1,v,b)
def ZeU (r:RegT):Int:=r.2.2.2.2.2.2.2.2.1
def flOf (r:RegT):FlgT:=r.2.2.2.2.2.2.2.1
def finR (c:CpuT) (r r0:RegT) (g:List Int) (i:InsT):RegT:=
 let dst:=i.2.2.1
 let src:=i.2.2.2.1
 let pr:=i.2.2.2.2.1
 let op:=i.2.2.2.2.2.1
 let g1:=g.getD 1 0
 let tk:=Zf4 i.2.2.2.2.2.2.1 (flOf r)
 bif i.1==2 then rSet r0 dst (bif src==6 then g1 else rGet r src) else
 bif i.1==3 then rSet r0 dst g1 else
 bif i.1==4 then Zt r0 pr (ZbB g 1) else
 bif i.1==5 then wA r0 (g.getD 3 0) else
 bif i.1==7 then Zt r0 2 (ZbB g 3) else
 bif i.1==9 then wA r0 g1 else
 bif i.1==11 then (r0.1,r0.2.1,r0.2.2.1,r0.2.2.2.2.2.1,r0.2.2.2.2.2.2.1,r0.2.2.2.1,r0.2.2.2.2.1,r0.2.2.2.2.2.2.2) else
 bif i.1==12 then (let q:=rDo c.1 op r.1 (bif src==6 then g1 else rGet r src) (flOf r);wA (wF r0 q.2) q.1) else
 bif i.1==13 then (let q:=rDo c.1 op r.1 g1 (flOf r);wA (wF r0 q.2) q.1) else
 bif i.1==14 then (let q:=rInr c.1 (bif dst==6 then g1 else rGet r dst) (flOf r);rSet (wF r0 q.2) dst q.1) else
 bif i.1==15 then (let q:=rDcr c.1 (bif dst==6 then g1 else rGet r dst) (flOf r);rSet (wF r0 q.2) dst q.1) else
 bif i.1==16 then (let q:=rInx c.1 (Zae r pr) (flOf r);Zt (wF r0 q.2) pr q.1) else
 bif i.1==17 then (let q:=rDcx c.1 (Zae r pr) (flOf r);Zt (wF r0 q.2) pr q.1) else
 bif i.1==18 then (let q:=rDad c.1 (Zae r 2) (Zae r pr) (flOf r);Zt (wF r0 q.2) 2 q.1) else
 bif i.1==19 then (let q:=rDaa c.1 r.1 (flOf r);wA (wF r0 q.2) q.1) else
 bif i.1==20 then wA r0 (notI .u8 r.1) else
 bif i.1==21 then wF r0 (fCY (flOf r) true) else
 bif i.1==22 then wF r0 (fCY (flOf r) (!(flOf r).2.2.2.2.2.2)) else
 bif i.1==23 then (let q:=rRot op r.1 (flOf r).2.2.2.2.2.2;wA (wF r0 (fCY (flOf r) q.2)) q.1) else
 bif i.1==24 then (bif tk then wPC r0 (ZbB g 1) else r0) else
 bif i.1==25 then (bif tk then wPC (wSP r0 (IntKind.wrap .u16 (ZeU r-2))) (ZbB g 1) else r0) else
 bif i.1==26 then (bif tk then wPC (wSP r0 (IntKind.wrap .u16 (ZeU r+2))) (ZbB g 1) else r0) else
 bif i.1==27 then wPC (wSP r0 (IntKind.wrap .u16 (ZeU r-2))) (IntKind.wrap .u16 (IntKind.wrap .i64 (8*i.2.2.2.2.2.2.2))) else
 bif i.1==28 then wPC r0 (Zae r 2) else
 bif i.1==29 then wSP r0 (Zae r 2) else
 bif i.1==30 then wSP r0 (IntKind.wrap .u16 (ZeU r-2)) else
 bif i.1==31 then (let q:=bif pr==3 then ZoB c.1 r0 (ZbB g 1) else Zt r0 pr (ZbB g 1);wSP q (IntKind.wrap .u16 (ZeU q+2))) else
 bif i.1==32 then Zt r0 2 (ZbB g 1) else
 bif i.1==33 then wA r0 (g.getD 2 0) else
 bif i.1==40 then (let q:=ZIG (Zae r 2) (Zae r 0);Zt (wF r0 q.2) 2 q.1) else
 bif i.1==41 then (let q:=ZBI (Zae r 2);Zt (wF r0 (fCY (flOf r) q.2)) 2 q.1) else
 bif i.1==42 then (let q:=ZIk (Zae r 1) (flOf r).2.2.2.2.2.2;Zt (wF r0 (fVCY (flOf r) q.2.2 q.2.1)) 1 q.1) else
 bif i.1==43 then Zt r0 1 (IntKind.wrap .u16 (Zae r 2+IntKind.wrap .u16 g1)) else
 bif i.1==44 then Zt r0 1 (IntKind.wrap .u16 (ZeU r+IntKind.wrap .u16 g1)) else
 bif i.1==45 then (bif tk then wPC (wSP r0 (IntKind.wrap .u16 (ZeU r-2))) 64 else r0) else
 bif i.1==47 then Zt r0 2 (ZbB g 1) else
 r0
def finI (c:CpuT) (inj:Bool) (g:List Int) (l:QT0) (i:InsT):CpuT:=
 let r0:=wPC c.2.1 (ZO c inj i)
 let d:CpuT:=(c.1,r0,c.2.2.1,false,false,c.2.2.2.2.2)
 bif i.1==38 then (let q:=rRim d l;(q.2.1,wA q.2.2.1 q.1,q.2.2.2)) else
 bif i.1==39 then rSim d c.2.1.1 else
 (c.1,finR c c.2.1 r0 g i,bif i.1==35 then true else bif i.1==36 then false else c.2.2.1,i.1==35,i.1==37,c.2.2.2.2.2)
def finX (c:CpuT) (s:Int) (g:List Int) (l:QT0):CpuT:=
 bif Za s then (c.1,wPC (wSP c.2.1 (IntKind.wrap .u16 (spOf c-2))) (Zu s),c.2.2)
 else finI c (s==5) g l (Zc c.1 (g.getD 0 0))
theorem ZJY (c:CpuT) (l):(rRim c l).2=(c.1,c.2.1,c.2.2.1,c.2.2.2.1,c.2.2.2.2.1,c.2.2.2.2.2.1,c.2.2.2.2.2.2.1,c.2.2.2.2.2.2.2.1,c.2.2.2.2.2.2.2.2.1,c.2.2.2.2.2.2.2.2.2.1,false,false,c.2.2.2.2.2.2.2.2.2.2.2.2):=by
 have h3:∀b,Zaj b 3=true:=λb=>by cases b<;>rfl
 have h4:∀b,Zaj b 4=true:=λb=>by cases b<;>rfl
 have h5:∀b,Zaj b 5=true:=λb=>by cases b<;>rfl
 have h6:∀b,Zaj b 6=true:=λb=>by cases b<;>rfl
 have h7:∀b,Zaj b 7=true:=λb=>by cases b<;>rfl
 simp only[rRim,ZEc,RT.val,h3,h4,h5,h6,h7,Yf,Yk,Ya,getO]
theorem Zf5 (s):Zsd s=true/\Zy1 s=bif (s.2.2.2.1.1==13||s.2.2.2.1.2.2.2.1==6) then s.2.2.1.getD 1 0 else rGet s.1.2.1 s.2.2.2.1.2.2.2.1:=by simp only[Zsd,Zy1,Zk6,RT.val,qat1,ZaM];cases (s.2.2.2.1.1==13||s.2.2.2.1.2.2.2.1==6)<;>simp[okB,getO]
theorem ZeW (r:RegT) (f:FlgT) (pc n v:Int):rSet (r.1,r.2.1,r.2.2.1,r.2.2.2.1,r.2.2.2.2.1,r.2.2.2.2.2.1,r.2.2.2.2.2.2.1,f,r.2.2.2.2.2.2.2.2.1,pc) n v=
  ((rSet r n v).1,(rSet r n v).2.1,(rSet r n v).2.2.1,(rSet r n v).2.2.2.1,(rSet r n v).2.2.2.2.1,(rSet r n v).2.2.2.2.2.1,(rSet r n v).2.2.2.2.2.2.1,f,(rSet r n v).2.2.2.2.2.2.2.2.1,pc):=rfl
theorem ZeY (r:RegT) (n v:Int):(rSet r n v).2.2.2.2.2.2.2.1=r.2.2.2.2.2.2.2.1:=rfl
theorem ZeX (r:RegT) (n v:Int):(rSet r n v).2.2.2.2.2.2.2.2=r.2.2.2.2.2.2.2.2:=rfl
theorem ZiG (r:RegT) (f:FlgT) (pc n v:Int):Zt (r.1,r.2.1,r.2.2.1,r.2.2.2.1,r.2.2.2.2.1,r.2.2.2.2.2.1,r.2.2.2.2.2.2.1,f,r.2.2.2.2.2.2.2.2.1,pc) n v=
  ((Zt r n v).1,(Zt r n v).2.1,(Zt r n v).2.2.1,(Zt r n v).2.2.2.1,(Zt r n v).2.2.2.2.1,(Zt r n v).2.2.2.2.2.1,(Zt r n v).2.2.2.2.2.2.1,f,(Zt r n v).2.2.2.2.2.2.2.2.1,pc):=by simp only[Zt,ZgY,RT.val];cases (andI i64 n 3==3)<;>rfl
theorem ZiH (r:RegT) (n v:Int):(Zt r n v).2.2.2.2.2.2.2.1=r.2.2.2.2.2.2.2.1:=by simp only[Zt,ZgY,RT.val];cases (andI i64 n 3==3)<;>rfl
theorem ZLA (r:RegT) (f:FlgT) (sp pc n:Int):ZA1 (r.1,r.2.1,r.2.2.1,r.2.2.2.1,r.2.2.2.2.1,r.2.2.2.2.2.1,r.2.2.2.2.2.2.1,f,sp,pc) n=ZA1 r n:=rfl
theorem ZdI (r:RegT) (f:FlgT) (pc n:Int):Zae (r.1,r.2.1,r.2.2.1,r.2.2.2.1,r.2.2.2.2.1,r.2.2.2.2.2.1,r.2.2.2.2.2.2.1,f,r.2.2.2.2.2.2.2.2.1,pc) n=Zae r n:=by simp only[Zae,ZrY,RT.val,rGet,ZvX,ZLA]
theorem bnat {x:Int} (h:inR .u8 x):∃a:Nat,x=a/\a<256:=by rw[Zhx] at h;exact⟨x.toNat,by omega,by omega⟩
theorem w16 {n:Nat} (h:n<65536):IntKind.wrap .u16 (n:Int)=n:=Zua ⟨by simp[IntKind.min,IntKind.signed],by simp[IntKind.max,IntKind.signed,IntKind.bits];omega⟩
variable {h l:Int}
theorem ZzR (hh:inR .u8 h) (hl:inR .u8 l):ZcG h l=256*h+l:=by
 obtain⟨a,rfl,ha⟩:=bnat hh;obtain⟨b,rfl,hb⟩:=bnat hl;have e1:shlI .u16 (IntKind.wrap .u16 (a:Int)) 8=((a*256:Nat):Int):=by
  rw[w16 (by omega)];simp only[shlI];have:((a:Int)*2^min (8:Int).toNat u16.bits)=((a*256:Nat):Int):=by simp[IntKind.bits]
  rw[this,w16 (by omega)]
 have e2:(BitVec.ofInt u16.bits ((a*256:Nat):Int)|||BitVec.ofInt u16.bits (b:Int)).toNat=a*256+b:=by
  rw[BitVec.toNat_or,BitVec.toNat_ofInt,BitVec.toNat_ofInt];have k1:(((a*256:Nat):Int)%((2^u16.bits:Nat):Int)).toNat=a*256:=by simp[IntKind.bits];omega
  have k2:((b:Int)%((2^u16.bits:Nat):Int)).toNat=b:=by simp[IntKind.bits];omega
  rw[k1,k2];have:=Nat.shiftLeft_add_eq_or_of_lt (i:=8) (b:=b) (by omega) a;rw[Nat.shiftLeft_eq] at this;exact this.symm
 show orI .u16 (shlI .u16 (IntKind.wrap .u16 (a:Int)) 8) (IntKind.wrap .u16 (b:Int))=_;rw[e1,w16 (by omega)];simp only[orI];rw[e2,w16 (by omega)];omega
theorem ZMD (hh:inR .u8 h) (hl:inR .u8 l):IntKind.wrap .u8 (ZcG h l)=l:=by rw[ZzR hh hl];rw[Zhx] at hl;simp[IntKind.wrap,IntKind.signed,IntKind.bits];omega
theorem ZME (hh:inR .u8 h) (hl:inR .u8 l):IntKind.wrap .u8 (shrI .u16 (ZcG h l) 8)=h:=by
 rw[ZzR hh hl];rw[Zhx] at hl hh;have:shrI .u16 (256*h+l) 8=h:=by
  simp only[shrI];have:((2:Int)^min (8:Int).toNat u16.bits)=256:=by decide
  rw[this,Int.fdiv_eq_ediv_of_nonneg _ (by decide)];omega
 rw[this];simp[IntKind.wrap,IntKind.signed,IntKind.bits];omega
theorem ZdH (r:RegT) (hh:inR .u8 h) (hl:inR .u8 l):Zt r 2 (ZcG h l)=(r.1,r.2.1,r.2.2.1,r.2.2.2.1,r.2.2.2.2.1,h,l,r.2.2.2.2.2.2.2):=by
 have e:Zt r 2 (ZcG h l)=(r.1,r.2.1,r.2.2.1,r.2.2.2.1,r.2.2.2.2.1,IntKind.wrap .u8 (shrI .u16 (ZcG h l) 8),IntKind.wrap .u8 (ZcG h l),r.2.2.2.2.2.2.2):=by generalize ZcG h l=v;rfl
 rw[e,ZMD hh hl,ZME hh hl]
theorem ZiK (x:Int):IntKind.wrap .u8 (255-x)=notI .u8 x:=by
 have e:notI .u8 x=IntKind.wrap .u8 ((~~~ (BitVec.ofInt 8 x)).toNat:Int):=by
  show IntKind.wrap .u8 (((BitVec.ofInt 8 255)^^^(BitVec.ofInt 8 x)).toNat:Int)=_;have:BitVec.ofInt 8 255=BitVec.allOnes 8:=by decide
  rw[this,BitVec.allOnes_xor]
 have h1:(BitVec.ofInt 8 x).toNat=(x%256).toNat:=BitVec.toNat_ofInt ..;have h2:((x%256).toNat:Int)=x%256:=by omega
 rw[e,BitVec.toNat_not,h1];have h3:((2^8-1-(x%256).toNat:Nat):Int)=255-x%256:=by omega
 rw[h3];simp[IntKind.wrap,IntKind.signed,IntKind.bits]
end
end Go.Proofs.YtpnjbfjomebppaaGreat
