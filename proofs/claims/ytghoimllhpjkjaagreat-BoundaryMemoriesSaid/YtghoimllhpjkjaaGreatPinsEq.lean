import Derived.Test.YtghoimllhpjkjaaGreatLeafs
import Derived.Test.YtghoimllhpjkjaaGreatS3D
import Derived.Test.YtghoimllhpjkjaaGreatProg
open Go.Proofs.Tryz (prog)
open Go.IntKind (u8 u16 i64)
open Go Go.S3 Go.Proofs
set_option linter.unusedVariables false
set_option linter.unusedSimpArgs false
set_option maxRecDepth 100000
namespace Go.Proofs.YtghoimllhpjkjaaGreat
noncomputable section
theorem ZxK (b:Int) (h:inR .u8 b):Zlo b=true/\Zuc b=Zmz b:=by
 have h1:=ZfH (λb=>Zlo b&&(Zuc b==Zmz b)) (by kernel_rfl) b h
 simpa using h1
theorem Zyr (a b c:Bool):pMaj a b c=rMaj a b c:=by cases a<;>cases b<;>cases c<;>rfl
theorem ZWk (a:Bool):pOne a=rOne a:=by cases a<;>rfl
theorem ZMz (a b:Int) (c:Bool):pSum a b c=rSum a b c:=by
 simp only[pSum,ZYb,rSum,ZSP,RT.val,Bool.cond_self,ZnC,Zlm,Zed,Zlb,ZWk]
theorem ZDE (a b:Int) (c:Bool):ZhM a b c=ZcH a b c:=by
 have h1:=Z0S a
 have h2:=Z0S b
 have e:IntKind.wrap .i64 (IntKind.wrap .i64 (IntKind.wrap .i64 (IntKind.wrap .i64 (andI .u8 a 15)+15)-IntKind.wrap .i64 (andI .u8 b 15))+1)=IntKind.wrap .i64 (IntKind.wrap .i64 (IntKind.wrap .i64 (andI .u8 a 15)+IntKind.wrap .i64 (IntKind.wrap .u8 (15-andI .u8 b 15)))+1):=by
  rw[ZWF]
  rw[wrap_i64 (andI .u8 a 15) (by omega) (by omega),wrap_i64 (andI .u8 b 15) (by omega) (by omega),wrap_i64 ((15-andI .u8 b 15)%256) (by omega) (by omega),wrap_i64 (andI .u8 a 15+15) (by omega) (by omega)]
  congr 1;rw[wrap_i64 _ (by omega) (by omega),wrap_i64 _ (by omega) (by omega)];omega
 simp only[ZhM,ZPY,ZcH,ZFN,RT.val,Bool.cond_self,ZnC,Zlm,Zed,Zlb,ZWk,e]
theorem Zvx (a b:Int):ZPz a b=ZcS a b:=rfl
theorem ZRJ (b:Bool) (n:Int) (h:0<=n):ZeM b n=true/\pBit b n=bif b then shlI .u8 1 n else 0:=by
 cases b<;>simp[ZeM,pBit,ZTW,RT.val,h,okB,getO]
theorem Zea (b:Bool) (n:Int) (h:0<=n):ZdL b n=true/\rBit b n=bif b then shlI .u8 1 n else 0:=by
 cases b<;>simp[ZdL,rBit,ZTh,RT.val,h,okB,getO]
theorem ZaU (chip:Int):rOn chip=(chip==2):=rfl
theorem Z0m (chip:Int) (f):ZGg chip f=true:=by
 cases h:chip==2<;>simp[ZGg,ZxV,RT.val,ZRJ,okB,h]
theorem ZMW (chip:Int) (f):ZFr chip f=true:=by
 cases h:chip==2<;>simp[ZFr,Zxm,RT.val,Zea,ZaU,okB,h]
theorem ZYa (chip:Int) (f):ZTD chip f=ZS3 chip f:=by
 simp only[ZTD,ZxV,ZS3,Zxm,RT.val,ZRJ,Zea,ZaU];cases chip==2<;>simp[ZRJ,Zea,getO]
theorem of_C (r:Int) (h:inR .u8 r):pOfC r=true:=by simp[pOfC,pOfT,RT.val,ZxK r h,okB]
theorem Zx8 (r:Int) (h:inR .u8 r):pOf r=rOf r:=by simp[pOf,pOfT,rOf,rOfT,RT.val,ZxK r h,getO]
theorem ZZc (r) (n:Int):ZBh r n=true:=by
 have:=and7 n
 have h:decide (0<=andI .i64 n 7/\andI .i64 n 7<8)=true:=by simp;omega
 simp only[ZBh,ZBf,RT.val,h,cond_true,okB]
theorem ZRq {m:Int} (h:0<=m/\m<=7):m=0\/m=1\/m=2\/m=3\/m=4\/m=5\/m=6\/m=7:=by omega
theorem ZOP (r) (n:Int):pGet r n=rGet r n:=by
 have h7:=and7 n
 have h:decide (0<=andI .i64 n 7/\andI .i64 n 7<8)=true:=by simp;omega
 simp only[pGet,ZYx,rGet,ZBf,RT.val,h,cond_true,getO]
 generalize andI .i64 n 7=m at*
 rcases ZRq h7 with rfl|rfl|rfl|rfl|rfl|rfl|rfl|rfl<;>rfl
theorem ZOJ (r) (n v:Int):pSet r n v=rSet r n v:=by
 have h7:=and7 n
 simp only[pSet,ZYe,rSet,ZXz,RT.val,cond_true,getO]
 generalize andI .i64 n 7=m at*
 rcases ZRq h7 with rfl|rfl|rfl|rfl|rfl|rfl|rfl|rfl<;>rfl
theorem ZTl (r) (n:Int):ZYm r n=Zan r n:=by
 simp only[ZYm,ZPe,Zan,ZqO,RT.val,ZOP,ZZc,Zvx]
 cases andI .i64 n 3==3<;>simp[okB,getO]
theorem ZXp (r) (n:Int):ZNz r n=true:=by
 simp only[ZNz,ZqO,RT.val,ZZc]
 cases andI .i64 n 3==3<;>simp[okB]
theorem ZBB (r) (n v:Int):Zt3 r n v=Zr r n v:=by
 simp only[Zt3,ZnD,Zr,Zgc,RT.val,ZOJ]
theorem ZOL (chip:Int) (r):ZYo chip r=true/\pPSW chip r=rPSW chip r:=by
 simp[ZYo,pPSW,ZTE,rPSW,ZNC,RT.val,Z0m,ZMW,ZYa,Zvx,okB,getO]
theorem ZZV (chip:Int) (r):ZXH chip r=true:=by simp[ZXH,ZNC,RT.val,ZMW,okB]
theorem ZLW (chip:Int) (b:Int):Zt1 chip b=Zsx chip b:=by
 simp only[Zt1,Zt0,Zsx,Zsw,RT.val,ZaU]
theorem ZI4 (chip:Int) (r) (v:Int):ZBL chip r v=Zge chip r v:=by
 simp only[ZBL,Zt4,Zge,Zlc,RT.val,ZLW]
theorem ZUk (c:Int) (f):ZPF c f=ZeC c f:=by
 simp only[ZPF,ZCD,ZeC,ZBe,RT.val]
 by_cases h:0<=c/\c<=11
 ·have:c=0\/c=1\/c=2\/c=3\/c=4\/c=5\/c=6\/c=7\/c=8\/c=9\/c=10\/c=11:=by omega
  rcases this with rfl|rfl|rfl|rfl|rfl|rfl|rfl|rfl|rfl|rfl|rfl|rfl<;>simp
 ·have e:∀k:Int,0<=k->k<=11->(c==k)=false:=λk h1 h2=>by simp;omega
  simp[e]
theorem ZwF (a b:Int) (c:Bool):inR .u8 (rSum a b c).1:=by
 simp only[rSum,ZSP,RT.val,Bool.cond_self];exact Zbh _ _
theorem Zpx (a b:Int) (c:Bool):inR .u8 (ZcH a b c).1:=by
 simp only[ZcH,ZFN,RT.val,Bool.cond_self];exact Zbh _ _
theorem Zki (a b:Int):inR .u8 (andI .u8 a b)/\inR .u8 (orI .u8 a b)/\inR .u8 (xorI .u8 a b):=Zha _ _ _
theorem ZwT (chip v r:Int) (half over x:Bool) (f) (h:inR .u8 r):ZiI chip v r half over x f=true/\
  ZnI chip v r half over x f=ZpS chip ((rOf r).1,(rOf r).2.1,(rOf r).2.2.1,half,(rOf r).2.2.2.2.1,(rOf r).2.2.2.2.2.1,f.2.2.2.2.2.2) (rMaj (decide (v>=128)) x (decide (r>=128))) over:=by
 cases hc:chip==2<;>simp[ZiI,ZnI,Zln,ZpS,ZqP,RT.val,of_C r h,Zx8 r h,okB,getO,ZaU,hc,Zyr,rOf,rOfT]
theorem ZON (chip v:Int) (f):ZYv chip v f=true/\pInr chip v f=rInr chip v f:=by
 have h:=ZwT chip v (rSum v 1 false).1 (rSum v 1 false).2.2.1 (rSum v 1 false).2.2.2 false f (ZwF _ _ _)
 simp only[ZYv,pInr,ZTJ,rInr,ZXN,RT.val,ZMz,h.1,h.2,cond_true,okB,getO,and_self]
theorem ZOS (chip v:Int) (f):ZYI chip v f=true/\pDcr chip v f=rDcr chip v f:=by
 have h:=ZwT chip v (ZcH v 1 false).1 (ZcH v 1 false).2.2.1 (ZcH v 1 false).2.2.2 true f (Zpx _ _ _)
 simp only[ZYI,pDcr,ZTS,rDcr,ZXW,RT.val,ZDE,h.1,h.2,cond_true,okB,getO,and_self]
theorem ZX6 (chip v:Int) (f):pInx chip v f=rInx chip v f:=by
 simp only[pInx,ZYt,rInx,ZXK,RT.val,ZaU]
theorem ZX8 (chip v:Int) (f):pDcx chip v f=rDcx chip v f:=by
 simp only[pDcx,ZYG,rDcx,ZXT,RT.val,ZaU]
theorem ZOT (chip a:Int) (f):ZYM chip a f=true/\pDaa chip a f=rDaa chip a f:=by
 have h:=λx=>of_C _ (ZwF a x false)
 have h2:=λx=>Zx8 _ (ZwF a x false)
 cases hc:chip==2<;>simp[ZYM,pDaa,ZTU,rDaa,ZX1,ZpS,ZqP,RT.val,ZMz,h,h2,okB,getO,ZaU,hc,Zyr,rOf,rOfT]
theorem ZF7 (a b:Int):ZPV a b=true/\ZYB a b=Zxw a b:=by
 have h:=λx y z=>of_C _ (Zpx x y z)
 have h2:=λx y z=>Zx8 _ (Zpx x y z)
 simp[ZPV,ZYB,ZGw,Zxw,ZOh,RT.val,ZDE,h,h2,okB,getO,Zyr,Zvx,rOf,rOfT,Bool.cond_self]
theorem ZTp (v:Int):Z0A v=ZtM v:=rfl
theorem ZWp (c:Bool):pLow c=bif c then 1 else 0:=by cases c<;>rfl
theorem ZOK (op a:Int) (c:Bool):ZYg op a c=true/\pRot op a c=rRot op a c:=by
 have h3:=and3 op
 simp only[ZYg,pRot,ZTw,rRot,ZNg,RT.val,ZWp,(Zea c 0 (by decide)).1,(Zea c 0 (by decide)).2,(Zea c 7 (by decide)).1,(Zea c 7 (by decide)).2]
 generalize andI .i64 op 3=m at*
 have:m=0\/m=1\/m=2\/m=3:=by omega
 rcases this with rfl|rfl|rfl|rfl<;>cases c<;>exact⟨rfl,rfl⟩
theorem ZZU (op a:Int) (c:Bool):ZXC op a c=true:=by
 have h3:=and3 op
 simp only[ZXC,ZNg,RT.val,(Zea c 0 (by decide)).1,(Zea c 7 (by decide)).1]
 generalize andI .i64 op 3=m at*
 have:m=0\/m=1\/m=2\/m=3:=by omega
 rcases this with rfl|rfl|rfl|rfl<;>rfl
theorem ZTk (v:Int) (c:Bool) (h:inR .u16 v):ZYl v c=Zxi v c:=by
 have hb:=Zea c 0 (by decide)
 have e:IntKind.wrap .u16 (bif c then 1 else 0)=IntKind.wrap .u16 (bif c then shlI .u8 1 0 else 0):=by cases c<;>rfl
 have hr:∀x,inR .u16 (orI .u16 x (IntKind.wrap .u16 (bif c then shlI .u8 1 0 else 0))):=λx=>(Zha _ _ _).2.1
 simp only[ZYl,ZPc,Zxi,Zxh,RT.val,ZWp,hb.1,hb.2,cond_true,getO,e]
 rw[ZrB _ (Zha _ _ _).2.2,ZMv _ _ (hr _) h,ZDR _ (hr _),ZDR _ h]
 cases tb (orI .u16 (shlI .u16 v 1) (IntKind.wrap .u16 (bif c then shlI .u8 1 0 else 0)))<;>cases tb v<;>rfl
theorem ZXo (v:Int) (c:Bool):ZNo v c=true:=by
 have hb:=Zea c 0 (by decide)
 simp[ZNo,Zxh,RT.val,hb.1,okB]
theorem ZX9 (chip a b:Int) (f) (ha:inR .u16 a) (hb:inR .u16 b):pDad chip a b f=rDad chip a b f:=by
 have hr:inR .u16 (IntKind.wrap .u16 (a+b)):=Zbh _ _
 have ha':=ZhT.1 ha
 have hb':=ZhT.1 hb
 simp only[pDad,ZYK,rDad,ZXY,RT.val,ZaU]
 rw[ZrB _ (Zha _ _ _).1,ZVd _ _ (Zha _ _ _).2.2 (Zha _ _ _).2.2,ZMv _ _ ha hr,ZMv _ _ hb hr]
 have e1:decide (IntKind.wrap .u16 (a+b)<a)=decide (IntKind.wrap .i64 (IntKind.wrap .i64 a+IntKind.wrap .i64 b)>65535):=by
  rw[ZrC,wrap_i64 a (by omega) (by omega),wrap_i64 b (by omega) (by omega),wrap_i64 (a+b) (by omega) (by omega)]
  simp only[decide_eq_decide];omega
 have e2:(((tb a)^^(tb (IntKind.wrap .u16 (a+b))))&&((tb b)^^(tb (IntKind.wrap .u16 (a+b)))))=(decide (IntKind.wrap .i64 (IntKind.wrap .i64 (IntKind.wrap .i16 a)+IntKind.wrap .i64 (IntKind.wrap .i16 b))< -32768)||decide (IntKind.wrap .i64 (IntKind.wrap .i64 (IntKind.wrap .i16 a)+IntKind.wrap .i64 (IntKind.wrap .i16 b))>32767)):=by
  have ia:=ZDS a
  have ib:=ZDS b
  have hia: -32768<=IntKind.wrap .i16 a/\IntKind.wrap .i16 a<=32767:=by rw[ia];split<;>omega
  have hib: -32768<=IntKind.wrap .i16 b/\IntKind.wrap .i16 b<=32767:=by rw[ib];split<;>omega
  rw[wrap_i64 (IntKind.wrap .i16 a) (by omega) (by omega),wrap_i64 (IntKind.wrap .i16 b) (by omega) (by omega),wrap_i64 (IntKind.wrap .i16 a+IntKind.wrap .i16 b) (by omega) (by omega)]
  rw[ia,ib,ZrC]
  unfold tb
  by_cases h1:a>=32768<;>by_cases h2:b>=32768<;>by_cases h3:(a+b)%65536>=32768<;>simp[h1,h2,h3]<;>(try split)<;>(try split)<;>omega
 rw[e1,e2]
theorem ZBC (c l):ZYi c l=true/\pRim c l=rRim c l/\ZXE c l=true:=by
 have h:∀b n,0<=n->ZcW b n=true/\ZxS b n=bif b then shlI .u8 1 n else 0:=λb n h=>by
  cases b<;>simp[ZcW,ZxS,ZGb,RT.val,h,okB,getO]
 have h3:∀b,Zay b 3=true/\Zgj b 3=bif b then shlI .u8 1 3 else 0:=λb=>by cases b<;>exact⟨rfl,rfl⟩
 have h4:∀b,Zay b 4=true/\Zgj b 4=bif b then shlI .u8 1 4 else 0:=λb=>by cases b<;>exact⟨rfl,rfl⟩
 have h5:∀b,Zay b 5=true/\Zgj b 5=bif b then shlI .u8 1 5 else 0:=λb=>by cases b<;>exact⟨rfl,rfl⟩
 have h6:∀b,Zay b 6=true/\Zgj b 6=bif b then shlI .u8 1 6 else 0:=λb=>by cases b<;>exact⟨rfl,rfl⟩
 have h7:∀b,Zay b 7=true/\Zgj b 7=bif b then shlI .u8 1 7 else 0:=λb=>by cases b<;>exact⟨rfl,rfl⟩
 simp[ZYi,pRim,ZTy,ZXE,rRim,ZNj,RT.val,h,h3,h4,h5,h6,h7,okB,getO]
theorem ZX5 (c) (a:Int):pSim c a=rSim c a:=by
 simp only[pSim,ZYd,rSim,ZNa,RT.val]
theorem ZI0 (s:Int):ZBH s=Zi s:=by
 simp only[ZBH,ZtZ,Zi,Zst,RT.val]
theorem ZOM (chip op a b:Int):Zuo chip op a b=true/\∀f,(andI .i64 op 7=op)->4<=op->op<=6->ZGl chip op a b=rDo chip op a b f:=by
 have h:=λx y=>of_C _ (Zki x y).1
 have h':=λx y=>of_C _ (Zki x y).2.1
 have h'':=λx y=>of_C _ (Zki x y).2.2
 have g:=λx y=>Zx8 _ (Zki x y).1
 have g':=λx y=>Zx8 _ (Zki x y).2.1
 have g'':=λx y=>Zx8 _ (Zki x y).2.2
 have h0:=of_C 0 (by rw[ZgB];omega)
 constructor
 ·cases h4:op==4<;>cases h5:op==5<;>cases h6:op==6<;>simp[Zuo,Zon,RT.val,h,h',h'',h0,okB,h4,h5,h6]
 ·intro f e h4 h6
  have:op=4\/op=5\/op=6:=by omega
  rcases this with rfl|rfl|rfl<;>cases hc:chip==2<;>simp[ZGl,Zon,rDo,rDoT,RT.val,h,h',h'',g,g',g'',getO,e,ZaU,hc,ZpS,ZqP,rOf,rOfT,Zyr]
theorem ZV0 (chip op a b:Int) (f):pDoC chip op a b f=true/\pDo chip op a b f=rDo chip op a b f:=by
 have h7:=and7 op
 have hs:=λx=>of_C _ (ZwF a b x)
 have hs2:=λx=>Zx8 _ (ZwF a b x)
 have hd:=λx=>of_C _ (Zpx a b x)
 have hd2:=λx=>Zx8 _ (Zpx a b x)
 have hl:=ZOM chip (andI .i64 op 7) a b
 have hlt:decide (b<128)= !decide (128<=b):=by
  by_cases h:b<128
  ·have:¬128<=b:=by omega
   simp[h,this]
  ·have:128<=b:=by omega
   simp[h,this]
 have hr:rDo chip (andI .i64 op 7) a b f=rDo chip op a b f:=by
  have:andI .i64 (andI .i64 op 7) 7=andI .i64 op 7:=by
   generalize andI .i64 op 7=m at*
   rcases ZRq h7 with rfl|rfl|rfl|rfl|rfl|rfl|rfl|rfl<;>rfl
  simp only[rDo,rDoT,this]
 have he:andI .i64 (andI .i64 op 7) 7=andI .i64 op 7:=by
  generalize andI .i64 op 7=m at*
  rcases ZRq h7 with rfl|rfl|rfl|rfl|rfl|rfl|rfl|rfl<;>rfl
 rw[<-hr]
 have hl2:=hl.2 f he
 have hl1:=hl.1
 clear hl hr
 simp only[pDoC,pDo,pDoT,RT.val]
 generalize andI .i64 op 7=m at*
 rcases ZRq h7 with rfl|rfl|rfl|rfl|rfl|rfl|rfl|rfl
 case inr.inr.inr.inr.inl=>simp[hl1,hl2,okB,getO]
 case inr.inr.inr.inr.inr.inl=>simp[hl1,hl2,okB,getO]
 case inr.inr.inr.inr.inr.inr.inl=>simp[hl1,hl2,okB,getO]
 all_goals cases hc:chip==2<;>simp[rDo,rDoT,RT.val,ZMz,ZDE,hs,hs2,hd,hd2,okB,getO,he,ZaU,hc,ZpS,ZqP,rOf,rOfT,Zyr,hlt]
theorem ZOR (chip op:Int) (h:chip≠2):(Zfu chip op).val=(Zfu 0 op).val:=by
 have h1:(chip==2)=false:=by simpa using h
 have h0:((0:Int)==2)=false:=rfl
 simp only[Zfu,RT.val,h1,h0]
theorem Zmj (chip op:Int) (h:chip≠2):(Zfs chip op).val=(Zfs 0 op).val:=by
 have h1:rOn chip=false:=by simpa [ZaU] using h
 have h0:rOn 0=false:=rfl
 simp only[Zfs,RT.val,h1,h0]
def decT (chip op:Int):Bool:=okB (Zfu chip op).val&&okB (Zfs chip op).val&&(Zor chip op==Zb chip op)
theorem dec_ok (chip op:Int) (h:inR .u8 op):Zlq chip op=true/\Zor chip op=Zb chip op/\Zlj chip op=true:=by
 have fin:∀c,decT c op=true->Zlq c op=true/\Zor c op=Zb c op/\Zlj c op=true:=by
  intro c hc
  simp only[decT,Bool.and_eq_true,beq_iff_eq] at hc
  exact⟨hc.1.1,hc.2,hc.1.2⟩
 by_cases hc:chip=2
 ·subst hc;exact fin 2 (ZfH (decT 2) (by kernel_rfl) op h)
 ·have:=fin 0 (ZfH (decT 0) (by kernel_rfl) op h)
  unfold Zlq Zor Zb Zlj at this|-
  rw[ZOR chip op hc,Zmj chip op hc];exact this
def Zup:Entry:=Zg ZCB ZCC (λ_=>none) (λa=>ZcS a.1 a.2)
theorem ZxX:Za prog 236 Zup:=Zlp.tot (λa h=>by simp) (λa h=>Zvx _ _)
def ZWf:Entry:=Zg ZPH ZPI (λ_=>none) (λa=>rGet a.1 a.2)
theorem ZTK:Za prog 287 ZWf:=ZPG.tot (λa h=>by simp) (λa h=>ZOP _ _)
def Znl:Entry:=Zg ZN0 ZFF (λ_=>none) (λa=>rGet a.1 a.2)
theorem Zs3:Za prog 163 Znl:=ZNZ.tot (λa h=>by have h1:=ZZc a.1 a.2;simp[h1]) (λa h=>rfl)
def ZxR:Entry:=Zg ZO0 ZO1 (λ_=>none) (λa=>rSet a.1 a.2.1 a.2.2)
theorem ZGa:Za prog 268 ZxR:=ZOZ.tot (λa h=>by simp) (λa h=>ZOJ _ _ _)
def ZPg:Entry:=Zg ZBS ZBT (λ_=>none) (λa=>Zan a.1 a.2)
theorem ZPf:Za prog 286 ZPg:=ZTB.tot (λa h=>by simp) (λa h=>ZTl _ _)
def Zgf:Entry:=Zg ZAq ZsK (λ_=>none) (λa=>Zan a.1 a.2)
theorem Zit:Za prog 158 Zgf:=ZS1.tot (λa h=>by have h1:=ZXp a.1 a.2;simp[h1]) (λa h=>rfl)
def Zcb:Entry:=Zg ZjM ZjN (λ_=>none) (λa=>Zr a.1 a.2.1 a.2.2)
theorem ZeD:Za prog 269 Zcb:=ZBJ.tot (λa h=>by simp) (λa h=>ZBB _ _ _)
def ZPj:Entry:=Zg ZPi ZGh (λ_=>none) (λa=>rPSW a.1 a.2)
theorem ZTF:Za prog 290 ZPj:=ZYn.tot (λa h=>by have h1:=(ZOL a.1 a.2).1;simp[h1]) (λa h=>(ZOL _ _).2)
def ZND:Entry:=Zg ZNB ZFs (λ_=>none) (λa=>rPSW a.1 a.2)
theorem ZS4:Za prog 171 ZND:=ZXG.tot (λa h=>by have h1:=ZZV a.1 a.2;simp[h1]) (λa h=>rfl)
def ZnG:Entry:=Zg ZnE ZnF (λ_=>none) (λa=>Zge a.1 a.2.1 a.2.2)
theorem ZBK:Za prog 281 ZnG:=ZJb.tot (λa h=>by simp) (λa h=>ZI4 _ _ _)
def ZYE:Entry:=Zg ZYC ZTP (λ_=>none) (λa=>rDo a.1 a.2.1 a.2.2.1 a.2.2.2.1 a.2.2.2.2)
theorem ZYD:Za prog 271 ZYE:=Z0x.tot (λa h=>by have h1:=(ZV0 a.1 a.2.1 a.2.2.1 a.2.2.2.1 a.2.2.2.2).1;simp[h1]) (λa h=>(ZV0 _ _ _ _ _).2)
def ZGr:Entry:=Zg ZPD ZGp (λ_=>none) (λa=>rInr a.1 a.2.1 a.2.2)
theorem ZGq:Za prog 273 ZGr:=ZYu.tot (λa h=>by have h1:=(ZON a.1 a.2.1 a.2.2).1;simp[h1]) (λa h=>(ZON _ _ _).2)
def ZGB:Entry:=Zg ZP3 ZGz (λ_=>none) (λa=>rDcr a.1 a.2.1 a.2.2)
theorem ZGA:Za prog 274 ZGB:=ZYH.tot (λa h=>by have h1:=(ZOS a.1 a.2.1 a.2.2).1;simp[h1]) (λa h=>(ZOS _ _ _).2)
def ZPC:Entry:=Zg ZPA ZPB (λ_=>none) (λa=>rInx a.1 a.2.1 a.2.2)
theorem ZTI:Za prog 275 ZPC:=ZYs.tot (λa h=>by simp) (λa h=>ZX6 _ _ _)
def ZP2:Entry:=Zg ZP0 ZP1 (λ_=>none) (λa=>rDcx a.1 a.2.1 a.2.2)
theorem ZTR:Za prog 276 ZP2:=ZYF.tot (λa h=>by simp) (λa h=>ZX8 _ _ _)
def ZP8:Entry:=Zg ZP7 ZGC (λ_=>none) (λa=>rDaa a.1 a.2.1 a.2.2)
theorem ZTV:Za prog 278 ZP8:=ZYL.tot (λa h=>by have h1:=(ZOT a.1 a.2.1 a.2.2).1;simp[h1]) (λa h=>(ZOT _ _ _).2)
def ZP6:Entry:=Zg ZP4 ZP5 (λ_=>none) (λa=>rDad a.1 a.2.1 a.2.2.1 a.2.2.2)
theorem ZTT:Za prog 277 ZP6:=ZYJ.tot (λa h=>by simp) (λa h=>ZX9 _ _ _ _ h.2.1 h.2.2.1)
def ZCR:Entry:=Zg ZCQ Zu7 (λ_=>none) (λa=>Zxw a.1 a.2)
theorem ZPW:Za prog 283 ZCR:=ZTO.tot (λa h=>by have h1:=(ZF7 a.1 a.2).1;simp[h1]) (λa h=>(ZF7 _ _).2)
def ZCU:Entry:=Zg ZCS ZCT (λ_=>none) (λa=>ZtM a)
theorem ZQa:Za prog 284 ZCU:=ZTX.tot (λa h=>by simp) (λa h=>ZTp _)
def ZO5:Entry:=Zg ZO4 ZGc (λ_=>none) (λa=>rRot a.1 a.2.1 a.2.2)
theorem ZTx:Za prog 279 ZO5:=ZYf.tot (λa h=>by have h1:=(ZOK a.1 a.2.1 a.2.2).1;simp[h1]) (λa h=>(ZOK _ _ _).2)
def ZNh:Entry:=Zg ZNf ZE8 (λ_=>none) (λa=>rRot a.1 a.2.1 a.2.2)
theorem ZSR:Za prog 213 ZNh:=ZXB.tot (λa h=>by have h1:=ZZU a.1 a.2.1 a.2.2;simp[h1]) (λa h=>rfl)
def ZBR:Entry:=Zg ZBP ZBQ (λ_=>none) (λa=>Zxi a.1 a.2)
theorem ZPd:Za prog 285 ZBR:=ZTA.tot (λa h=>by simp) (λa h=>ZTk _ _ h.1)
def ZAm:Entry:=Zg ZAl ZsF (λ_=>none) (λa=>Zxi a.1 a.2)
theorem ZNp:Za prog 216 ZAm:=ZSU.tot (λa h=>by have h1:=ZXo a.1 a.2;simp[h1]) (λa h=>rfl)
def ZO7:Entry:=Zg ZO6 ZGd (λ_=>none) (λa=>rRim a.1 a.2)
theorem ZTz:Za prog 227 ZO7:=ZYh.tot (λa h=>by have h1:=(ZBC a.1 a.2).1;simp[h1]) (λa h=>(ZBC _ _).2.1)
def ZVp:Entry:=Zg ZNi ZE9 (λ_=>none) (λa=>rRim a.1 a.2)
theorem ZSS:Za prog 159 ZVp:=ZXD.tot (λa h=>by have h1:=(ZBC a.1 a.2).2.2;simp[h1]) (λa h=>rfl)
def ZOY:Entry:=Zg ZOW ZOX (λ_=>none) (λa=>rSim a.1 a.2)
theorem ZTt:Za prog 228 ZOY:=ZYc.tot (λa h=>by simp) (λa h=>ZX5 _ _)
def ZGs:Entry:=Zg Zuq Zur (λ_=>none) (λa=>ZeC a.1 a.2)
theorem ZJp:Za prog 322 ZGs:=ZPE.tot (λa h=>by simp) (λa h=>ZUk _ _)
def ZxM:Entry:=Zg ZnA ZnB (λ_=>none) (λa=>Zi a)
theorem ZBG:Za prog 177 ZxM:=ZI9.tot (λa h=>by simp) (λa h=>ZI0 _)
def Zx0:Entry:=Zg ZiK ZiL (λ_=>none) (λa=>Zb a.1 a.2)
theorem Zoq:Za prog 182 Zx0:=ZJ4.tot (λa h=>by have h1:=(dec_ok a.1 a.2 h.2).1;simp[h1]) (λa h=>(dec_ok a.1 a.2 h.2).2.1)
def Zxx:Entry:=Zg Ziw Zix (λ_=>none) (λa=>Zb a.1 a.2)
theorem Znp:Za prog 107 Zxx:=ZIW.tot (λa h=>by have h1:=(dec_ok a.1 a.2 h.2).2.2;simp[h1]) (λa h=>rfl)
abbrev ZWs:R:=R.pair (.int .i64) (R.pair (.int .i64) (R.pair (.int .i64) (R.pair (.int .i64) (R.pair (.int .i64) (R.pair (.int .i64) (.int .i64))))))
def Zx1 (k:Int):Entry:=pinE ZiK ZWs (λa=>Zb a.1 a.2) k
theorem ZGy (k:Int):Za Tryz.prog 182 (Zx1 k):=ZOO Zoq k
def ZOm (k:Int):Entry:=pinE Ziw ZWs (λa=>Zb a.1 a.2) k
theorem ZFP (k:Int):Za Tryz.prog 107 (ZOm k):=ZOO Znp k
def pcOf (c:TC):Int:=c.2.1.2.2.2.2.2.2.2.2.2
def spOf (c:TC):Int:=c.2.1.2.2.2.2.2.2.2.2.1
def rgx (r:TR) (f:TF) (sp pc:Int):TR:=(r.1,r.2.1,r.2.2.1,r.2.2.2.1,r.2.2.2.2.1,r.2.2.2.2.2.1,r.2.2.2.2.2.2.1,f,sp,pc)
def fin3 (g:List Int) (l:List TY):RT (Option (TY×Bool)):=.br (decide (iN (List.length g)>=iN (List.length l))) (.leaf (some (((0,0,0,0),false)))) (.br (Zf (iN (List.length g)) (List.length l)) (.leaf (some ((R.get RY l (iN (List.length g)),true)))) (.leaf none))
abbrev Zoo:List Sh:=[Sh.one (R.int i64)]
abbrev Zop:Rs:=Rs.one (Sh.one R.bool)
def Zq7 (s:Int):RT (Bool):=
 .leaf (decide (s>=1)&&decide (s<=4))
def Ze (s:Int):Bool:=(Zq7 s).val
def ZjO:Entry:=Zg Zoo Zop (λ_=>none) (λa=>Ze a)
theorem Zkt:Za prog 176 ZjO:=
 pureQ 7 [] [] Zoo Zop trivial Tryz.func176 Tryz.call176 trivial (t:=λa=>Zq7 a)
abbrev Z0k:R:=R.pair ZF (R.pair R.bool (R.pair (R.sl (R.int u8)) (R.pair (R.pair (R.int i64) (R.pair (R.int i64) (R.pair (R.int i64) (R.pair (R.int i64) (R.pair (R.int i64) (R.pair (R.int i64) (R.pair (R.int i64) (R.int i64)))))))) (R.sl (RY)))))
abbrev Z0j:List Sh:=[Sh.one (R.int i64)]
abbrev ZX4:Rs:=Rs.one (Sh.one (R.int u8))
def qAtT (s:QT1) (n:Int):RT (Option (Int)):=
 .br (!decide (n< ↑(List.length s.2.2.1))||Zf n (List.length s.2.2.1)) (.br (decide (n< ↑(List.length s.2.2.1))) (.leaf (some (R.get (R.int u8) s.2.2.1 n))) (.leaf (some (0)))) (.leaf none)
def qAt (s:QT1) (n:Int):Int:=getO ZX4.dflt (qAtT s n).val
def qAtC (s:QT1) (n:Int):Bool:=okB (qAtT s n).val
def qAtE:Entry:=ZhH Z0k Z0j ZX4 (λa=>some (qAtC a.1 a.2)) (λa=>qAt a.1 a.2)
theorem ZiE:Za prog 222 qAtE:=
 ZeW (P:=prog) (n:=31) (k:=8) (l:=[]) (ol:=[]) trivial Tryz.func222 rfl (by kernel_rfl) Tryz.call222 trivial (rb:=Z0k) (ts:=Z0j) (rs:=ZX4) (by kernel_rfl) (t:=λa=>qAtT a.1 a.2) (λa=>by kernel_rfl)
abbrev ZOD:R:=R.pair ZF (R.pair R.bool (R.pair (R.sl (R.int u8)) (R.pair (R.pair (R.int i64) (R.pair (R.int i64) (R.pair (R.int i64) (R.pair (R.int i64) (R.pair (R.int i64) (R.pair (R.int i64) (R.pair (R.int i64) (R.int i64)))))))) (R.sl (RY)))))
abbrev ZOC:List Sh:=[Sh.one (R.int i64)]
abbrev ZBy:Rs:=Rs.one (Sh.one (R.int u16))
def ZxE (s:QT1) (n:Int):RT (Option (Int)):=
 .br (!qAtC s (i64.wrap (n+1))||qAtC s n) (.br (qAtC s (i64.wrap (n+1))) (.leaf (some (ZcS (qAt s (i64.wrap (n+1))) (qAt s n)))) (.leaf none)) (.leaf none)
def Zgm (s:QT1) (n:Int):Int:=getO ZBy.dflt (ZxE s n).val
def ZcV (s:QT1) (n:Int):Bool:=okB (ZxE s n).val
def Znt:Entry:=ZhH ZOD ZOC ZBy (λa=>some (ZcV a.1 a.2)) (λa=>Zgm a.1 a.2)
theorem ZtO:Za prog 270 Znt:=
 ZeW (P:=prog) (n:=31) (k:=8) (l:=[(222,qAtE),(236,Zup)]) (ol:=[]) ⟨ZiE,ZxX,Tv⟩ Tryz.func270 rfl (by kernel_rfl) Tryz.call270 trivial (rb:=ZOD) (ts:=ZOC) (rs:=ZBy) (by kernel_rfl) (t:=λa=>ZxE a.1 a.2) (λa=>by kernel_rfl)
abbrev ZxH:R:=R.pair ZF (R.pair R.bool (R.pair (R.sl (R.int u8)) (R.pair (R.pair (R.int i64) (R.pair (R.int i64) (R.pair (R.int i64) (R.pair (R.int i64) (R.pair (R.int i64) (R.pair (R.int i64) (R.pair (R.int i64) (R.int i64)))))))) (R.sl (RY)))))
abbrev ZxF:List Sh:=[]
abbrev ZxG:Rs:=Rs.one (Sh.one (R.int u16))
def ZFZ (s:QT1):RT (Int):=
 .br s.2.1 (.leaf s.1.2.1.2.2.2.2.2.2.2.2.2) (.leaf (u16.wrap (s.1.2.1.2.2.2.2.2.2.2.2.2+u16.wrap s.2.2.2.1.2.1)))
def ZE (s:QT1):Int:=(ZFZ s).val
def ZiD:Entry:=ZhH ZxH ZxF ZxG (λ_=>none) (λa=>ZE a.1)
theorem Zq0:Za prog 223 ZiD:=
 ZgU (P:=prog) (n:=7) (k:=8) (l:=[]) (ol:=[]) trivial Tryz.func223 rfl (by kernel_rfl) Tryz.call223 trivial (rb:=ZxH) (ts:=ZxF) (rs:=ZxG) (by kernel_rfl) (t:=λa=>ZFZ a.1) (λa=>by kernel_rfl)
abbrev ZFY:R:=R.pair ZF (R.pair R.bool (R.pair (R.sl (R.int u8)) (R.pair (R.pair (R.int i64) (R.pair (R.int i64) (R.pair (R.int i64) (R.pair (R.int i64) (R.pair (R.int i64) (R.pair (R.int i64) (R.pair (R.int i64) (R.int i64)))))))) (R.sl (RY)))))
abbrev ZFW:List Sh:=[]
abbrev ZFX:Rs:=Rs.one (Sh.one R.bool)
def ZOy (s:QT1):RT (Bool):=
 .leaf (ZeC s.2.2.2.1.2.2.2.2.2.2.1 s.1.2.1.2.2.2.2.2.2.2.1)
def Zhq (s:QT1):Bool:=(ZOy s).val
def ZhK:Entry:=ZhH ZFY ZFW ZFX (λ_=>none) (λa=>Zhq a.1)
theorem Znr:Za prog 280 ZhK:=
 ZgU (P:=prog) (n:=7) (k:=8) (l:=[(322,ZGs)]) (ol:=[]) ⟨ZJp,Tv⟩ Tryz.func280 rfl (by kernel_rfl) Tryz.call280 trivial (rb:=ZFY) (ts:=ZFW) (rs:=ZFX) (by kernel_rfl) (t:=λa=>ZOy a.1) (λa=>by kernel_rfl)
abbrev ZVY:R:=R.pair ZF (R.pair R.bool (R.pair (R.sl (R.int u8)) (R.pair (R.pair (R.int i64) (R.pair (R.int i64) (R.pair (R.int i64) (R.pair (R.int i64) (R.pair (R.int i64) (R.pair (R.int i64) (R.pair (R.int i64) (R.int i64)))))))) (R.sl (RY)))))
abbrev ZVW:List Sh:=[Sh.one (R.int i64)]
abbrev ZVX:Rs:=Rs.one (Sh.one (R.int u8))
def Z0i (s:QT1) (n:Int):RT (Int):=
 .leaf (rGet s.1.2.1 n)
def qReg (s:QT1) (n:Int):Int:=(Z0i s n).val
def ZxD:Entry:=ZhH ZVY ZVW ZVX (λ_=>none) (λa=>qReg a.1 a.2)
theorem ZtN:Za prog 232 ZxD:=
 ZgU (P:=prog) (n:=31) (k:=8) (l:=[(287,ZWf)]) (ol:=[]) ⟨ZTK,Tv⟩ Tryz.func232 rfl (by kernel_rfl) Tryz.call232 trivial (rb:=ZVY) (ts:=ZVW) (rs:=ZVX) (by kernel_rfl) (t:=λa=>Z0i a.1 a.2) (λa=>by kernel_rfl)
abbrev ZOB:R:=R.pair ZF (R.pair R.bool (R.pair (R.sl (R.int u8)) (R.pair (R.pair (R.int i64) (R.pair (R.int i64) (R.pair (R.int i64) (R.pair (R.int i64) (R.pair (R.int i64) (R.pair (R.int i64) (R.pair (R.int i64) (R.int i64)))))))) (R.sl (RY)))))
abbrev ZOz:List Sh:=[Sh.one (R.int i64)]
abbrev ZOA:Rs:=Rs.one (Sh.one (R.int u16))
def ZVZ (s:QT1) (n:Int):RT (Int):=
 .leaf (Zan s.1.2.1 n)
def Zef (s:QT1) (n:Int):Int:=(ZVZ s n).val
def Zgk:Entry:=ZhH ZOB ZOz ZOA (λ_=>none) (λa=>Zef a.1 a.2)
theorem Ziy:Za prog 231 Zgk:=
 ZgU (P:=prog) (n:=31) (k:=8) (l:=[(286,ZPg)]) (ol:=[]) ⟨ZPf,Tv⟩ Tryz.func231 rfl (by kernel_rfl) Tryz.call231 trivial (rb:=ZOB) (ts:=ZOz) (rs:=ZOA) (by kernel_rfl) (t:=λa=>ZVZ a.1 a.2) (λa=>by kernel_rfl)
abbrev ZqZ:R:=R.pair ZF (R.pair R.bool (R.pair (R.sl (R.int u8)) (R.pair (R.pair (R.int i64) (R.pair (R.int i64) (R.pair (R.int i64) (R.pair (R.int i64) (R.pair (R.int i64) (R.pair (R.int i64) (R.pair (R.int i64) (R.int i64)))))))) (R.sl (RY)))))
abbrev ZqY:List Sh:=[]
abbrev ZjK:Rs:=Rs.one (Sh.one (R.int u8))
def ZiB (s:QT1):RT (Option (Int)):=
 .br (qAtC s 1) (.leaf (some (bif s.2.2.2.1.1==14 then (rInr s.1.1 (qAt s 1) s.1.2.1.2.2.2.2.2.2.2.1).1 else (rDcr s.1.1 (qAt s 1) s.1.2.1.2.2.2.2.2.2.2.1).1))) (.leaf none)
def ZiC (s:QT1):Int:=getO ZjK.dflt (ZiB s).val
def Zgn (s:QT1):Bool:=okB (ZiB s).val
def Znu:Entry:=ZhH ZqZ ZqY ZjK (λa=>some (Zgn a.1)) (λa=>ZiC a.1)
theorem ZBz:Za prog 234 Znu:=
 ZeW (P:=prog) (n:=15) (k:=8) (l:=[(222,qAtE),(273,ZGr),(274,ZGB)]) (ol:=[]) ⟨ZiE,ZGq,ZGA,Tv⟩ Tryz.func234 rfl (by kernel_rfl) Tryz.call234 trivial (rb:=ZqZ) (ts:=ZqY) (rs:=ZjK) (by kernel_rfl) (t:=λa=>ZiB a.1) (λa=>by kernel_rfl)
abbrev ZqX:R:=R.pair ZF (R.pair R.bool (R.pair (R.sl (R.int u8)) (R.pair (R.pair (R.int i64) (R.pair (R.int i64) (R.pair (R.int i64) (R.pair (R.int i64) (R.pair (R.int i64) (R.pair (R.int i64) (R.pair (R.int i64) (R.int i64)))))))) (R.sl (RY)))))
abbrev ZqW:List Sh:=[]
abbrev ZjJ:Rs:=Rs.one (Sh.one (R.int u8))
def Ziz (s:QT1):RT (Option (Int)):=
 let x1:=s.2.2.2.1.1==13||s.2.2.2.1.2.2.2.1==6
 .br (!x1||qAtC s 1) (.br (x1) (.leaf (some (qAt s 1))) (.leaf (some (qReg s s.2.2.2.1.2.2.2.1)))) (.leaf none)
def ZiA (s:QT1):Int:=getO ZjJ.dflt (Ziz s).val
def Zgl (s:QT1):Bool:=okB (Ziz s).val
def Zns:Entry:=ZhH ZqX ZqW ZjJ (λa=>some (Zgl a.1)) (λa=>ZiA a.1)
theorem ZBx:Za prog 272 Zns:=
 ZeW (P:=prog) (n:=7) (k:=8) (l:=[(222,qAtE),(232,ZxD)]) (ol:=[]) ⟨ZiE,ZtN,Tv⟩ Tryz.func272 rfl (by kernel_rfl) Tryz.call272 trivial (rb:=ZqX) (ts:=ZqW) (rs:=ZjJ) (by kernel_rfl) (t:=λa=>Ziz a.1) (λa=>by kernel_rfl)
abbrev Z0H:R:=R.pair ZF (R.pair R.bool (R.pair (R.sl (R.int u8)) (R.sl (RY))))
abbrev Z0G:List Sh:=[Sh.one (R.int i64)]
abbrev ZYY:Rs:=Rs.one (Sh.one (R.int u8))
def mAtT (s:QT3) (n:Int):RT (Option (Int)):=
 .br (!decide (n< ↑(List.length s.2.2.1))||Zf n (List.length s.2.2.1)) (.br (decide (n< ↑(List.length s.2.2.1))) (.leaf (some (R.get (R.int u8) s.2.2.1 n))) (.leaf (some (0)))) (.leaf none)
def mAt (s:QT3) (n:Int):Int:=getO ZYY.dflt (mAtT s n).val
def mAtC (s:QT3) (n:Int):Bool:=okB (mAtT s n).val
def mAtE:Entry:=ZhH Z0H Z0G ZYY (λa=>some (mAtC a.1 a.2)) (λa=>mAt a.1 a.2)
theorem Zyz:Za prog 153 mAtE:=
 ZeW (P:=prog) (n:=31) (k:=8) (l:=[]) (ol:=[]) trivial Tryz.func153 rfl (by kernel_rfl) Tryz.call153 trivial (rb:=Z0H) (ts:=Z0G) (rs:=ZYY) (by kernel_rfl) (t:=λa=>mAtT a.1 a.2) (λa=>by kernel_rfl)
abbrev ZQD:R:=R.pair ZF (R.pair R.bool (R.pair (R.sl (R.int u8)) (R.sl (RY))))
abbrev ZQC:List Sh:=[Sh.one (R.int i64)]
abbrev ZDj:Rs:=Rs.one (Sh.one (R.int u16))
def ZGS (s:QT3) (n:Int):RT (Option (Int)):=
 .br (!mAtC s (i64.wrap (n+1))||mAtC s n) (.br (mAtC s (i64.wrap (n+1))) (.leaf (some (ZcS (mAt s (i64.wrap (n+1))) (mAt s n)))) (.leaf none)) (.leaf none)
def ZeN (s:QT3) (n:Int):Int:=getO ZDj.dflt (ZGS s n).val
def Zcm (s:QT3) (n:Int):Bool:=okB (ZGS s n).val
def ZoT:Entry:=ZhH ZQD ZQC ZDj (λa=>some (Zcm a.1 a.2)) (λa=>ZeN a.1 a.2)
theorem Zvl:Za prog 165 ZoT:=
 ZeW (P:=prog) (n:=31) (k:=8) (l:=[(153,mAtE),(172,Zni)]) (ol:=[]) ⟨Zyz,Ziv,Tv⟩ Tryz.func165 rfl (by kernel_rfl) Tryz.call165 trivial (rb:=ZQD) (ts:=ZQC) (rs:=ZDj) (by kernel_rfl) (t:=λa=>ZGS a.1 a.2) (λa=>by kernel_rfl)
abbrev Zyy:R:=R.pair ZF (R.pair R.bool (R.pair (R.sl (R.int u8)) (R.sl (RY))))
abbrev Zyw:List Sh:=[Sh.one (R.int i64)]
abbrev Zyx:Rs:=Rs.one (Sh.one (R.int u16))
def ZG0 (s:QT3) (n:Int):RT (Int):=
 .br s.2.1 (.leaf s.1.2.1.2.2.2.2.2.2.2.2.2) (.leaf (u16.wrap (s.1.2.1.2.2.2.2.2.2.2.2.2+u16.wrap n)))
def ZC (s:QT3) (n:Int):Int:=(ZG0 s n).val
def Zg8:Entry:=ZhH Zyy Zyw Zyx (λ_=>none) (λa=>ZC a.1 a.2)
theorem ZjY:Za prog 157 Zg8:=
 ZgU (P:=prog) (n:=31) (k:=8) (l:=[]) (ol:=[]) trivial Tryz.func157 rfl (by kernel_rfl) Tryz.call157 trivial (rb:=Zyy) (ts:=Zyw) (rs:=Zyx) (by kernel_rfl) (t:=λa=>ZG0 a.1 a.2) (λa=>by kernel_rfl)
abbrev ZGW:R:=R.pair ZF (R.pair R.bool (R.pair (R.sl (R.int u8)) (R.sl (RY))))
abbrev ZGU:List Sh:=[Sh.agg (R.pair (R.int i64) (R.pair (R.int i64) (R.pair (R.int i64) (R.pair (R.int i64) (R.pair (R.int i64) (R.pair (R.int i64) (R.pair (R.int i64) (R.int i64))))))))]
abbrev ZGV:Rs:=Rs.one (Sh.one R.bool)
def ZQH (s:QT3) (i:QT6):RT (Bool):=
 .leaf (ZeC i.2.2.2.2.2.2.1 s.1.2.1.2.2.2.2.2.2.2.1)
def ZeH (s:QT3) (i:QT6):Bool:=(ZQH s i).val
def ZhQ:Entry:=ZhH ZGW ZGU ZGV (λ_=>none) (λa=>ZeH a.1 a.2)
theorem ZoV:Za prog 169 ZhQ:=
 ZgU (P:=prog) (n:=31) (k:=8) (l:=[(220,ZNY)]) (ol:=[]) ⟨ZNX,Tv⟩ Tryz.func169 rfl (by kernel_rfl) Tryz.call169 trivial (rb:=ZGW) (ts:=ZGU) (rs:=ZGV) (by kernel_rfl) (t:=λa=>ZQH a.1 a.2) (λa=>by kernel_rfl)
abbrev ZqC:List Sh:=[Sh.agg ZF,Sh.agg (R.pair (R.int i64) (R.pair (R.int i64) (R.pair (R.int i64) (R.pair (R.int i64) (R.pair (R.int i64) (R.pair (R.int i64) (R.pair (R.int i64) (R.int i64)))))))),Sh.one (R.int u8)]
abbrev ZqD:Rs:=Rs.tup [Sh.one (R.int u8),Sh.agg rcF7]
def Zw6 (c:TC) (i:QT6) (v:Int):RT (QT2):=
 .br (i.1==14) (.leaf (rInr c.1 v c.2.1.2.2.2.2.2.2.2.1)) (.leaf (rDcr c.1 v c.2.1.2.2.2.2.2.2.2.1))
def ZgV (c:TC) (i:QT6) (v:Int):QT2:=(Zw6 c i v).val
def Zgb:Entry:=Zg ZqC ZqD (λ_=>none) (λa=>ZgV a.1 a.2.1 a.2.2)
theorem Zmr:Za prog 166 Zgb:=
 pureQ 255 [(218,Z0b),(219,Z0h)] [] ZqC ZqD ⟨ZXM,ZXV,Tv⟩ Tryz.func166 Tryz.call166 trivial (t:=λa=>Zw6 a.1 a.2.1 a.2.2)
abbrev Zus:List Sh:=[Sh.one (R.int i64),Sh.one (R.int u8)]
abbrev Zut:Rs:=Rs.one (Sh.one (R.int i64))
def ZCE (chip:Int) (op:Int):RT (Int):=
 .br ((Zb chip op).1==2) (.br (!chip==2&&((Zb chip op).2.2.1 !=6&&(Zb chip op).2.2.2.1 !=6)) (.leaf (5)) (.leaf (4))) (.br (bif (Zb chip op).1==14 then (Zb chip op).1==14 else (Zb chip op).1==15) (.br (!chip==2&&(Zb chip op).2.2.1 !=6) (.leaf (5)) (.leaf (4))) (.br ((Zb chip op).1==37) (.br (chip==2) (.leaf (5)) (.leaf (4))) (.br ((Zb chip op).1==26) (.br ((Zb chip op).2.2.2.2.2.2.1==11) (.leaf (4)) (.br (chip==2) (.leaf (6)) (.leaf (5)))) (.br (bif (Zb chip op).1==16 then (Zb chip op).1==16 else bif (Zb chip op).1==17 then (Zb chip op).1==17 else bif (Zb chip op).1==28 then (Zb chip op).1==28 else bif (Zb chip op).1==29 then (Zb chip op).1==29 else bif (Zb chip op).1==25 then (Zb chip op).1==25 else bif (Zb chip op).1==27 then (Zb chip op).1==27 else bif (Zb chip op).1==45 then (Zb chip op).1==45 else (Zb chip op).1==30) (.br (chip==2) (.leaf (6)) (.leaf (5))) (.leaf (4))))))
def Zq9 (chip:Int) (op:Int):Int:=(ZCE chip op).val
def ZYy:Entry:=Zg Zus Zut (λ_=>none) (λa=>Zq9 a.1 a.2)
theorem ZPJ:Za prog 115 ZYy:=
 pureQ 72842913792127 [(182,Zx0)] [] Zus Zut ⟨Zoq,Tv⟩ Tryz.func115 Tryz.call115 trivial (t:=λa=>ZCE a.1 a.2)
abbrev ZFI:List Sh:=[Sh.one (R.int i64),Sh.one (R.int u8)]
abbrev ZFJ:Rs:=Rs.one (Sh.one (R.int i64))
def ZBi (chip:Int) (op:Int):RT (Int):=
 let x1:=bif (Zb chip op).1==14 then (Zb chip op).1==14 else (Zb chip op).1==15
 let x2:= !(Zb chip op).1==2&&(!x1&&((bif (Zb chip op).1==16 then (Zb chip op).1==16 else bif (Zb chip op).1==17 then (Zb chip op).1==17 else bif (Zb chip op).1==28 then (Zb chip op).1==28 else bif (Zb chip op).1==29 then (Zb chip op).1==29 else bif (Zb chip op).1==25 then (Zb chip op).1==25 else bif (Zb chip op).1==27 then (Zb chip op).1==27 else bif (Zb chip op).1==30 then (Zb chip op).1==30 else (Zb chip op).1==45)||(Zb chip op).1==26&&(Zb chip op).2.2.2.2.2.2.1 !=11))
 .br (rOn chip&&x2) (.leaf (6)) (.br (rOn chip&&(Zb chip op).1==37) (.leaf (5)) (.br (!rOn chip&&(x2||bif (Zb chip op).1==2 then (Zb chip op).2.2.1 !=6&&(Zb chip op).2.2.2.1 !=6 else x1&&(Zb chip op).2.2.1 !=6)) (.leaf (5)) (.leaf (4))))
def ZfL (chip:Int) (op:Int):Int:=(ZBi chip op).val
def ZBj:Entry:=Zg ZFI ZFJ (λ_=>none) (λa=>ZfL a.1 a.2)
theorem Zxv:Za prog 116 ZBj:=
 pureQ 144687209545474303 [(107,Zxx),(146,rOnE)] [] ZFI ZFJ ⟨Znp,Zee,Tv⟩ Tryz.func116 Tryz.call116 trivial (t:=λa=>ZBi a.1 a.2)
abbrev ZFB:List Sh:=[Sh.agg ZF,Sh.agg (R.pair R.bool (R.pair R.bool rcF7))]
abbrev ZFC:Rs:=Rs.one (Sh.agg ZF)
def ZBd (c:TC) (l:QT0):RT TC:=
 .br (!rOn c.1)
 (.leaf (c))
 (.leaf ((c.1,c.2.1,c.2.2.1,c.2.2.2.1,c.2.2.2.2.1,c.2.2.2.2.2.1,l.2.2.2.2.1&&(c.2.2.2.2.2.2.1|| !c.2.2.2.2.2.2.2.2.1),c.2.2.2.2.2.2.2.1||l.2.2.2.2.2.1&& !c.2.2.2.2.2.2.2.2.2.1,l.2.2.2.2.1,l.2.2.2.2.2.1,c.2.2.2.2.2.2.2.2.2.2)))
def Zm (c:TC) (l:QT0):TC:=(ZBd c l).val
def Znh:Entry:=Zg ZFB ZFC (λ_=>none) (λa=>Zm a.1 a.2)
theorem Zng:Za prog 84 Znh:=
 pureQ 31 [(146,rOnE)] [] ZFB ZFC ⟨Zee,Tv⟩ Tryz.func84 Tryz.call84 trivial (t:=λa=>ZBd a.1 a.2)
abbrev ZNw:List Sh:=[Sh.agg ZF,Sh.agg (R.pair R.bool (R.pair R.bool rcF7))]
abbrev ZNx:Rs:=Rs.one (Sh.one (R.int i64))
def ZVs (c:TC) (l:QT0):RT (Int):=
 .br (rOn c.1&&c.2.2.2.2.2.2.1)
 (.leaf (1))
 (.br (!c.2.2.1||c.2.2.2.1)
  (.leaf (0))
  (.br (rOn c.1&&(c.2.2.2.2.2.2.2.1&&andI u8 c.2.2.2.2.2.1 4==0))
  (.leaf (2))
  (.br (rOn c.1&&(l.2.2.2.2.2.2.1&&andI u8 c.2.2.2.2.2.1 2==0))
   (.leaf (3))
   (.br (rOn c.1&&(l.2.2.2.2.2.2.2.1&&andI u8 c.2.2.2.2.2.1 1==0))
   (.leaf (4))
   (.br l.2.2.2.2.2.2.2.2
    (.leaf (5))
    (.leaf (0)))))))
def ZfP (c:TC) (l:QT0):Int:=(ZVs c l).val
def ZNy:Entry:=Zg ZNw ZNx (λ_=>none) (λa=>ZfP a.1 a.2)
theorem ZFp:Za prog 87 ZNy:=
 pureQ 576601524159939135 [(146,rOnE)] [] ZNw ZNx ⟨Zee,Tv⟩ Tryz.func87 Tryz.call87 trivial (t:=λa=>ZVs a.1 a.2)
abbrev Zos:List Sh:=[Sh.agg ZF,Sh.one (R.int i64)]
abbrev Zot:Rs:=Rs.one (Sh.agg ZF)
def Zlr (c:TC) (s:Int):RT TC:=
 .br (decide (s<1)||decide (s>5))
 (.leaf (c))
 (.leaf ((c.1,c.2.1,false,false,false,c.2.2.2.2.2.1,!s==1&&c.2.2.2.2.2.2.1,bif s==1 then c.2.2.2.2.2.2.2.1 else !s==2&&c.2.2.2.2.2.2.2.1,c.2.2.2.2.2.2.2.2.1,c.2.2.2.2.2.2.2.2.2.1,s==1||c.2.2.2.2.2.2.2.2.2.2.1,bif s==1 then c.2.2.1 else c.2.2.2.2.2.2.2.2.2.2.2.1,c.2.2.2.2.2.2.2.2.2.2.2.2)))
def Zu9 (c:TC) (s:Int):TC:=(Zlr c s).val
def ZTY:Entry:=Zg Zos Zot (λ_=>none) (λa=>Zu9 a.1 a.2)
theorem ZJ5:Za prog 110 ZTY:=
 pureQ 1056799 [] [] Zos Zot trivial Tryz.func110 Tryz.call110 trivial (t:=λa=>Zlr a.1 a.2)
abbrev ZxB:List Sh:=[Sh.agg ZF,Sh.one (R.int i64)]
abbrev ZxC:Rs:=Rs.one (Sh.agg ZF)
def Zg1 (c:TC) (s:Int):RT TC:=
 .br (decide (s<1)||decide (s>5))
 (.leaf (c))
 (.leaf ((c.1,c.2.1,false,false,false,c.2.2.2.2.2.1,!s==1&&c.2.2.2.2.2.2.1,!s==2&&c.2.2.2.2.2.2.2.1,c.2.2.2.2.2.2.2.2.1,c.2.2.2.2.2.2.2.2.2.1,s==1||c.2.2.2.2.2.2.2.2.2.2.1,bif s==1 then c.2.2.1 else c.2.2.2.2.2.2.2.2.2.2.2.1,c.2.2.2.2.2.2.2.2.2.2.2.2)))
def Zu (c:TC) (s:Int):TC:=(Zg1 c s).val
def ZFV:Entry:=Zg ZxB ZxC (λ_=>none) (λa=>Zu a.1 a.2)
theorem ZIY:Za prog 97 ZFV:=
 pureQ 31 [] [] ZxB ZxC trivial Tryz.func97 Tryz.call97 trivial (t:=λa=>Zg1 a.1 a.2)
abbrev Zt6:List Sh:=[Sh.agg ZF]
abbrev Zt7:Rs:=Rs.one (Sh.agg ZF)
def ZBN (c:TC):RT TC:=
 .leaf ((c.1,(c.2.1.1,c.2.1.2.1,c.2.1.2.2.1,c.2.1.2.2.2.1,c.2.1.2.2.2.2.1,c.2.1.2.2.2.2.2.1,c.2.1.2.2.2.2.2.2.1,c.2.1.2.2.2.2.2.2.2.1,c.2.1.2.2.2.2.2.2.2.2.1,0),false,false,false,bif c.1==2 then 7 else 0,false,false,false,false,false,false,false))
def ZO9 (c:TC):TC:=(ZBN c).val
def ZYj:Entry:=Zg Zt6 Zt7 (λ_=>none) (λa=>ZO9 a)
theorem ZO8:Za prog 77 ZYj:=
 pureQ 15 [] [] Zt6 Zt7 trivial Tryz.func77 Tryz.call77 trivial (t:=λa=>ZBN a)
abbrev ZFa:List Sh:=[Sh.agg ZF]
abbrev ZFb:Rs:=Rs.one (Sh.agg ZF)
def ZjD (c:TC):RT TC:=
 .leaf ((c.1,(c.2.1.1,c.2.1.2.1,c.2.1.2.2.1,c.2.1.2.2.2.1,c.2.1.2.2.2.2.1,c.2.1.2.2.2.2.2.1,c.2.1.2.2.2.2.2.2.1,c.2.1.2.2.2.2.2.2.2.1,c.2.1.2.2.2.2.2.2.2.2.1,0),false,false,false,bif rOn c.1 then 7 else 0,false,false,false,false,false,false,false))
def ZO (c:TC):TC:=(ZjD c).val
def ZsD:Entry:=Zg ZFa ZFb (λ_=>none) (λa=>ZO a)
theorem Zmv:Za prog 81 ZsD:=
 pureQ 15 [(146,rOnE)] [] ZFa ZFb ⟨Zee,Tv⟩ Tryz.func81 Tryz.call81 trivial (t:=λa=>ZjD a)
abbrev ZFc:List Sh:=[Sh.one (R.int i64)]
abbrev ZFd:Rs:=Rs.one (Sh.one R.bool)
def ZAi (k:Int):RT (Bool):=
 .leaf (k==1||(k==2||(k==4||(k==6||(k==8||k==9)))))
def ZcG (k:Int):Bool:=(ZAi k).val
def Zmw:Entry:=Zg ZFc ZFd (λ_=>none) (λa=>ZcG a)
theorem Ziq:Za prog 103 Zmw:=
 pureQ 7 [] [] ZFc ZFd trivial Tryz.func103 Tryz.call103 trivial (t:=λa=>ZAi a)
abbrev Zt8:List Sh:=[Sh.one (R.int i64)]
abbrev Zt9:Rs:=Rs.one (Sh.one R.bool)
def ZBO (k:Int):RT (Bool):=
 .br (bif k==1 then k==1 else bif k==2 then k==2 else bif k==4 then k==4 else bif k==6 then k==6 else bif k==8 then k==8 else k==9)
 (.leaf (true))
 (.leaf (false))
def ZPb (k:Int):Bool:=(ZBO k).val
def ZYk:Entry:=Zg Zt8 Zt9 (λ_=>none) (λa=>ZPb a)
theorem ZPa:Za prog 114 ZYk:=
 pureQ 23 [] [] Zt8 Zt9 trivial Tryz.func114 Tryz.call114 trivial (t:=λa=>ZBO a)
abbrev ZwX:List Sh:=[Sh.one (R.int i64)]
abbrev ZwY:Rs:=Rs.one (Sh.one R.bool)
def ZEX (k:Int):RT (Bool):=
 .leaf (k==3||(k==5||k==7))
def Zfp (k:Int):Bool:=(ZEX k).val
def Zsq:Entry:=Zg ZwX ZwY (λ_=>none) (λa=>Zfp a)
theorem ZqA:Za prog 100 Zsq:=
 pureQ 7 [] [] ZwX ZwY trivial Tryz.func100 Tryz.call100 trivial (t:=λa=>ZEX a)
abbrev Zw7:List Sh:=[Sh.one (R.int i64)]
abbrev Zw8:Rs:=Rs.one (Sh.one (R.int u8))
def ZE1 (k:Int):RT (Int):=
 .br (k==1)
 (.leaf (162))
 (.br (k==2)
  (.leaf (130))
  (.br (k==4)
  (.leaf (134))
  (.br (k==5)
   (.leaf (4))
   (.br (k==6)
   (.leaf (66))
   (.br (k==7)
    (.leaf (16))
    (.br (k==8)
    (.leaf (35))
    (.br (k==9)
     (.leaf (3))
     (.br (k==10)
     (.leaf (138))
     (.leaf (0))))))))))
def ZM9 (k:Int):Int:=(ZE1 k).val
def ZE2:Entry:=Zg Zw7 Zw8 (λ_=>none) (λa=>ZM9 a)
theorem ZHW:Za prog 148 ZE2:=
 pureQ 1398103 [] [] Zw7 Zw8 trivial Tryz.func148 Tryz.call148 trivial (t:=λa=>ZE1 a)
abbrev Zxt:List Sh:=[Sh.one (R.int i64)]
abbrev Zxu:Rs:=Rs.tup [Sh.one R.bool,Sh.one R.bool,Sh.one R.bool]
def ZFz (k:Int):RT (Bool×Bool×Bool):=
 .br (k==1)
 (.leaf ((false,true,true)))
 (.br (bif k==2 then k==2 else bif k==4 then k==4 else k==11)
  (.leaf ((false,true,false)))
  (.br (bif k==3 then k==3 else k==5)
  (.leaf ((false,false,true)))
  (.br (k==6)
   (.leaf ((true,true,false)))
   (.br (k==7)
   (.leaf ((true,false,true)))
   (.br (bif k==8 then k==8 else bif k==9 then k==9 else k==12)
    (.leaf ((true,true,true)))
    (.leaf ((false,false,false))))))))
def Zs2 (k:Int):Bool×Bool×Bool:=(ZFz k).val
def ZFA:Entry:=Zg Zxt Zxu (λ_=>none) (λa=>Zs2 a)
theorem ZIh:Za prog 147 ZFA:=
 pureQ 692575 [] [] Zxt Zxu trivial Tryz.func147 Tryz.call147 trivial (t:=λa=>ZFz a)
abbrev ZqU:List Sh:=[Sh.one (R.int i64)]
abbrev ZqV:Rs:=Rs.one (Sh.one R.bool)
def Zxz (k:Int):RT (Bool):=
 .leaf (k !=10&&(k !=11&&k !=12))
def Zao (k:Int):Bool:=(Zxz k).val
def ZxA:Entry:=Zg ZqU ZqV (λ_=>none) (λa=>Zao a)
theorem ZBw:Za prog 85 ZxA:=
 pureQ 7 [] [] ZqU ZqV trivial Tryz.func85 Tryz.call85 trivial (t:=λa=>Zxz a)
theorem ZRR (c) (s:Int):Zu9 c s=Zu c s:=by
 by_cases h:s=1
 ·subst h;simp[Zu9,Zlr,Zu,Zg1,RT.val]
 ·have h':(s==1)=false:=by simpa using h
  simp[Zu9,Zlr,Zu,Zg1,RT.val,h']
theorem ZSK (c):ZO9 c=ZO c:=by simp[ZO9,ZBN,ZO,ZjD,RT.val,ZaU]
theorem ZSM (k):ZPb k=ZcG k:=by simp[ZPb,ZBO,ZcG,ZAi,RT.val]
def ZiM:Entry:=Zg Zos Zot (λ_=>none) (λa=>Zu a.1 a.2)
theorem ZhN:Za Tryz.prog 110 ZiM:=ZJ5.tot (λa h=>by simp) (λa h=>ZRR _ _)
def ZGe:Entry:=Zg Zt6 Zt7 (λ_=>none) (λa=>ZO a)
theorem ZJc:Za Tryz.prog 77 ZGe:=ZO8.tot (λa h=>by simp) (λa h=>ZSK _)
def Zua:Entry:=Zg Zt8 Zt9 (λ_=>none) (λa=>ZcG a)
theorem Zq6:Za Tryz.prog 114 Zua:=ZPa.tot (λa h=>by simp) (λa h=>ZSM _)
abbrev ZNu:List Sh:=[Sh.one (R.int i64),Sh.one (R.int i64),Sh.agg (RY),Sh.one (R.int u8),Sh.one R.bool,Sh.one R.bool]
abbrev ZNv:Rs:=Rs.one (Sh.agg (R.pair (R.int i64) (R.pair (R.int u16) (R.pair (R.int u8) (R.pair R.bool (R.pair R.bool (R.pair R.bool (R.pair R.bool (R.pair R.bool (R.pair R.bool (R.pair R.bool rcF7)))))))))))
def ZFo (chip:Int) (t:Int) (x:QT12) (d:Int) (i:Bool) (o:Bool):RT (QT11):=
 let x1:QT22:=(!rOn chip&&bif rOn chip then i else i,false,false,false,false,false,false,bif !rOn chip then rOn chip&&o else rOn chip&&o,false,false,rOn chip)
 let x2:=(t==2||(t==7||t==3))&&Zfp x.1
 let x3:Int:=bif t==3&&ZcG x.1 then d else bif x2 then x.2.2.1 else 0
 .br (t==8)
 (.leaf ((t,0,0,false,false,false,!rOn chip&&bif rOn chip then i else i,false,false,false,false,false,false,bif !rOn chip then rOn chip&&o else rOn chip&&o,false,true,true)))
 (.br (t==9)
  (.leaf ((t,bif !rOn chip then x.2.1 else 0,0,false,false,!rOn chip,x1)))
  (.br (t==10)
  (.leaf ((t,0,0,false,false,false,x1)))
  (.br (rOn chip)
   (.leaf ((t,x.2.1,bif t==1 then u8.wrap x.2.1 else x3,false,false,false,!rOn chip&&bif rOn chip then i else i,t==1,(Zs2 x.1).1,(Zs2 x.1).2.1,(Zs2 x.1).2.2,(t==2||(t==7||t==3))&&(ZcG x.1&& !(x.1==8||x.1==9)),(t==2||(t==7||t==3))&&(x.1==8||x.1==9),bif !rOn chip then rOn chip&&o else rOn chip&&o,x2,false,false)))
   (.leaf ((t,x.2.1,bif t==1&&(x.1 !=11&&x.1 !=12) then ZM9 x.1 else x3,t==1&&(x.1 !=11&&x.1 !=12),(t==2||(t==7||t==3))&&ZcG x.1,t==7,!rOn chip&&bif rOn chip then i else i,false,false,false,false,false,false,bif !rOn chip then rOn chip&&o else rOn chip&&o,Zfp x.1&&(t==7||t==3),false,false))))))
def Zmy (chip:Int) (t:Int) (x:QT12) (d:Int) (i:Bool) (o:Bool):QT11:=(ZFo chip t x d i o).val
def ZVr:Entry:=Zg ZNu ZNv (λ_=>none) (λa=>Zmy a.1 a.2.1 a.2.2.1 a.2.2.2.1 a.2.2.2.2.1 a.2.2.2.2.2)
theorem ZS0:Za Tryz.prog 83 ZVr:=
 pureQ 302250189878107155464191 [(100,Zsq),(103,Zmw),(146,rOnE),(147,ZFA),(148,ZE2)] [] ZNu ZNv ⟨ZqA,Ziq,Zee,ZIh,ZHW,Tv⟩ Tryz.func83 Tryz.call83 trivial (t:=λa=>ZFo a.1 a.2.1 a.2.2.1 a.2.2.2.1 a.2.2.2.2.1 a.2.2.2.2.2)
abbrev ZOp:List Sh:=[Sh.agg (R.pair ZF (R.pair (R.int i64) (R.pair (R.sl (R.int u8)) (R.pair (RY) (R.pair (R.int i64) R.bool)))))]
abbrev ZOq:Rs:=Rs.one (Sh.one R.bool)
def ZFR (c:QT5):RT (Bool):=
 let x1:=decide (iN (List.length c.2.2.1)>0)||c.2.1 !=0
 .leaf (bif decide (c.2.2.2.2.1>=2) then decide (c.2.2.2.2.1<=7)||x1 else x1)
def Zc3 (c:QT5):Bool:=(ZFR c).val
def Zxy:Entry:=Zg ZOp ZOq (λ_=>none) (λa=>Zc3 a)
theorem ZtJ:Za Tryz.prog 30 Zxy:=
 pureQ 7 [] [] ZOp ZOq trivial Tryz.func30 Tryz.call30 trivial (t:=λa=>ZFR a)
end
end Go.Proofs.YtghoimllhpjkjaaGreat
