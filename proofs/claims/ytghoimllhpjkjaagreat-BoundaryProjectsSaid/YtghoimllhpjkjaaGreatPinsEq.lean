import Derived.Test.YtghoimllhpjkjaaGreatLeafs
import Derived.Test.YtghoimllhpjkjaaGreatS3D
import Derived.Test.YtghoimllhpjkjaaGreatProg
open Go.Proofs.Tryz (prog)
open Go.IntKind (u8 u16 i64)
open Go Go.S3 Go.Proofs
set_option linter.unusedVariables false
set_option linter.unusedSimpArgs false
set_option maxRecDepth 100000
namespace Go.Proofs.YtghoimllhpjkjaaGreat
noncomputable section
theorem Zx8 (b:Int) (h:inR .u8 b):ZlF b=true/\ZuC b=ZmR b:=by
 have h1:=ZfI (λb=>ZlF b&&(ZuC b==ZmR b)) (by kernel_rfl) b h
 simpa using h1
theorem ZyM (a b c:Bool):pMaj a b c=rMaj a b c:=by cases a<;>cases b<;>cases c<;>rfl
theorem ZWS (a:Bool):pOne a=rOne a:=by cases a<;>rfl
theorem ZMU (a b:Int) (c:Bool):pSum a b c=rSum a b c:=by
 simp only[pSum,ZYI,rSum,ZTm,RT.val,Bool.cond_self,ZnU,ZlD,Zd8,Zlt,ZWS]
theorem ZDX (a b:Int) (c:Bool):ZhW a b c=ZcB a b c:=by
 have h1:=Z1m a
 have h2:=Z1m b
 have e:IntKind.wrap .i64 (IntKind.wrap .i64 (IntKind.wrap .i64 (IntKind.wrap .i64 (andI .u8 a 15)+15)-IntKind.wrap .i64 (andI .u8 b 15))+1)=IntKind.wrap .i64 (IntKind.wrap .i64 (IntKind.wrap .i64 (andI .u8 a 15)+IntKind.wrap .i64 (IntKind.wrap .u8 (15-andI .u8 b 15)))+1):=by
  rw[ZXc]
  rw[wrap_i64 (andI .u8 a 15) (by omega) (by omega),wrap_i64 (andI .u8 b 15) (by omega) (by omega),wrap_i64 ((15-andI .u8 b 15)%256) (by omega) (by omega),wrap_i64 (andI .u8 a 15+15) (by omega) (by omega)]
  congr 1;rw[wrap_i64 _ (by omega) (by omega),wrap_i64 _ (by omega) (by omega)];omega
 simp only[ZhW,ZQp,ZcB,ZF9,RT.val,Bool.cond_self,ZnU,ZlD,Zd8,Zlt,ZWS,e]
theorem ZvZ (a b:Int):ZP0 a b=ZcN a b:=rfl
theorem ZSf (b:Bool) (n:Int) (h:0<=n):ZeH b n=true/\pBit b n=bif b then shlI .u8 1 n else 0:=by
 cases b<;>simp[ZeH,pBit,ZUt,RT.val,h,okB,getO]
theorem Zd5 (b:Bool) (n:Int) (h:0<=n):ZdJ b n=true/\rBit b n=bif b then shlI .u8 1 n else 0:=by
 cases b<;>simp[ZdJ,rBit,ZTO,RT.val,h,okB,getO]
theorem ZaU (chip:Int):rOn chip=(chip==2):=rfl
theorem Z0Q (chip:Int) (f):ZGC chip f=true:=by
 cases h:chip==2<;>simp[ZGC,Zyj,RT.val,ZSf,okB,h]
theorem ZNk (chip:Int) (f):ZFN chip f=true:=by
 cases h:chip==2<;>simp[ZFN,ZxL,RT.val,Zd5,ZaU,okB,h]
theorem ZYH (chip:Int) (f):ZUa chip f=ZTA chip f:=by
 simp only[ZUa,Zyj,ZTA,ZxL,RT.val,ZSf,Zd5,ZaU];cases chip==2<;>simp[ZSf,Zd5,getO]
theorem of_C (r:Int) (h:inR .u8 r):pOfC r=true:=by simp[pOfC,pOfT,RT.val,Zx8 r h,okB]
theorem Zyw (r:Int) (h:inR .u8 r):pOf r=rOf r:=by simp[pOf,pOfT,rOf,rOfT,RT.val,Zx8 r h,getO]
theorem ZZK (r) (n:Int):ZBE r n=true:=by
 have:=and7 n
 have h:decide (0<=andI .i64 n 7/\andI .i64 n 7<8)=true:=by simp;omega
 simp only[ZBE,ZBC,RT.val,h,cond_true,okB]
theorem ZRU {m:Int} (h:0<=m/\m<=7):m=0\/m=1\/m=2\/m=3\/m=4\/m=5\/m=6\/m=7:=by omega
theorem ZPg (r) (n:Int):pGet r n=rGet r n:=by
 have h7:=and7 n
 have h:decide (0<=andI .i64 n 7/\andI .i64 n 7<8)=true:=by simp;omega
 simp only[pGet,ZY4,rGet,ZBC,RT.val,h,cond_true,getO]
 generalize andI .i64 n 7=m at*
 rcases ZRU h7 with rfl|rfl|rfl|rfl|rfl|rfl|rfl|rfl<;>rfl
theorem ZO9 (r) (n v:Int):pSet r n v=rSet r n v:=by
 have h7:=and7 n
 simp only[pSet,ZYL,rSet,ZX6,RT.val,cond_true,getO]
 generalize andI .i64 n 7=m at*
 rcases ZRU h7 with rfl|rfl|rfl|rfl|rfl|rfl|rfl|rfl<;>rfl
theorem ZTS (r) (n:Int):ZYT r n=Zal r n:=by
 simp only[ZYT,ZPF,Zal,Zrb,RT.val,ZPg,ZZK,ZvZ]
 cases andI .i64 n 3==3<;>simp[okB,getO]
theorem ZXV (r) (n:Int):ZNZ r n=true:=by
 simp only[ZNZ,Zrb,RT.val,ZZK]
 cases andI .i64 n 3==3<;>simp[okB]
theorem ZBY (r) (n v:Int):Zut r n v=Zr r n v:=by
 simp only[Zut,ZnV,Zr,Zgg,RT.val,ZO9]
theorem ZPb (chip:Int) (r):ZYV chip r=true/\pPSW chip r=rPSW chip r:=by
 simp[ZYV,pPSW,ZUb,rPSW,ZN2,RT.val,Z0Q,ZNk,ZYH,ZvZ,okB,getO]
theorem Z0r (chip:Int) (r):ZYe chip r=true:=by simp[ZYe,ZN2,RT.val,ZNk,okB]
theorem ZMi (chip:Int) (b:Int):Zur chip b=ZsY chip b:=by
 simp only[Zur,Zuq,ZsY,ZsX,RT.val,ZaU]
theorem ZJr (chip:Int) (r) (v:Int):ZB8 chip r v=Zgi chip r v:=by
 simp only[ZB8,Zuu,Zgi,Zlu,RT.val,ZMi]
theorem ZUS (c:Int) (f):ZP6 c f=Zey c f:=by
 simp only[ZP6,ZC0,Zey,ZBB,RT.val]
 by_cases h:0<=c/\c<=11
 ·have:c=0\/c=1\/c=2\/c=3\/c=4\/c=5\/c=6\/c=7\/c=8\/c=9\/c=10\/c=11:=by omega
  rcases this with rfl|rfl|rfl|rfl|rfl|rfl|rfl|rfl|rfl|rfl|rfl|rfl<;>simp
 ·have e:∀k:Int,0<=k->k<=11->(c==k)=false:=λk h1 h2=>by simp;omega
  simp[e]
theorem Zw7 (a b:Int) (c:Bool):inR .u8 (rSum a b c).1:=by
 simp only[rSum,ZTm,RT.val,Bool.cond_self];exact Zbe _ _
theorem ZpR (a b:Int) (c:Bool):inR .u8 (ZcB a b c).1:=by
 simp only[ZcB,ZF9,RT.val,Bool.cond_self];exact Zbe _ _
theorem ZkC (a b:Int):inR .u8 (andI .u8 a b)/\inR .u8 (orI .u8 a b)/\inR .u8 (xorI .u8 a b):=Zhf _ _ _
theorem Zxj (chip v r:Int) (half over x:Bool) (f) (h:inR .u8 r):Zi0 chip v r half over x f=true/\
  Zn0 chip v r half over x f=Zqb chip ((rOf r).1,(rOf r).2.1,(rOf r).2.2.1,half,(rOf r).2.2.2.2.1,(rOf r).2.2.2.2.2.1,f.2.2.2.2.2.2) (rMaj (decide (v>=128)) x (decide (r>=128))) over:=by
 cases hc:chip==2<;>simp[Zi0,Zn0,ZlE,Zqb,Zrc,RT.val,of_C r h,Zyw r h,okB,getO,ZaU,hc,ZyM,rOf,rOfT]
theorem ZPe (chip v:Int) (f):ZY2 chip v f=true/\pInr chip v f=rInr chip v f:=by
 have h:=Zxj chip v (rSum v 1 false).1 (rSum v 1 false).2.2.1 (rSum v 1 false).2.2.2 false f (Zw7 _ _ _)
 simp only[ZY2,pInr,ZUg,rInr,ZYk,RT.val,ZMU,h.1,h.2,cond_true,okB,getO,and_self]
theorem ZPj (chip v:Int) (f):ZZf chip v f=true/\pDcr chip v f=rDcr chip v f:=by
 have h:=Zxj chip v (ZcB v 1 false).1 (ZcB v 1 false).2.2.1 (ZcB v 1 false).2.2.2 true f (ZpR _ _ _)
 simp only[ZZf,pDcr,ZUp,rDcr,ZYt,RT.val,ZDX,h.1,h.2,cond_true,okB,getO,and_self]
theorem ZYD (chip v:Int) (f):pInx chip v f=rInx chip v f:=by
 simp only[pInx,ZY0,rInx,ZYh,RT.val,ZaU]
theorem ZYF (chip v:Int) (f):pDcx chip v f=rDcx chip v f:=by
 simp only[pDcx,ZZd,rDcx,ZYq,RT.val,ZaU]
theorem ZPk (chip a:Int) (f):ZZj chip a f=true/\pDaa chip a f=rDaa chip a f:=by
 have h:=λx=>of_C _ (Zw7 a x false)
 have h2:=λx=>Zyw _ (Zw7 a x false)
 cases hc:chip==2<;>simp[ZZj,pDaa,ZUr,rDaa,ZYy,Zqb,Zrc,RT.val,ZMU,h,h2,okB,getO,ZaU,hc,ZyM,rOf,rOfT]
theorem ZGt (a b:Int):ZQm a b=true/\ZY8 a b=ZxV a b:=by
 have h:=λx y z=>of_C _ (ZpR x y z)
 have h2:=λx y z=>Zyw _ (ZpR x y z)
 simp[ZQm,ZY8,ZGS,ZxV,ZOH,RT.val,ZDX,h,h2,okB,getO,ZyM,ZvZ,rOf,rOfT,Bool.cond_self]
theorem ZTW (v:Int):Z04 v=Zuc v:=rfl
theorem ZWW (c:Bool):pLow c=bif c then 1 else 0:=by cases c<;>rfl
theorem ZPa (op a:Int) (c:Bool):ZYN op a c=true/\pRot op a c=rRot op a c:=by
 have h3:=and3 op
 simp only[ZYN,pRot,ZT3,rRot,ZNG,RT.val,ZWW,(Zd5 c 0 (by decide)).1,(Zd5 c 0 (by decide)).2,(Zd5 c 7 (by decide)).1,(Zd5 c 7 (by decide)).2]
 generalize andI .i64 op 3=m at*
 have:m=0\/m=1\/m=2\/m=3:=by omega
 rcases this with rfl|rfl|rfl|rfl<;>cases c<;>exact⟨rfl,rfl⟩
theorem Z0q (op a:Int) (c:Bool):ZX9 op a c=true:=by
 have h3:=and3 op
 simp only[ZX9,ZNG,RT.val,(Zd5 c 0 (by decide)).1,(Zd5 c 7 (by decide)).1]
 generalize andI .i64 op 3=m at*
 have:m=0\/m=1\/m=2\/m=3:=by omega
 rcases this with rfl|rfl|rfl|rfl<;>rfl
theorem ZTR (v:Int) (c:Bool) (h:inR .u16 v):ZYS v c=ZxH v c:=by
 have hb:=Zd5 c 0 (by decide)
 have e:IntKind.wrap .u16 (bif c then 1 else 0)=IntKind.wrap .u16 (bif c then shlI .u8 1 0 else 0):=by cases c<;>rfl
 have hr:∀x,inR .u16 (orI .u16 x (IntKind.wrap .u16 (bif c then shlI .u8 1 0 else 0))):=λx=>(Zhf _ _ _).2.1
 simp only[ZYS,ZPD,ZxH,ZxG,RT.val,ZWW,hb.1,hb.2,cond_true,getO,e]
 rw[ZrX _ (Zhf _ _ _).2.2,ZMR _ _ (hr _) h,ZEa _ (hr _),ZEa _ h]
 cases tb (orI .u16 (shlI .u16 v 1) (IntKind.wrap .u16 (bif c then shlI .u8 1 0 else 0)))<;>cases tb v<;>rfl
theorem ZXU (v:Int) (c:Bool):ZNO v c=true:=by
 have hb:=Zd5 c 0 (by decide)
 simp[ZNO,ZxG,RT.val,hb.1,okB]
theorem ZYG (chip a b:Int) (f) (ha:inR .u16 a) (hb:inR .u16 b):pDad chip a b f=rDad chip a b f:=by
 have hr:inR .u16 (IntKind.wrap .u16 (a+b)):=Zbe _ _
 have ha':=Zkq.1 ha
 have hb':=Zkq.1 hb
 simp only[pDad,ZZh,rDad,ZYv,RT.val,ZaU]
 rw[ZrX _ (Zhf _ _ _).1,ZVL _ _ (Zhf _ _ _).2.2 (Zhf _ _ _).2.2,ZMR _ _ ha hr,ZMR _ _ hb hr]
 have e1:decide (IntKind.wrap .u16 (a+b)<a)=decide (IntKind.wrap .i64 (IntKind.wrap .i64 a+IntKind.wrap .i64 b)>65535):=by
  rw[ZEb,wrap_i64 a (by omega) (by omega),wrap_i64 b (by omega) (by omega),wrap_i64 (a+b) (by omega) (by omega)]
  simp only[decide_eq_decide];omega
 have e2:(((tb a)^^(tb (IntKind.wrap .u16 (a+b))))&&((tb b)^^(tb (IntKind.wrap .u16 (a+b)))))=(decide (IntKind.wrap .i64 (IntKind.wrap .i64 (IntKind.wrap .i16 a)+IntKind.wrap .i64 (IntKind.wrap .i16 b))< -32768)||decide (IntKind.wrap .i64 (IntKind.wrap .i64 (IntKind.wrap .i16 a)+IntKind.wrap .i64 (IntKind.wrap .i16 b))>32767)):=by
  have ia:=ZEc a
  have ib:=ZEc b
  have hia: -32768<=IntKind.wrap .i16 a/\IntKind.wrap .i16 a<=32767:=by rw[ia];split<;>omega
  have hib: -32768<=IntKind.wrap .i16 b/\IntKind.wrap .i16 b<=32767:=by rw[ib];split<;>omega
  rw[wrap_i64 (IntKind.wrap .i16 a) (by omega) (by omega),wrap_i64 (IntKind.wrap .i16 b) (by omega) (by omega),wrap_i64 (IntKind.wrap .i16 a+IntKind.wrap .i16 b) (by omega) (by omega)]
  rw[ia,ib,ZEb]
  unfold tb
  by_cases h1:a>=32768<;>by_cases h2:b>=32768<;>by_cases h3:(a+b)%65536>=32768<;>simp[h1,h2,h3]<;>(try split)<;>(try split)<;>omega
 rw[e1,e2]
theorem ZBZ (c l):ZYP c l=true/\pRim c l=rRim c l/\ZYb c l=true:=by
 have h:∀b n,0<=n->ZcS b n=true/\Zyg b n=bif b then shlI .u8 1 n else 0:=λb n h=>by
  cases b<;>simp[ZcS,Zyg,ZGx,RT.val,h,okB,getO]
 have h3:∀b,Zax b 3=true/\Zgn b 3=bif b then shlI .u8 1 3 else 0:=λb=>by cases b<;>exact⟨rfl,rfl⟩
 have h4:∀b,Zax b 4=true/\Zgn b 4=bif b then shlI .u8 1 4 else 0:=λb=>by cases b<;>exact⟨rfl,rfl⟩
 have h5:∀b,Zax b 5=true/\Zgn b 5=bif b then shlI .u8 1 5 else 0:=λb=>by cases b<;>exact⟨rfl,rfl⟩
 have h6:∀b,Zax b 6=true/\Zgn b 6=bif b then shlI .u8 1 6 else 0:=λb=>by cases b<;>exact⟨rfl,rfl⟩
 have h7:∀b,Zax b 7=true/\Zgn b 7=bif b then shlI .u8 1 7 else 0:=λb=>by cases b<;>exact⟨rfl,rfl⟩
 simp[ZYP,pRim,ZT5,ZYb,rRim,ZNJ,RT.val,h,h3,h4,h5,h6,h7,okB,getO]
theorem ZYC (c) (a:Int):pSim c a=rSim c a:=by
 simp only[pSim,ZYK,rSim,ZNA,RT.val]
theorem ZJn (s:Int):ZB4 s=Zi s:=by
 simp only[ZB4,Zup,Zi,ZsU,RT.val]
theorem ZPc (chip op a b:Int):ZuO chip op a b=true/\∀f,(andI .i64 op 7=op)->4<=op->op<=6->ZGH chip op a b=rDo chip op a b f:=by
 have h:=λx y=>of_C _ (ZkC x y).1
 have h':=λx y=>of_C _ (ZkC x y).2.1
 have h'':=λx y=>of_C _ (ZkC x y).2.2
 have g:=λx y=>Zyw _ (ZkC x y).1
 have g':=λx y=>Zyw _ (ZkC x y).2.1
 have g'':=λx y=>Zyw _ (ZkC x y).2.2
 have h0:=of_C 0 (by rw[ZgF];omega)
 constructor
 ·cases h4:op==4<;>cases h5:op==5<;>cases h6:op==6<;>simp[ZuO,ZoF,RT.val,h,h',h'',h0,okB,h4,h5,h6]
 ·intro f e h4 h6
  have:op=4\/op=5\/op=6:=by omega
  rcases this with rfl|rfl|rfl<;>cases hc:chip==2<;>simp[ZGH,ZoF,rDo,rDoT,RT.val,h,h',h'',g,g',g'',getO,e,ZaU,hc,Zqb,Zrc,rOf,rOfT,ZyM]
theorem ZWy (chip op a b:Int) (f):pDoC chip op a b f=true/\pDo chip op a b f=rDo chip op a b f:=by
 have h7:=and7 op
 have hs:=λx=>of_C _ (Zw7 a b x)
 have hs2:=λx=>Zyw _ (Zw7 a b x)
 have hd:=λx=>of_C _ (ZpR a b x)
 have hd2:=λx=>Zyw _ (ZpR a b x)
 have hl:=ZPc chip (andI .i64 op 7) a b
 have hlt:decide (b<128)= !decide (128<=b):=by
  by_cases h:b<128
  ·have:¬128<=b:=by omega
   simp[h,this]
  ·have:128<=b:=by omega
   simp[h,this]
 have hr:rDo chip (andI .i64 op 7) a b f=rDo chip op a b f:=by
  have:andI .i64 (andI .i64 op 7) 7=andI .i64 op 7:=by
   generalize andI .i64 op 7=m at*
   rcases ZRU h7 with rfl|rfl|rfl|rfl|rfl|rfl|rfl|rfl<;>rfl
  simp only[rDo,rDoT,this]
 have he:andI .i64 (andI .i64 op 7) 7=andI .i64 op 7:=by
  generalize andI .i64 op 7=m at*
  rcases ZRU h7 with rfl|rfl|rfl|rfl|rfl|rfl|rfl|rfl<;>rfl
 rw[<-hr]
 have hl2:=hl.2 f he
 have hl1:=hl.1
 clear hl hr
 simp only[pDoC,pDo,pDoT,RT.val]
 generalize andI .i64 op 7=m at*
 rcases ZRU h7 with rfl|rfl|rfl|rfl|rfl|rfl|rfl|rfl
 case inr.inr.inr.inr.inl=>simp[hl1,hl2,okB,getO]
 case inr.inr.inr.inr.inr.inl=>simp[hl1,hl2,okB,getO]
 case inr.inr.inr.inr.inr.inr.inl=>simp[hl1,hl2,okB,getO]
 all_goals cases hc:chip==2<;>simp[rDo,rDoT,RT.val,ZMU,ZDX,hs,hs2,hd,hd2,okB,getO,he,ZaU,hc,Zqb,Zrc,rOf,rOfT,ZyM,hlt]
theorem ZPi (chip op:Int) (h:chip≠2):(Zfu chip op).val=(Zfu 0 op).val:=by
 have h1:(chip==2)=false:=by simpa using h
 have h0:((0:Int)==2)=false:=rfl
 simp only[Zfu,RT.val,h1,h0]
theorem ZmB (chip op:Int) (h:chip≠2):(Zfs chip op).val=(Zfs 0 op).val:=by
 have h1:rOn chip=false:=by simpa [ZaU] using h
 have h0:rOn 0=false:=rfl
 simp only[Zfs,RT.val,h1,h0]
def decT (chip op:Int):Bool:=okB (Zfu chip op).val&&okB (Zfs chip op).val&&(ZoJ chip op==Zb chip op)
theorem dec_ok (chip op:Int) (h:inR .u8 op):ZlH chip op=true/\ZoJ chip op=Zb chip op/\ZlA chip op=true:=by
 have fin:∀c,decT c op=true->ZlH c op=true/\ZoJ c op=Zb c op/\ZlA c op=true:=by
  intro c hc
  simp only[decT,Bool.and_eq_true,beq_iff_eq] at hc
  exact⟨hc.1.1,hc.2,hc.1.2⟩
 by_cases hc:chip=2
 ·subst hc;exact fin 2 (ZfI (decT 2) (by kernel_rfl) op h)
 ·have:=fin 0 (ZfI (decT 0) (by kernel_rfl) op h)
  unfold ZlH ZoJ Zb ZlA at this|-
  rw[ZPi chip op hc,ZmB chip op hc];exact this
def ZuP:Entry:=Zg ZCY ZCZ (λ_=>none) (λa=>ZcN a.1 a.2)
theorem Zyl:Za prog 236 ZuP:=ZlG.tot (λa h=>by simp) (λa h=>ZvZ _ _)
def ZWN:Entry:=Zg ZP8 ZP9 (λ_=>none) (λa=>rGet a.1 a.2)
theorem ZUh:Za prog 287 ZWN:=ZP7.tot (λa h=>by simp) (λa h=>ZPg _ _)
def ZnD:Entry:=Zg ZOq ZF1 (λ_=>none) (λa=>rGet a.1 a.2)
theorem Ztt:Za prog 163 ZnD:=ZOp.tot (λa h=>by have h1:=ZZK a.1 a.2;simp[h1]) (λa h=>rfl)
def Zyf:Entry:=Zg ZPr ZPs (λ_=>none) (λa=>rSet a.1 a.2.1 a.2.2)
theorem ZGw:Za prog 268 Zyf:=ZPq.tot (λa h=>by simp) (λa h=>ZO9 _ _ _)
def ZPH:Entry:=Zg ZCf ZCg (λ_=>none) (λa=>Zal a.1 a.2)
theorem ZPG:Za prog 286 ZPH:=ZT8.tot (λa h=>by simp) (λa h=>ZTS _ _)
def Zgj:Entry:=Zg ZAN Zta (λ_=>none) (λa=>Zal a.1 a.2)
theorem ZiL:Za prog 158 Zgj:=ZTy.tot (λa h=>by have h1:=ZXV a.1 a.2;simp[h1]) (λa h=>rfl)
def Zb5:Entry:=Zg Zj6 Zj7 (λ_=>none) (λa=>Zr a.1 a.2.1 a.2.2)
theorem Zez:Za prog 269 Zb5:=ZB6.tot (λa h=>by simp) (λa h=>ZBY _ _ _)
def ZPK:Entry:=Zg ZPJ ZGD (λ_=>none) (λa=>rPSW a.1 a.2)
theorem ZUc:Za prog 290 ZPK:=ZYU.tot (λa h=>by have h1:=(ZPb a.1 a.2).1;simp[h1]) (λa h=>(ZPb _ _).2)
def ZN3:Entry:=Zg ZN1 ZFO (λ_=>none) (λa=>rPSW a.1 a.2)
theorem ZTB:Za prog 171 ZN3:=ZYd.tot (λa h=>by have h1:=Z0r a.1 a.2;simp[h1]) (λa h=>rfl)
def ZnY:Entry:=Zg ZnW ZnX (λ_=>none) (λa=>Zgi a.1 a.2.1 a.2.2)
theorem ZB7:Za prog 281 ZnY:=ZJy.tot (λa h=>by simp) (λa h=>ZJr _ _ _)
def ZZb:Entry:=Zg ZY9 ZUm (λ_=>none) (λa=>rDo a.1 a.2.1 a.2.2.1 a.2.2.2.1 a.2.2.2.2)
theorem ZZa:Za prog 271 ZZb:=Z01.tot (λa h=>by have h1:=(ZWy a.1 a.2.1 a.2.2.1 a.2.2.2.1 a.2.2.2.2).1;simp[h1]) (λa h=>(ZWy _ _ _ _ _).2)
def ZGN:Entry:=Zg ZP4 ZGL (λ_=>none) (λa=>rInr a.1 a.2.1 a.2.2)
theorem ZGM:Za prog 273 ZGN:=ZY1.tot (λa h=>by have h1:=(ZPe a.1 a.2.1 a.2.2).1;simp[h1]) (λa h=>(ZPe _ _ _).2)
def ZGX:Entry:=Zg ZQu ZGV (λ_=>none) (λa=>rDcr a.1 a.2.1 a.2.2)
theorem ZGW:Za prog 274 ZGX:=ZZe.tot (λa h=>by have h1:=(ZPj a.1 a.2.1 a.2.2).1;simp[h1]) (λa h=>(ZPj _ _ _).2)
def ZP3:Entry:=Zg ZP1 ZP2 (λ_=>none) (λa=>rInx a.1 a.2.1 a.2.2)
theorem ZUf:Za prog 275 ZP3:=ZYZ.tot (λa h=>by simp) (λa h=>ZYD _ _ _)
def ZQt:Entry:=Zg ZQr ZQs (λ_=>none) (λa=>rDcx a.1 a.2.1 a.2.2)
theorem ZUo:Za prog 276 ZQt:=ZZc.tot (λa h=>by simp) (λa h=>ZYF _ _ _)
def ZQz:Entry:=Zg ZQy ZGY (λ_=>none) (λa=>rDaa a.1 a.2.1 a.2.2)
theorem ZUs:Za prog 278 ZQz:=ZZi.tot (λa h=>by have h1:=(ZPk a.1 a.2.1 a.2.2).1;simp[h1]) (λa h=>(ZPk _ _ _).2)
def ZQx:Entry:=Zg ZQv ZQw (λ_=>none) (λa=>rDad a.1 a.2.1 a.2.2.1 a.2.2.2)
theorem ZUq:Za prog 277 ZQx:=ZZg.tot (λa h=>by simp) (λa h=>ZYG _ _ _ _ h.2.1 h.2.2.1)
def ZDe:Entry:=Zg ZDd Zvx (λ_=>none) (λa=>ZxV a.1 a.2)
theorem ZQn:Za prog 283 ZDe:=ZUl.tot (λa h=>by have h1:=(ZGt a.1 a.2).1;simp[h1]) (λa h=>(ZGt _ _).2)
def ZDh:Entry:=Zg ZDf ZDg (λ_=>none) (λa=>Zuc a)
theorem ZQB:Za prog 284 ZDh:=ZUu.tot (λa h=>by simp) (λa h=>ZTW _)
def ZPw:Entry:=Zg ZPv ZGy (λ_=>none) (λa=>rRot a.1 a.2.1 a.2.2)
theorem ZT4:Za prog 279 ZPw:=ZYM.tot (λa h=>by have h1:=(ZPa a.1 a.2.1 a.2.2).1;simp[h1]) (λa h=>(ZPa _ _ _).2)
def ZNH:Entry:=Zg ZNF ZFu (λ_=>none) (λa=>rRot a.1 a.2.1 a.2.2)
theorem ZTo:Za prog 213 ZNH:=ZX8.tot (λa h=>by have h1:=Z0q a.1 a.2.1 a.2.2;simp[h1]) (λa h=>rfl)
def ZCe:Entry:=Zg ZCc ZCd (λ_=>none) (λa=>ZxH a.1 a.2)
theorem ZPE:Za prog 285 ZCe:=ZT7.tot (λa h=>by simp) (λa h=>ZTR _ _ h.1)
def ZAJ:Entry:=Zg ZAI Zs5 (λ_=>none) (λa=>ZxH a.1 a.2)
theorem ZNP:Za prog 216 ZAJ:=ZTr.tot (λa h=>by have h1:=ZXU a.1 a.2;simp[h1]) (λa h=>rfl)
def ZPy:Entry:=Zg ZPx ZGz (λ_=>none) (λa=>rRim a.1 a.2)
theorem ZT6:Za prog 227 ZPy:=ZYO.tot (λa h=>by have h1:=(ZBZ a.1 a.2).1;simp[h1]) (λa h=>(ZBZ _ _).2.1)
def ZVX:Entry:=Zg ZNI ZFv (λ_=>none) (λa=>rRim a.1 a.2)
theorem ZTp:Za prog 159 ZVX:=ZYa.tot (λa h=>by have h1:=(ZBZ a.1 a.2).2.2;simp[h1]) (λa h=>rfl)
def ZPp:Entry:=Zg ZPn ZPo (λ_=>none) (λa=>rSim a.1 a.2)
theorem ZT0:Za prog 228 ZPp:=ZYJ.tot (λa h=>by simp) (λa h=>ZYC _ _)
def ZGO:Entry:=Zg ZuQ ZuR (λ_=>none) (λa=>Zey a.1 a.2)
theorem ZJM:Za prog 322 ZGO:=ZP5.tot (λa h=>by simp) (λa h=>ZUS _ _)
def Zya:Entry:=Zg ZnS ZnT (λ_=>none) (λa=>Zi a)
theorem ZB3:Za prog 177 Zya:=ZJw.tot (λa h=>by simp) (λa h=>ZJn _)
def Zyo:Entry:=Zg Zi2 Zi3 (λ_=>none) (λa=>Zb a.1 a.2)
theorem ZoI:Za prog 182 Zyo:=ZKr.tot (λa h=>by have h1:=(dec_ok a.1 a.2 h.2).1;simp[h1]) (λa h=>(dec_ok a.1 a.2 h.2).2.1)
def ZxW:Entry:=Zg ZiO ZiP (λ_=>none) (λa=>Zb a.1 a.2)
theorem ZnH:Za prog 107 ZxW:=ZJj.tot (λa h=>by have h1:=(dec_ok a.1 a.2 h.2).2.2;simp[h1]) (λa h=>rfl)
abbrev ZWZ:R:=R.pair (.int .i64) (R.pair (.int .i64) (R.pair (.int .i64) (R.pair (.int .i64) (R.pair (.int .i64) (R.pair (.int .i64) (.int .i64))))))
def Zyp (k:Int):Entry:=pinE Zi2 ZWZ (λa=>Zb a.1 a.2) k
theorem ZGU (k:Int):Za Tryz.prog 182 (Zyp k):=ZPf ZoI k
def ZOM (k:Int):Entry:=pinE ZiO ZWZ (λa=>Zb a.1 a.2) k
theorem ZGb (k:Int):Za Tryz.prog 107 (ZOM k):=ZPf ZnH k
def pcOf (c:TC):Int:=c.2.1.2.2.2.2.2.2.2.2.2
def spOf (c:TC):Int:=c.2.1.2.2.2.2.2.2.2.2.1
def rgx (r:TR) (f:TF) (sp pc:Int):TR:=(r.1,r.2.1,r.2.2.1,r.2.2.2.1,r.2.2.2.2.1,r.2.2.2.2.2.1,r.2.2.2.2.2.2.1,f,sp,pc)
def fin3 (g:List Int) (l:List TY):RT (Option (TY×Bool)):=.br (decide (iN (List.length g)>=iN (List.length l))) (.leaf (some (((0,0,0,0),false)))) (.br (Zf (iN (List.length g)) (List.length l)) (.leaf (some ((R.get RY l (iN (List.length g)),true)))) (.leaf none))
abbrev ZoG:List Sh:=[Sh.one (R.int i64)]
abbrev ZoH:Rs:=Rs.one (Sh.one R.bool)
def Zru (s:Int):RT (Bool):=
 .leaf (decide (s>=1)&&decide (s<=4))
def Ze (s:Int):Bool:=(Zru s).val
def Zj8:Entry:=Zg ZoG ZoH (λ_=>none) (λa=>Ze a)
theorem ZkN:Za prog 176 Zj8:=
 pureQ 7 [] [] ZoG ZoH trivial Tryz.func176 Tryz.call176 trivial (t:=λa=>Zru a)
abbrev Z0O:R:=R.pair Zx (R.pair R.bool (R.pair (R.sl (R.int u8)) (R.pair (R.pair (R.int i64) (R.pair (R.int i64) (R.pair (R.int i64) (R.pair (R.int i64) (R.pair (R.int i64) (R.pair (R.int i64) (R.pair (R.int i64) (R.int i64)))))))) (R.sl (RY)))))
abbrev Z0N:List Sh:=[Sh.one (R.int i64)]
abbrev ZYB:Rs:=Rs.one (Sh.one (R.int u8))
def qAtT (s:QT1) (n:Int):RT (Option (Int)):=
 .br (!decide (n< ↑(List.length s.2.2.1))||Zf n (List.length s.2.2.1)) (.br (decide (n< ↑(List.length s.2.2.1))) (.leaf (some (R.get (R.int u8) s.2.2.1 n))) (.leaf (some (0)))) (.leaf none)
def qAt (s:QT1) (n:Int):Int:=getO ZYB.dflt (qAtT s n).val
def qAtC (s:QT1) (n:Int):Bool:=okB (qAtT s n).val
def qAtE:Entry:=ZhR Z0O Z0N ZYB (λa=>some (qAtC a.1 a.2)) (λa=>qAt a.1 a.2)
theorem ZiW:Za prog 222 qAtE:=
 ZeT (P:=prog) (n:=31) (k:=8) (l:=[]) (ol:=[]) trivial Tryz.func222 rfl (by kernel_rfl) Tryz.call222 trivial (rb:=Z0O) (ts:=Z0N) (rs:=ZYB) (by kernel_rfl) (t:=λa=>qAtT a.1 a.2) (λa=>by kernel_rfl)
abbrev ZO3:R:=R.pair Zx (R.pair R.bool (R.pair (R.sl (R.int u8)) (R.pair (R.pair (R.int i64) (R.pair (R.int i64) (R.pair (R.int i64) (R.pair (R.int i64) (R.pair (R.int i64) (R.pair (R.int i64) (R.pair (R.int i64) (R.int i64)))))))) (R.sl (RY)))))
abbrev ZO2:List Sh:=[Sh.one (R.int i64)]
abbrev ZBV:Rs:=Rs.one (Sh.one (R.int u16))
def Zx3 (s:QT1) (n:Int):RT (Option (Int)):=
 .br (!qAtC s (i64.wrap (n+1))||qAtC s n) (.br (qAtC s (i64.wrap (n+1))) (.leaf (some (ZcN (qAt s (i64.wrap (n+1))) (qAt s n)))) (.leaf none)) (.leaf none)
def Zgq (s:QT1) (n:Int):Int:=getO ZBV.dflt (Zx3 s n).val
def ZcR (s:QT1) (n:Int):Bool:=okB (Zx3 s n).val
def ZnL:Entry:=ZhR ZO3 ZO2 ZBV (λa=>some (ZcR a.1 a.2)) (λa=>Zgq a.1 a.2)
theorem Zue:Za prog 270 ZnL:=
 ZeT (P:=prog) (n:=31) (k:=8) (l:=[(222,qAtE),(236,ZuP)]) (ol:=[]) ⟨ZiW,Zyl,Tv⟩ Tryz.func270 rfl (by kernel_rfl) Tryz.call270 trivial (rb:=ZO3) (ts:=ZO2) (rs:=ZBV) (by kernel_rfl) (t:=λa=>Zx3 a.1 a.2) (λa=>by kernel_rfl)
abbrev Zx6:R:=R.pair Zx (R.pair R.bool (R.pair (R.sl (R.int u8)) (R.pair (R.pair (R.int i64) (R.pair (R.int i64) (R.pair (R.int i64) (R.pair (R.int i64) (R.pair (R.int i64) (R.pair (R.int i64) (R.pair (R.int i64) (R.int i64)))))))) (R.sl (RY)))))
abbrev Zx4:List Sh:=[]
abbrev Zx5:Rs:=Rs.one (Sh.one (R.int u16))
def ZGl (s:QT1):RT (Int):=
 .br s.2.1 (.leaf s.1.2.1.2.2.2.2.2.2.2.2.2) (.leaf (u16.wrap (s.1.2.1.2.2.2.2.2.2.2.2.2+u16.wrap s.2.2.2.1.2.1)))
def ZE (s:QT1):Int:=(ZGl s).val
def ZiV:Entry:=ZhR Zx6 Zx4 Zx5 (λ_=>none) (λa=>ZE a.1)
theorem Zrn:Za prog 223 ZiV:=
 ZgZ (P:=prog) (n:=7) (k:=8) (l:=[]) (ol:=[]) trivial Tryz.func223 rfl (by kernel_rfl) Tryz.call223 trivial (rb:=Zx6) (ts:=Zx4) (rs:=Zx5) (by kernel_rfl) (t:=λa=>ZGl a.1) (λa=>by kernel_rfl)
abbrev ZGk:R:=R.pair Zx (R.pair R.bool (R.pair (R.sl (R.int u8)) (R.pair (R.pair (R.int i64) (R.pair (R.int i64) (R.pair (R.int i64) (R.pair (R.int i64) (R.pair (R.int i64) (R.pair (R.int i64) (R.pair (R.int i64) (R.int i64)))))))) (R.sl (RY)))))
abbrev ZGi:List Sh:=[]
abbrev ZGj:Rs:=Rs.one (Sh.one R.bool)
def ZOY (s:QT1):RT (Bool):=
 .leaf (Zey s.2.2.2.1.2.2.2.2.2.2.1 s.1.2.1.2.2.2.2.2.2.2.1)
def Zhy (s:QT1):Bool:=(ZOY s).val
def ZhU:Entry:=ZhR ZGk ZGi ZGj (λ_=>none) (λa=>Zhy a.1)
theorem ZnJ:Za prog 280 ZhU:=
 ZgZ (P:=prog) (n:=7) (k:=8) (l:=[(322,ZGO)]) (ol:=[]) ⟨ZJM,Tv⟩ Tryz.func280 rfl (by kernel_rfl) Tryz.call280 trivial (rb:=ZGk) (ts:=ZGi) (rs:=ZGj) (by kernel_rfl) (t:=λa=>ZOY a.1) (λa=>by kernel_rfl)
abbrev ZWw:R:=R.pair Zx (R.pair R.bool (R.pair (R.sl (R.int u8)) (R.pair (R.pair (R.int i64) (R.pair (R.int i64) (R.pair (R.int i64) (R.pair (R.int i64) (R.pair (R.int i64) (R.pair (R.int i64) (R.pair (R.int i64) (R.int i64)))))))) (R.sl (RY)))))
abbrev ZWu:List Sh:=[Sh.one (R.int i64)]
abbrev ZWv:Rs:=Rs.one (Sh.one (R.int u8))
def Z0M (s:QT1) (n:Int):RT (Int):=
 .leaf (rGet s.1.2.1 n)
def qReg (s:QT1) (n:Int):Int:=(Z0M s n).val
def Zx2:Entry:=ZhR ZWw ZWu ZWv (λ_=>none) (λa=>qReg a.1 a.2)
theorem Zud:Za prog 232 Zx2:=
 ZgZ (P:=prog) (n:=31) (k:=8) (l:=[(287,ZWN)]) (ol:=[]) ⟨ZUh,Tv⟩ Tryz.func232 rfl (by kernel_rfl) Tryz.call232 trivial (rb:=ZWw) (ts:=ZWu) (rs:=ZWv) (by kernel_rfl) (t:=λa=>Z0M a.1 a.2) (λa=>by kernel_rfl)
abbrev ZO1:R:=R.pair Zx (R.pair R.bool (R.pair (R.sl (R.int u8)) (R.pair (R.pair (R.int i64) (R.pair (R.int i64) (R.pair (R.int i64) (R.pair (R.int i64) (R.pair (R.int i64) (R.pair (R.int i64) (R.pair (R.int i64) (R.int i64)))))))) (R.sl (RY)))))
abbrev ZOZ:List Sh:=[Sh.one (R.int i64)]
abbrev ZO0:Rs:=Rs.one (Sh.one (R.int u16))
def ZWx (s:QT1) (n:Int):RT (Int):=
 .leaf (Zal s.1.2.1 n)
def Zea (s:QT1) (n:Int):Int:=(ZWx s n).val
def Zgo:Entry:=ZhR ZO1 ZOZ ZO0 (λ_=>none) (λa=>Zea a.1 a.2)
theorem ZiQ:Za prog 231 Zgo:=
 ZgZ (P:=prog) (n:=31) (k:=8) (l:=[(286,ZPH)]) (ol:=[]) ⟨ZPG,Tv⟩ Tryz.func231 rfl (by kernel_rfl) Tryz.call231 trivial (rb:=ZO1) (ts:=ZOZ) (rs:=ZO0) (by kernel_rfl) (t:=λa=>ZWx a.1 a.2) (λa=>by kernel_rfl)
abbrev Zrm:R:=R.pair Zx (R.pair R.bool (R.pair (R.sl (R.int u8)) (R.pair (R.pair (R.int i64) (R.pair (R.int i64) (R.pair (R.int i64) (R.pair (R.int i64) (R.pair (R.int i64) (R.pair (R.int i64) (R.pair (R.int i64) (R.int i64)))))))) (R.sl (RY)))))
abbrev Zrl:List Sh:=[]
abbrev Zj4:Rs:=Rs.one (Sh.one (R.int u8))
def ZiT (s:QT1):RT (Option (Int)):=
 .br (qAtC s 1) (.leaf (some (bif s.2.2.2.1.1==14 then (rInr s.1.1 (qAt s 1) s.1.2.1.2.2.2.2.2.2.2.1).1 else (rDcr s.1.1 (qAt s 1) s.1.2.1.2.2.2.2.2.2.2.1).1))) (.leaf none)
def ZiU (s:QT1):Int:=getO Zj4.dflt (ZiT s).val
def Zgr (s:QT1):Bool:=okB (ZiT s).val
def ZnM:Entry:=ZhR Zrm Zrl Zj4 (λa=>some (Zgr a.1)) (λa=>ZiU a.1)
theorem ZBW:Za prog 234 ZnM:=
 ZeT (P:=prog) (n:=15) (k:=8) (l:=[(222,qAtE),(273,ZGN),(274,ZGX)]) (ol:=[]) ⟨ZiW,ZGM,ZGW,Tv⟩ Tryz.func234 rfl (by kernel_rfl) Tryz.call234 trivial (rb:=Zrm) (ts:=Zrl) (rs:=Zj4) (by kernel_rfl) (t:=λa=>ZiT a.1) (λa=>by kernel_rfl)
abbrev Zrk:R:=R.pair Zx (R.pair R.bool (R.pair (R.sl (R.int u8)) (R.pair (R.pair (R.int i64) (R.pair (R.int i64) (R.pair (R.int i64) (R.pair (R.int i64) (R.pair (R.int i64) (R.pair (R.int i64) (R.pair (R.int i64) (R.int i64)))))))) (R.sl (RY)))))
abbrev Zrj:List Sh:=[]
abbrev Zj3:Rs:=Rs.one (Sh.one (R.int u8))
def ZiR (s:QT1):RT (Option (Int)):=
 let x1:=s.2.2.2.1.1==13||s.2.2.2.1.2.2.2.1==6
 .br (!x1||qAtC s 1) (.br (x1) (.leaf (some (qAt s 1))) (.leaf (some (qReg s s.2.2.2.1.2.2.2.1)))) (.leaf none)
def ZiS (s:QT1):Int:=getO Zj3.dflt (ZiR s).val
def Zgp (s:QT1):Bool:=okB (ZiR s).val
def ZnK:Entry:=ZhR Zrk Zrj Zj3 (λa=>some (Zgp a.1)) (λa=>ZiS a.1)
theorem ZBU:Za prog 272 ZnK:=
 ZeT (P:=prog) (n:=7) (k:=8) (l:=[(222,qAtE),(232,Zx2)]) (ol:=[]) ⟨ZiW,Zud,Tv⟩ Tryz.func272 rfl (by kernel_rfl) Tryz.call272 trivial (rb:=Zrk) (ts:=Zrj) (rs:=Zj3) (by kernel_rfl) (t:=λa=>ZiR a.1) (λa=>by kernel_rfl)
abbrev Z1c:R:=R.pair Zx (R.pair R.bool (R.pair (R.sl (R.int u8)) (R.sl (RY))))
abbrev Z1b:List Sh:=[Sh.one (R.int i64)]
abbrev ZZv:Rs:=Rs.one (Sh.one (R.int u8))
def mAtT (s:QT3) (n:Int):RT (Option (Int)):=
 .br (!decide (n< ↑(List.length s.2.2.1))||Zf n (List.length s.2.2.1)) (.br (decide (n< ↑(List.length s.2.2.1))) (.leaf (some (R.get (R.int u8) s.2.2.1 n))) (.leaf (some (0)))) (.leaf none)
def mAt (s:QT3) (n:Int):Int:=getO ZZv.dflt (mAtT s n).val
def mAtC (s:QT3) (n:Int):Bool:=okB (mAtT s n).val
def mAtE:Entry:=ZhR Z1c Z1b ZZv (λa=>some (mAtC a.1 a.2)) (λa=>mAt a.1 a.2)
theorem ZyU:Za prog 153 mAtE:=
 ZeT (P:=prog) (n:=31) (k:=8) (l:=[]) (ol:=[]) trivial Tryz.func153 rfl (by kernel_rfl) Tryz.call153 trivial (rb:=Z1c) (ts:=Z1b) (rs:=ZZv) (by kernel_rfl) (t:=λa=>mAtT a.1 a.2) (λa=>by kernel_rfl)
abbrev ZQ7:R:=R.pair Zx (R.pair R.bool (R.pair (R.sl (R.int u8)) (R.sl (RY))))
abbrev ZQ6:List Sh:=[Sh.one (R.int i64)]
abbrev ZDE:Rs:=Rs.one (Sh.one (R.int u16))
def ZHb (s:QT3) (n:Int):RT (Option (Int)):=
 .br (!mAtC s (i64.wrap (n+1))||mAtC s n) (.br (mAtC s (i64.wrap (n+1))) (.leaf (some (ZcN (mAt s (i64.wrap (n+1))) (mAt s n)))) (.leaf none)) (.leaf none)
def ZeI (s:QT3) (n:Int):Int:=getO ZDE.dflt (ZHb s n).val
def Zcd (s:QT3) (n:Int):Bool:=okB (ZHb s n).val
def Zpb:Entry:=ZhR ZQ7 ZQ6 ZDE (λa=>some (Zcd a.1 a.2)) (λa=>ZeI a.1 a.2)
theorem ZvL:Za prog 165 Zpb:=
 ZeT (P:=prog) (n:=31) (k:=8) (l:=[(153,mAtE),(172,ZnA)]) (ol:=[]) ⟨ZyU,ZiN,Tv⟩ Tryz.func165 rfl (by kernel_rfl) Tryz.call165 trivial (rb:=ZQ7) (ts:=ZQ6) (rs:=ZDE) (by kernel_rfl) (t:=λa=>ZHb a.1 a.2) (λa=>by kernel_rfl)
abbrev ZyT:R:=R.pair Zx (R.pair R.bool (R.pair (R.sl (R.int u8)) (R.sl (RY))))
abbrev ZyR:List Sh:=[Sh.one (R.int i64)]
abbrev ZyS:Rs:=Rs.one (Sh.one (R.int u16))
def ZHj (s:QT3) (n:Int):RT (Int):=
 .br s.2.1 (.leaf s.1.2.1.2.2.2.2.2.2.2.2.2) (.leaf (u16.wrap (s.1.2.1.2.2.2.2.2.2.2.2.2+u16.wrap n)))
def ZC (s:QT3) (n:Int):Int:=(ZHj s n).val
def Zhd:Entry:=ZhR ZyT ZyR ZyS (λ_=>none) (λa=>ZC a.1 a.2)
theorem Zki:Za prog 157 Zhd:=
 ZgZ (P:=prog) (n:=31) (k:=8) (l:=[]) (ol:=[]) trivial Tryz.func157 rfl (by kernel_rfl) Tryz.call157 trivial (rb:=ZyT) (ts:=ZyR) (rs:=ZyS) (by kernel_rfl) (t:=λa=>ZHj a.1 a.2) (λa=>by kernel_rfl)
abbrev ZHf:R:=R.pair Zx (R.pair R.bool (R.pair (R.sl (R.int u8)) (R.sl (RY))))
abbrev ZHd:List Sh:=[Sh.agg (R.pair (R.int i64) (R.pair (R.int i64) (R.pair (R.int i64) (R.pair (R.int i64) (R.pair (R.int i64) (R.pair (R.int i64) (R.pair (R.int i64) (R.int i64))))))))]
abbrev ZHe:Rs:=Rs.one (Sh.one R.bool)
def ZRb (s:QT3) (i:QT6):RT (Bool):=
 .leaf (Zey i.2.2.2.2.2.2.1 s.1.2.1.2.2.2.2.2.2.2.1)
def ZeC (s:QT3) (i:QT6):Bool:=(ZRb s i).val
def Zh0:Entry:=ZhR ZHf ZHd ZHe (λ_=>none) (λa=>ZeC a.1 a.2)
theorem Zpd:Za prog 169 Zh0:=
 ZgZ (P:=prog) (n:=31) (k:=8) (l:=[(220,ZOo)]) (ol:=[]) ⟨ZOn,Tv⟩ Tryz.func169 rfl (by kernel_rfl) Tryz.call169 trivial (rb:=ZHf) (ts:=ZHd) (rs:=ZHe) (by kernel_rfl) (t:=λa=>ZRb a.1 a.2) (λa=>by kernel_rfl)
abbrev ZqZ:List Sh:=[Sh.agg Zx,Sh.agg (R.pair (R.int i64) (R.pair (R.int i64) (R.pair (R.int i64) (R.pair (R.int i64) (R.pair (R.int i64) (R.pair (R.int i64) (R.pair (R.int i64) (R.int i64)))))))),Sh.one (R.int u8)]
abbrev Zq0:Rs:=Rs.tup [Sh.one (R.int u8),Sh.agg rcF7]
def Zxv (c:TC) (i:QT6) (v:Int):RT (QT2):=
 .br (i.1==14) (.leaf (rInr c.1 v c.2.1.2.2.2.2.2.2.2.1)) (.leaf (rDcr c.1 v c.2.1.2.2.2.2.2.2.2.1))
def Zg0 (c:TC) (i:QT6) (v:Int):QT2:=(Zxv c i v).val
def Zgf:Entry:=Zg ZqZ Zq0 (λ_=>none) (λa=>Zg0 a.1 a.2.1 a.2.2)
theorem ZmJ:Za prog 166 Zgf:=
 pureQ 255 [(218,Z0F),(219,Z0L)] [] ZqZ Zq0 ⟨ZYj,ZYs,Tv⟩ Tryz.func166 Tryz.call166 trivial (t:=λa=>Zxv a.1 a.2.1 a.2.2)
abbrev ZuS:List Sh:=[Sh.one (R.int i64),Sh.one (R.int u8)]
abbrev ZuT:Rs:=Rs.one (Sh.one (R.int i64))
def ZC1 (chip:Int) (op:Int):RT (Int):=
 .br ((Zb chip op).1==2) (.br (!chip==2&&((Zb chip op).2.2.1 !=6&&(Zb chip op).2.2.2.1 !=6)) (.leaf (5)) (.leaf (4))) (.br (bif (Zb chip op).1==14 then (Zb chip op).1==14 else (Zb chip op).1==15) (.br (!chip==2&&(Zb chip op).2.2.1 !=6) (.leaf (5)) (.leaf (4))) (.br ((Zb chip op).1==37) (.br (chip==2) (.leaf (5)) (.leaf (4))) (.br ((Zb chip op).1==26) (.br ((Zb chip op).2.2.2.2.2.2.1==11) (.leaf (4)) (.br (chip==2) (.leaf (6)) (.leaf (5)))) (.br (bif (Zb chip op).1==16 then (Zb chip op).1==16 else bif (Zb chip op).1==17 then (Zb chip op).1==17 else bif (Zb chip op).1==28 then (Zb chip op).1==28 else bif (Zb chip op).1==29 then (Zb chip op).1==29 else bif (Zb chip op).1==25 then (Zb chip op).1==25 else bif (Zb chip op).1==27 then (Zb chip op).1==27 else bif (Zb chip op).1==45 then (Zb chip op).1==45 else (Zb chip op).1==30) (.br (chip==2) (.leaf (6)) (.leaf (5))) (.leaf (4))))))
def Zrw (chip:Int) (op:Int):Int:=(ZC1 chip op).val
def ZY5:Entry:=Zg ZuS ZuT (λ_=>none) (λa=>Zrw a.1 a.2)
theorem ZQa:Za prog 115 ZY5:=
 pureQ 72842913792127 [(182,Zyo)] [] ZuS ZuT ⟨ZoI,Tv⟩ Tryz.func115 Tryz.call115 trivial (t:=λa=>ZC1 a.1 a.2)
abbrev ZF4:List Sh:=[Sh.one (R.int i64),Sh.one (R.int u8)]
abbrev ZF5:Rs:=Rs.one (Sh.one (R.int i64))
def ZBF (chip:Int) (op:Int):RT (Int):=
 let x1:=bif (Zb chip op).1==14 then (Zb chip op).1==14 else (Zb chip op).1==15
 let x2:= !(Zb chip op).1==2&&(!x1&&((bif (Zb chip op).1==16 then (Zb chip op).1==16 else bif (Zb chip op).1==17 then (Zb chip op).1==17 else bif (Zb chip op).1==28 then (Zb chip op).1==28 else bif (Zb chip op).1==29 then (Zb chip op).1==29 else bif (Zb chip op).1==25 then (Zb chip op).1==25 else bif (Zb chip op).1==27 then (Zb chip op).1==27 else bif (Zb chip op).1==30 then (Zb chip op).1==30 else (Zb chip op).1==45)||(Zb chip op).1==26&&(Zb chip op).2.2.2.2.2.2.1 !=11))
 .br (rOn chip&&x2) (.leaf (6)) (.br (rOn chip&&(Zb chip op).1==37) (.leaf (5)) (.br (!rOn chip&&(x2||bif (Zb chip op).1==2 then (Zb chip op).2.2.1 !=6&&(Zb chip op).2.2.2.1 !=6 else x1&&(Zb chip op).2.2.1 !=6)) (.leaf (5)) (.leaf (4))))
def ZfO (chip:Int) (op:Int):Int:=(ZBF chip op).val
def ZBG:Entry:=Zg ZF4 ZF5 (λ_=>none) (λa=>ZfO a.1 a.2)
theorem ZxU:Za prog 116 ZBG:=
 pureQ 144687209545474303 [(107,ZxW),(146,rOnE)] [] ZF4 ZF5 ⟨ZnH,Zd9,Tv⟩ Tryz.func116 Tryz.call116 trivial (t:=λa=>ZBF a.1 a.2)
abbrev ZFX:List Sh:=[Sh.agg Zx,Sh.agg (R.pair R.bool (R.pair R.bool rcF7))]
abbrev ZFY:Rs:=Rs.one (Sh.agg Zx)
def ZBA (c:TC) (l:QT0):RT TC:=
 .br (!rOn c.1)
 (.leaf (c))
 (.leaf ((c.1,c.2.1,c.2.2.1,c.2.2.2.1,c.2.2.2.2.1,c.2.2.2.2.2.1,l.2.2.2.2.1&&(c.2.2.2.2.2.2.1|| !c.2.2.2.2.2.2.2.2.1),c.2.2.2.2.2.2.2.1||l.2.2.2.2.2.1&& !c.2.2.2.2.2.2.2.2.2.1,l.2.2.2.2.1,l.2.2.2.2.2.1,c.2.2.2.2.2.2.2.2.2.2)))
def Zm (c:TC) (l:QT0):TC:=(ZBA c l).val
def Znz:Entry:=Zg ZFX ZFY (λ_=>none) (λa=>Zm a.1 a.2)
theorem Zny:Za prog 84 Znz:=
 pureQ 31 [(146,rOnE)] [] ZFX ZFY ⟨Zd9,Tv⟩ Tryz.func84 Tryz.call84 trivial (t:=λa=>ZBA a.1 a.2)
abbrev ZNW:List Sh:=[Sh.agg Zx,Sh.agg (R.pair R.bool (R.pair R.bool rcF7))]
abbrev ZNX:Rs:=Rs.one (Sh.one (R.int i64))
def ZV0 (c:TC) (l:QT0):RT (Int):=
 .br (rOn c.1&&c.2.2.2.2.2.2.1)
 (.leaf (1))
 (.br (!c.2.2.1||c.2.2.2.1)
  (.leaf (0))
  (.br (rOn c.1&&(c.2.2.2.2.2.2.2.1&&andI u8 c.2.2.2.2.2.1 4==0))
  (.leaf (2))
  (.br (rOn c.1&&(l.2.2.2.2.2.2.1&&andI u8 c.2.2.2.2.2.1 2==0))
   (.leaf (3))
   (.br (rOn c.1&&(l.2.2.2.2.2.2.2.1&&andI u8 c.2.2.2.2.2.1 1==0))
   (.leaf (4))
   (.br l.2.2.2.2.2.2.2.2
    (.leaf (5))
    (.leaf (0)))))))
def ZfU (c:TC) (l:QT0):Int:=(ZV0 c l).val
def ZNY:Entry:=Zg ZNW ZNX (λ_=>none) (λa=>ZfU a.1 a.2)
theorem ZFL:Za prog 87 ZNY:=
 pureQ 576601524159939135 [(146,rOnE)] [] ZNW ZNX ⟨Zd9,Tv⟩ Tryz.func87 Tryz.call87 trivial (t:=λa=>ZV0 a.1 a.2)
abbrev ZoK:List Sh:=[Sh.agg Zx,Sh.one (R.int i64)]
abbrev ZoL:Rs:=Rs.one (Sh.agg Zx)
def ZlI (c:TC) (s:Int):RT TC:=
 .br (decide (s<1)||decide (s>5))
 (.leaf (c))
 (.leaf ((c.1,c.2.1,false,false,false,c.2.2.2.2.2.1,!s==1&&c.2.2.2.2.2.2.1,bif s==1 then c.2.2.2.2.2.2.2.1 else !s==2&&c.2.2.2.2.2.2.2.1,c.2.2.2.2.2.2.2.2.1,c.2.2.2.2.2.2.2.2.2.1,s==1||c.2.2.2.2.2.2.2.2.2.2.1,bif s==1 then c.2.2.1 else c.2.2.2.2.2.2.2.2.2.2.2.1,c.2.2.2.2.2.2.2.2.2.2.2.2)))
def Zvz (c:TC) (s:Int):TC:=(ZlI c s).val
def ZUv:Entry:=Zg ZoK ZoL (λ_=>none) (λa=>Zvz a.1 a.2)
theorem ZKs:Za prog 110 ZUv:=
 pureQ 1056799 [] [] ZoK ZoL trivial Tryz.func110 Tryz.call110 trivial (t:=λa=>ZlI a.1 a.2)
abbrev Zx0:List Sh:=[Sh.agg Zx,Sh.one (R.int i64)]
abbrev Zx1:Rs:=Rs.one (Sh.agg Zx)
def Zg6 (c:TC) (s:Int):RT TC:=
 .br (decide (s<1)||decide (s>5))
 (.leaf (c))
 (.leaf ((c.1,c.2.1,false,false,false,c.2.2.2.2.2.1,!s==1&&c.2.2.2.2.2.2.1,!s==2&&c.2.2.2.2.2.2.2.1,c.2.2.2.2.2.2.2.2.1,c.2.2.2.2.2.2.2.2.2.1,s==1||c.2.2.2.2.2.2.2.2.2.2.1,bif s==1 then c.2.2.1 else c.2.2.2.2.2.2.2.2.2.2.2.1,c.2.2.2.2.2.2.2.2.2.2.2.2)))
def Zu (c:TC) (s:Int):TC:=(Zg6 c s).val
def ZGh:Entry:=Zg Zx0 Zx1 (λ_=>none) (λa=>Zu a.1 a.2)
theorem ZJl:Za prog 97 ZGh:=
 pureQ 31 [] [] Zx0 Zx1 trivial Tryz.func97 Tryz.call97 trivial (t:=λa=>Zg6 a.1 a.2)
abbrev Zuw:List Sh:=[Sh.agg Zx]
abbrev Zux:Rs:=Rs.one (Sh.agg Zx)
def ZCa (c:TC):RT TC:=
 .leaf ((c.1,(c.2.1.1,c.2.1.2.1,c.2.1.2.2.1,c.2.1.2.2.2.1,c.2.1.2.2.2.2.1,c.2.1.2.2.2.2.2.1,c.2.1.2.2.2.2.2.2.1,c.2.1.2.2.2.2.2.2.2.1,c.2.1.2.2.2.2.2.2.2.2.1,0),false,false,false,bif c.1==2 then 7 else 0,false,false,false,false,false,false,false))
def ZPA (c:TC):TC:=(ZCa c).val
def ZYQ:Entry:=Zg Zuw Zux (λ_=>none) (λa=>ZPA a)
theorem ZPz:Za prog 77 ZYQ:=
 pureQ 15 [] [] Zuw Zux trivial Tryz.func77 Tryz.call77 trivial (t:=λa=>ZCa a)
abbrev ZFw:List Sh:=[Sh.agg Zx]
abbrev ZFx:Rs:=Rs.one (Sh.agg Zx)
def ZjX (c:TC):RT TC:=
 .leaf ((c.1,(c.2.1.1,c.2.1.2.1,c.2.1.2.2.1,c.2.1.2.2.2.1,c.2.1.2.2.2.2.1,c.2.1.2.2.2.2.2.1,c.2.1.2.2.2.2.2.2.1,c.2.1.2.2.2.2.2.2.2.1,c.2.1.2.2.2.2.2.2.2.2.1,0),false,false,false,bif rOn c.1 then 7 else 0,false,false,false,false,false,false,false))
def ZO (c:TC):TC:=(ZjX c).val
def Zs3:Entry:=Zg ZFw ZFx (λ_=>none) (λa=>ZO a)
theorem ZmN:Za prog 81 Zs3:=
 pureQ 15 [(146,rOnE)] [] ZFw ZFx ⟨Zd9,Tv⟩ Tryz.func81 Tryz.call81 trivial (t:=λa=>ZjX a)
abbrev ZFy:List Sh:=[Sh.one (R.int i64)]
abbrev ZFz:Rs:=Rs.one (Sh.one R.bool)
def ZAF (k:Int):RT (Bool):=
 .leaf (k==1||(k==2||(k==4||(k==6||(k==8||k==9)))))
def ZcQ (k:Int):Bool:=(ZAF k).val
def ZmO:Entry:=Zg ZFy ZFz (λ_=>none) (λa=>ZcQ a)
theorem ZiI:Za prog 103 ZmO:=
 pureQ 7 [] [] ZFy ZFz trivial Tryz.func103 Tryz.call103 trivial (t:=λa=>ZAF a)
abbrev Zuy:List Sh:=[Sh.one (R.int i64)]
abbrev Zuz:Rs:=Rs.one (Sh.one R.bool)
def ZCb (k:Int):RT (Bool):=
 .br (bif k==1 then k==1 else bif k==2 then k==2 else bif k==4 then k==4 else bif k==6 then k==6 else bif k==8 then k==8 else k==9)
 (.leaf (true))
 (.leaf (false))
def ZPC (k:Int):Bool:=(ZCb k).val
def ZYR:Entry:=Zg Zuy Zuz (λ_=>none) (λa=>ZPC a)
theorem ZPB:Za prog 114 ZYR:=
 pureQ 23 [] [] Zuy Zuz trivial Tryz.func114 Tryz.call114 trivial (t:=λa=>ZCb a)
abbrev Zxm:List Sh:=[Sh.one (R.int i64)]
abbrev Zxn:Rs:=Rs.one (Sh.one R.bool)
def ZFi (k:Int):RT (Bool):=
 .leaf (k==3||(k==5||k==7))
def ZjT (k:Int):Bool:=(ZFi k).val
def ZsR:Entry:=Zg Zxm Zxn (λ_=>none) (λa=>ZjT a)
theorem ZqX:Za prog 100 ZsR:=
 pureQ 7 [] [] Zxm Zxn trivial Tryz.func100 Tryz.call100 trivial (t:=λa=>ZFi a)
abbrev Zxw:List Sh:=[Sh.one (R.int i64)]
abbrev Zxx:Rs:=Rs.one (Sh.one (R.int u8))
def ZFm (k:Int):RT (Int):=
 .br (k==1)
 (.leaf (162))
 (.br (k==2)
  (.leaf (130))
  (.br (k==4)
  (.leaf (134))
  (.br (k==5)
   (.leaf (4))
   (.br (k==6)
   (.leaf (66))
   (.br (k==7)
    (.leaf (16))
    (.br (k==8)
    (.leaf (35))
    (.br (k==9)
     (.leaf (3))
     (.br (k==10)
     (.leaf (138))
     (.leaf (0))))))))))
def ZNz (k:Int):Int:=(ZFm k).val
def ZFn:Entry:=Zg Zxw Zxx (λ_=>none) (λa=>ZNz a)
theorem ZIi:Za prog 148 ZFn:=
 pureQ 1398103 [] [] Zxw Zxx trivial Tryz.func148 Tryz.call148 trivial (t:=λa=>ZFm a)
abbrev ZxS:List Sh:=[Sh.one (R.int i64)]
abbrev ZxT:Rs:=Rs.tup [Sh.one R.bool,Sh.one R.bool,Sh.one R.bool]
def ZFV (k:Int):RT (Bool×Bool×Bool):=
 .br (k==1)
 (.leaf ((false,true,true)))
 (.br (bif k==2 then k==2 else bif k==4 then k==4 else k==11)
  (.leaf ((false,true,false)))
  (.br (bif k==3 then k==3 else k==5)
  (.leaf ((false,false,true)))
  (.br (k==6)
   (.leaf ((true,true,false)))
   (.br (k==7)
   (.leaf ((true,false,true)))
   (.br (bif k==8 then k==8 else bif k==9 then k==9 else k==12)
    (.leaf ((true,true,true)))
    (.leaf ((false,false,false))))))))
def Zts (k:Int):Bool×Bool×Bool:=(ZFV k).val
def ZFW:Entry:=Zg ZxS ZxT (λ_=>none) (λa=>Zts a)
theorem ZIE:Za prog 147 ZFW:=
 pureQ 692575 [] [] ZxS ZxT trivial Tryz.func147 Tryz.call147 trivial (t:=λa=>ZFV a)
abbrev Zrh:List Sh:=[Sh.one (R.int i64)]
abbrev Zri:Rs:=Rs.one (Sh.one R.bool)
def ZxY (k:Int):RT (Bool):=
 .leaf (k !=10&&(k !=11&&k !=12))
def Zam (k:Int):Bool:=(ZxY k).val
def ZxZ:Entry:=Zg Zrh Zri (λ_=>none) (λa=>Zam a)
theorem ZBT:Za prog 85 ZxZ:=
 pureQ 7 [] [] Zrh Zri trivial Tryz.func85 Tryz.call85 trivial (t:=λa=>ZxY a)
theorem ZSn (c) (s:Int):Zvz c s=Zu c s:=by
 by_cases h:s=1
 ·subst h;simp[Zvz,ZlI,Zu,Zg6,RT.val]
 ·have h':(s==1)=false:=by simpa using h
  simp[Zvz,ZlI,Zu,Zg6,RT.val,h']
theorem ZTh (c):ZPA c=ZO c:=by simp[ZPA,ZCa,ZO,ZjX,RT.val,ZaU]
theorem ZTj (k):ZPC k=ZcQ k:=by simp[ZPC,ZCb,ZcQ,ZAF,RT.val]
def Zi4:Entry:=Zg ZoK ZoL (λ_=>none) (λa=>Zu a.1 a.2)
theorem ZhX:Za Tryz.prog 110 Zi4:=ZKs.tot (λa h=>by simp) (λa h=>ZSn _ _)
def ZGA:Entry:=Zg Zuw Zux (λ_=>none) (λa=>ZO a)
theorem ZJz:Za Tryz.prog 77 ZGA:=ZPz.tot (λa h=>by simp) (λa h=>ZTh _)
def ZuA:Entry:=Zg Zuy Zuz (λ_=>none) (λa=>ZcQ a)
theorem Zrt:Za Tryz.prog 114 ZuA:=ZPB.tot (λa h=>by simp) (λa h=>ZTj _)
abbrev ZNU:List Sh:=[Sh.one (R.int i64),Sh.one (R.int i64),Sh.agg (RY),Sh.one (R.int u8),Sh.one R.bool,Sh.one R.bool]
abbrev ZNV:Rs:=Rs.one (Sh.agg (R.pair (R.int i64) (R.pair (R.int u16) (R.pair (R.int u8) (R.pair R.bool (R.pair R.bool (R.pair R.bool (R.pair R.bool (R.pair R.bool (R.pair R.bool (R.pair R.bool rcF7)))))))))))
def ZFK (chip:Int) (t:Int) (x:QT11) (d:Int) (i:Bool) (o:Bool):RT (QT12):=
 let x1:QT22:=(!rOn chip&&bif rOn chip then i else i,false,false,false,false,false,false,bif !rOn chip then rOn chip&&o else rOn chip&&o,false,false,rOn chip)
 let x2:=(t==2||(t==7||t==3))&&ZjT x.1
 let x3:Int:=bif t==3&&ZcQ x.1 then d else bif x2 then x.2.2.1 else 0
 .br (t==8)
 (.leaf ((t,0,0,false,false,false,!rOn chip&&bif rOn chip then i else i,false,false,false,false,false,false,bif !rOn chip then rOn chip&&o else rOn chip&&o,false,true,true)))
 (.br (t==9)
  (.leaf ((t,bif !rOn chip then x.2.1 else 0,0,false,false,!rOn chip,x1)))
  (.br (t==10)
  (.leaf ((t,0,0,false,false,false,x1)))
  (.br (rOn chip)
   (.leaf ((t,x.2.1,bif t==1 then u8.wrap x.2.1 else x3,false,false,false,!rOn chip&&bif rOn chip then i else i,t==1,(Zts x.1).1,(Zts x.1).2.1,(Zts x.1).2.2,(t==2||(t==7||t==3))&&(ZcQ x.1&& !(x.1==8||x.1==9)),(t==2||(t==7||t==3))&&(x.1==8||x.1==9),bif !rOn chip then rOn chip&&o else rOn chip&&o,x2,false,false)))
   (.leaf ((t,x.2.1,bif t==1&&(x.1 !=11&&x.1 !=12) then ZNz x.1 else x3,t==1&&(x.1 !=11&&x.1 !=12),(t==2||(t==7||t==3))&&ZcQ x.1,t==7,!rOn chip&&bif rOn chip then i else i,false,false,false,false,false,false,bif !rOn chip then rOn chip&&o else rOn chip&&o,ZjT x.1&&(t==7||t==3),false,false))))))
def ZmQ (chip:Int) (t:Int) (x:QT11) (d:Int) (i:Bool) (o:Bool):QT12:=(ZFK chip t x d i o).val
def ZVZ:Entry:=Zg ZNU ZNV (λ_=>none) (λa=>ZmQ a.1 a.2.1 a.2.2.1 a.2.2.2.1 a.2.2.2.2.1 a.2.2.2.2.2)
theorem ZTx:Za Tryz.prog 83 ZVZ:=
 pureQ 302250189878107155464191 [(100,ZsR),(103,ZmO),(146,rOnE),(147,ZFW),(148,ZFn)] [] ZNU ZNV ⟨ZqX,ZiI,Zd9,ZIE,ZIi,Tv⟩ Tryz.func83 Tryz.call83 trivial (t:=λa=>ZFK a.1 a.2.1 a.2.2.1 a.2.2.2.1 a.2.2.2.2.1 a.2.2.2.2.2)
abbrev ZOP:List Sh:=[Sh.agg (R.pair Zx (R.pair (R.int i64) (R.pair (R.sl (R.int u8)) (R.pair (RY) (R.pair (R.int i64) R.bool)))))]
abbrev ZOQ:Rs:=Rs.one (Sh.one R.bool)
def ZGd (c:QT5):RT (Bool):=
 let x1:=decide (iN (List.length c.2.2.1)>0)||c.2.1 !=0
 .leaf (bif decide (c.2.2.2.2.1>=2) then decide (c.2.2.2.2.1<=7)||x1 else x1)
def Zdq (c:QT5):Bool:=(ZGd c).val
def ZxX:Entry:=Zg ZOP ZOQ (λ_=>none) (λa=>Zdq a)
theorem Zt9:Za Tryz.prog 30 ZxX:=
 pureQ 7 [] [] ZOP ZOQ trivial Tryz.func30 Tryz.call30 trivial (t:=λa=>ZGd a)
end
end Go.Proofs.YtghoimllhpjkjaaGreat
