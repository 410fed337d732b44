import Derived.Test.YtghoimllhpjkjaaGreatLeafs
open Go.Proofs.Tryz (prog)
open Go.IntKind (u8 u16 i64)
open Go Go.S3 Go.Proofs
set_option linter.unusedVariables false
set_option linter.unusedSimpArgs false
set_option maxRecDepth 100000
namespace Go.Proofs.YtghoimllhpjkjaaGreat
noncomputable section
theorem Zyw (b:Int) (h:inR .u8 b):ZlI b=true/\ZuO b=Zm0 b:=by have h1:=ZfQ (λb=>ZlI b&&(ZuO b==Zm0 b)) (by kernel_rfl) b h;simpa using h1
theorem Zzd (a b c:Bool):pMaj a b c=rMaj a b c:=by cases a<;>cases b<;>cases c<;>rfl
theorem ZX5 (a:Bool):pOne a=rOne a:=by cases a<;>rfl
theorem ZNT (a b:Int) (c:Bool):pSum a b c=rSum a b c:=by simp only[pSum,ZZY,rSum,ZUv,RT.val,YaM,Zn2,ZlF,Zeh,Zlu,ZX5]
theorem ZEG (a b:Int) (c:Bool):Zh3 a b c=ZcF a b c:=by
 have h1:=Z2X a;have h2:=Z2X b;have e:IntKind.wrap .i64 (IntKind.wrap .i64 (IntKind.wrap .i64 (IntKind.wrap .i64 (andI .u8 a 15)+15)-IntKind.wrap .i64 (andI .u8 b 15))+1)=IntKind.wrap .i64 (IntKind.wrap .i64 (IntKind.wrap .i64 (andI .u8 a 15)+IntKind.wrap .i64 (IntKind.wrap .u8 (15-andI .u8 b 15)))+1):=by rw[ZYo];rw[wrap_i64 (andI .u8 a 15) (by omega) (by omega),wrap_i64 (andI .u8 b 15) (by omega) (by omega),wrap_i64 ((15-andI .u8 b 15)%256) (by omega) (by omega),wrap_i64 (andI .u8 a 15+15) (by omega) (by omega)];congr 1;rw[wrap_i64 _ (by omega) (by omega),wrap_i64 _ (by omega) (by omega)];omega
 simp only[Zh3,ZRr,ZcF,ZGU,RT.val,YaM,Zn2,ZlF,Zeh,Zlu,ZX5,e]
theorem Zwd (a b:Int):ZQ0 a b=ZcO a b:=rfl
theorem ZTn (b:Bool) (n:Int) (h:0<=n):ZeS b n=true/\pBit b n=bif b then shlI .u8 1 n else 0:=by cases b<;>simp[ZeS,pBit,ZVD,RT.val,h,okB,getO]
theorem Zee (b:Bool) (n:Int) (h:0<=n):ZdO b n=true/\rBit b n=bif b then shlI .u8 1 n else 0:=by cases b<;>simp[ZdO,rBit,ZUX,RT.val,h,okB,getO]
theorem ZaR (chip:Int):rOn chip=(chip==2):=rfl
theorem Z2h (chip:Int) (f):ZHm chip f=true:=by cases h:chip==2<;>simp[ZHm,ZyH,RT.val,ZTn,okB,h]
theorem ZOf (chip:Int) (f):ZGz chip f=true:=by cases h:chip==2<;>simp[ZGz,Zx8,RT.val,Zee,ZaR,okB,h]
theorem ZZX (chip:Int) (f):ZVl chip f=ZUJ chip f:=by simp only[ZVl,ZyH,ZUJ,Zx8,RT.val,ZTn,Zee,ZaR];cases chip==2<;>simp[ZTn,Zee,getO]
theorem of_C (r:Int) (h:inR .u8 r):pOfC r=true:=by simp[pOfC,pOfT,RT.val,Zyw r h,okB]
theorem ZyU (r:Int) (h:inR .u8 r):pOf r=rOf r:=by simp[pOf,pOfT,rOf,rOfT,RT.val,Zyw r h,getO]
theorem Z06 (r) (n:Int):ZCb r n=true:=by
 have:=and7 n;have h:decide (0<=andI .i64 n 7/\andI .i64 n 7<8)=true:=by simp;omega
 simp only[ZCb,ZB9,RT.val,h,Ya,okB]
theorem ZS2 {m:Int} (h:0<=m/\m<=7):m=0\/m=1\/m=2\/m=3\/m=4\/m=5\/m=6\/m=7:=by omega
theorem ZQf (r) (n:Int):pGet r n=rGet r n:=by
 have h7:=and7 n;have h:decide (0<=andI .i64 n 7/\andI .i64 n 7<8)=true:=by simp;omega
 simp only[pGet,Z0l,rGet,ZB9,RT.val,h,Ya,getO];generalize andI .i64 n 7=m at*;rcases ZS2 h7 with rfl|rfl|rfl|rfl|rfl|rfl|rfl|rfl<;>rfl
theorem ZP8 (r) (n v:Int):pSet r n v=rSet r n v:=by have h7:=and7 n;simp only[pSet,ZZ1,rSet,ZZk,RT.val,Ya,getO];generalize andI .i64 n 7=m at*;rcases ZS2 h7 with rfl|rfl|rfl|rfl|rfl|rfl|rfl|rfl<;>rfl
theorem ZU2 (r) (n:Int):Z0a r n=Zak r n:=by simp only[Z0a,ZQF,Zak,Zrj,RT.val,ZQf,Z06,Zwd];cases andI .i64 n 3==3<;>simp[okB,getO]
theorem ZY9 (r) (n:Int):ZOT r n=true:=by simp only[ZOT,Zrj,RT.val,Z06];cases andI .i64 n 3==3<;>simp[okB]
theorem ZCv (r) (n v:Int):ZuD r n v=Zn r n v:=by simp only[ZuD,Zn3,Zn,Zgn,RT.val,ZP8]
theorem ZQb (chip:Int) (r):Z0c chip r=true/\pPSW chip r=rPSW chip r:=by simp[Z0c,pPSW,ZVm,rPSW,ZOW,RT.val,Z2h,ZOf,ZZX,Zwd,okB,getO]
theorem Z1Q (chip:Int) (r):ZZs chip r=true:=by simp[ZZs,ZOW,RT.val,ZOf,okB]
theorem ZNh (chip:Int) (b:Int):ZuB chip b=Zs7 chip b:=by simp only[ZuB,ZuA,Zs7,Zs6,RT.val,ZaR]
theorem ZKn (chip:Int) (r) (v:Int):ZCF chip r v=Zgp chip r v:=by simp only[ZCF,ZuE,Zgp,Zlv,RT.val,ZNh]
theorem ZV3 (c:Int) (f):ZQ6 c f=ZeI c f:=by
 simp only[ZQ6,ZDz,ZeI,ZB8,RT.val];by_cases h:0<=c/\c<=11
 ·have:c=0\/c=1\/c=2\/c=3\/c=4\/c=5\/c=6\/c=7\/c=8\/c=9\/c=10\/c=11:=by omega
  rcases this with rfl|rfl|rfl|rfl|rfl|rfl|rfl|rfl|rfl|rfl|rfl|rfl<;>simp
 ·have e:∀k:Int,0<=k->k<=11->(c==k)=false:=λk h1 h2=>by simp;omega
  simp[e]
theorem Zxo (a b:Int) (c:Bool):inR .u8 (rSum a b c).1:=by simp only[rSum,ZUv,RT.val,YaM];exact Zbe _ _
theorem Zp3 (a b:Int) (c:Bool):inR .u8 (ZcF a b c).1:=by simp only[ZcF,ZGU,RT.val,YaM];exact Zbe _ _
theorem ZkD (a b:Int):inR .u8 (andI .u8 a b)/\inR .u8 (orI .u8 a b)/\inR .u8 (xorI .u8 a b):=Zhm _ _ _
theorem ZxD (chip v r:Int) (half over x:Bool) (f) (h:inR .u8 r):ZiY chip v r half over x f=true/\
  Zn8 chip v r half over x f=Zqq chip ((rOf r).1,(rOf r).2.1,(rOf r).2.2.1,half,(rOf r).2.2.2.2.1,(rOf r).2.2.2.2.2.1,f.2.2.2.2.2.2) (rMaj (decide (v>=128)) x (decide (r>=128))) over:=by cases hc:chip==2<;>simp[ZiY,Zn8,ZlG,Zqq,Zrk,RT.val,of_C r h,ZyU r h,okB,getO,ZaR,hc,Zzd,rOf,rOfT]
theorem ZQd (chip v:Int) (f):Z0j chip v f=true/\pInr chip v f=rInr chip v f:=by have h:=ZxD chip v (rSum v 1 false).1 (rSum v 1 false).2.2.1 (rSum v 1 false).2.2.2 false f (Zxo _ _ _);simp only[Z0j,pInr,ZVr,rInr,ZZy,RT.val,ZNT,h.1,h.2,Ya,okB,getO,and_self]
theorem ZQh (chip v:Int) (f):Z0w chip v f=true/\pDcr chip v f=rDcr chip v f:=by have h:=ZxD chip v (ZcF v 1 false).1 (ZcF v 1 false).2.2.1 (ZcF v 1 false).2.2.2 true f (Zp3 _ _ _);simp only[Z0w,pDcr,ZVz,rDcr,ZZI,RT.val,ZEG,h.1,h.2,Ya,okB,getO,and_self]
theorem ZZT (chip v:Int) (f):pInx chip v f=rInx chip v f:=by simp only[pInx,Z0h,rInx,ZZv,RT.val,ZaR]
theorem ZZV (chip v:Int) (f):pDcx chip v f=rDcx chip v f:=by simp only[pDcx,Z0u,rDcx,ZZF,RT.val,ZaR]
theorem ZQi (chip a:Int) (f):Z0A chip a f=true/\pDaa chip a f=rDaa chip a f:=by
 have h:=λx=>of_C _ (Zxo a x false)
 have h2:=λx=>ZyU _ (Zxo a x false)
 cases hc:chip==2<;>simp[Z0A,pDaa,ZVB,rDaa,ZZN,Zqq,Zrk,RT.val,ZNT,h,h2,okB,getO,ZaR,hc,Zzd,rOf,rOfT]
theorem ZHe (a b:Int):ZRo a b=true/\Z0p a b=Zyh a b:=by
 have h:=λx y z=>of_C _ (Zp3 x y z)
 have h2:=λx y z=>ZyU _ (Zp3 x y z)
 simp[ZRo,Z0p,ZHD,Zyh,ZPD,RT.val,ZEG,h,h2,okB,getO,Zzd,Zwd,rOf,rOfT,YaM]
theorem ZU7 (v:Int):Z2u v=Zuk v:=rfl
theorem ZX9 (c:Bool):pLow c=bif c then 1 else 0:=by cases c<;>rfl
theorem ZP9 (op a:Int) (c:Bool):ZZ3 op a c=true/\pRot op a c=rRot op a c:=by
 have h3:=and3 op;simp only[ZZ3,pRot,ZVe,rRot,ZOA,RT.val,ZX9,(Zee c 0 (by decide)).1,(Zee c 0 (by decide)).2,(Zee c 7 (by decide)).1,(Zee c 7 (by decide)).2];generalize andI .i64 op 3=m at*;have:m=0\/m=1\/m=2\/m=3:=by omega
 rcases this with rfl|rfl|rfl|rfl<;>cases c<;>exact⟨rfl,rfl⟩
theorem Z1P (op a:Int) (c:Bool):ZZn op a c=true:=by
 have h3:=and3 op;simp only[ZZn,ZOA,RT.val,(Zee c 0 (by decide)).1,(Zee c 7 (by decide)).1];generalize andI .i64 op 3=m at*;have:m=0\/m=1\/m=2\/m=3:=by omega
 rcases this with rfl|rfl|rfl|rfl<;>rfl
theorem ZU1 (v:Int) (c:Bool) (h:inR .u16 v):ZZ9 v c=Zx4 v c:=by
 have hb:=Zee c 0 (by decide);have e:IntKind.wrap .u16 (bif c then 1 else 0)=IntKind.wrap .u16 (bif c then shlI .u8 1 0 else 0):=by cases c<;>rfl
 have hr:∀x,inR .u16 (orI .u16 x (IntKind.wrap .u16 (bif c then shlI .u8 1 0 else 0))):=λx=>(Zhm _ _ _).2.1
 simp only[ZZ9,ZQD,Zx4,Zx3,RT.val,ZX9,hb.1,hb.2,Ya,getO,e];rw[Zsa _ (Zhm _ _ _).2.2,ZNQ _ _ (hr _) h,ZEV _ (hr _),ZEV _ h];cases tb (orI .u16 (shlI .u16 v 1) (IntKind.wrap .u16 (bif c then shlI .u8 1 0 else 0)))<;>cases tb v<;>rfl
theorem ZY8 (v:Int) (c:Bool):ZOI v c=true:=by have hb:=Zee c 0 (by decide);simp[ZOI,Zx3,RT.val,hb.1,okB]
theorem ZZW (chip a b:Int) (f) (ha:inR .u16 a) (hb:inR .u16 b):pDad chip a b f=rDad chip a b f:=by
 have hr:inR .u16 (IntKind.wrap .u16 (a+b)):=Zbe _ _;have ha':=Zh8.1 ha;have hb':=Zh8.1 hb;simp only[pDad,Z0y,rDad,ZZK,RT.val,ZaR];rw[Zsa _ (Zhm _ _ _).1,ZWY _ _ (Zhm _ _ _).2.2 (Zhm _ _ _).2.2,ZNQ _ _ ha hr,ZNQ _ _ hb hr];have e1:decide (IntKind.wrap .u16 (a+b)<a)=decide (IntKind.wrap .i64 (IntKind.wrap .i64 a+IntKind.wrap .i64 b)>65535):=by rw[Zsb,wrap_i64 a (by omega) (by omega),wrap_i64 b (by omega) (by omega),wrap_i64 (a+b) (by omega) (by omega)];simp only[decide_eq_decide];omega
 have e2:(((tb a)^^(tb (IntKind.wrap .u16 (a+b))))&&((tb b)^^(tb (IntKind.wrap .u16 (a+b)))))=(decide (IntKind.wrap .i64 (IntKind.wrap .i64 (IntKind.wrap .i16 a)+IntKind.wrap .i64 (IntKind.wrap .i16 b))< -32768)||decide (IntKind.wrap .i64 (IntKind.wrap .i64 (IntKind.wrap .i16 a)+IntKind.wrap .i64 (IntKind.wrap .i16 b))>32767)):=by
  have ia:=ZEW a;have ib:=ZEW b;have hia: -32768<=IntKind.wrap .i16 a/\IntKind.wrap .i16 a<=32767:=by rw[ia];split<;>omega
  have hib: -32768<=IntKind.wrap .i16 b/\IntKind.wrap .i16 b<=32767:=by rw[ib];split<;>omega
  rw[wrap_i64 (IntKind.wrap .i16 a) (by omega) (by omega),wrap_i64 (IntKind.wrap .i16 b) (by omega) (by omega),wrap_i64 (IntKind.wrap .i16 a+IntKind.wrap .i16 b) (by omega) (by omega)];rw[ia,ib,Zsb];unfold tb;by_cases h1:a>=32768<;>by_cases h2:b>=32768<;>by_cases h3:(a+b)%65536>=32768<;>simp[h1,h2,h3]<;>(try split)<;>(try split)<;>omega
 rw[e1,e2]
theorem ZCw (c l):ZZ5 c l=true/\pRim c l=rRim c l/\ZZp c l=true:=by
 have h:∀b n,0<=n->ZcS b n=true/\ZyE b n=bif b then shlI .u8 1 n else 0:=λb n h=>by cases b<;>simp[ZcS,ZyE,ZHh,RT.val,h,okB,getO]
 have h3:∀b,Zax b 3=true/\Zgv b 3=bif b then shlI .u8 1 3 else 0:=λb=>by cases b<;>exact⟨rfl,rfl⟩
 have h4:∀b,Zax b 4=true/\Zgv b 4=bif b then shlI .u8 1 4 else 0:=λb=>by cases b<;>exact⟨rfl,rfl⟩
 have h5:∀b,Zax b 5=true/\Zgv b 5=bif b then shlI .u8 1 5 else 0:=λb=>by cases b<;>exact⟨rfl,rfl⟩
 have h6:∀b,Zax b 6=true/\Zgv b 6=bif b then shlI .u8 1 6 else 0:=λb=>by cases b<;>exact⟨rfl,rfl⟩
 have h7:∀b,Zax b 7=true/\Zgv b 7=bif b then shlI .u8 1 7 else 0:=λb=>by cases b<;>exact⟨rfl,rfl⟩
 simp[ZZ5,pRim,ZVg,ZZp,rRim,ZOD,RT.val,h,h3,h4,h5,h6,h7,okB,getO]
theorem ZZR (c) (a:Int):pSim c a=rSim c a:=by simp only[pSim,ZZ0,rSim,ZOu,RT.val]
theorem ZKj (s:Int):ZCB s=Zk s:=by simp only[ZCB,Zuz,Zk,Zs3,RT.val]
theorem ZQc (chip op a b:Int):Zu0 chip op a b=true/\∀f,(andI .i64 op 7=op)->4<=op->op<=6->ZHq chip op a b=rDo chip op a b f:=by
 have h:=λx y=>of_C _ (ZkD x y).1
 have h':=λx y=>of_C _ (ZkD x y).2.1
 have h'':=λx y=>of_C _ (ZkD x y).2.2
 have g:=λx y=>ZyU _ (ZkD x y).1
 have g':=λx y=>ZyU _ (ZkD x y).2.1
 have g'':=λx y=>ZyU _ (ZkD x y).2.2
 have h0:=of_C 0 (by rw[ZgL];omega);constructor
 ·cases h4:op==4<;>cases h5:op==5<;>cases h6:op==6<;>simp[Zu0,ZoO,RT.val,h,h',h'',h0,okB,h4,h5,h6]
 ·intro f e h4 h6;have:op=4\/op=5\/op=6:=by omega
  rcases this with rfl|rfl|rfl<;>cases hc:chip==2<;>simp[ZHq,ZoO,rDo,rDoT,RT.val,h,h',h'',g,g',g'',getO,e,ZaR,hc,Zqq,Zrk,rOf,rOfT,Zzd]
theorem ZXM (chip op a b:Int) (f):pDoC chip op a b f=true/\pDo chip op a b f=rDo chip op a b f:=by
 have h7:=and7 op;have hs:=λx=>of_C _ (Zxo a b x)
 have hs2:=λx=>ZyU _ (Zxo a b x)
 have hd:=λx=>of_C _ (Zp3 a b x)
 have hd2:=λx=>ZyU _ (Zp3 a b x)
 have hl:=ZQc chip (andI .i64 op 7) a b;have hlt:decide (b<128)= !decide (128<=b):=by
  by_cases h:b<128
  ·have:¬128<=b:=by omega
   simp[h,this]
  ·have:128<=b:=by omega
   simp[h,this]
 have hr:rDo chip (andI .i64 op 7) a b f=rDo chip op a b f:=by
  have:andI .i64 (andI .i64 op 7) 7=andI .i64 op 7:=by generalize andI .i64 op 7=m at*;rcases ZS2 h7 with rfl|rfl|rfl|rfl|rfl|rfl|rfl|rfl<;>rfl
  simp only[rDo,rDoT,this]
 have he:andI .i64 (andI .i64 op 7) 7=andI .i64 op 7:=by generalize andI .i64 op 7=m at*;rcases ZS2 h7 with rfl|rfl|rfl|rfl|rfl|rfl|rfl|rfl<;>rfl
 rw[<-hr];have hl2:=hl.2 f he;have hl1:=hl.1;clear hl hr;simp only[pDoC,pDo,pDoT,RT.val];generalize andI .i64 op 7=m at*;rcases ZS2 h7 with rfl|rfl|rfl|rfl|rfl|rfl|rfl|rfl
 case inr.inr.inr.inr.inl=>simp[hl1,hl2,okB,getO]
 case inr.inr.inr.inr.inr.inl=>simp[hl1,hl2,okB,getO]
 case inr.inr.inr.inr.inr.inr.inl=>simp[hl1,hl2,okB,getO]
 all_goals cases hc:chip==2<;>simp[rDo,rDoT,RT.val,ZNT,ZEG,hs,hs2,hd,hd2,okB,getO,he,ZaR,hc,Zqq,Zrk,rOf,rOfT,Zzd,hlt]
theorem ZQg (chip op:Int) (h:chip≠2):(ZfD chip op).val=(ZfD 0 op).val:=by
 have h1:(chip==2)=false:=by simpa using h
 have h0:((0:Int)==2)=false:=rfl;simp only[ZfD,RT.val,h1,h0]
theorem ZmK (chip op:Int) (h:chip≠2):(ZfA chip op).val=(ZfA 0 op).val:=by
 have h1:rOn chip=false:=by simpa [ZaR] using h
 have h0:rOn 0=false:=rfl;simp only[ZfA,RT.val,h1,h0]
def decT (chip op:Int):Bool:=okB (ZfD chip op).val&&okB (ZfA chip op).val&&(ZoS chip op==Zb chip op)
theorem dec_ok (chip op:Int) (h:inR .u8 op):ZlL chip op=true/\ZoS chip op=Zb chip op/\ZlB chip op=true:=by
 have fin:∀c,decT c op=true->ZlL c op=true/\ZoS c op=Zb c op/\ZlB c op=true:=by intro c hc;simp only[decT,Yc,beq_iff_eq] at hc;exact⟨hc.1.1,hc.2,hc.1.2⟩
 by_cases hc:chip=2
 ·subst hc;exact fin 2 (ZfQ (decT 2) (by kernel_rfl) op h)
 ·have:=fin 0 (ZfQ (decT 0) (by kernel_rfl) op h);unfold ZlL ZoS Zb ZlB at this|-;rw[ZQg chip op hc,ZmK chip op hc];exact this
def Zu1:En:=Zg ZDx ZDy (λ_=>none) (λa=>ZcO a.1 a.2)
theorem ZyJ:Za prog 236 Zu1:=ZlK.tot (λa h=>by simp) (λa h=>Zwd _ _)
def ZX1:En:=Zg ZQ8 ZQ9 (λ_=>none) (λa=>rGet a.1 a.2)
theorem ZVs:Za prog 287 ZX1:=ZQ7.tot (λa h=>by simp) (λa h=>ZQf _ _)
def ZnM:En:=Zg ZPl ZGM (λ_=>none) (λa=>rGet a.1 a.2)
theorem ZtB:Za prog 163 ZnM:=ZPk.tot (λa h=>by have h1:=Z06 a.1 a.2;simp[h1]) (λa h=>rfl)
def ZyD:En:=Zg ZQp ZQq (λ_=>none) (λa=>rSet a.1 a.2.1 a.2.2)
theorem ZHg:Za prog 268 ZyD:=ZQo.tot (λa h=>by simp) (λa h=>ZP8 _ _ _)
def ZQH:En:=Zg ZCN ZCO (λ_=>none) (λa=>Zak a.1 a.2)
theorem ZQG:Za prog 286 ZQH:=ZVj.tot (λa h=>by simp) (λa h=>ZU2 _ _)
def Zgq:En:=Zg ZBj Ztj (λ_=>none) (λa=>Zak a.1 a.2)
theorem ZiH:Za prog 158 Zgq:=ZUH.tot (λa h=>by have h1:=ZY9 a.1 a.2;simp[h1]) (λa h=>rfl)
def Zb9:En:=Zg Zj8 Zj9 (λ_=>none) (λa=>Zn a.1 a.2.1 a.2.2)
theorem ZeL:Za prog 269 Zb9:=ZCD.tot (λa h=>by simp) (λa h=>ZCv _ _ _)
def ZQK:En:=Zg ZQJ ZHn (λ_=>none) (λa=>rPSW a.1 a.2)
theorem ZVn:Za prog 290 ZQK:=Z0b.tot (λa h=>by have h1:=(ZQb a.1 a.2).1;simp[h1]) (λa h=>(ZQb _ _).2)
def ZOX:En:=Zg ZOV ZGA (λ_=>none) (λa=>rPSW a.1 a.2)
theorem ZUK:Za prog 171 ZOX:=ZZr.tot (λa h=>by have h1:=Z1Q a.1 a.2;simp[h1]) (λa h=>rfl)
def Zn6:En:=Zg Zn4 Zn5 (λ_=>none) (λa=>Zgp a.1 a.2.1 a.2.2)
theorem ZCE:Za prog 281 Zn6:=ZKt.tot (λa h=>by simp) (λa h=>ZKn _ _ _)
def Z0s:En:=Zg Z0q ZVw (λ_=>none) (λa=>rDo a.1 a.2.1 a.2.2.1 a.2.2.2.1 a.2.2.2.2)
theorem Z0r:Za prog 271 Z0s:=Z2r.tot (λa h=>by have h1:=(ZXM a.1 a.2.1 a.2.2.1 a.2.2.2.1 a.2.2.2.2).1;simp[h1]) (λa h=>(ZXM _ _ _ _ _).2)
def ZHw:En:=Zg ZQ4 ZHu (λ_=>none) (λa=>rInr a.1 a.2.1 a.2.2)
theorem ZHv:Za prog 273 ZHw:=Z0i.tot (λa h=>by have h1:=(ZQd a.1 a.2.1 a.2.2).1;simp[h1]) (λa h=>(ZQd _ _ _).2)
def ZHI:En:=Zg ZRw ZHG (λ_=>none) (λa=>rDcr a.1 a.2.1 a.2.2)
theorem ZHH:Za prog 274 ZHI:=Z0v.tot (λa h=>by have h1:=(ZQh a.1 a.2.1 a.2.2).1;simp[h1]) (λa h=>(ZQh _ _ _).2)
def ZQ3:En:=Zg ZQ1 ZQ2 (λ_=>none) (λa=>rInx a.1 a.2.1 a.2.2)
theorem ZVq:Za prog 275 ZQ3:=Z0g.tot (λa h=>by simp) (λa h=>ZZT _ _ _)
def ZRv:En:=Zg ZRt ZRu (λ_=>none) (λa=>rDcx a.1 a.2.1 a.2.2)
theorem ZVy:Za prog 276 ZRv:=Z0t.tot (λa h=>by simp) (λa h=>ZZV _ _ _)
def ZRB:En:=Zg ZRA ZHJ (λ_=>none) (λa=>rDaa a.1 a.2.1 a.2.2)
theorem ZVC:Za prog 278 ZRB:=Z0z.tot (λa h=>by have h1:=(ZQi a.1 a.2.1 a.2.2).1;simp[h1]) (λa h=>(ZQi _ _ _).2)
def ZRz:En:=Zg ZRx ZRy (λ_=>none) (λa=>rDad a.1 a.2.1 a.2.2.1 a.2.2.2)
theorem ZVA:Za prog 277 ZRz:=Z0x.tot (λa h=>by simp) (λa h=>ZZW _ _ _ _ h.2.1 h.2.2.1)
def ZDP:En:=Zg ZDO ZvJ (λ_=>none) (λa=>Zyh a.1 a.2)
theorem ZRp:Za prog 283 ZDP:=ZVv.tot (λa h=>by have h1:=(ZHe a.1 a.2).1;simp[h1]) (λa h=>(ZHe _ _).2)
def ZDS:En:=Zg ZDQ ZDR (λ_=>none) (λa=>Zuk a)
theorem ZRD:Za prog 284 ZDS:=ZVE.tot (λa h=>by simp) (λa h=>ZU7 _)
def ZQu:En:=Zg ZQt ZHi (λ_=>none) (λa=>rRot a.1 a.2.1 a.2.2)
theorem ZVf:Za prog 279 ZQu:=ZZ2.tot (λa h=>by have h1:=(ZP9 a.1 a.2.1 a.2.2).1;simp[h1]) (λa h=>(ZP9 _ _ _).2)
def ZOB:En:=Zg ZOz ZGg (λ_=>none) (λa=>rRot a.1 a.2.1 a.2.2)
theorem ZUx:Za prog 213 ZOB:=ZZm.tot (λa h=>by have h1:=Z1P a.1 a.2.1 a.2.2;simp[h1]) (λa h=>rfl)
def ZCM:En:=Zg ZCK ZCL (λ_=>none) (λa=>Zx4 a.1 a.2)
theorem ZQE:Za prog 285 ZCM:=ZVi.tot (λa h=>by simp) (λa h=>ZU1 _ _ h.1)
def ZBf:En:=Zg ZBe Zte (λ_=>none) (λa=>Zx4 a.1 a.2)
theorem ZOJ:Za prog 216 ZBf:=ZUA.tot (λa h=>by have h1:=ZY8 a.1 a.2;simp[h1]) (λa h=>rfl)
def ZQw:En:=Zg ZQv ZHj (λ_=>none) (λa=>rRim a.1 a.2)
theorem ZVh:Za prog 227 ZQw:=ZZ4.tot (λa h=>by have h1:=(ZCw a.1 a.2).1;simp[h1]) (λa h=>(ZCw _ _).2.1)
def ZXa:En:=Zg ZOC ZGh (λ_=>none) (λa=>rRim a.1 a.2)
theorem ZUy:Za prog 159 ZXa:=ZZo.tot (λa h=>by have h1:=(ZCw a.1 a.2).2.2;simp[h1]) (λa h=>rfl)
def ZQn:En:=Zg ZQl ZQm (λ_=>none) (λa=>rSim a.1 a.2)
theorem ZVb:Za prog 228 ZQn:=ZZZ.tot (λa h=>by simp) (λa h=>ZZR _ _)
def ZHx:En:=Zg Zu2 Zu3 (λ_=>none) (λa=>ZeI a.1 a.2)
theorem ZKI:Za prog 322 ZHx:=ZQ5.tot (λa h=>by simp) (λa h=>ZV3 _ _)
def Zyy:En:=Zg Zn0 Zn1 (λ_=>none) (λa=>Zk a)
theorem ZCA:Za prog 177 Zyy:=ZKr.tot (λa h=>by simp) (λa h=>ZKj _)
def ZyM:En:=Zg Zi0 Zi1 (λ_=>none) (λa=>Zb a.1 a.2)
theorem ZoR:Za prog 182 ZyM:=ZLm.tot (λa h=>by have h1:=(dec_ok a.1 a.2 h.2).1;simp[h1]) (λa h=>(dec_ok a.1 a.2 h.2).2.1)
def Zyi:En:=Zg ZiM ZiN (λ_=>none) (λa=>Zb a.1 a.2)
theorem ZnQ:Za prog 107 Zyi:=ZKg.tot (λa h=>by have h1:=(dec_ok a.1 a.2 h.2).2.2;simp[h1]) (λa h=>rfl)
abbrev ZYc:R:=R.Pq (.int .i64) (R.Pq (.int .i64) (R.Pq (.int .i64) (R.Pq (.int .i64) (R.Pq (.int .i64) (R.Pq (.int .i64) (.int .i64))))))
def ZyN (k:Int):En:=pinE Zi0 ZYc (λa=>Zb a.1 a.2) k
theorem ZHF (k:Int):Za Tryz.prog 182 (ZyN k):=ZQe ZoR k
def ZPI (k:Int):En:=pinE ZiM ZYc (λa=>Zb a.1 a.2) k
theorem ZGW (k:Int):Za Tryz.prog 107 (ZPI k):=ZQe ZnQ k
def pcOf (c:TC):Int:=c.2.1.2.2.2.2.2.2.2.2.2
def spOf (c:TC):Int:=c.2.1.2.2.2.2.2.2.2.2.1
def rgx (r:TR) (f:TF) (sp pc:Int):TR:=(r.1,r.2.1,r.2.2.1,r.2.2.2.1,r.2.2.2.2.1,r.2.2.2.2.2.1,r.2.2.2.2.2.2.1,f,sp,pc)
def fin3 (g:List Int) (l:List TY):RT (Option (TY×Bool)):=.br (decide (iN (List.length g)>=iN (List.length l))) (.Lf (some (((0,0,0,0),false)))) (.br (Ze (iN (List.length g)) (List.length l)) (.Lf (some ((R.get RY l (iN (List.length g)),true)))) (.Lf none))
abbrev ZoP:List Sh:=[Sh.one (R.int i64)]
abbrev ZoQ:Rs:=Rs.one (Sh.one R.bool)
def ZrE (s:Int):RT (Bool):=
 .Lf (decide (s>=1)&&decide (s<=4))
def Zf (s:Int):Bool:=(ZrE s).val
def Zka:En:=Zg ZoP ZoQ (λ_=>none) (λa=>Zf a)
theorem ZkQ:Za prog 176 Zka:=
 pureQ 7 [] [] ZoP ZoQ trivial Tryz.func176 Tryz.call176 trivial (t:=λa=>ZrE a)
abbrev Z2f:R:=R.Pq Zt (R.Pq R.bool (R.Pq (R.sl (R.int u8)) (R.Pq (R.Pq (R.int i64) (R.Pq (R.int i64) (R.Pq (R.int i64) (R.Pq (R.int i64) (R.Pq (R.int i64) (R.Pq (R.int i64) (R.Pq (R.int i64) (R.int i64)))))))) (R.sl (RY)))))
abbrev Z2e:List Sh:=[Sh.one (R.int i64)]
abbrev ZZQ:Rs:=Rs.one (Sh.one (R.int u8))
def qAtT (s:QT1) (n:Int):RT (Option (Int)):=
 .br (!decide (n< ↑(List.length s.2.2.1))||Ze n (List.length s.2.2.1)) (.br (decide (n< ↑(List.length s.2.2.1))) (.Lf (some (R.get (R.int u8) s.2.2.1 n))) (.Lf (some (0)))) (.Lf none)
def qAt (s:QT1) (n:Int):Int:=getO ZZQ.Df (qAtT s n).val
def qAtC (s:QT1) (n:Int):Bool:=okB (qAtT s n).val
def qAtE:En:=ZhW Z2f Z2e ZZQ (λa=>some (qAtC a.1 a.2)) (λa=>qAt a.1 a.2)
theorem ZiU:Za prog 222 qAtE:=
 Ze3 (P:=prog) (n:=31) (k:=8) (l:=[]) (ol:=[]) trivial Tryz.func222 rfl (by kernel_rfl) Tryz.call222 trivial (rb:=Z2f) (ts:=Z2e) (rs:=ZZQ) (by kernel_rfl) (t:=λa=>qAtT a.1 a.2) (λa=>by kernel_rfl)
abbrev ZP2:R:=R.Pq Zt (R.Pq R.bool (R.Pq (R.sl (R.int u8)) (R.Pq (R.Pq (R.int i64) (R.Pq (R.int i64) (R.Pq (R.int i64) (R.Pq (R.int i64) (R.Pq (R.int i64) (R.Pq (R.int i64) (R.Pq (R.int i64) (R.int i64)))))))) (R.sl (RY)))))
abbrev ZP1:List Sh:=[Sh.one (R.int i64)]
abbrev ZCs:Rs:=Rs.one (Sh.one (R.int u16))
def Zyp (s:QT1) (n:Int):RT (Option (Int)):=
 .br (!qAtC s (i64.wrap (n+1))||qAtC s n) (.br (qAtC s (i64.wrap (n+1))) (.Lf (some (ZcO (qAt s (i64.wrap (n+1))) (qAt s n)))) (.Lf none)) (.Lf none)
def Zgy (s:QT1) (n:Int):Int:=getO ZCs.Df (Zyp s n).val
def ZcR (s:QT1) (n:Int):Bool:=okB (Zyp s n).val
def ZnV:En:=ZhW ZP2 ZP1 ZCs (λa=>some (ZcR a.1 a.2)) (λa=>Zgy a.1 a.2)
theorem Zum:Za prog 270 ZnV:=
 Ze3 (P:=prog) (n:=31) (k:=8) (l:=[(222,qAtE),(236,Zu1)]) (ol:=[]) ⟨ZiU,ZyJ,Tv⟩ Tryz.func270 rfl (by kernel_rfl) Tryz.call270 trivial (rb:=ZP2) (ts:=ZP1) (rs:=ZCs) (by kernel_rfl) (t:=λa=>Zyp a.1 a.2) (λa=>by kernel_rfl)
abbrev Zys:R:=R.Pq Zt (R.Pq R.bool (R.Pq (R.sl (R.int u8)) (R.Pq (R.Pq (R.int i64) (R.Pq (R.int i64) (R.Pq (R.int i64) (R.Pq (R.int i64) (R.Pq (R.int i64) (R.Pq (R.int i64) (R.Pq (R.int i64) (R.int i64)))))))) (R.sl (RY)))))
abbrev Zyq:List Sh:=[]
abbrev Zyr:Rs:=Rs.one (Sh.one (R.int u16))
def ZG5 (s:QT1):RT (Int):=
 .br s.2.1 (.Lf s.1.2.1.2.2.2.2.2.2.2.2.2) (.Lf (u16.wrap (s.1.2.1.2.2.2.2.2.2.2.2.2+u16.wrap s.2.2.2.1.2.1)))
def ZG (s:QT1):Int:=(ZG5 s).val
def ZiT:En:=ZhW Zys Zyq Zyr (λ_=>none) (λa=>ZG a.1)
theorem Zrw:Za prog 223 ZiT:=
 Zg7 (P:=prog) (n:=7) (k:=8) (l:=[]) (ol:=[]) trivial Tryz.func223 rfl (by kernel_rfl) Tryz.call223 trivial (rb:=Zys) (ts:=Zyq) (rs:=Zyr) (by kernel_rfl) (t:=λa=>ZG5 a.1) (λa=>by kernel_rfl)
abbrev ZG4:R:=R.Pq Zt (R.Pq R.bool (R.Pq (R.sl (R.int u8)) (R.Pq (R.Pq (R.int i64) (R.Pq (R.int i64) (R.Pq (R.int i64) (R.Pq (R.int i64) (R.Pq (R.int i64) (R.Pq (R.int i64) (R.Pq (R.int i64) (R.int i64)))))))) (R.sl (RY)))))
abbrev ZG2:List Sh:=[]
abbrev ZG3:Rs:=Rs.one (Sh.one R.bool)
def ZPU (s:QT1):RT (Bool):=
 .Lf (ZeI s.2.2.2.1.2.2.2.2.2.2.1 s.1.2.1.2.2.2.2.2.2.2.1)
def ZhD (s:QT1):Bool:=(ZPU s).val
def Zh0:En:=ZhW ZG4 ZG2 ZG3 (λ_=>none) (λa=>ZhD a.1)
theorem ZnS:Za prog 280 Zh0:=
 Zg7 (P:=prog) (n:=7) (k:=8) (l:=[(322,ZHx)]) (ol:=[]) ⟨ZKI,Tv⟩ Tryz.func280 rfl (by kernel_rfl) Tryz.call280 trivial (rb:=ZG4) (ts:=ZG2) (rs:=ZG3) (by kernel_rfl) (t:=λa=>ZPU a.1) (λa=>by kernel_rfl)
abbrev ZXJ:R:=R.Pq Zt (R.Pq R.bool (R.Pq (R.sl (R.int u8)) (R.Pq (R.Pq (R.int i64) (R.Pq (R.int i64) (R.Pq (R.int i64) (R.Pq (R.int i64) (R.Pq (R.int i64) (R.Pq (R.int i64) (R.Pq (R.int i64) (R.int i64)))))))) (R.sl (RY)))))
abbrev ZXH:List Sh:=[Sh.one (R.int i64)]
abbrev ZXI:Rs:=Rs.one (Sh.one (R.int u8))
def Z2d (s:QT1) (n:Int):RT (Int):=
 .Lf (rGet s.1.2.1 n)
def qReg (s:QT1) (n:Int):Int:=(Z2d s n).val
def Zyo:En:=ZhW ZXJ ZXH ZXI (λ_=>none) (λa=>qReg a.1 a.2)
theorem Zul:Za prog 232 Zyo:=
 Zg7 (P:=prog) (n:=31) (k:=8) (l:=[(287,ZX1)]) (ol:=[]) ⟨ZVs,Tv⟩ Tryz.func232 rfl (by kernel_rfl) Tryz.call232 trivial (rb:=ZXJ) (ts:=ZXH) (rs:=ZXI) (by kernel_rfl) (t:=λa=>Z2d a.1 a.2) (λa=>by kernel_rfl)
abbrev ZP0:R:=R.Pq Zt (R.Pq R.bool (R.Pq (R.sl (R.int u8)) (R.Pq (R.Pq (R.int i64) (R.Pq (R.int i64) (R.Pq (R.int i64) (R.Pq (R.int i64) (R.Pq (R.int i64) (R.Pq (R.int i64) (R.Pq (R.int i64) (R.int i64)))))))) (R.sl (RY)))))
abbrev ZPY:List Sh:=[Sh.one (R.int i64)]
abbrev ZPZ:Rs:=Rs.one (Sh.one (R.int u16))
def ZXK (s:QT1) (n:Int):RT (Int):=
 .Lf (Zak s.1.2.1 n)
def Zej (s:QT1) (n:Int):Int:=(ZXK s n).val
def Zgw:En:=ZhW ZP0 ZPY ZPZ (λ_=>none) (λa=>Zej a.1 a.2)
theorem ZiO:Za prog 231 Zgw:=
 Zg7 (P:=prog) (n:=31) (k:=8) (l:=[(286,ZQH)]) (ol:=[]) ⟨ZQG,Tv⟩ Tryz.func231 rfl (by kernel_rfl) Tryz.call231 trivial (rb:=ZP0) (ts:=ZPY) (rs:=ZPZ) (by kernel_rfl) (t:=λa=>ZXK a.1 a.2) (λa=>by kernel_rfl)
abbrev Zrv:R:=R.Pq Zt (R.Pq R.bool (R.Pq (R.sl (R.int u8)) (R.Pq (R.Pq (R.int i64) (R.Pq (R.int i64) (R.Pq (R.int i64) (R.Pq (R.int i64) (R.Pq (R.int i64) (R.Pq (R.int i64) (R.Pq (R.int i64) (R.int i64)))))))) (R.sl (RY)))))
abbrev Zru:List Sh:=[]
abbrev Zj6:Rs:=Rs.one (Sh.one (R.int u8))
def ZiR (s:QT1):RT (Option (Int)):=
 .br (qAtC s 1) (.Lf (some (bif s.2.2.2.1.1==14 then (rInr s.1.1 (qAt s 1) s.1.2.1.2.2.2.2.2.2.2.1).1 else (rDcr s.1.1 (qAt s 1) s.1.2.1.2.2.2.2.2.2.2.1).1))) (.Lf none)
def ZiS (s:QT1):Int:=getO Zj6.Df (ZiR s).val
def Zgz (s:QT1):Bool:=okB (ZiR s).val
def ZnW:En:=ZhW Zrv Zru Zj6 (λa=>some (Zgz a.1)) (λa=>ZiS a.1)
theorem ZCt:Za prog 234 ZnW:=
 Ze3 (P:=prog) (n:=15) (k:=8) (l:=[(222,qAtE),(273,ZHw),(274,ZHI)]) (ol:=[]) ⟨ZiU,ZHv,ZHH,Tv⟩ Tryz.func234 rfl (by kernel_rfl) Tryz.call234 trivial (rb:=Zrv) (ts:=Zru) (rs:=Zj6) (by kernel_rfl) (t:=λa=>ZiR a.1) (λa=>by kernel_rfl)
abbrev Zrt:R:=R.Pq Zt (R.Pq R.bool (R.Pq (R.sl (R.int u8)) (R.Pq (R.Pq (R.int i64) (R.Pq (R.int i64) (R.Pq (R.int i64) (R.Pq (R.int i64) (R.Pq (R.int i64) (R.Pq (R.int i64) (R.Pq (R.int i64) (R.int i64)))))))) (R.sl (RY)))))
abbrev Zrs:List Sh:=[]
abbrev Zj5:Rs:=Rs.one (Sh.one (R.int u8))
def ZiP (s:QT1):RT (Option (Int)):=
 let x1:=s.2.2.2.1.1==13||s.2.2.2.1.2.2.2.1==6
 .br (!x1||qAtC s 1) (.br (x1) (.Lf (some (qAt s 1))) (.Lf (some (qReg s s.2.2.2.1.2.2.2.1)))) (.Lf none)
def ZiQ (s:QT1):Int:=getO Zj5.Df (ZiP s).val
def Zgx (s:QT1):Bool:=okB (ZiP s).val
def ZnU:En:=ZhW Zrt Zrs Zj5 (λa=>some (Zgx a.1)) (λa=>ZiQ a.1)
theorem ZCr:Za prog 272 ZnU:=
 Ze3 (P:=prog) (n:=7) (k:=8) (l:=[(222,qAtE),(232,Zyo)]) (ol:=[]) ⟨ZiU,Zul,Tv⟩ Tryz.func272 rfl (by kernel_rfl) Tryz.call272 trivial (rb:=Zrt) (ts:=Zrs) (rs:=Zj5) (by kernel_rfl) (t:=λa=>ZiP a.1) (λa=>by kernel_rfl)
abbrev Z2F:R:=R.Pq Zt (R.Pq R.bool (R.Pq (R.sl (R.int u8)) (R.sl (RY))))
abbrev Z2E:List Sh:=[Sh.one (R.int i64)]
abbrev Z0O:Rs:=Rs.one (Sh.one (R.int u8))
def mAtT (s:QT4) (n:Int):RT (Option (Int)):=
 .br (!decide (n< ↑(List.length s.2.2.1))||Ze n (List.length s.2.2.1)) (.br (decide (n< ↑(List.length s.2.2.1))) (.Lf (some (R.get (R.int u8) s.2.2.1 n))) (.Lf (some (0)))) (.Lf none)
def mAt (s:QT4) (n:Int):Int:=getO Z0O.Df (mAtT s n).val
def mAtC (s:QT4) (n:Int):Bool:=okB (mAtT s n).val
def mAtE:En:=ZhW Z2F Z2E Z0O (λa=>some (mAtC a.1 a.2)) (λa=>mAt a.1 a.2)
theorem Zzk:Za prog 153 mAtE:=
 Ze3 (P:=prog) (n:=31) (k:=8) (l:=[]) (ol:=[]) trivial Tryz.func153 rfl (by kernel_rfl) Tryz.call153 trivial (rb:=Z2F) (ts:=Z2E) (rs:=Z0O) (by kernel_rfl) (t:=λa=>mAtT a.1 a.2) (λa=>by kernel_rfl)
abbrev ZR7:R:=R.Pq Zt (R.Pq R.bool (R.Pq (R.sl (R.int u8)) (R.sl (RY))))
abbrev ZR6:List Sh:=[Sh.one (R.int i64)]
abbrev ZEh:Rs:=Rs.one (Sh.one (R.int u16))
def ZH0 (s:QT4) (n:Int):RT (Option (Int)):=
 .br (!mAtC s (i64.wrap (n+1))||mAtC s n) (.br (mAtC s (i64.wrap (n+1))) (.Lf (some (ZcO (mAt s (i64.wrap (n+1))) (mAt s n)))) (.Lf none)) (.Lf none)
def ZeT (s:QT4) (n:Int):Int:=getO ZEh.Df (ZH0 s n).val
def Zcl (s:QT4) (n:Int):Bool:=okB (ZH0 s n).val
def Zpk:En:=ZhW ZR7 ZR6 ZEh (λa=>some (Zcl a.1 a.2)) (λa=>ZeT a.1 a.2)
theorem ZvY:Za prog 165 Zpk:=
 Ze3 (P:=prog) (n:=31) (k:=8) (l:=[(153,mAtE),(172,ZnJ)]) (ol:=[]) ⟨Zzk,ZiK,Tv⟩ Tryz.func165 rfl (by kernel_rfl) Tryz.call165 trivial (rb:=ZR7) (ts:=ZR6) (rs:=ZEh) (by kernel_rfl) (t:=λa=>ZH0 a.1 a.2) (λa=>by kernel_rfl)
abbrev Zzj:R:=R.Pq Zt (R.Pq R.bool (R.Pq (R.sl (R.int u8)) (R.sl (RY))))
abbrev Zzh:List Sh:=[Sh.one (R.int i64)]
abbrev Zzi:Rs:=Rs.one (Sh.one (R.int u16))
def ZH8 (s:QT4) (n:Int):RT (Int):=
 .br s.2.1 (.Lf s.1.2.1.2.2.2.2.2.2.2.2.2) (.Lf (u16.wrap (s.1.2.1.2.2.2.2.2.2.2.2.2+u16.wrap n)))
def Zz (s:QT4) (n:Int):Int:=(ZH8 s n).val
def Zhk:En:=ZhW Zzj Zzh Zzi (λ_=>none) (λa=>Zz a.1 a.2)
theorem Zkj:Za prog 157 Zhk:=
 Zg7 (P:=prog) (n:=31) (k:=8) (l:=[]) (ol:=[]) trivial Tryz.func157 rfl (by kernel_rfl) Tryz.call157 trivial (rb:=Zzj) (ts:=Zzh) (rs:=Zzi) (by kernel_rfl) (t:=λa=>ZH8 a.1 a.2) (λa=>by kernel_rfl)
abbrev ZH4:R:=R.Pq Zt (R.Pq R.bool (R.Pq (R.sl (R.int u8)) (R.sl (RY))))
abbrev ZH2:List Sh:=[Sh.agg (R.Pq (R.int i64) (R.Pq (R.int i64) (R.Pq (R.int i64) (R.Pq (R.int i64) (R.Pq (R.int i64) (R.Pq (R.int i64) (R.Pq (R.int i64) (R.int i64))))))))]
abbrev ZH3:Rs:=Rs.one (Sh.one R.bool)
def ZSb (s:QT4) (i:QT6):RT (Bool):=
 .Lf (ZeI i.2.2.2.2.2.2.1 s.1.2.1.2.2.2.2.2.2.2.1)
def ZeO (s:QT4) (i:QT6):Bool:=(ZSb s i).val
def Zh6:En:=ZhW ZH4 ZH2 ZH3 (λ_=>none) (λa=>ZeO a.1 a.2)
theorem Zpm:Za prog 169 Zh6:=
 Zg7 (P:=prog) (n:=31) (k:=8) (l:=[(220,ZPj)]) (ol:=[]) ⟨ZPi,Tv⟩ Tryz.func169 rfl (by kernel_rfl) Tryz.call169 trivial (rb:=ZH4) (ts:=ZH2) (rs:=ZH3) (by kernel_rfl) (t:=λa=>ZSb a.1 a.2) (λa=>by kernel_rfl)
abbrev Zq7:List Sh:=[Sh.agg Zt,Sh.agg (R.Pq (R.int i64) (R.Pq (R.int i64) (R.Pq (R.int i64) (R.Pq (R.int i64) (R.Pq (R.int i64) (R.Pq (R.int i64) (R.Pq (R.int i64) (R.int i64)))))))),Sh.one (R.int u8)]
abbrev Zq8:Rs:=Rs.tup [Sh.one (R.int u8),Sh.agg rcF7]
def ZxS (c:TC) (i:QT6) (v:Int):RT (QT2):=
 .br (i.1==14) (.Lf (rInr c.1 v c.2.1.2.2.2.2.2.2.2.1)) (.Lf (rDcr c.1 v c.2.1.2.2.2.2.2.2.2.1))
def Zg8 (c:TC) (i:QT6) (v:Int):QT2:=(ZxS c i v).val
def Zgm:En:=Zg Zq7 Zq8 (λ_=>none) (λa=>Zg8 a.1 a.2.1 a.2.2)
theorem ZmS:Za prog 166 Zgm:=
 pureQ 255 [(218,Z16),(219,Z2c)] [] Zq7 Zq8 ⟨ZZx,ZZH,Tv⟩ Tryz.func166 Tryz.call166 trivial (t:=λa=>ZxS a.1 a.2.1 a.2.2)
abbrev Zu4:List Sh:=[Sh.one (R.int i64),Sh.one (R.int u8)]
abbrev Zu5:Rs:=Rs.one (Sh.one (R.int i64))
def ZDA (chip:Int) (op:Int):RT (Int):=
 .br ((Zb chip op).1==2) (.br (!chip==2&&((Zb chip op).2.2.1 !=6&&(Zb chip op).2.2.2.1 !=6)) (.Lf (5)) (.Lf (4))) (.br (bif (Zb chip op).1==14 then (Zb chip op).1==14 else (Zb chip op).1==15) (.br (!chip==2&&(Zb chip op).2.2.1 !=6) (.Lf (5)) (.Lf (4))) (.br ((Zb chip op).1==37) (.br (chip==2) (.Lf (5)) (.Lf (4))) (.br ((Zb chip op).1==26) (.br ((Zb chip op).2.2.2.2.2.2.1==11) (.Lf (4)) (.br (chip==2) (.Lf (6)) (.Lf (5)))) (.br (bif (Zb chip op).1==16 then (Zb chip op).1==16 else bif (Zb chip op).1==17 then (Zb chip op).1==17 else bif (Zb chip op).1==28 then (Zb chip op).1==28 else bif (Zb chip op).1==29 then (Zb chip op).1==29 else bif (Zb chip op).1==25 then (Zb chip op).1==25 else bif (Zb chip op).1==27 then (Zb chip op).1==27 else bif (Zb chip op).1==45 then (Zb chip op).1==45 else (Zb chip op).1==30) (.br (chip==2) (.Lf (6)) (.Lf (5))) (.Lf (4))))))
def ZrG (chip:Int) (op:Int):Int:=(ZDA chip op).val
def Z0m:En:=Zg Zu4 Zu5 (λ_=>none) (λa=>ZrG a.1 a.2)
theorem ZRa:Za prog 115 Z0m:=
 pureQ 72842913792127 [(182,ZyM)] [] Zu4 Zu5 ⟨ZoR,Tv⟩ Tryz.func115 Tryz.call115 trivial (t:=λa=>ZDA a.1 a.2)
abbrev ZGP:List Sh:=[Sh.one (R.int i64),Sh.one (R.int u8)]
abbrev ZGQ:Rs:=Rs.one (Sh.one (R.int i64))
def ZCc (chip:Int) (op:Int):RT (Int):=
 let x1:=bif (Zb chip op).1==14 then (Zb chip op).1==14 else (Zb chip op).1==15
 let x2:= !(Zb chip op).1==2&&(!x1&&((bif (Zb chip op).1==16 then (Zb chip op).1==16 else bif (Zb chip op).1==17 then (Zb chip op).1==17 else bif (Zb chip op).1==28 then (Zb chip op).1==28 else bif (Zb chip op).1==29 then (Zb chip op).1==29 else bif (Zb chip op).1==25 then (Zb chip op).1==25 else bif (Zb chip op).1==27 then (Zb chip op).1==27 else bif (Zb chip op).1==30 then (Zb chip op).1==30 else (Zb chip op).1==45)||(Zb chip op).1==26&&(Zb chip op).2.2.2.2.2.2.1 !=11))
 .br (rOn chip&&x2) (.Lf (6)) (.br (rOn chip&&(Zb chip op).1==37) (.Lf (5)) (.br (!rOn chip&&(x2||bif (Zb chip op).1==2 then (Zb chip op).2.2.1 !=6&&(Zb chip op).2.2.2.1 !=6 else x1&&(Zb chip op).2.2.1 !=6)) (.Lf (5)) (.Lf (4))))
def Ze8 (chip:Int) (op:Int):Int:=(ZCc chip op).val
def ZnN:En:=Zg ZGP ZGQ (λ_=>none) (λa=>Ze8 a.1 a.2)
theorem ZiL:Za prog 116 ZnN:=
 pureQ 144687209545474303 [(107,Zyi),(146,rOnE)] [] ZGP ZGQ ⟨ZnQ,Zei,Tv⟩ Tryz.func116 Tryz.call116 trivial (t:=λa=>ZCc a.1 a.2)
abbrev ZGI:List Sh:=[Sh.agg Zt,Sh.agg (R.Pq R.bool (R.Pq R.bool rcF7))]
abbrev ZGJ:Rs:=Rs.one (Sh.agg Zt)
def ZB7 (c:TC) (l:QT0):RT TC:=
 .br (!rOn c.1)
 (.Lf (c))
 (.Lf ((c.1,c.2.1,c.2.2.1,c.2.2.2.1,c.2.2.2.2.1,c.2.2.2.2.2.1,l.2.2.2.2.1&&(c.2.2.2.2.2.2.1|| !c.2.2.2.2.2.2.2.2.1),c.2.2.2.2.2.2.2.1||l.2.2.2.2.2.1&& !c.2.2.2.2.2.2.2.2.2.1,l.2.2.2.2.1,l.2.2.2.2.2.1,c.2.2.2.2.2.2.2.2.2.2)))
def Zj (c:TC) (l:QT0):TC:=(ZB7 c l).val
def ZnI:En:=Zg ZGI ZGJ (λ_=>none) (λa=>Zj a.1 a.2)
theorem ZnH:Za prog 84 ZnI:=
 pureQ 31 [(146,rOnE)] [] ZGI ZGJ ⟨Zei,Tv⟩ Tryz.func84 Tryz.call84 trivial (t:=λa=>ZB7 a.1 a.2)
abbrev ZOQ:List Sh:=[Sh.agg Zt,Sh.agg (R.Pq R.bool (R.Pq R.bool rcF7))]
abbrev ZOR:Rs:=Rs.one (Sh.one (R.int i64))
def ZXd (c:TC) (l:QT0):RT (Int):=
 .br (rOn c.1&&c.2.2.2.2.2.2.1)
 (.Lf (1))
 (.br (!c.2.2.1||c.2.2.2.1)
  (.Lf (0))
  (.br (rOn c.1&&(c.2.2.2.2.2.2.2.1&&andI u8 c.2.2.2.2.2.1 4==0))
  (.Lf (2))
  (.br (rOn c.1&&(l.2.2.2.2.2.2.1&&andI u8 c.2.2.2.2.2.1 2==0))
   (.Lf (3))
   (.br (rOn c.1&&(l.2.2.2.2.2.2.2.1&&andI u8 c.2.2.2.2.2.1 1==0))
   (.Lf (4))
   (.br l.2.2.2.2.2.2.2.2
    (.Lf (5))
    (.Lf (0)))))))
def ZdN (c:TC) (l:QT0):Int:=(ZXd c l).val
def ZOS:En:=Zg ZOQ ZOR (λ_=>none) (λa=>ZdN a.1 a.2)
theorem ZGx:Za prog 87 ZOS:=
 pureQ 576601524159939135 [(146,rOnE)] [] ZOQ ZOR ⟨Zei,Tv⟩ Tryz.func87 Tryz.call87 trivial (t:=λa=>ZXd a.1 a.2)
abbrev ZoT:List Sh:=[Sh.agg Zt,Sh.one (R.int i64)]
abbrev ZoU:Rs:=Rs.one (Sh.agg Zt)
def ZlM (c:TC) (s:Int):RT TC:=
 .br (decide (s<1)||decide (s>5))
 (.Lf (c))
 (.Lf ((c.1,c.2.1,false,false,false,c.2.2.2.2.2.1,!s==1&&c.2.2.2.2.2.2.1,bif s==1 then c.2.2.2.2.2.2.2.1 else !s==2&&c.2.2.2.2.2.2.2.1,c.2.2.2.2.2.2.2.2.1,c.2.2.2.2.2.2.2.2.2.1,s==1||c.2.2.2.2.2.2.2.2.2.2.1,bif s==1 then c.2.2.1 else c.2.2.2.2.2.2.2.2.2.2.2.1,c.2.2.2.2.2.2.2.2.2.2.2.2)))
def ZvL (c:TC) (s:Int):TC:=(ZlM c s).val
def ZVF:En:=Zg ZoT ZoU (λ_=>none) (λa=>ZvL a.1 a.2)
theorem ZLn:Za prog 110 ZVF:=
 pureQ 1056799 [] [] ZoT ZoU trivial Tryz.func110 Tryz.call110 trivial (t:=λa=>ZlM a.1 a.2)
abbrev Zym:List Sh:=[Sh.agg Zt,Sh.one (R.int i64)]
abbrev Zyn:Rs:=Rs.one (Sh.agg Zt)
def ZfB (c:TC) (s:Int):RT TC:=
 .br (decide (s<1)||decide (s>5))
 (.Lf (c))
 (.Lf ((c.1,c.2.1,false,false,false,c.2.2.2.2.2.1,!s==1&&c.2.2.2.2.2.2.1,!s==2&&c.2.2.2.2.2.2.2.1,c.2.2.2.2.2.2.2.2.1,c.2.2.2.2.2.2.2.2.2.1,s==1||c.2.2.2.2.2.2.2.2.2.2.1,bif s==1 then c.2.2.1 else c.2.2.2.2.2.2.2.2.2.2.2.1,c.2.2.2.2.2.2.2.2.2.2.2.2)))
def Zi (c:TC) (s:Int):TC:=(ZfB c s).val
def ZlD:En:=Zg Zym Zyn (λ_=>none) (λa=>Zi a.1 a.2)
theorem Zj4:Za prog 97 ZlD:=
 pureQ 31 [] [] Zym Zyn trivial Tryz.func97 Tryz.call97 trivial (t:=λa=>ZfB a.1 a.2)
abbrev ZuG:List Sh:=[Sh.agg Zt]
abbrev ZuH:Rs:=Rs.one (Sh.agg Zt)
def ZCH (c:TC):RT TC:=
 .Lf ((c.1,(c.2.1.1,c.2.1.2.1,c.2.1.2.2.1,c.2.1.2.2.2.1,c.2.1.2.2.2.2.1,c.2.1.2.2.2.2.2.1,c.2.1.2.2.2.2.2.2.1,c.2.1.2.2.2.2.2.2.2.1,c.2.1.2.2.2.2.2.2.2.2.1,0),false,false,false,bif c.1==2 then 7 else 0,false,false,false,false,false,false,false))
def ZQy (c:TC):TC:=(ZCH c).val
def ZZ6:En:=Zg ZuG ZuH (λ_=>none) (λa=>ZQy a)
theorem ZQx:Za prog 77 ZZ6:=
 pureQ 15 [] [] ZuG ZuH trivial Tryz.func77 Tryz.call77 trivial (t:=λa=>ZCH a)
abbrev ZGi:List Sh:=[Sh.agg Zt]
abbrev ZGj:Rs:=Rs.one (Sh.agg Zt)
def ZjZ (c:TC):RT TC:=
 .Lf ((c.1,(c.2.1.1,c.2.1.2.1,c.2.1.2.2.1,c.2.1.2.2.2.1,c.2.1.2.2.2.2.1,c.2.1.2.2.2.2.2.1,c.2.1.2.2.2.2.2.2.1,c.2.1.2.2.2.2.2.2.2.1,c.2.1.2.2.2.2.2.2.2.2.1,0),false,false,false,bif rOn c.1 then 7 else 0,false,false,false,false,false,false,false))
def ZN (c:TC):TC:=(ZjZ c).val
def Ztc:En:=Zg ZGi ZGj (λ_=>none) (λa=>ZN a)
theorem ZmX:Za prog 81 Ztc:=
 pureQ 15 [(146,rOnE)] [] ZGi ZGj ⟨Zei,Tv⟩ Tryz.func81 Tryz.call81 trivial (t:=λa=>ZjZ a)
abbrev ZGk:List Sh:=[Sh.one (R.int i64)]
abbrev ZGl:Rs:=Rs.one (Sh.one R.bool)
def ZBb (k:Int):RT (Bool):=
 .Lf (k==1||(k==2||(k==4||(k==6||(k==8||k==9)))))
def ZbC (k:Int):Bool:=(ZBb k).val
def ZhY:En:=Zg ZGk ZGl (λ_=>none) (λa=>ZbC a)
theorem Ze6:Za prog 103 ZhY:=
 pureQ 7 [] [] ZGk ZGl trivial Tryz.func103 Tryz.call103 trivial (t:=λa=>ZBb a)
abbrev ZuI:List Sh:=[Sh.one (R.int i64)]
abbrev ZuJ:Rs:=Rs.one (Sh.one R.bool)
def ZCI (k:Int):RT (Bool):=
 .br (bif k==1 then k==1 else bif k==2 then k==2 else bif k==4 then k==4 else bif k==6 then k==6 else bif k==8 then k==8 else k==9)
 (.Lf (true))
 (.Lf (false))
def ZQA (k:Int):Bool:=(ZCI k).val
def ZZ7:En:=Zg ZuI ZuJ (λ_=>none) (λa=>ZQA a)
theorem ZQz:Za prog 114 ZZ7:=
 pureQ 23 [] [] ZuI ZuJ trivial Tryz.func114 Tryz.call114 trivial (t:=λa=>ZCI a)
abbrev ZxJ:List Sh:=[Sh.one (R.int i64)]
abbrev ZxK:Rs:=Rs.one (Sh.one R.bool)
def ZF4 (k:Int):RT (Bool):=
 .Lf (k==3||(k==5||k==7))
def Zfx (k:Int):Bool:=(ZF4 k).val
def Zs0:En:=Zg ZxJ ZxK (λ_=>none) (λa=>Zfx a)
theorem Zq5:Za prog 100 Zs0:=
 pureQ 7 [] [] ZxJ ZxK trivial Tryz.func100 Tryz.call100 trivial (t:=λa=>ZF4 a)
abbrev ZxT:List Sh:=[Sh.one (R.int i64)]
abbrev ZxU:Rs:=Rs.one (Sh.one (R.int u8))
def ZF8 (k:Int):RT (Int):=
 .br (k==1)
 (.Lf (162))
 (.br (k==2)
  (.Lf (130))
  (.br (k==4)
  (.Lf (134))
  (.br (k==5)
   (.Lf (4))
   (.br (k==6)
   (.Lf (66))
   (.br (k==7)
    (.Lf (16))
    (.br (k==8)
    (.Lf (35))
    (.br (k==9)
     (.Lf (3))
     (.br (k==10)
     (.Lf (138))
     (.Lf (0))))))))))
def ZOt (k:Int):Int:=(ZF8 k).val
def ZF9:En:=Zg ZxT ZxU (λ_=>none) (λa=>ZOt a)
theorem ZJf:Za prog 148 ZF9:=
 pureQ 1398103 [] [] ZxT ZxU trivial Tryz.func148 Tryz.call148 trivial (t:=λa=>ZF8 a)
abbrev Zyf:List Sh:=[Sh.one (R.int i64)]
abbrev Zyg:Rs:=Rs.tup [Sh.one R.bool,Sh.one R.bool,Sh.one R.bool]
def ZGG (k:Int):RT (Bool×Bool×Bool):=
 .br (k==1)
 (.Lf ((false,true,true)))
 (.br (bif k==2 then k==2 else bif k==4 then k==4 else k==11)
  (.Lf ((false,true,false)))
  (.br (bif k==3 then k==3 else k==5)
  (.Lf ((false,false,true)))
  (.br (k==6)
   (.Lf ((true,true,false)))
   (.br (k==7)
   (.Lf ((true,false,true)))
   (.br (bif k==8 then k==8 else bif k==9 then k==9 else k==12)
    (.Lf ((true,true,true)))
    (.Lf ((false,false,false))))))))
def ZtA (k:Int):Bool×Bool×Bool:=(ZGG k).val
def ZGH:En:=Zg Zyf Zyg (λ_=>none) (λa=>ZtA a)
theorem ZJB:Za prog 147 ZGH:=
 pureQ 692575 [] [] Zyf Zyg trivial Tryz.func147 Tryz.call147 trivial (t:=λa=>ZGG a)
abbrev Zrq:List Sh:=[Sh.one (R.int i64)]
abbrev Zrr:Rs:=Rs.one (Sh.one R.bool)
def Zyk (k:Int):RT (Bool):=
 .Lf (k !=10&&(k !=11&&k !=12))
def Z1 (k:Int):Bool:=(Zyk k).val
def Zyl:En:=Zg Zrq Zrr (λ_=>none) (λa=>Z1 a)
theorem ZCp:Za prog 85 Zyl:=
 pureQ 7 [] [] Zrq Zrr trivial Tryz.func85 Tryz.call85 trivial (t:=λa=>Zyk a)
theorem ZTw (c) (s:Int):ZvL c s=Zi c s:=by
 by_cases h:s=1
 ·subst h;simp[ZvL,ZlM,Zi,ZfB,RT.val]
 ·have h':(s==1)=false:=by simpa using h
  simp[ZvL,ZlM,Zi,ZfB,RT.val,h']
theorem ZUq (c):ZQy c=ZN c:=by simp[ZQy,ZCH,ZN,ZjZ,RT.val,ZaR]
theorem ZUs (k):ZQA k=ZbC k:=by simp[ZQA,ZCI,ZbC,ZBb,RT.val]
def Zem:En:=Zg ZoT ZoU (λ_=>none) (λa=>Zi a.1 a.2)
theorem Zel:Za Tryz.prog 110 Zem:=ZLn.tot (λa h=>by simp) (λa h=>ZTw _ _)
def ZHk:En:=Zg ZuG ZuH (λ_=>none) (λa=>ZN a)
theorem ZKu:Za Tryz.prog 77 ZHk:=ZQx.tot (λa h=>by simp) (λa h=>ZUq _)
def ZuK:En:=Zg ZuI ZuJ (λ_=>none) (λa=>ZbC a)
theorem ZrC:Za Tryz.prog 114 ZuK:=ZQz.tot (λa h=>by simp) (λa h=>ZUs _)
abbrev ZOO:List Sh:=[Sh.one (R.int i64),Sh.one (R.int i64),Sh.agg (RY),Sh.one (R.int u8),Sh.one R.bool,Sh.one R.bool]
abbrev ZOP:Rs:=Rs.one (Sh.agg (R.Pq (R.int i64) (R.Pq (R.int u16) (R.Pq (R.int u8) (R.Pq R.bool (R.Pq R.bool (R.Pq R.bool (R.Pq R.bool (R.Pq R.bool (R.Pq R.bool (R.Pq R.bool rcF7)))))))))))
def ZGw (chip:Int) (t:Int) (x:QT12) (d:Int) (i:Bool) (o:Bool):RT (QT13):=
 let x1:QT25:=(!rOn chip&&bif rOn chip then i else i,false,false,false,false,false,false,bif !rOn chip then rOn chip&&o else rOn chip&&o,false,false,rOn chip)
 let x2:=(t==2||(t==7||t==3))&&Zfx x.1
 let x3:Int:=bif t==3&&ZbC x.1 then d else bif x2 then x.2.2.1 else 0
 .br (t==8)
 (.Lf ((t,0,0,false,false,false,!rOn chip&&bif rOn chip then i else i,false,false,false,false,false,false,bif !rOn chip then rOn chip&&o else rOn chip&&o,false,true,true)))
 (.br (t==9)
  (.Lf ((t,bif !rOn chip then x.2.1 else 0,0,false,false,!rOn chip,x1)))
  (.br (t==10)
  (.Lf ((t,0,0,false,false,false,x1)))
  (.br (rOn chip)
   (.Lf ((t,x.2.1,bif t==1 then u8.wrap x.2.1 else x3,false,false,false,!rOn chip&&bif rOn chip then i else i,t==1,(ZtA x.1).1,(ZtA x.1).2.1,(ZtA x.1).2.2,(t==2||(t==7||t==3))&&(ZbC x.1&& !(x.1==8||x.1==9)),(t==2||(t==7||t==3))&&(x.1==8||x.1==9),bif !rOn chip then rOn chip&&o else rOn chip&&o,x2,false,false)))
   (.Lf ((t,x.2.1,bif t==1&&(x.1 !=11&&x.1 !=12) then ZOt x.1 else x3,t==1&&(x.1 !=11&&x.1 !=12),(t==2||(t==7||t==3))&&ZbC x.1,t==7,!rOn chip&&bif rOn chip then i else i,false,false,false,false,false,false,bif !rOn chip then rOn chip&&o else rOn chip&&o,Zfx x.1&&(t==7||t==3),false,false))))))
def ZmZ (chip:Int) (t:Int) (x:QT12) (d:Int) (i:Bool) (o:Bool):QT13:=(ZGw chip t x d i o).val
def ZXc:En:=Zg ZOO ZOP (λ_=>none) (λa=>ZmZ a.1 a.2.1 a.2.2.1 a.2.2.2.1 a.2.2.2.2.1 a.2.2.2.2.2)
theorem ZUG:Za Tryz.prog 83 ZXc:=
 pureQ 302250189878107155464191 [(100,Zs0),(103,ZhY),(146,rOnE),(147,ZGH),(148,ZF9)] [] ZOO ZOP ⟨Zq5,Ze6,Zei,ZJB,ZJf,Tv⟩ Tryz.func83 Tryz.call83 trivial (t:=λa=>ZGw a.1 a.2.1 a.2.2.1 a.2.2.2.1 a.2.2.2.2.1 a.2.2.2.2.2)
abbrev ZPL:List Sh:=[Sh.agg (R.Pq Zt (R.Pq (R.int i64) (R.Pq (R.sl (R.int u8)) (R.Pq (RY) (R.Pq (R.int i64) R.bool)))))]
abbrev ZPM:Rs:=Rs.one (Sh.one R.bool)
def ZGY (c:QT5):RT (Bool):=
 let x1:=decide (iN (List.length c.2.2.1)>0)||c.2.1 !=0
 .Lf (bif decide (c.2.2.2.2.1>=2) then decide (c.2.2.2.2.1<=7)||x1 else x1)
def ZcG (c:QT5):Bool:=(ZGY c).val
def Zyj:En:=Zg ZPL ZPM (λ_=>none) (λa=>ZcG a)
theorem Zuh:Za Tryz.prog 30 Zyj:=
 pureQ 7 [] [] ZPL ZPM trivial Tryz.func30 Tryz.call30 trivial (t:=λa=>ZGY a)
end
end Go.Proofs.YtghoimllhpjkjaaGreat
