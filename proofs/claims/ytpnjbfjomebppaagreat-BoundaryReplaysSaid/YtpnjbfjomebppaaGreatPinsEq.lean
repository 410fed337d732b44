import Derived.Test.YtpnjbfjomebppaaGreatLeafs
open Go.Proofs.Tryz (prog)
open Go.IntKind (u8 u16 i64)
open Go Go.S3 Go.Proofs
set_option linter.unusedVariables false
set_option linter.unusedSimpArgs false
set_option maxRecDepth 100000
namespace Go.Proofs.YtpnjbfjomebppaaGreat
noncomputable section
theorem ZyQ (b:Int) (h:inR .u8 b):ZlP b=true/\Zu3 b=Zm8 b:=by have h1:=ZfC (λb=>ZlP b&&(Zu3 b==Zm8 b)) (by kernel_rfl) b h;simpa using h1
theorem Zzv (a b c:Bool):pMaj a b c=rMaj a b c:=by cases a<;>cases b<;>cases c<;>rfl
theorem ZXK (a:Bool):pOne a=rOne a:=by cases a<;>rfl
theorem ZNS (a b:Int) (c:Bool):pSum a b c=rSum a b c:=by simp only[pSum,ZZz,rSum,ZUf,RT.val,YaH,Zn8,ZlN,ZdY,ZlB,ZXK]
theorem ZEO (a b:Int) (c:Bool):Zh1 a b c=Zcn a b c:=by
 have h1:=Z2t a;have h2:=Z2t b;have e:IntKind.wrap .i64 (IntKind.wrap .i64 (IntKind.wrap .i64 (IntKind.wrap .i64 (andI .u8 a 15)+15)-IntKind.wrap .i64 (andI .u8 b 15))+1)=IntKind.wrap .i64 (IntKind.wrap .i64 (IntKind.wrap .i64 (andI .u8 a 15)+IntKind.wrap .i64 (IntKind.wrap .u8 (15-andI .u8 b 15)))+1):=by rw[ZX6];rw[wrap_i64 (andI .u8 a 15) (by omega) (by omega),wrap_i64 (andI .u8 b 15) (by omega) (by omega),wrap_i64 ((15-andI .u8 b 15)%256) (by omega) (by omega),wrap_i64 (andI .u8 a 15+15) (by omega) (by omega)];congr 1;rw[wrap_i64 _ (by omega) (by omega),wrap_i64 _ (by omega) (by omega)];omega
 simp only[Zh1,ZRh,Zcn,ZGY,RT.val,YaH,Zn8,ZlN,ZdY,ZlB,ZXK,e]
theorem Zwu (a b:Int):ZQR a b=Zcx a b:=rfl
theorem ZS7 (b:Bool) (n:Int) (h:0<=n):Zev b n=true/\pBit b n=bif b then shlI .u8 1 n else 0:=by cases b<;>simp[Zev,pBit,ZVo,RT.val,h,okB,getO]
theorem ZdT (b:Bool) (n:Int) (h:0<=n):Zdw b n=true/\rBit b n=bif b then shlI .u8 1 n else 0:=by cases b<;>simp[Zdw,rBit,ZUI,RT.val,h,okB,getO]
theorem ZaM (chip:Int):rOn chip=(chip==2):=rfl
theorem Z1Q (chip:Int) (f):ZHn chip f=true:=by cases h:chip==2<;>simp[ZHn,Zy1,RT.val,ZS7,okB,h]
theorem ZOa (chip:Int) (f):ZGD chip f=true:=by cases h:chip==2<;>simp[ZGD,Zyt,RT.val,ZdT,ZaM,okB,h]
theorem ZZy (chip:Int) (f):ZU5 chip f=ZUt chip f:=by simp only[ZU5,Zy1,ZUt,Zyt,RT.val,ZS7,ZdT,ZaM];cases chip==2<;>simp[ZS7,ZdT,getO]
theorem of_C (r:Int) (h:inR .u8 r):pOfC r=true:=by simp[pOfC,pOfT,RT.val,ZyQ r h,okB]
theorem of_eq (r:Int) (h:inR .u8 r):pOf r=rOf r:=by simp[pOf,pOfT,rOf,rOfT,RT.val,ZyQ r h,getO]
theorem Z0E (r) (n:Int):ZCu r n=true:=by
 have:=and7 n;have h:decide (0<=andI .i64 n 7/\andI .i64 n 7<8)=true:=by simp;omega
 simp only[ZCu,ZCs,RT.val,h,Ya,okB]
theorem ZSP {m:Int} (h:0<=m/\m<=7):m=0\/m=1\/m=2\/m=3\/m=4\/m=5\/m=6\/m=7:=by omega
theorem ZP6 (r) (n:Int):pGet r n=rGet r n:=by
 have h7:=and7 n;have h:decide (0<=andI .i64 n 7/\andI .i64 n 7<8)=true:=by simp;omega
 simp only[pGet,ZZV,rGet,ZCs,RT.val,h,Ya,getO];generalize andI .i64 n 7=m at*;rcases ZSP h7 with rfl|rfl|rfl|rfl|rfl|rfl|rfl|rfl<;>rfl
theorem ZP0 (r) (n v:Int):pSet r n v=rSet r n v:=by have h7:=and7 n;simp only[pSet,ZZC,rSet,ZYX,RT.val,Ya,getO];generalize andI .i64 n 7=m at*;rcases ZSP h7 with rfl|rfl|rfl|rfl|rfl|rfl|rfl|rfl<;>rfl
theorem ZUM (r) (n:Int):ZZK r n=Zab r n:=by simp only[ZZK,ZQv,Zab,Zrx,RT.val,ZP6,Z0E,Zwu];cases andI .i64 n 3==3<;>simp[okB,getO]
theorem ZYN (r) (n:Int):ZOO r n=true:=by simp only[ZOO,Zrx,RT.val,Z0E];cases andI .i64 n 3==3<;>simp[okB]
theorem ZCO (r) (n v:Int):ZuU r n v=Zl r n v:=by simp only[ZuU,Zn9,Zl,Zgf,RT.val,ZP0]
theorem ZP2 (chip:Int) (r):ZZM chip r=true/\pPSW chip r=rPSW chip r:=by simp[ZZM,pPSW,ZU6,rPSW,ZOR,RT.val,Z1Q,ZOa,ZZy,Zwu,okB,getO]
theorem Z1p (chip:Int) (r):ZY5 chip r=true:=by simp[ZY5,ZOR,RT.val,ZOa,okB]
theorem ZNi (chip:Int) (b:Int):ZuS chip b=Ztq chip b:=by simp only[ZuS,ZuR,Ztq,Ztp,RT.val,ZaM]
theorem ZKj (chip:Int) (r) (v:Int):ZCZ chip r v=Zgh chip r v:=by simp only[ZCZ,ZuV,Zgh,ZlC,RT.val,ZNi]
theorem ZVM (c:Int) (f):ZQX c f=Zen c f:=by
 simp only[ZQX,ZDS,Zen,ZCr,RT.val];by_cases h:0<=c/\c<=11
 ·have:c=0\/c=1\/c=2\/c=3\/c=4\/c=5\/c=6\/c=7\/c=8\/c=9\/c=10\/c=11:=by omega
  rcases this with rfl|rfl|rfl|rfl|rfl|rfl|rfl|rfl|rfl|rfl|rfl|rfl<;>simp
 ·have e:∀k:Int,0<=k->k<=11->(c==k)=false:=λk h1 h2=>by simp;omega
  simp[e]
theorem ZxN (a b:Int) (c:Bool):inR .u8 (rSum a b c).1:=by simp only[rSum,ZUf,RT.val,YaH];exact Za4 _ _
theorem Zp1 (a b:Int) (c:Bool):inR .u8 (Zcn a b c).1:=by simp only[Zcn,ZGY,RT.val,YaH];exact Za4 _ _
theorem ZkN (a b:Int):inR .u8 (andI .u8 a b)/\inR .u8 (orI .u8 a b)/\inR .u8 (xorI .u8 a b):=Zhj _ _ _
theorem ZxZ (chip v r:Int) (half over x:Bool) (f) (h:inR .u8 r):Zi6 chip v r half over x f=true/\
  Zoe chip v r half over x f=Zqs chip ((rOf r).1,(rOf r).2.1,(rOf r).2.2.1,half,(rOf r).2.2.2.2.1,(rOf r).2.2.2.2.2.1,f.2.2.2.2.2.2) (rMaj (decide (v>=128)) x (decide (r>=128))) over:=by cases hc:chip==2<;>simp[Zi6,Zoe,ZlO,Zqs,Zry,RT.val,of_C r h,of_eq r h,okB,getO,ZaM,hc,Zzv,rOf,rOfT]
theorem ZP4 (chip v:Int) (f):ZZT chip v f=true/\pInr chip v f=rInr chip v f:=by have h:=ZxZ chip v (rSum v 1 false).1 (rSum v 1 false).2.2.1 (rSum v 1 false).2.2.2 false f (ZxN _ _ _);simp only[ZZT,pInr,ZVb,rInr,ZZb,RT.val,ZNS,h.1,h.2,Ya,okB,getO,and_self]
theorem ZP9 (chip v:Int) (f):ZZ7 chip v f=true/\pDcr chip v f=rDcr chip v f:=by have h:=ZxZ chip v (Zcn v 1 false).1 (Zcn v 1 false).2.2.1 (Zcn v 1 false).2.2.2 true f (Zp1 _ _ _);simp only[ZZ7,pDcr,ZVk,rDcr,ZZk,RT.val,ZEO,h.1,h.2,Ya,okB,getO,and_self]
theorem ZZu (chip v:Int) (f):pInx chip v f=rInx chip v f:=by simp only[pInx,ZZR,rInx,ZY8,RT.val,ZaM]
theorem ZZw (chip v:Int) (f):pDcx chip v f=rDcx chip v f:=by simp only[pDcx,ZZ5,rDcx,ZZh,RT.val,ZaM]
theorem ZQa (chip a:Int) (f):Z0b chip a f=true/\pDaa chip a f=rDaa chip a f:=by
 have h:=λx=>of_C _ (ZxN a x false)
 have h2:=λx=>of_eq _ (ZxN a x false)
 cases hc:chip==2<;>simp[Z0b,pDaa,ZVm,rDaa,ZZp,Zqs,Zry,RT.val,ZNS,h,h2,okB,getO,ZaM,hc,Zzv,rOf,rOfT]
theorem ZHf (a b:Int):ZRe a b=true/\ZZ0 a b=ZyC a b:=by
 have h:=λx y z=>of_C _ (Zp1 x y z)
 have h2:=λx y z=>of_eq _ (Zp1 x y z)
 simp[ZRe,ZZ0,ZHD,ZyC,ZPy,RT.val,ZEO,h,h2,okB,getO,Zzv,Zwu,rOf,rOfT,YaH]
theorem ZUR (v:Int):Z14 v=ZuE v:=rfl
theorem ZXO (c:Bool):pLow c=bif c then 1 else 0:=by cases c<;>rfl
theorem ZP1 (op a:Int) (c:Bool):ZZE op a c=true/\pRot op a c=rRot op a c:=by
 have h3:=and3 op;simp only[ZZE,pRot,ZUY,rRot,ZOu,RT.val,ZXO,(ZdT c 0 (by decide)).1,(ZdT c 0 (by decide)).2,(ZdT c 7 (by decide)).1,(ZdT c 7 (by decide)).2];generalize andI .i64 op 3=m at*;have:m=0\/m=1\/m=2\/m=3:=by omega
 rcases this with rfl|rfl|rfl|rfl<;>cases c<;>exact⟨rfl,rfl⟩
theorem Z1o (op a:Int) (c:Bool):ZY0 op a c=true:=by
 have h3:=and3 op;simp only[ZY0,ZOu,RT.val,(ZdT c 0 (by decide)).1,(ZdT c 7 (by decide)).1];generalize andI .i64 op 3=m at*;have:m=0\/m=1\/m=2\/m=3:=by omega
 rcases this with rfl|rfl|rfl|rfl<;>rfl
theorem ZUL (v:Int) (c:Bool) (h:inR .u16 v):ZZJ v c=Zyp v c:=by
 have hb:=ZdT c 0 (by decide);have e:IntKind.wrap .u16 (bif c then 1 else 0)=IntKind.wrap .u16 (bif c then shlI .u8 1 0 else 0):=by cases c<;>rfl
 have hr:∀x,inR .u16 (orI .u16 x (IntKind.wrap .u16 (bif c then shlI .u8 1 0 else 0))):=λx=>(Zhj _ _ _).2.1
 simp only[ZZJ,ZQt,Zyp,Zyo,RT.val,ZXO,hb.1,hb.2,Ya,getO,e];rw[Zsm _ (Zhj _ _ _).2.2,ZNP _ _ (hr _) h,ZE0 _ (hr _),ZE0 _ h];cases tb (orI .u16 (shlI .u16 v 1) (IntKind.wrap .u16 (bif c then shlI .u8 1 0 else 0)))<;>cases tb v<;>rfl
theorem ZYM (v:Int) (c:Bool):ZOC v c=true:=by have hb:=ZdT c 0 (by decide);simp[ZOC,Zyo,RT.val,hb.1,okB]
theorem ZZx (chip a b:Int) (f) (ha:inR .u16 a) (hb:inR .u16 b):pDad chip a b f=rDad chip a b f:=by
 have hr:inR .u16 (IntKind.wrap .u16 (a+b)):=Za4 _ _;have ha':=Zfs.1 ha;have hb':=Zfs.1 hb;simp only[pDad,ZZ9,rDad,ZZm,RT.val,ZaM];rw[Zsm _ (Zhj _ _ _).1,ZWC _ _ (Zhj _ _ _).2.2 (Zhj _ _ _).2.2,ZNP _ _ ha hr,ZNP _ _ hb hr];have e1:decide (IntKind.wrap .u16 (a+b)<a)=decide (IntKind.wrap .i64 (IntKind.wrap .i64 a+IntKind.wrap .i64 b)>65535):=by rw[ZE6,wrap_i64 a (by omega) (by omega),wrap_i64 b (by omega) (by omega),wrap_i64 (a+b) (by omega) (by omega)];simp only[decide_eq_decide];omega
 have e2:(((tb a)^^(tb (IntKind.wrap .u16 (a+b))))&&((tb b)^^(tb (IntKind.wrap .u16 (a+b)))))=(decide (IntKind.wrap .i64 (IntKind.wrap .i64 (IntKind.wrap .i16 a)+IntKind.wrap .i64 (IntKind.wrap .i16 b))< -32768)||decide (IntKind.wrap .i64 (IntKind.wrap .i64 (IntKind.wrap .i16 a)+IntKind.wrap .i64 (IntKind.wrap .i16 b))>32767)):=by
  have ia:=ZE7 a;have ib:=ZE7 b;have hia: -32768<=IntKind.wrap .i16 a/\IntKind.wrap .i16 a<=32767:=by rw[ia];split<;>omega
  have hib: -32768<=IntKind.wrap .i16 b/\IntKind.wrap .i16 b<=32767:=by rw[ib];split<;>omega
  rw[wrap_i64 (IntKind.wrap .i16 a) (by omega) (by omega),wrap_i64 (IntKind.wrap .i16 b) (by omega) (by omega),wrap_i64 (IntKind.wrap .i16 a+IntKind.wrap .i16 b) (by omega) (by omega)];rw[ia,ib,ZE6];unfold tb;by_cases h1:a>=32768<;>by_cases h2:b>=32768<;>by_cases h3:(a+b)%65536>=32768<;>simp[h1,h2,h3]<;>(try split)<;>(try split)<;>omega
 rw[e1,e2]
theorem ZCP (c l):ZZG c l=true/\pRim c l=rRim c l/\ZY2 c l=true:=by
 have h:∀b n,0<=n->ZcB b n=true/\ZyY b n=bif b then shlI .u8 1 n else 0:=λb n h=>by cases b<;>simp[ZcB,ZyY,ZHi,RT.val,h,okB,getO]
 have h3:∀b,Zap b 3=true/\Zgn b 3=bif b then shlI .u8 1 3 else 0:=λb=>by cases b<;>exact⟨rfl,rfl⟩
 have h4:∀b,Zap b 4=true/\Zgn b 4=bif b then shlI .u8 1 4 else 0:=λb=>by cases b<;>exact⟨rfl,rfl⟩
 have h5:∀b,Zap b 5=true/\Zgn b 5=bif b then shlI .u8 1 5 else 0:=λb=>by cases b<;>exact⟨rfl,rfl⟩
 have h6:∀b,Zap b 6=true/\Zgn b 6=bif b then shlI .u8 1 6 else 0:=λb=>by cases b<;>exact⟨rfl,rfl⟩
 have h7:∀b,Zap b 7=true/\Zgn b 7=bif b then shlI .u8 1 7 else 0:=λb=>by cases b<;>exact⟨rfl,rfl⟩
 simp[ZZG,pRim,ZU0,ZY2,rRim,ZOx,RT.val,h,h3,h4,h5,h6,h7,okB,getO]
theorem ZZt (c) (a:Int):pSim c a=rSim c a:=by simp only[pSim,ZZB,rSim,ZOo,RT.val]
theorem ZKf (s:Int):ZCV s=Zh s:=by simp only[ZCV,ZuQ,Zh,Ztm,RT.val]
theorem ZP3 (chip op a b:Int):Zvf chip op a b=true/\∀f,(andI .i64 op 7=op)->4<=op->op<=6->ZHs chip op a b=rDo chip op a b f:=by
 have h:=λx y=>of_C _ (ZkN x y).1
 have h':=λx y=>of_C _ (ZkN x y).2.1
 have h'':=λx y=>of_C _ (ZkN x y).2.2
 have g:=λx y=>of_eq _ (ZkN x y).1
 have g':=λx y=>of_eq _ (ZkN x y).2.1
 have g'':=λx y=>of_eq _ (ZkN x y).2.2
 have h0:=of_C 0 (by rw[ZgH];omega);constructor
 ·cases h4:op==4<;>cases h5:op==5<;>cases h6:op==6<;>simp[Zvf,ZoT,RT.val,h,h',h'',h0,okB,h4,h5,h6]
 ·intro f e h4 h6;have:op=4\/op=5\/op=6:=by omega
  rcases this with rfl|rfl|rfl<;>cases hc:chip==2<;>simp[ZHs,ZoT,rDo,rDoT,RT.val,h,h',h'',g,g',g'',getO,e,ZaM,hc,Zqs,Zry,rOf,rOfT,Zzv]
theorem ZXq (chip op a b:Int) (f):pDoC chip op a b f=true/\pDo chip op a b f=rDo chip op a b f:=by
 have h7:=and7 op;have hs:=λx=>of_C _ (ZxN a b x)
 have hs2:=λx=>of_eq _ (ZxN a b x)
 have hd:=λx=>of_C _ (Zp1 a b x)
 have hd2:=λx=>of_eq _ (Zp1 a b x)
 have hl:=ZP3 chip (andI .i64 op 7) a b;have hlt:decide (b<128)= !decide (128<=b):=by
  by_cases h:b<128
  ·have:¬128<=b:=by omega
   simp[h,this]
  ·have:128<=b:=by omega
   simp[h,this]
 have hr:rDo chip (andI .i64 op 7) a b f=rDo chip op a b f:=by
  have:andI .i64 (andI .i64 op 7) 7=andI .i64 op 7:=by generalize andI .i64 op 7=m at*;rcases ZSP h7 with rfl|rfl|rfl|rfl|rfl|rfl|rfl|rfl<;>rfl
  simp only[rDo,rDoT,this]
 have he:andI .i64 (andI .i64 op 7) 7=andI .i64 op 7:=by generalize andI .i64 op 7=m at*;rcases ZSP h7 with rfl|rfl|rfl|rfl|rfl|rfl|rfl|rfl<;>rfl
 rw[<-hr];have hl2:=hl.2 f he;have hl1:=hl.1;clear hl hr;simp only[pDoC,pDo,pDoT,RT.val];generalize andI .i64 op 7=m at*;rcases ZSP h7 with rfl|rfl|rfl|rfl|rfl|rfl|rfl|rfl
 case inr.inr.inr.inr.inl=>simp[hl1,hl2,okB,getO]
 case inr.inr.inr.inr.inr.inl=>simp[hl1,hl2,okB,getO]
 case inr.inr.inr.inr.inr.inr.inl=>simp[hl1,hl2,okB,getO]
 all_goals cases hc:chip==2<;>simp[rDo,rDoT,RT.val,ZNS,ZEO,hs,hs2,hd,hd2,okB,getO,he,ZaM,hc,Zqs,Zry,rOf,rOfT,Zzv,hlt]
theorem ZP8 (chip op:Int) (h:chip≠2):(Zfn chip op).val=(Zfn 0 op).val:=by
 have h1:(chip==2)=false:=by simpa using h
 have h0:((0:Int)==2)=false:=rfl;simp only[Zfn,RT.val,h1,h0]
theorem ZmU (chip op:Int) (h:chip≠2):(Zfj chip op).val=(Zfj 0 op).val:=by
 have h1:rOn chip=false:=by simpa [ZaM] using h
 have h0:rOn 0=false:=rfl;simp only[Zfj,RT.val,h1,h0]
def decT (chip op:Int):Bool:=okB (Zfn chip op).val&&okB (Zfj chip op).val&&(ZoX chip op==Zb chip op)
theorem dec_ok (chip op:Int) (h:inR .u8 op):ZlR chip op=true/\ZoX chip op=Zb chip op/\ZlI chip op=true:=by
 have fin:∀c,decT c op=true->ZlR c op=true/\ZoX c op=Zb c op/\ZlI c op=true:=by intro c hc;simp only[decT,Yb,beq_iff_eq] at hc;exact⟨hc.1.1,hc.2,hc.1.2⟩
 by_cases hc:chip=2
 ·subst hc;exact fin 2 (ZfC (decT 2) (by kernel_rfl) op h)
 ·have:=fin 0 (ZfC (decT 0) (by kernel_rfl) op h);unfold ZlR ZoX Zb ZlI at this|-;rw[ZP8 chip op hc,ZmU chip op hc];exact this
def Zvg:En:=Zg ZDQ ZDR (λ_=>none) (λa=>Zcx a.1 a.2)
theorem Zy3:Za prog 220 Zvg:=ZlQ.tot (λa h=>by simp) (λa h=>Zwu _ _)
def ZXF:En:=Zg ZQZ ZRs (λ_=>none) (λa=>rGet a.1 a.2)
theorem ZVc:Za prog 281 ZXF:=ZQY.tot (λa h=>by simp) (λa h=>ZP6 _ _)
def ZnT:En:=Zg ZQZ ZRs (λ_=>none) (λa=>rGet a.1 a.2)
theorem ZtU:Za prog 311 ZnT:=ZPg.tot (λa h=>by have h1:=Z0E a.1 a.2;simp[h1]) (λa h=>rfl)
def ZyX:En:=Zg ZQh ZQi (λ_=>none) (λa=>rSet a.1 a.2.1 a.2.2)
theorem ZHh:Za prog 290 ZyX:=ZQg.tot (λa h=>by simp) (λa h=>ZP0 _ _ _)
def ZQx:En:=Zg ZQZ ZDR (λ_=>none) (λa=>Zab a.1 a.2)
theorem ZQw:Za prog 280 ZQx:=ZU3.tot (λa h=>by simp) (λa h=>ZUM _ _)
def Zgi:En:=Zg ZQZ ZDR (λ_=>none) (λa=>Zab a.1 a.2)
theorem ZiO:Za prog 244 Zgi:=ZUr.tot (λa h=>by have h1:=ZYN a.1 a.2;simp[h1]) (λa h=>rfl)
def ZbS:En:=Zg Zkc ZQi (λ_=>none) (λa=>Zl a.1 a.2.1 a.2.2)
theorem Zeo:Za prog 291 ZbS:=ZCX.tot (λa h=>by simp) (λa h=>ZCO _ _ _)
def ZQA:En:=Zg ZQz ZDR (λ_=>none) (λa=>rPSW a.1 a.2)
theorem ZU7:Za prog 288 ZQA:=ZZL.tot (λa h=>by have h1:=(ZP2 a.1 a.2).1;simp[h1]) (λa h=>(ZP2 _ _).2)
def ZOS:En:=Zg ZQz ZDR (λ_=>none) (λa=>rPSW a.1 a.2)
theorem ZUu:Za prog 332 ZOS:=ZY4.tot (λa h=>by have h1:=Z1p a.1 a.2;simp[h1]) (λa h=>rfl)
def Zoc:En:=Zg Zoa ZQi (λ_=>none) (λa=>Zgh a.1 a.2.1 a.2.2)
theorem ZCY:Za prog 299 Zoc:=ZKp.tot (λa h=>by simp) (λa h=>ZKj _ _ _)
def ZZ3:En:=Zg ZZ1 Zve (λ_=>none) (λa=>rDo a.1 a.2.1 a.2.2.1 a.2.2.2.1 a.2.2.2.2)
theorem ZZ2:Za prog 292 ZZ3:=Z11.tot (λa h=>by have h1:=(ZXq a.1 a.2.1 a.2.2.1 a.2.2.2.1 a.2.2.2.2).1;simp[h1]) (λa h=>(ZXq _ _ _ _ _).2)
def ZHy:En:=Zg ZQV Zve (λ_=>none) (λa=>rInr a.1 a.2.1 a.2.2)
theorem ZHx:Za prog 282 ZHy:=ZZS.tot (λa h=>by have h1:=(ZP4 a.1 a.2.1 a.2.2).1;simp[h1]) (λa h=>(ZP4 _ _ _).2)
def ZHI:En:=Zg ZQV Zve (λ_=>none) (λa=>rDcr a.1 a.2.1 a.2.2)
theorem ZHH:Za prog 283 ZHI:=ZZ6.tot (λa h=>by have h1:=(ZP9 a.1 a.2.1 a.2.2).1;simp[h1]) (λa h=>(ZP9 _ _ _).2)
def ZQU:En:=Zg ZQS ZQT (λ_=>none) (λa=>rInx a.1 a.2.1 a.2.2)
theorem ZVa:Za prog 294 ZQU:=ZZQ.tot (λa h=>by simp) (λa h=>ZZu _ _ _)
def ZRl:En:=Zg ZQS ZQT (λ_=>none) (λa=>rDcx a.1 a.2.1 a.2.2)
theorem ZVj:Za prog 295 ZRl:=ZZ4.tot (λa h=>by simp) (λa h=>ZZw _ _ _)
def ZRr:En:=Zg ZQV Zve (λ_=>none) (λa=>rDaa a.1 a.2.1 a.2.2)
theorem ZVn:Za prog 297 ZRr:=Z0a.tot (λa h=>by have h1:=(ZQa a.1 a.2.1 a.2.2).1;simp[h1]) (λa h=>(ZQa _ _ _).2)
def ZRp:En:=Zg ZRn ZQT (λ_=>none) (λa=>rDad a.1 a.2.1 a.2.2.1 a.2.2.2)
theorem ZVl:Za prog 296 ZRp:=ZZ8.tot (λa h=>by simp) (λa h=>ZZx _ _ _ _ h.2.1 h.2.2.1)
def ZD6:En:=Zg ZD5 ZQT (λ_=>none) (λa=>ZyC a.1 a.2)
theorem ZRf:Za prog 301 ZD6:=ZVg.tot (λa h=>by have h1:=(ZHf a.1 a.2).1;simp[h1]) (λa h=>(ZHf _ _).2)
def ZD9:En:=Zg ZD7 ZD8 (λ_=>none) (λa=>ZuE a)
theorem ZRt:Za prog 302 ZD9:=ZVp.tot (λa h=>by simp) (λa h=>ZUR _)
def ZQm:En:=Zg ZQl ZHj (λ_=>none) (λa=>rRot a.1 a.2.1 a.2.2)
theorem ZUZ:Za prog 298 ZQm:=ZZD.tot (λa h=>by have h1:=(ZP1 a.1 a.2.1 a.2.2).1;simp[h1]) (λa h=>(ZP1 _ _ _).2)
def ZOv:En:=Zg ZQl ZHj (λ_=>none) (λa=>rRot a.1 a.2.1 a.2.2)
theorem ZUh:Za prog 321 ZOv:=ZYZ.tot (λa h=>by have h1:=Z1o a.1 a.2.1 a.2.2;simp[h1]) (λa h=>rfl)
def ZC5:En:=Zg ZC3 ZC4 (λ_=>none) (λa=>Zyp a.1 a.2)
theorem ZQu:Za prog 303 ZC5:=ZU2.tot (λa h=>by simp) (λa h=>ZUL _ _ h.1)
def ZBz:En:=Zg ZC3 ZC4 (λ_=>none) (λa=>Zyp a.1 a.2)
theorem ZOD:Za prog 324 ZBz:=ZUk.tot (λa h=>by have h1:=ZYM a.1 a.2;simp[h1]) (λa h=>rfl)
def ZQo:En:=Zg ZQn ZHk (λ_=>none) (λa=>rRim a.1 a.2)
theorem ZU1:Za prog 231 ZQo:=ZZF.tot (λa h=>by have h1:=(ZCP a.1 a.2).1;simp[h1]) (λa h=>(ZCP _ _).2.1)
def ZWO:En:=Zg ZQn ZHk (λ_=>none) (λa=>rRim a.1 a.2)
theorem ZUi:Za prog 245 ZWO:=ZY1.tot (λa h=>by have h1:=(ZCP a.1 a.2).2.2;simp[h1]) (λa h=>rfl)
def ZQf:En:=Zg ZQd ZQe (λ_=>none) (λa=>rSim a.1 a.2)
theorem ZUV:Za prog 232 ZQf:=ZZA.tot (λa h=>by simp) (λa h=>ZZt _ _)
def ZHz:En:=Zg ZQy Zof (λ_=>none) (λa=>Zen a.1 a.2)
theorem ZKD:Za prog 353 ZHz:=ZQW.tot (λa h=>by simp) (λa h=>ZVM _ _)
def ZyS:En:=Zg ZyV ZDR (λ_=>none) (λa=>Zh a)
theorem ZCU:Za prog 155 ZyS:=ZKn.tot (λa h=>by simp) (λa h=>ZKf _)
def Zy6:En:=Zg ZyT ZC9 (λ_=>none) (λa=>Zb a.1 a.2)
theorem ZoW:Za prog 154 Zy6:=ZLi.tot (λa h=>by have h1:=(dec_ok a.1 a.2 h.2).1;simp[h1]) (λa h=>(dec_ok a.1 a.2 h.2).2.1)
def ZyD:En:=Zg ZyT ZC9 (λ_=>none) (λa=>Zb a.1 a.2)
theorem ZnX:Za prog 238 ZyD:=ZKc.tot (λa h=>by have h1:=(dec_ok a.1 a.2 h.2).2.2;simp[h1]) (λa h=>rfl)
abbrev ZXQ:R:=R.Pq (.int .i64) (R.Pq (.int .i64) (R.Pq (.int .i64) (R.Pq (.int .i64) (R.Pq (.int .i64) (R.Pq (.int .i64) (.int .i64))))))
def Zy7 (k:Int):En:=pinE ZyT ZXQ (λa=>Zb a.1 a.2) k
theorem ZHF (k:Int):Za Tryz.prog 154 (Zy7 k):=ZP5 ZoW k
def ZPD (k:Int):En:=pinE ZyT ZXQ (λa=>Zb a.1 a.2) k
theorem ZG0 (k:Int):Za Tryz.prog 238 (ZPD k):=ZP5 ZnX k
def pcOf (c:TC):Int:=c.2.1.2.2.2.2.2.2.2.2.2
def spOf (c:TC):Int:=c.2.1.2.2.2.2.2.2.2.2.1
def rgx (r:TR) (f:TF) (sp pc:Int):TR:=(r.1,r.2.1,r.2.2.1,r.2.2.2.1,r.2.2.2.2.1,r.2.2.2.2.2.1,r.2.2.2.2.2.2.1,f,sp,pc)
def fin3 (g:List Int) (l:List TY):RT (Option (TY×Bool)):=.br (decide (iN (Le g)>=iN (Le l))) (Ls (((0,0,0,0),false))) (.br (Ze (iN (Le g)) (Le l)) (Ls ((R.get RY l (iN (Le g)),true))) Ln)
def ZrR (s:Int):RT (Bool):=
 .Lf (decide (s>=1)&&decide (s<=4))
def Zf (s:Int):Bool:=(ZrR s).val
def Zke:En:=Zg ZyV Zof (λ_=>none) (λa=>Zf a)
theorem ZkX:Za prog 151 Zke:=
 pureQ 7 [] [] ZyV Zof trivial Tryz.func151 Tryz.call151 trivial (t:=λa=>ZrR a)
abbrev Z1N:R:=R.Pq Zr (R.Pq R.bool (R.Pq (R.sl Ka) (R.Pq (R.Pq Kc (R.Pq Kc (R.Pq Kc (R.Pq Kc (R.Pq Kc (R.Pq Kc (R.Pq Kc Kc))))))) (R.sl (RY)))))
def qAtT (s:QT1) (n:Int):RT (Option (Int)):=
 .br (!decide (n< ↑(Le s.2.2.1))||Ze n (Le s.2.2.1)) (.br (decide (n< ↑(Le s.2.2.1))) (Ls (R.get Ka s.2.2.1 n)) (Ls (0))) Ln
def qAt (s:QT1) (n:Int):Int:=getO ZRs.Df (qAtT s n).val
def qAtC (s:QT1) (n:Int):Bool:=okB (qAtT s n).val
def qAtE:En:=ZhT Z1N ZyV ZRs (λa=>some (qAtC a.1 a.2)) (λa=>qAt a.1 a.2)
theorem Zi2:Za prog 213 qAtE:=
 ZeK (P:=prog) (n:=31) (k:=8) (l:=[]) (ol:=[]) trivial Tryz.func213 rfl (by kernel_rfl) Tryz.call213 trivial (rb:=Z1N) (ts:=ZyV) (rs:=ZRs) (by kernel_rfl) (t:=λa=>qAtT a.1 a.2) (λa=>by kernel_rfl)
def ZyK (s:QT1) (n:Int):RT (Option (Int)):=
 .br (!qAtC s (i64.wrap (n+1))||qAtC s n) (.br (qAtC s (i64.wrap (n+1))) (Ls (Zcx (qAt s (i64.wrap (n+1))) (qAt s n))) Ln) Ln
def Zgq (s:QT1) (n:Int):Int:=getO ZDR.Df (ZyK s n).val
def ZcA (s:QT1) (n:Int):Bool:=okB (ZyK s n).val
def Zn1:En:=ZhT Z1N ZyV ZDR (λa=>some (ZcA a.1 a.2)) (λa=>Zgq a.1 a.2)
theorem ZuG:Za prog 284 Zn1:=
 ZeK (P:=prog) (n:=31) (k:=8) (l:=[(213,qAtE),(220,Zvg)]) (ol:=[]) ⟨Zi2,Zy3,Tv⟩ Tryz.func284 rfl (by kernel_rfl) Tryz.call284 trivial (rb:=Z1N) (ts:=ZyV) (rs:=ZDR) (by kernel_rfl) (t:=λa=>ZyK a.1 a.2) (λa=>by kernel_rfl)
abbrev ZyL:List Sh:=[]
def ZG8 (s:QT1):RT (Int):=
 .br s.2.1 (.Lf s.1.2.1.2.2.2.2.2.2.2.2.2) (.Lf (u16.wrap (s.1.2.1.2.2.2.2.2.2.2.2.2+u16.wrap s.2.2.2.1.2.1)))
def ZA (s:QT1):Int:=(ZG8 s).val
def Zi1:En:=ZhT Z1N ZyL ZDR (λ_=>none) (λa=>ZA a.1)
theorem ZrL:Za prog 227 Zi1:=
 Zg1 (P:=prog) (n:=7) (k:=8) (l:=[]) (ol:=[]) trivial Tryz.func227 rfl (by kernel_rfl) Tryz.call227 trivial (rb:=Z1N) (ts:=ZyL) (rs:=ZDR) (by kernel_rfl) (t:=λa=>ZG8 a.1) (λa=>by kernel_rfl)
def ZPP (s:QT1):RT (Bool):=
 .Lf (Zen s.2.2.2.1.2.2.2.2.2.2.1 s.1.2.1.2.2.2.2.2.2.2.1)
def ZhA (s:QT1):Bool:=(ZPP s).val
def ZhY:En:=ZhT Z1N ZyL Zof (λ_=>none) (λa=>ZhA a.1)
theorem ZnZ:Za prog 286 ZhY:=
 Zg1 (P:=prog) (n:=7) (k:=8) (l:=[(353,ZHz)]) (ol:=[]) ⟨ZKD,Tv⟩ Tryz.func286 rfl (by kernel_rfl) Tryz.call286 trivial (rb:=Z1N) (ts:=ZyL) (rs:=Zof) (by kernel_rfl) (t:=λa=>ZPP a.1) (λa=>by kernel_rfl)
def Z1L (s:QT1) (n:Int):RT (Int):=
 .Lf (rGet s.1.2.1 n)
def qReg (s:QT1) (n:Int):Int:=(Z1L s n).val
def ZyJ:En:=ZhT Z1N ZyV ZRs (λ_=>none) (λa=>qReg a.1 a.2)
theorem ZuF:Za prog 216 ZyJ:=
 Zg1 (P:=prog) (n:=31) (k:=8) (l:=[(281,ZXF)]) (ol:=[]) ⟨ZVc,Tv⟩ Tryz.func216 rfl (by kernel_rfl) Tryz.call216 trivial (rb:=Z1N) (ts:=ZyV) (rs:=ZRs) (by kernel_rfl) (t:=λa=>Z1L a.1 a.2) (λa=>by kernel_rfl)
def ZXp (s:QT1) (n:Int):RT (Int):=
 .Lf (Zab s.1.2.1 n)
def Zd0 (s:QT1) (n:Int):Int:=(ZXp s n).val
def Zgo:En:=ZhT Z1N ZyV ZDR (λ_=>none) (λa=>Zd0 a.1 a.2)
theorem ZiW:Za prog 215 Zgo:=
 Zg1 (P:=prog) (n:=31) (k:=8) (l:=[(280,ZQx)]) (ol:=[]) ⟨ZQw,Tv⟩ Tryz.func215 rfl (by kernel_rfl) Tryz.call215 trivial (rb:=Z1N) (ts:=ZyV) (rs:=ZDR) (by kernel_rfl) (t:=λa=>ZXp a.1 a.2) (λa=>by kernel_rfl)
def ZiZ (s:QT1):RT (Option (Int)):=
 .br (qAtC s 1) (Ls (bif s.2.2.2.1.1==14 then (rInr s.1.1 (qAt s 1) s.1.2.1.2.2.2.2.2.2.2.1).1 else (rDcr s.1.1 (qAt s 1) s.1.2.1.2.2.2.2.2.2.2.1).1)) Ln
def Zi0 (s:QT1):Int:=getO ZRs.Df (ZiZ s).val
def Zgr (s:QT1):Bool:=okB (ZiZ s).val
def Zn2:En:=ZhT Z1N ZyL ZRs (λa=>some (Zgr a.1)) (λa=>Zi0 a.1)
theorem ZCM:Za prog 218 Zn2:=
 ZeK (P:=prog) (n:=15) (k:=8) (l:=[(213,qAtE),(282,ZHy),(283,ZHI)]) (ol:=[]) ⟨Zi2,ZHx,ZHH,Tv⟩ Tryz.func218 rfl (by kernel_rfl) Tryz.call218 trivial (rb:=Z1N) (ts:=ZyL) (rs:=ZRs) (by kernel_rfl) (t:=λa=>ZiZ a.1) (λa=>by kernel_rfl)
def ZiX (s:QT1):RT (Option (Int)):=
 let x1:=s.2.2.2.1.1==13||s.2.2.2.1.2.2.2.1==6
 .br (!x1||qAtC s 1) (.br (x1) (Ls (qAt s 1)) (Ls (qReg s s.2.2.2.1.2.2.2.1))) Ln
def ZiY (s:QT1):Int:=getO ZRs.Df (ZiX s).val
def Zgp (s:QT1):Bool:=okB (ZiX s).val
def Zn0:En:=ZhT Z1N ZyL ZRs (λa=>some (Zgp a.1)) (λa=>ZiY a.1)
theorem ZCK:Za prog 293 Zn0:=
 ZeK (P:=prog) (n:=7) (k:=8) (l:=[(213,qAtE),(216,ZyJ)]) (ol:=[]) ⟨Zi2,ZuF,Tv⟩ Tryz.func293 rfl (by kernel_rfl) Tryz.call293 trivial (rb:=Z1N) (ts:=ZyL) (rs:=ZRs) (by kernel_rfl) (t:=λa=>ZiX a.1) (λa=>by kernel_rfl)
abbrev Z2e:R:=R.Pq Zr (R.Pq R.bool (R.Pq (R.sl Ka) (R.sl (RY))))
def mAtT (s:QT4) (n:Int):RT (Option (Int)):=
 .br (!decide (n< ↑(Le s.2.2.1))||Ze n (Le s.2.2.1)) (.br (decide (n< ↑(Le s.2.2.1))) (Ls (R.get Ka s.2.2.1 n)) (Ls (0))) Ln
def mAt (s:QT4) (n:Int):Int:=getO ZRs.Df (mAtT s n).val
def mAtC (s:QT4) (n:Int):Bool:=okB (mAtT s n).val
def mAtE:En:=ZhT Z2e ZyV ZRs (λa=>some (mAtC a.1 a.2)) (λa=>mAt a.1 a.2)
theorem ZzC:Za prog 239 mAtE:=
 ZeK (P:=prog) (n:=31) (k:=8) (l:=[]) (ol:=[]) trivial Tryz.func239 rfl (by kernel_rfl) Tryz.call239 trivial (rb:=Z2e) (ts:=ZyV) (rs:=ZRs) (by kernel_rfl) (t:=λa=>mAtT a.1 a.2) (λa=>by kernel_rfl)
def ZHV (s:QT4) (n:Int):RT (Option (Int)):=
 .br (!mAtC s (i64.wrap (n+1))||mAtC s n) (.br (mAtC s (i64.wrap (n+1))) (Ls (Zcx (mAt s (i64.wrap (n+1))) (mAt s n))) Ln) Ln
def Zew (s:QT4) (n:Int):Int:=getO ZDR.Df (ZHV s n).val
def Zb3 (s:QT4) (n:Int):Bool:=okB (ZHV s n).val
def Zpr:En:=ZhT Z2e ZyV ZDR (λa=>some (Zb3 a.1 a.2)) (λa=>Zew a.1 a.2)
theorem Zwf:Za prog 310 Zpr:=
 ZeK (P:=prog) (n:=31) (k:=8) (l:=[(239,mAtE),(325,ZnQ)]) (ol:=[]) ⟨ZzC,ZiR,Tv⟩ Tryz.func310 rfl (by kernel_rfl) Tryz.call310 trivial (rb:=Z2e) (ts:=ZyV) (rs:=ZDR) (by kernel_rfl) (t:=λa=>ZHV a.1 a.2) (λa=>by kernel_rfl)
def ZH3 (s:QT4) (n:Int):RT (Int):=
 .br s.2.1 (.Lf s.1.2.1.2.2.2.2.2.2.2.2.2) (.Lf (u16.wrap (s.1.2.1.2.2.2.2.2.2.2.2.2+u16.wrap n)))
def Zw (s:QT4) (n:Int):Int:=(ZH3 s n).val
def Zhh:En:=ZhT Z2e ZyV ZDR (λ_=>none) (λa=>Zw a.1 a.2)
theorem Zkr:Za prog 243 Zhh:=
 Zg1 (P:=prog) (n:=31) (k:=8) (l:=[]) (ol:=[]) trivial Tryz.func243 rfl (by kernel_rfl) Tryz.call243 trivial (rb:=Z2e) (ts:=ZyV) (rs:=ZDR) (by kernel_rfl) (t:=λa=>ZH3 a.1 a.2) (λa=>by kernel_rfl)
abbrev ZHX:List Sh:=[Sh.agg (R.Pq Kc (R.Pq Kc (R.Pq Kc (R.Pq Kc (R.Pq Kc (R.Pq Kc (R.Pq Kc Kc)))))))]
def ZR5 (s:QT4) (i:QT6):RT (Bool):=
 .Lf (Zen i.2.2.2.2.2.2.1 s.1.2.1.2.2.2.2.2.2.2.1)
def Zeq (s:QT4) (i:QT6):Bool:=(ZR5 s i).val
def Zh5:En:=ZhT Z2e ZHX Zof (λ_=>none) (λa=>Zeq a.1 a.2)
theorem Zpt:Za prog 309 Zh5:=
 Zg1 (P:=prog) (n:=31) (k:=8) (l:=[(365,ZPf)]) (ol:=[]) ⟨ZPe,Tv⟩ Tryz.func309 rfl (by kernel_rfl) Tryz.call309 trivial (rb:=Z2e) (ts:=ZHX) (rs:=Zof) (by kernel_rfl) (t:=λa=>ZR5 a.1 a.2) (λa=>by kernel_rfl)
abbrev Zrk:List Sh:=[Sh.agg Zr,Sh.agg (R.Pq Kc (R.Pq Kc (R.Pq Kc (R.Pq Kc (R.Pq Kc (R.Pq Kc (R.Pq Kc Kc))))))),So Ka]
def Zyd (c:TC) (i:QT6) (v:Int):RT (QT2):=
 .br (i.1==14) (.Lf (rInr c.1 v c.2.1.2.2.2.2.2.2.2.1)) (.Lf (rDcr c.1 v c.2.1.2.2.2.2.2.2.2.1))
def Zg2 (c:TC) (i:QT6) (v:Int):QT2:=(Zyd c i v).val
def Zge:En:=Zg Zrk Zve (λ_=>none) (λa=>Zg2 a.1 a.2.1 a.2.2)
theorem Zm0:Za prog 316 Zge:=
 pureQ 255 [(372,Z1E),(373,Z1K)] [] Zrk Zve ⟨ZZa,ZZj,Tv⟩ Tryz.func316 Tryz.call316 trivial (t:=λa=>Zyd a.1 a.2.1 a.2.2)
def ZDT (chip:Int) (op:Int):RT (Int):=
 .br ((Zb chip op).1==2) (.br (!chip==2&&((Zb chip op).2.2.1 !=6&&(Zb chip op).2.2.2.1 !=6)) (.Lf (5)) (.Lf (4))) (.br (bif (Zb chip op).1==14 then (Zb chip op).1==14 else (Zb chip op).1==15) (.br (!chip==2&&(Zb chip op).2.2.1 !=6) (.Lf (5)) (.Lf (4))) (.br ((Zb chip op).1==37) (.br (chip==2) (.Lf (5)) (.Lf (4))) (.br ((Zb chip op).1==26) (.br ((Zb chip op).2.2.2.2.2.2.1==11) (.Lf (4)) (.br (chip==2) (.Lf (6)) (.Lf (5)))) (.br (bif (Zb chip op).1==16 then (Zb chip op).1==16 else bif (Zb chip op).1==17 then (Zb chip op).1==17 else bif (Zb chip op).1==28 then (Zb chip op).1==28 else bif (Zb chip op).1==29 then (Zb chip op).1==29 else bif (Zb chip op).1==25 then (Zb chip op).1==25 else bif (Zb chip op).1==27 then (Zb chip op).1==27 else bif (Zb chip op).1==45 then (Zb chip op).1==45 else (Zb chip op).1==30) (.br (chip==2) (.Lf (6)) (.Lf (5))) (.Lf (4))))))
def ZrT (chip:Int) (op:Int):Int:=(ZDT chip op).val
def ZZW:En:=Zg ZyT ZXy (λ_=>none) (λa=>ZrT a.1 a.2)
theorem ZQ1:Za prog 84 ZZW:=
 pureQ 72842913792127 [(154,Zy6)] [] ZyT ZXy ⟨ZoW,Tv⟩ Tryz.func84 Tryz.call84 trivial (t:=λa=>ZDT a.1 a.2)
def ZCv (chip:Int) (op:Int):RT (Int):=
 let x1:=bif (Zb chip op).1==14 then (Zb chip op).1==14 else (Zb chip op).1==15
 let x2:= !(Zb chip op).1==2&&(!x1&&((bif (Zb chip op).1==16 then (Zb chip op).1==16 else bif (Zb chip op).1==17 then (Zb chip op).1==17 else bif (Zb chip op).1==28 then (Zb chip op).1==28 else bif (Zb chip op).1==29 then (Zb chip op).1==29 else bif (Zb chip op).1==25 then (Zb chip op).1==25 else bif (Zb chip op).1==27 then (Zb chip op).1==27 else bif (Zb chip op).1==30 then (Zb chip op).1==30 else (Zb chip op).1==45)||(Zb chip op).1==26&&(Zb chip op).2.2.2.2.2.2.1 !=11))
 .br (rOn chip&&x2) (.Lf (6)) (.br (rOn chip&&(Zb chip op).1==37) (.Lf (5)) (.br (!rOn chip&&(x2||bif (Zb chip op).1==2 then (Zb chip op).2.2.1 !=6&&(Zb chip op).2.2.2.1 !=6 else x1&&(Zb chip op).2.2.1 !=6)) (.Lf (5)) (.Lf (4))))
def ZeQ (chip:Int) (op:Int):Int:=(ZCv chip op).val
def ZnU:En:=Zg ZyT ZXy (λ_=>none) (λa=>ZeQ a.1 a.2)
theorem ZiS:Za prog 168 ZnU:=
 pureQ 144687209545474303 [(171,rOnE),(238,ZyD)] [] ZyT ZXy ⟨ZdZ,ZnX,Tv⟩ Tryz.func168 Tryz.call168 trivial (t:=λa=>ZCv a.1 a.2)
def ZPb (c:TC) (l:QT0):RT TC:=
 .br (!rOn c.1)
 (.Lf (c))
 (.Lf ((c.1,c.2.1,c.2.2.1,c.2.2.2.1,c.2.2.2.2.1,c.2.2.2.2.2.1,l.2.2.2.2.1&&(c.2.2.2.2.2.2.1|| !c.2.2.2.2.2.2.2.2.1),c.2.2.2.2.2.2.2.1||l.2.2.2.2.2.1&& !c.2.2.2.2.2.2.2.2.2.1,l.2.2.2.2.1,l.2.2.2.2.2.1,c.2.2.2.2.2.2.2.2.2.2)))
def ZJ (c:TC) (l:QT0):TC:=(ZPb c l).val
def ZnP:En:=Zg ZQn ZQe (λ_=>none) (λa=>ZJ a.1 a.2)
theorem ZnO:Za prog 187 ZnP:=
 pureQ 31 [(171,rOnE)] [] ZQn ZQe ⟨ZdZ,Tv⟩ Tryz.func187 Tryz.call187 trivial (t:=λa=>ZPb a.1 a.2)
def ZWR (c:TC) (l:QT0):RT (Int):=
 .br (rOn c.1&&c.2.2.2.2.2.2.1)
 (.Lf (1))
 (.br (!c.2.2.1||c.2.2.2.1)
  (.Lf (0))
  (.br (rOn c.1&&(c.2.2.2.2.2.2.2.1&&andI u8 c.2.2.2.2.2.1 4==0))
  (.Lf (2))
  (.br (rOn c.1&&(l.2.2.2.2.2.2.1&&andI u8 c.2.2.2.2.2.1 2==0))
   (.Lf (3))
   (.br (rOn c.1&&(l.2.2.2.2.2.2.2.1&&andI u8 c.2.2.2.2.2.1 1==0))
   (.Lf (4))
   (.br l.2.2.2.2.2.2.2.2
    (.Lf (5))
    (.Lf (0)))))))
def Zm7 (c:TC) (l:QT0):Int:=(ZWR c l).val
def ZON:En:=Zg ZQn ZXy (λ_=>none) (λa=>Zm7 a.1 a.2)
theorem ZGB:Za prog 261 ZON:=
 pureQ 576601524159939135 [(171,rOnE)] [] ZQn ZXy ⟨ZdZ,Tv⟩ Tryz.func261 Tryz.call261 trivial (t:=λa=>ZWR a.1 a.2)
abbrev ZoY:List Sh:=[Sh.agg Zr,So Kc]
def ZlS (c:TC) (s:Int):RT TC:=
 .br (decide (s<1)||decide (s>5))
 (.Lf (c))
 (.Lf ((c.1,c.2.1,false,false,false,c.2.2.2.2.2.1,!s==1&&c.2.2.2.2.2.2.1,bif s==1 then c.2.2.2.2.2.2.2.1 else !s==2&&c.2.2.2.2.2.2.2.1,c.2.2.2.2.2.2.2.2.1,c.2.2.2.2.2.2.2.2.2.1,s==1||c.2.2.2.2.2.2.2.2.2.2.1,bif s==1 then c.2.2.1 else c.2.2.2.2.2.2.2.2.2.2.2.1,c.2.2.2.2.2.2.2.2.2.2.2.2)))
def Zv0 (c:TC) (s:Int):TC:=(ZlS c s).val
def ZVq:En:=Zg ZoY ZQe (λ_=>none) (λa=>Zv0 a.1 a.2)
theorem ZLj:Za prog 81 ZVq:=
 pureQ 1056799 [] [] ZoY ZQe trivial Tryz.func81 Tryz.call81 trivial (t:=λa=>ZlS a.1 a.2)
def ZlK (c:TC) (s:Int):RT TC:=
 .br (decide (s<1)||decide (s>5))
 (.Lf (c))
 (.Lf ((c.1,c.2.1,false,false,false,c.2.2.2.2.2.1,!s==1&&c.2.2.2.2.2.2.1,!s==2&&c.2.2.2.2.2.2.2.1,c.2.2.2.2.2.2.2.2.1,c.2.2.2.2.2.2.2.2.2.1,s==1||c.2.2.2.2.2.2.2.2.2.2.1,bif s==1 then c.2.2.1 else c.2.2.2.2.2.2.2.2.2.2.2.1,c.2.2.2.2.2.2.2.2.2.2.2.2)))
def Zo (c:TC) (s:Int):TC:=(ZlK c s).val
def ZiV:En:=Zg ZoY ZQe (λ_=>none) (λa=>Zo a.1 a.2)
theorem Zg8:Za prog 163 ZiV:=
 pureQ 31 [] [] ZoY ZQe trivial Tryz.func163 Tryz.call163 trivial (t:=λa=>ZlK a.1 a.2)
abbrev ZuX:List Sh:=[Sh.agg Zr]
def ZC1 (c:TC):RT TC:=
 .Lf ((c.1,(c.2.1.1,c.2.1.2.1,c.2.1.2.2.1,c.2.1.2.2.2.1,c.2.1.2.2.2.2.1,c.2.1.2.2.2.2.2.1,c.2.1.2.2.2.2.2.2.1,c.2.1.2.2.2.2.2.2.2.1,c.2.1.2.2.2.2.2.2.2.2.1,0),false,false,false,bif c.1==2 then 7 else 0,false,false,false,false,false,false,false))
def ZQq (c:TC):TC:=(ZC1 c).val
def ZZH:En:=Zg ZuX ZQe (λ_=>none) (λa=>ZQq a)
theorem ZQp:Za prog 80 ZZH:=
 pureQ 15 [] [] ZuX ZQe trivial Tryz.func80 Tryz.call80 trivial (t:=λa=>ZC1 a)
def Zm4 (c:TC):RT TC:=
 .Lf ((c.1,(c.2.1.1,c.2.1.2.1,c.2.1.2.2.1,c.2.1.2.2.2.1,c.2.1.2.2.2.2.1,c.2.1.2.2.2.2.2.1,c.2.1.2.2.2.2.2.2.1,c.2.1.2.2.2.2.2.2.2.1,c.2.1.2.2.2.2.2.2.2.2.1,0),false,false,false,bif rOn c.1 then 7 else 0,false,false,false,false,false,false,false))
def ZI (c:TC):TC:=(Zm4 c).val
def Zm5:En:=Zg ZuX ZQe (λ_=>none) (λa=>ZI a)
theorem ZiL:Za prog 96 Zm5:=
 pureQ 15 [(171,rOnE)] [] ZuX ZQe ⟨ZdZ,Tv⟩ Tryz.func96 Tryz.call96 trivial (t:=λa=>Zm4 a)
def ZBv (k:Int):RT (Bool):=
 .Lf (k==1||(k==2||(k==4||(k==6||(k==8||k==9)))))
def Zcz (k:Int):Bool:=(ZBv k).val
def ZhV:En:=Zg ZyV Zof (λ_=>none) (λa=>Zcz a)
theorem ZeN:Za prog 167 ZhV:=
 pureQ 7 [] [] ZyV Zof trivial Tryz.func167 Tryz.call167 trivial (t:=λa=>ZBv a)
def ZC2 (k:Int):RT (Bool):=
 .br (bif k==1 then k==1 else bif k==2 then k==2 else bif k==4 then k==4 else bif k==6 then k==6 else bif k==8 then k==8 else k==9)
 (.Lf (true))
 (.Lf (false))
def ZQs (k:Int):Bool:=(ZC2 k).val
def ZZI:En:=Zg ZyV Zof (λ_=>none) (λa=>ZQs a)
theorem ZQr:Za prog 83 ZZI:=
 pureQ 23 [] [] ZyV Zof trivial Tryz.func83 Tryz.call83 trivial (t:=λa=>ZC2 a)
def ZGa (k:Int):RT (Bool):=
 .Lf (k==3||(k==5||k==7))
def Zj1 (k:Int):Bool:=(ZGa k).val
def Ztj:En:=Zg ZyV Zof (λ_=>none) (λa=>Zj1 a)
theorem Zri:Za prog 179 Ztj:=
 pureQ 7 [] [] ZyV Zof trivial Tryz.func179 Tryz.call179 trivial (t:=λa=>ZGa a)
def ZGe (k:Int):RT (Int):=
 .br (k==1)
 (.Lf (162))
 (.br (k==2)
  (.Lf (130))
  (.br (k==4)
  (.Lf (134))
  (.br (k==5)
   (.Lf (4))
   (.br (k==6)
   (.Lf (66))
   (.br (k==7)
    (.Lf (16))
    (.br (k==8)
    (.Lf (35))
    (.br (k==9)
     (.Lf (3))
     (.br (k==10)
     (.Lf (138))
     (.Lf (0))))))))))
def ZOm (k:Int):Int:=(ZGe k).val
def ZGf:En:=Zg ZyV ZRs (λ_=>none) (λa=>ZOm a)
theorem ZJc:Za prog 340 ZGf:=
 pureQ 1398103 [] [] ZyV ZRs trivial Tryz.func340 Tryz.call340 trivial (t:=λa=>ZGe a)
abbrev ZyB:Rs:=Rs.tup [So R.bool,So R.bool,So R.bool]
def ZGK (k:Int):RT (Bool×Bool×Bool):=
 .br (k==1)
 (.Lf ((false,true,true)))
 (.br (bif k==2 then k==2 else bif k==4 then k==4 else k==11)
  (.Lf ((false,true,false)))
  (.br (bif k==3 then k==3 else k==5)
  (.Lf ((false,false,true)))
  (.br (k==6)
   (.Lf ((true,true,false)))
   (.br (k==7)
   (.Lf ((true,false,true)))
   (.br (bif k==8 then k==8 else bif k==9 then k==9 else k==12)
    (.Lf ((true,true,true)))
    (.Lf ((false,false,false))))))))
def ZtT (k:Int):Bool×Bool×Bool:=(ZGK k).val
def ZGL:En:=Zg ZyV ZyB (λ_=>none) (λa=>ZtT a)
theorem ZJx:Za prog 339 ZGL:=
 pureQ 692575 [] [] ZyV ZyB trivial Tryz.func339 Tryz.call339 trivial (t:=λa=>ZGK a)
def ZyF (k:Int):RT (Bool):=
 .Lf (k !=10&&(k !=11&&k !=12))
def Zfk (k:Int):Bool:=(ZyF k).val
def ZyG:En:=Zg ZyV Zof (λ_=>none) (λa=>Zfk a)
theorem ZCJ:Za prog 58 ZyG:=
 pureQ 7 [] [] ZyV Zof trivial Tryz.func58 Tryz.call58 trivial (t:=λa=>ZyF a)
theorem ZTh (c) (s:Int):Zv0 c s=Zo c s:=by
 by_cases h:s=1
 ·subst h;simp[Zv0,ZlS,Zo,ZlK,RT.val]
 ·have h':(s==1)=false:=by simpa using h
  simp[Zv0,ZlS,Zo,ZlK,RT.val,h']
theorem ZT9 (c):ZQq c=ZI c:=by simp[ZQq,ZC1,ZI,Zm4,RT.val,ZaM]
theorem ZUb (k):ZQs k=Zcz k:=by simp[ZQs,ZC2,Zcz,ZBv,RT.val]
def Zja:En:=Zg ZoY ZQe (λ_=>none) (λa=>Zo a.1 a.2)
theorem Zh2:Za Tryz.prog 81 Zja:=ZLj.tot (λa h=>by simp) (λa h=>ZTh _ _)
def ZHl:En:=Zg ZuX ZQe (λ_=>none) (λa=>ZI a)
theorem ZKq:Za Tryz.prog 80 ZHl:=ZQp.tot (λa h=>by simp) (λa h=>ZT9 _)
def Zu1:En:=Zg ZyV Zof (λ_=>none) (λa=>Zcz a)
theorem ZrQ:Za Tryz.prog 83 Zu1:=ZQr.tot (λa h=>by simp) (λa h=>ZUb _)
abbrev ZOI:List Sh:=[So Kc,So Kc,Sh.agg (RY),So Ka,So R.bool,So R.bool]
abbrev ZOK:Rs:=Rs.one (Sh.agg (R.Pq Kc (R.Pq Kb (R.Pq Ka (R.Pq R.bool (R.Pq R.bool (R.Pq R.bool (R.Pq R.bool (R.Pq R.bool (R.Pq R.bool (R.Pq R.bool rcF7)))))))))))
def ZOJ (chip:Int) (t:Int) (x:QT11) (d:Int) (i:Bool) (o:Bool):RT (QT12):=
 let x1:QT22:=(!rOn chip&&bif rOn chip then i else i,false,false,false,false,false,false,bif !rOn chip then rOn chip&&o else rOn chip&&o,false,false,rOn chip)
 let x2:=(t==2||(t==7||t==3))&&Zj1 x.1
 let x3:Int:=bif t==3&&Zcz x.1 then d else bif x2 then x.2.2.1 else 0
 .br (t==8)
 (.Lf ((t,0,0,false,false,false,!rOn chip&&bif rOn chip then i else i,false,false,false,false,false,false,bif !rOn chip then rOn chip&&o else rOn chip&&o,false,true,true)))
 (.br (t==9)
  (.Lf ((t,bif !rOn chip then x.2.1 else 0,0,false,false,!rOn chip,x1)))
  (.br (t==10)
  (.Lf ((t,0,0,false,false,false,x1)))
  (.br (rOn chip)
   (.Lf ((t,x.2.1,bif t==1 then u8.wrap x.2.1 else x3,false,false,false,!rOn chip&&bif rOn chip then i else i,t==1,(ZtT x.1).1,(ZtT x.1).2.1,(ZtT x.1).2.2,(t==2||(t==7||t==3))&&(Zcz x.1&& !(x.1==8||x.1==9)),(t==2||(t==7||t==3))&&(x.1==8||x.1==9),bif !rOn chip then rOn chip&&o else rOn chip&&o,x2,false,false)))
   (.Lf ((t,x.2.1,bif t==1&&(x.1 !=11&&x.1 !=12) then ZOm x.1 else x3,t==1&&(x.1 !=11&&x.1 !=12),(t==2||(t==7||t==3))&&Zcz x.1,t==7,!rOn chip&&bif rOn chip then i else i,false,false,false,false,false,false,bif !rOn chip then rOn chip&&o else rOn chip&&o,Zj1 x.1&&(t==7||t==3),false,false))))))
def ZtB (chip:Int) (t:Int) (x:QT11) (d:Int) (i:Bool) (o:Bool):QT12:=(ZOJ chip t x d i o).val
def ZWQ:En:=Zg ZOI ZOK (λ_=>none) (λa=>ZtB a.1 a.2.1 a.2.2.1 a.2.2.2.1 a.2.2.2.2.1 a.2.2.2.2.2)
theorem ZUq:Za Tryz.prog 259 ZWQ:=
 pureQ 302250189878107155464191 [(167,ZhV),(171,rOnE),(179,Ztj),(339,ZGL),(340,ZGf)] [] ZOI ZOK ⟨ZeN,ZdZ,Zri,ZJx,ZJc,Tv⟩ Tryz.func259 Tryz.call259 trivial (t:=λa=>ZOJ a.1 a.2.1 a.2.2.1 a.2.2.2.1 a.2.2.2.2.1 a.2.2.2.2.2)
abbrev ZPG:List Sh:=[Sh.agg (R.Pq Zr (R.Pq Kc (R.Pq (R.sl Ka) (R.Pq (RY) (R.Pq Kc R.bool)))))]
def ZXi (c:QT5):RT (Bool):=
 let x1:=decide (iN (Le c.2.2.1)>0)||c.2.1 !=0
 .Lf (bif decide (c.2.2.2.2.1>=2) then decide (c.2.2.2.2.1<=7)||x1 else x1)
def ZhX (c:QT5):Bool:=(ZXi c).val
def ZyE:En:=Zg ZPG Zof (λ_=>none) (λa=>ZhX a)
theorem ZuB:Za Tryz.prog 113 ZyE:=
 pureQ 7 [] [] ZPG Zof trivial Tryz.func113 Tryz.call113 trivial (t:=λa=>ZXi a)
