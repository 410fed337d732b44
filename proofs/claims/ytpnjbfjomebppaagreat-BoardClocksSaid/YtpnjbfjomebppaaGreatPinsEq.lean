import Derived.Test.YtpnjbfjomebppaaGreatLeafs
open Go.Proofs.Tryz (prog)
open Go.IntKind (u8 u16 i64)
open Go Go.S3 Go.Proofs
set_option linter.unusedVariables false
set_option linter.unusedSimpArgs false
set_option maxRecDepth 100000
namespace Go.Proofs.YtpnjbfjomebppaaGreat
noncomputable section
theorem ZAV (b:Int) (h:inR .u8 b):Zm7 b=true/\Zw0 b=Zoj b:=by have h1:=ZgB (λb=>Zm7 b&&(Zw0 b==Zoj b)) (by kernel_rfl) b h;simpa using h1
theorem ZBQ (a b c:Bool):pMaj a b c=rMaj a b c:=by cases a<;>cases b<;>cases c<;>rfl
theorem Z2I (a:Bool):pOne a=rOne a:=by cases a<;>rfl
theorem ZRc (a b:Int) (c:Bool):pSum a b c=rSum a b c:=by simp only[pSum,Z4E,rSum,ZYE,RT.val,YaE,ZpF,Zm4,ZeI,ZmQ,Z2I]
theorem ZHB (a b:Int) (c:Bool):ZiY a b c=Zdb a b c:=by
 have h1:=Z7S a;have h2:=Z7S b;have e:IntKind.wrap .i64 (IntKind.wrap .i64 (IntKind.wrap .i64 (IntKind.wrap .i64 (andI .u8 a 15)+15)-IntKind.wrap .i64 (andI .u8 b 15))+1)=IntKind.wrap .i64 (IntKind.wrap .i64 (IntKind.wrap .i64 (andI .u8 a 15)+IntKind.wrap .i64 (IntKind.wrap .u8 (15-andI .u8 b 15)))+1):=by rw[ZCG];rw[wrap_i64 (andI .u8 a 15) (by omega) (by omega),wrap_i64 (andI .u8 b 15) (by omega) (by omega),wrap_i64 ((15-andI .u8 b 15)%256) (by omega) (by omega),wrap_i64 (andI .u8 a 15+15) (by omega) (by omega)];congr 1;rw[wrap_i64 _ (by omega) (by omega),wrap_i64 _ (by omega) (by omega)];omega
 simp only[ZiY,ZVg,Zdb,ZJB,RT.val,YaE,ZpF,Zm4,ZeI,ZmQ,Z2I,e]
theorem Zyt (a b:Int):ZUO a b=Zdo a b:=rfl
theorem ZXw (b:Bool) (n:Int) (h:0<=n):ZfB b n=true/\pBit b n=bif b then shlI .u8 1 n else 0:=by cases b<;>simp[ZfB,pBit,ZZ4,RT.val,h,okB,getO]
theorem ZeF (b:Bool) (n:Int) (h:0<=n):Zek b n=true/\rBit b n=bif b then shlI .u8 1 n else 0:=by cases b<;>simp[Zek,rBit,ZY7,RT.val,h,okB,getO]
theorem ZaG (chip:Int):rOn chip=(chip==2):=rfl
theorem Z68 (chip:Int) (f):ZKn chip f=true:=by cases h:chip==2<;>simp[ZKn,ZBc,RT.val,ZXw,okB,h]
theorem ZRw (chip:Int) (f):ZJg chip f=true:=by cases h:chip==2<;>simp[ZJg,ZAo,RT.val,ZeF,ZaG,okB,h]
theorem Z4D (chip:Int) (f):ZZJ chip f=ZYT chip f:=by simp only[ZZJ,ZBc,ZYT,ZAo,RT.val,ZXw,ZeF,ZaG];cases chip==2<;>simp[ZXw,ZeF,getO]
theorem of_C (r:Int) (h:inR .u8 r):pOfC r=true:=by simp[pOfC,pOfT,RT.val,ZAV r h,okB]
theorem of_eq (r:Int) (h:inR .u8 r):pOf r=rOf r:=by simp[pOf,pOfT,rOf,rOfT,RT.val,ZAV r h,getO]
theorem Z5U (r) (n:Int):ZEJ r n=true:=by
 have:=and7 n;have h:decide (0<=andI .i64 n 7/\andI .i64 n 7<8)=true:=by simp;omega
 simp only[ZEJ,ZEH,RT.val,h,Yb,okB]
theorem ZW5 {m:Int} (h:0<=m/\m<=7):m=0\/m=1\/m=2\/m=3\/m=4\/m=5\/m=6\/m=7:=by omega
theorem ZTP (r) (n:Int):pGet r n=rGet r n:=by
 have h7:=and7 n;have h:decide (0<=andI .i64 n 7/\andI .i64 n 7<8)=true:=by simp;omega
 simp only[pGet,Z45,rGet,ZEH,RT.val,h,Yb,getO];generalize andI .i64 n 7=m at*;rcases ZW5 h7 with rfl|rfl|rfl|rfl|rfl|rfl|rfl|rfl<;>rfl
theorem ZTm (r) (n v:Int):pSet r n v=rSet r n v:=by have h7:=and7 n;simp only[pSet,Z4H,rSet,Z3W,RT.val,Yb,getO];generalize andI .i64 n 7=m at*;rcases ZW5 h7 with rfl|rfl|rfl|rfl|rfl|rfl|rfl|rfl<;>rfl
theorem ZZc (r) (n:Int):Z4R r n=Zao r n:=by simp only[Z4R,ZUo,Zao,Zs5,RT.val,ZTP,Z5U,Zyt];cases andI .i64 n 3==3<;>simp[okB,getO]
theorem Z3L (r) (n:Int):ZSc r n=true:=by simp only[ZSc,Zs5,RT.val,Z5U];cases andI .i64 n 3==3<;>simp[okB]
theorem ZE4 (r) (n v:Int):ZwO r n v=Zm r n v:=by simp only[ZwO,ZpG,Zm,Zhb,RT.val,ZTm]
theorem ZTv (chip:Int) (r):Z4T chip r=true/\pPSW chip r=rPSW chip r:=by simp[Z4T,pPSW,ZZK,rPSW,ZSf,RT.val,Z68,ZRw,Z4D,Zyt,okB,getO]
theorem Z6H (chip:Int) (r):Z34 chip r=true:=by simp[Z34,ZSf,RT.val,ZRw,okB]
theorem ZQB (chip:Int) (b:Int):ZwL chip b=Zu2 chip b:=by simp only[ZwL,ZwK,Zu2,Zu1,RT.val,ZaG]
theorem ZNA (chip:Int) (r) (v:Int):ZFv chip r v=Zhd chip r v:=by simp only[ZFv,ZwP,Zhd,ZmR,RT.val,ZQB]
theorem Z0B (c:Int) (f):ZUX c f=Zfp c f:=by
 simp only[ZUX,ZGu,Zfp,ZEG,RT.val];by_cases h:0<=c/\c<=11
 ·have:c=0\/c=1\/c=2\/c=3\/c=4\/c=5\/c=6\/c=7\/c=8\/c=9\/c=10\/c=11:=by omega
  rcases this with rfl|rfl|rfl|rfl|rfl|rfl|rfl|rfl|rfl|rfl|rfl|rfl<;>simp
 ·have e:∀k:Int,0<=k->k<=11->(c==k)=false:=λk h1 h2=>by simp;omega
  simp[e]
theorem ZzD (a b:Int) (c:Bool):inR .u8 (rSum a b c).1:=by simp only[rSum,ZYE,RT.val,YaE];exact Zax _ _
theorem ZrC (a b:Int) (c:Bool):inR .u8 (Zdb a b c).1:=by simp only[Zdb,ZJB,RT.val,YaE];exact Zax _ _
theorem ZlT (a b:Int):inR .u8 (andI .u8 a b)/\inR .u8 (orI .u8 a b)/\inR .u8 (xorI .u8 a b):=Zih _ _ _
theorem ZzU (chip v r:Int) (half over x:Bool) (f) (h:inR .u8 r):ZjX chip v r half over x f=true/\
  ZpL chip v r half over x f=ZrW chip ((rOf r).1,(rOf r).2.1,(rOf r).2.2.1,half,(rOf r).2.2.2.2.1,(rOf r).2.2.2.2.2.1,f.2.2.2.2.2.2) (rMaj (decide (v>=128)) x (decide (r>=128))) over:=by cases hc:chip==2<;>simp[ZjX,ZpL,Zm5,ZrW,Zs6,RT.val,of_C r h,of_eq r h,okB,getO,ZaG,hc,ZBQ,rOf,rOfT]
theorem ZTN (chip v:Int) (f):Z43 chip v f=true/\pInr chip v f=rInr chip v f:=by have h:=ZzU chip v (rSum v 1 false).1 (rSum v 1 false).2.2.1 (rSum v 1 false).2.2.2 false f (ZzD _ _ _);simp only[Z43,pInr,ZZR,rInr,Z4a,RT.val,ZRc,h.1,h.2,Yb,okB,getO,and_self]
theorem ZTR (chip v:Int) (f):Z5i chip v f=true/\pDcr chip v f=rDcr chip v f:=by have h:=ZzU chip v (Zdb v 1 false).1 (Zdb v 1 false).2.2.1 (Zdb v 1 false).2.2.2 true f (ZrC _ _ _);simp only[Z5i,pDcr,ZZZ,rDcr,Z4k,RT.val,ZHB,h.1,h.2,Yb,okB,getO,and_self]
theorem Z4y (chip v:Int) (f):pInx chip v f=rInx chip v f:=by simp only[pInx,Z41,rInx,Z37,RT.val,ZaG]
theorem Z4B (chip v:Int) (f):pDcx chip v f=rDcx chip v f:=by simp only[pDcx,Z5g,rDcx,Z4h,RT.val,ZaG]
theorem ZTS (chip a:Int) (f):Z5m chip a f=true/\pDaa chip a f=rDaa chip a f:=by
 have h:=λx=>of_C _ (ZzD a x false)
 have h2:=λx=>of_eq _ (ZzD a x false)
 cases hc:chip==2<;>simp[Z5m,pDaa,ZZ1,rDaa,Z4p,ZrW,Zs6,RT.val,ZRc,h,h2,okB,getO,ZaG,hc,ZBQ,rOf,rOfT]
theorem ZKb (a b:Int):ZVd a b=true/\Z5b a b=ZAy a b:=by
 have h:=λx y z=>of_C _ (ZrC x y z)
 have h2:=λx y z=>of_eq _ (ZrC x y z)
 simp[ZVd,Z5b,ZKH,ZAy,ZSU,RT.val,ZHB,h,h2,okB,getO,ZBQ,Zyt,rOf,rOfT,YaE]
theorem ZZp (v:Int):Z7m v=Zwi v:=rfl
theorem Z2M (c:Bool):pLow c=bif c then 1 else 0:=by cases c<;>rfl
theorem ZTo (op a:Int) (c:Bool):Z4J op a c=true/\pRot op a c=rRot op a c:=by
 have h3:=and3 op;simp only[Z4J,pRot,ZZA,rRot,ZRS,RT.val,Z2M,(ZeF c 0 (by decide)).1,(ZeF c 0 (by decide)).2,(ZeF c 7 (by decide)).1,(ZeF c 7 (by decide)).2];generalize andI .i64 op 3=m at*;have:m=0\/m=1\/m=2\/m=3:=by omega
 rcases this with rfl|rfl|rfl|rfl<;>cases c<;>exact⟨rfl,rfl⟩
theorem Z6G (op a:Int) (c:Bool):Z3Z op a c=true:=by
 have h3:=and3 op;simp only[Z3Z,ZRS,RT.val,(ZeF c 0 (by decide)).1,(ZeF c 7 (by decide)).1];generalize andI .i64 op 3=m at*;have:m=0\/m=1\/m=2\/m=3:=by omega
 rcases this with rfl|rfl|rfl|rfl<;>rfl
theorem ZZa (v:Int) (c:Bool) (h:inR .u16 v):Z4P v c=ZAj v c:=by
 have hb:=ZeF c 0 (by decide);have e:IntKind.wrap .u16 (bif c then 1 else 0)=IntKind.wrap .u16 (bif c then shlI .u8 1 0 else 0):=by cases c<;>rfl
 have hr:∀x,inR .u16 (orI .u16 x (IntKind.wrap .u16 (bif c then shlI .u8 1 0 else 0))):=λx=>(Zih _ _ _).2.1
 simp only[Z4P,ZUh,ZAj,ZAi,RT.val,Z2M,hb.1,hb.2,Yb,getO,e];rw[ZtZ _ (Zih _ _ _).2.2,ZQ8 _ _ (hr _) h,ZHL _ (hr _),ZHL _ h];cases tb (orI .u16 (shlI .u16 v 1) (IntKind.wrap .u16 (bif c then shlI .u8 1 0 else 0)))<;>cases tb v<;>rfl
theorem Z3K (v:Int) (c:Bool):ZR0 v c=true:=by have hb:=ZeF c 0 (by decide);simp[ZR0,ZAi,RT.val,hb.1,okB]
theorem Z4C (chip a b:Int) (f) (ha:inR .u16 a) (hb:inR .u16 b):pDad chip a b f=rDad chip a b f:=by
 have hr:inR .u16 (IntKind.wrap .u16 (a+b)):=Zax _ _;have ha':=ZlF.1 ha;have hb':=ZlF.1 hb;simp only[pDad,Z5k,rDad,Z4m,RT.val,ZaG];rw[ZtZ _ (Zih _ _ _).1,Z1u _ _ (Zih _ _ _).2.2 (Zih _ _ _).2.2,ZQ8 _ _ ha hr,ZQ8 _ _ hb hr];have e1:decide (IntKind.wrap .u16 (a+b)<a)=decide (IntKind.wrap .i64 (IntKind.wrap .i64 a+IntKind.wrap .i64 b)>65535):=by rw[ZHN,wrap_i64 a (by omega) (by omega),wrap_i64 b (by omega) (by omega),wrap_i64 (a+b) (by omega) (by omega)];simp only[decide_eq_decide];omega
 have e2:(((tb a)^^(tb (IntKind.wrap .u16 (a+b))))&&((tb b)^^(tb (IntKind.wrap .u16 (a+b)))))=(decide (IntKind.wrap .i64 (IntKind.wrap .i64 (IntKind.wrap .i16 a)+IntKind.wrap .i64 (IntKind.wrap .i16 b))< -32768)||decide (IntKind.wrap .i64 (IntKind.wrap .i64 (IntKind.wrap .i16 a)+IntKind.wrap .i64 (IntKind.wrap .i16 b))>32767)):=by
  have ia:=ZHO a;have ib:=ZHO b;have hia: -32768<=IntKind.wrap .i16 a/\IntKind.wrap .i16 a<=32767:=by rw[ia];split<;>omega
  have hib: -32768<=IntKind.wrap .i16 b/\IntKind.wrap .i16 b<=32767:=by rw[ib];split<;>omega
  rw[wrap_i64 (IntKind.wrap .i16 a) (by omega) (by omega),wrap_i64 (IntKind.wrap .i16 b) (by omega) (by omega),wrap_i64 (IntKind.wrap .i16 a+IntKind.wrap .i16 b) (by omega) (by omega)];rw[ia,ib,ZHN];unfold tb;by_cases h1:a>=32768<;>by_cases h2:b>=32768<;>by_cases h3:(a+b)%65536>=32768<;>simp[h1,h2,h3]<;>(try split)<;>(try split)<;>omega
 rw[e1,e2]
theorem ZE5 (c l):Z4L c l=true/\pRim c l=rRim c l/\Z31 c l=true:=by
 have h:∀b n,0<=n->Zdr b n=true/\ZA8 b n=bif b then shlI .u8 1 n else 0:=λb n h=>by cases b<;>simp[Zdr,ZA8,ZKj,RT.val,h,okB,getO]
 have h3:∀b,ZaA b 3=true/\Zhj b 3=bif b then shlI .u8 1 3 else 0:=λb=>by cases b<;>exact⟨rfl,rfl⟩
 have h4:∀b,ZaA b 4=true/\Zhj b 4=bif b then shlI .u8 1 4 else 0:=λb=>by cases b<;>exact⟨rfl,rfl⟩
 have h5:∀b,ZaA b 5=true/\Zhj b 5=bif b then shlI .u8 1 5 else 0:=λb=>by cases b<;>exact⟨rfl,rfl⟩
 have h6:∀b,ZaA b 6=true/\Zhj b 6=bif b then shlI .u8 1 6 else 0:=λb=>by cases b<;>exact⟨rfl,rfl⟩
 have h7:∀b,ZaA b 7=true/\Zhj b 7=bif b then shlI .u8 1 7 else 0:=λb=>by cases b<;>exact⟨rfl,rfl⟩
 simp[Z4L,pRim,ZZC,Z31,rRim,ZRV,RT.val,h,h3,h4,h5,h6,h7,okB,getO]
theorem Z4t (c) (a:Int):pSim c a=rSim c a:=by simp only[pSim,Z4G,rSim,ZRJ,RT.val]
theorem ZNw (s:Int):ZFo s=Zh s:=by simp only[ZFo,ZwJ,Zh,ZuY,RT.val]
theorem ZTw (chip op a b:Int):Zxd chip op a b=true/\∀f,(andI .i64 op 7=op)->4<=op->op<=6->ZKr chip op a b=rDo chip op a b f:=by
 have h:=λx y=>of_C _ (ZlT x y).1
 have h':=λx y=>of_C _ (ZlT x y).2.1
 have h'':=λx y=>of_C _ (ZlT x y).2.2
 have g:=λx y=>of_eq _ (ZlT x y).1
 have g':=λx y=>of_eq _ (ZlT x y).2.1
 have g'':=λx y=>of_eq _ (ZlT x y).2.2
 have h0:=of_C 0 (by rw[Zfv];omega);constructor
 ·cases h4:op==4<;>cases h5:op==5<;>cases h6:op==6<;>simp[Zxd,Zqr,RT.val,h,h',h'',h0,okB,h4,h5,h6]
 ·intro f e h4 h6;have:op=4\/op=5\/op=6:=by omega
  rcases this with rfl|rfl|rfl<;>cases hc:chip==2<;>simp[ZKr,Zqr,rDo,rDoT,RT.val,h,h',h'',g,g',g'',getO,e,ZaG,hc,ZrW,Zs6,rOf,rOfT,ZBQ]
theorem Z2m (chip op a b:Int) (f):pDoC chip op a b f=true/\pDo chip op a b f=rDo chip op a b f:=by
 have h7:=and7 op;have hs:=λx=>of_C _ (ZzD a b x)
 have hs2:=λx=>of_eq _ (ZzD a b x)
 have hd:=λx=>of_C _ (ZrC a b x)
 have hd2:=λx=>of_eq _ (ZrC a b x)
 have hl:=ZTw chip (andI .i64 op 7) a b;have hlt:decide (b<128)= !decide (128<=b):=by
  by_cases h:b<128
  ·have:¬128<=b:=by omega
   simp[h,this]
  ·have:128<=b:=by omega
   simp[h,this]
 have hr:rDo chip (andI .i64 op 7) a b f=rDo chip op a b f:=by
  have:andI .i64 (andI .i64 op 7) 7=andI .i64 op 7:=by generalize andI .i64 op 7=m at*;rcases ZW5 h7 with rfl|rfl|rfl|rfl|rfl|rfl|rfl|rfl<;>rfl
  simp only[rDo,rDoT,this]
 have he:andI .i64 (andI .i64 op 7) 7=andI .i64 op 7:=by generalize andI .i64 op 7=m at*;rcases ZW5 h7 with rfl|rfl|rfl|rfl|rfl|rfl|rfl|rfl<;>rfl
 rw[<-hr];have hl2:=hl.2 f he;have hl1:=hl.1;clear hl hr;simp only[pDoC,pDo,pDoT,RT.val];generalize andI .i64 op 7=m at*;rcases ZW5 h7 with rfl|rfl|rfl|rfl|rfl|rfl|rfl|rfl
 case inr.inr.inr.inr.inl=>simp[hl1,hl2,okB,getO]
 case inr.inr.inr.inr.inr.inl=>simp[hl1,hl2,okB,getO]
 case inr.inr.inr.inr.inr.inr.inl=>simp[hl1,hl2,okB,getO]
 all_goals cases hc:chip==2<;>simp[rDo,rDoT,RT.val,ZRc,ZHB,hs,hs2,hd,hd2,okB,getO,he,ZaG,hc,ZrW,Zs6,rOf,rOfT,ZBQ,hlt]
theorem ZTQ (chip op:Int) (h:chip≠2):(Zgm chip op).val=(Zgm 0 op).val:=by
 have h1:(chip==2)=false:=by simpa using h
 have h0:((0:Int)==2)=false:=rfl;simp only[Zgm,RT.val,h1,h0]
theorem Zn5 (chip op:Int) (h:chip≠2):(Zgj chip op).val=(Zgj 0 op).val:=by
 have h1:rOn chip=false:=by simpa [ZaG] using h
 have h0:rOn 0=false:=rfl;simp only[Zgj,RT.val,h1,h0]
def decT (chip op:Int):Bool:=okB (Zgm chip op).val&&okB (Zgj chip op).val&&(Zqy chip op==Zb chip op)
theorem dec_ok (chip op:Int) (h:inR .u8 op):Zm9 chip op=true/\Zqy chip op=Zb chip op/\ZmX chip op=true:=by
 have fin:∀c,decT c op=true->Zm9 c op=true/\Zqy c op=Zb c op/\ZmX c op=true:=by intro c hc;simp only[decT,Ya,Yav] at hc;exact⟨hc.1.1,hc.2,hc.1.2⟩
 by_cases hc:chip=2
 ·subst hc;exact fin 2 (ZgB (decT 2) (by kernel_rfl) op h)
 ·have:=fin 0 (ZgB (decT 0) (by kernel_rfl) op h);unfold Zm9 Zqy Zb ZmX at this|-;rw[ZTQ chip op hc,Zn5 chip op hc];exact this
def Zxh:En:=Zf ZGs ZGt (λ_=>none) (λa=>Zdo a.1 a.2)
theorem ZBf:Za prog 220 Zxh:=Zm8.tot (λa h=>by simp) (λa h=>Zyt _ _)
def Z2C:En:=Zf ZUZ ZVv (λ_=>none) (λa=>rGet a.1 a.2)
theorem ZZS:Za prog 281 Z2C:=ZUY.tot (λa h=>by simp) (λa h=>ZTP _ _)
def Zo5:En:=Zf ZUZ ZVv (λ_=>none) (λa=>rGet a.1 a.2)
theorem Zvy:Za prog 311 Zo5:=ZSB.tot (λa h=>by have h1:=Z5U a.1 a.2;simp[h1]) (λa h=>rfl)
def ZA5:En:=Zf ZT2 ZT3 (λ_=>none) (λa=>rSet a.1 a.2.1 a.2.2)
theorem ZKg:Za prog 290 ZA5:=ZT1.tot (λa h=>by simp) (λa h=>ZTm _ _ _)
def ZUq:En:=Zf ZUZ ZGt (λ_=>none) (λa=>Zao a.1 a.2)
theorem ZUp:Za prog 280 ZUq:=ZZH.tot (λa h=>by simp) (λa h=>ZZc _ _)
def Zhe:En:=Zf ZUZ ZGt (λ_=>none) (λa=>Zao a.1 a.2)
theorem Zjz:Za prog 244 Zhe:=ZYR.tot (λa h=>by have h1:=Z3L a.1 a.2;simp[h1]) (λa h=>rfl)
def Zcw:En:=Zf Zlf ZT3 (λ_=>none) (λa=>Zm a.1 a.2.1 a.2.2)
theorem Zfq:Za prog 291 Zcw:=ZFt.tot (λa h=>by simp) (λa h=>ZE4 _ _ _)
def ZUt:En:=Zf ZUs ZGt (λ_=>none) (λa=>rPSW a.1 a.2)
theorem ZZL:Za prog 288 ZUt:=Z4S.tot (λa h=>by have h1:=(ZTv a.1 a.2).1;simp[h1]) (λa h=>(ZTv _ _).2)
def ZSg:En:=Zf ZUs ZGt (λ_=>none) (λa=>rPSW a.1 a.2)
theorem ZYU:Za prog 332 ZSg:=Z33.tot (λa h=>by have h1:=Z6H a.1 a.2;simp[h1]) (λa h=>rfl)
def ZpJ:En:=Zf ZpH ZT3 (λ_=>none) (λa=>Zhd a.1 a.2.1 a.2.2)
theorem ZFu:Za prog 299 ZpJ:=ZNP.tot (λa h=>by simp) (λa h=>ZNA _ _ _)
def Z5e:En:=Zf Z5c Zxc (λ_=>none) (λa=>rDo a.1 a.2.1 a.2.2.1 a.2.2.2.1 a.2.2.2.2)
theorem Z5d:Za prog 292 Z5e:=Z7j.tot (λa h=>by have h1:=(Z2m a.1 a.2.1 a.2.2.1 a.2.2.2.1 a.2.2.2.2).1;simp[h1]) (λa h=>(Z2m _ _ _ _ _).2)
def ZKy:En:=Zf ZUS Zxc (λ_=>none) (λa=>rInr a.1 a.2.1 a.2.2)
theorem ZKx:Za prog 282 ZKy:=Z42.tot (λa h=>by have h1:=(ZTN a.1 a.2.1 a.2.2).1;simp[h1]) (λa h=>(ZTN _ _ _).2)
def ZKM:En:=Zf ZUS Zxc (λ_=>none) (λa=>rDcr a.1 a.2.1 a.2.2)
theorem ZKL:Za prog 283 ZKM:=Z5h.tot (λa h=>by have h1:=(ZTR a.1 a.2.1 a.2.2).1;simp[h1]) (λa h=>(ZTR _ _ _).2)
def ZUR:En:=Zf ZUP ZUQ (λ_=>none) (λa=>rInx a.1 a.2.1 a.2.2)
theorem ZZQ:Za prog 294 ZUR:=Z40.tot (λa h=>by simp) (λa h=>Z4y _ _ _)
def ZVk:En:=Zf ZUP ZUQ (λ_=>none) (λa=>rDcx a.1 a.2.1 a.2.2)
theorem ZZY:Za prog 295 ZVk:=Z5f.tot (λa h=>by simp) (λa h=>Z4B _ _ _)
def ZVq:En:=Zf ZUS Zxc (λ_=>none) (λa=>rDaa a.1 a.2.1 a.2.2)
theorem ZZ2:Za prog 297 ZVq:=Z5l.tot (λa h=>by have h1:=(ZTS a.1 a.2.1 a.2.2).1;simp[h1]) (λa h=>(ZTS _ _ _).2)
def ZVo:En:=Zf ZVm ZUQ (λ_=>none) (λa=>rDad a.1 a.2.1 a.2.2.1 a.2.2.2)
theorem ZZ0:Za prog 296 ZVo:=Z5j.tot (λa h=>by simp) (λa h=>Z4C _ _ _ _ h.2.1 h.2.2.1)
def ZGI:En:=Zf ZGH ZUQ (λ_=>none) (λa=>ZAy a.1 a.2)
theorem ZVe:Za prog 301 ZGI:=ZZV.tot (λa h=>by have h1:=(ZKb a.1 a.2).1;simp[h1]) (λa h=>(ZKb _ _).2)
def ZGM:En:=Zf ZGK ZGL (λ_=>none) (λa=>Zwi a)
theorem ZVx:Za prog 302 ZGM:=ZZ5.tot (λa h=>by simp) (λa h=>ZZp _)
def ZT8:En:=Zf ZT7 ZKk (λ_=>none) (λa=>rRot a.1 a.2.1 a.2.2)
theorem ZZB:Za prog 298 ZT8:=Z4I.tot (λa h=>by have h1:=(ZTo a.1 a.2.1 a.2.2).1;simp[h1]) (λa h=>(ZTo _ _ _).2)
def ZRT:En:=Zf ZT7 ZKk (λ_=>none) (λa=>rRot a.1 a.2.1 a.2.2)
theorem ZYH:Za prog 321 ZRT:=Z3Y.tot (λa h=>by have h1:=Z6G a.1 a.2.1 a.2.2;simp[h1]) (λa h=>rfl)
def ZFC:En:=Zf ZFA ZFB (λ_=>none) (λa=>ZAj a.1 a.2)
theorem ZUi:Za prog 303 ZFC:=ZZE.tot (λa h=>by simp) (λa h=>ZZa _ _ h.1)
def ZDM:En:=Zf ZFA ZFB (λ_=>none) (λa=>ZAj a.1 a.2)
theorem ZR1:Za prog 324 ZDM:=ZYK.tot (λa h=>by have h1:=Z3K a.1 a.2;simp[h1]) (λa h=>rfl)
def ZUa:En:=Zf ZT9 ZKl (λ_=>none) (λa=>rRim a.1 a.2)
theorem ZZD:Za prog 231 ZUa:=Z4K.tot (λa h=>by have h1:=(ZE5 a.1 a.2).1;simp[h1]) (λa h=>(ZE5 _ _).2.1)
def Z1J:En:=Zf ZT9 ZKl (λ_=>none) (λa=>rRim a.1 a.2)
theorem ZYI:Za prog 245 Z1J:=Z30.tot (λa h=>by have h1:=(ZE5 a.1 a.2).2.2;simp[h1]) (λa h=>rfl)
def ZT0:En:=Zf ZTY ZTZ (λ_=>none) (λa=>rSim a.1 a.2)
theorem ZZx:Za prog 232 ZT0:=Z4F.tot (λa h=>by simp) (λa h=>Z4t _ _)
def ZKB:En:=Zf ZUr ZpN (λ_=>none) (λa=>Zfp a.1 a.2)
theorem ZN4:Za prog 353 ZKB:=ZUW.tot (λa h=>by simp) (λa h=>Z0B _ _)
def ZAY:En:=Zf ZA3 ZGt (λ_=>none) (λa=>Zh a)
theorem ZFn:Za prog 155 ZAY:=ZNK.tot (λa h=>by simp) (λa h=>ZNw _)
def ZBk:En:=Zf ZA1 ZFI (λ_=>none) (λa=>Zb a.1 a.2)
theorem Zqx:Za prog 154 ZBk:=ZOJ.tot (λa h=>by have h1:=(dec_ok a.1 a.2 h.2).1;simp[h1]) (λa h=>(dec_ok a.1 a.2 h.2).2.1)
def ZAz:En:=Zf ZA1 ZFI (λ_=>none) (λa=>Zb a.1 a.2)
theorem Zo8:Za prog 238 ZAz:=ZNr.tot (λa h=>by have h1:=(dec_ok a.1 a.2 h.2).2.2;simp[h1]) (λa h=>rfl)
abbrev Z2S:R:=R.Pq (.int .i64) (R.Pq (.int .i64) (R.Pq (.int .i64) (R.Pq (.int .i64) (R.Pq (.int .i64) (R.Pq (.int .i64) (.int .i64))))))
def ZBl (k:Int):En:=pinE ZA1 Z2S (λa=>Zb a.1 a.2) k
theorem ZKJ (k:Int):Za Tryz.prog 154 (ZBl k):=ZTO Zqx k
def ZSZ (k:Int):En:=pinE ZA1 Z2S (λa=>Zb a.1 a.2) k
theorem ZJD (k:Int):Za Tryz.prog 238 (ZSZ k):=ZTO Zo8 k
def pcOf (c:TC):Int:=c.2.1.2.2.2.2.2.2.2.2.2
def spOf (c:TC):Int:=c.2.1.2.2.2.2.2.2.2.2.1
def rgx (r:TR) (f:TF) (sp pc:Int):TR:=(r.1,r.2.1,r.2.2.1,r.2.2.2.1,r.2.2.2.2.1,r.2.2.2.2.2.1,r.2.2.2.2.2.2.1,f,sp,pc)
def fin3 (g:List Int) (l:List TY):RT (Option (TY×Bool)):=.br (decide (iN (Le g)>=iN (Le l))) (Ls (((0,0,0,0),false))) (.br (Zg (iN (Le g)) (Le l)) (Ls ((R.get RY l (iN (Le g)),true))) Ln)
def Ztw (s:Int):RT (Bool):=
 .Lf (decide (s>=1)&&decide (s<=4))
def Ze (s:Int):Bool:=(Ztw s).val
def Zlh:En:=Zf ZA3 ZpN (λ_=>none) (λa=>Ze a)
theorem Zl6:Za prog 151 Zlh:=
 pureQ 7 [] [] ZA3 ZpN trivial Tryz.func151 Tryz.call151 trivial (t:=λa=>Ztw a)
abbrev Z63:R:=R.Pq Zu (R.Pq R.bool (R.Pq (R.sl Ka) (R.Pq (R.Pq Kc (R.Pq Kc (R.Pq Kc (R.Pq Kc (R.Pq Kc (R.Pq Kc (R.Pq Kc Kc))))))) (R.sl (RY)))))
def qAtT (s:QT1) (n:Int):RT (Option (Int)):=
 .br (!decide (n< ↑(Le s.2.2.1))||Zg n (Le s.2.2.1)) (.br (decide (n< ↑(Le s.2.2.1))) (Ls (R.get Ka s.2.2.1 n)) (Ls (0))) Ln
def qAt (s:QT1) (n:Int):Int:=getO ZVv.Df (qAtT s n).val
def qAtC (s:QT1) (n:Int):Bool:=okB (qAtT s n).val
def qAtE:En:=ZiP Z63 ZA3 ZVv (λa=>some (qAtC a.1 a.2)) (λa=>qAt a.1 a.2)
theorem ZjL:Za prog 213 qAtE:=
 ZfS (P:=prog) (n:=31) (k:=8) (l:=[]) (ol:=[]) trivial Tryz.func213 rfl (by kernel_rfl) Tryz.call213 trivial (rb:=Z63) (ts:=ZA3) (rs:=ZVv) (by kernel_rfl) (t:=λa=>qAtT a.1 a.2) (λa=>by kernel_rfl)
def ZAF (s:QT1) (n:Int):RT (Option (Int)):=
 .br (!qAtC s (i64.wrap (n+1))||qAtC s n) (.br (qAtC s (i64.wrap (n+1))) (Ls (Zdo (qAt s (i64.wrap (n+1))) (qAt s n))) Ln) Ln
def Zhm (s:QT1) (n:Int):Int:=getO ZGt.Df (ZAF s n).val
def Zdq (s:QT1) (n:Int):Bool:=okB (ZAF s n).val
def Zpd:En:=ZiP Z63 ZA3 ZGt (λa=>some (Zdq a.1 a.2)) (λa=>Zhm a.1 a.2)
theorem Zwk:Za prog 284 Zpd:=
 ZfS (P:=prog) (n:=31) (k:=8) (l:=[(213,qAtE),(220,Zxh)]) (ol:=[]) ⟨ZjL,ZBf,Tv⟩ Tryz.func284 rfl (by kernel_rfl) Tryz.call284 trivial (rb:=Z63) (ts:=ZA3) (rs:=ZGt) (by kernel_rfl) (t:=λa=>ZAF a.1 a.2) (λa=>by kernel_rfl)
abbrev ZAG:List Sh:=[]
def ZJM (s:QT1):RT (Int):=
 .br s.2.1 (.Lf s.1.2.1.2.2.2.2.2.2.2.2.2) (.Lf (u16.wrap (s.1.2.1.2.2.2.2.2.2.2.2.2+u16.wrap s.2.2.2.1.2.1)))
def ZC (s:QT1):Int:=(ZJM s).val
def ZjK:En:=ZiP Z63 ZAG ZGt (λ_=>none) (λa=>ZC a.1)
theorem Zti:Za prog 227 ZjK:=
 Zh1 (P:=prog) (n:=7) (k:=8) (l:=[]) (ol:=[]) trivial Tryz.func227 rfl (by kernel_rfl) Tryz.call227 trivial (rb:=Z63) (ts:=ZAG) (rs:=ZGt) (by kernel_rfl) (t:=λa=>ZJM a.1) (λa=>by kernel_rfl)
def ZTb (s:QT1):RT (Bool):=
 .Lf (Zfp s.2.2.2.1.2.2.2.2.2.2.1 s.1.2.1.2.2.2.2.2.2.2.1)
def Ziy (s:QT1):Bool:=(ZTb s).val
def ZiT:En:=ZiP Z63 ZAG ZpN (λ_=>none) (λa=>Ziy a.1)
theorem Zpb:Za prog 286 ZiT:=
 Zh1 (P:=prog) (n:=7) (k:=8) (l:=[(353,ZKB)]) (ol:=[]) ⟨ZN4,Tv⟩ Tryz.func286 rfl (by kernel_rfl) Tryz.call286 trivial (rb:=Z63) (ts:=ZAG) (rs:=ZpN) (by kernel_rfl) (t:=λa=>ZTb a.1) (λa=>by kernel_rfl)
def Z61 (s:QT1) (n:Int):RT (Int):=
 .Lf (rGet s.1.2.1 n)
def qReg (s:QT1) (n:Int):Int:=(Z61 s n).val
def ZAE:En:=ZiP Z63 ZA3 ZVv (λ_=>none) (λa=>qReg a.1 a.2)
theorem Zwj:Za prog 216 ZAE:=
 Zh1 (P:=prog) (n:=31) (k:=8) (l:=[(281,Z2C)]) (ol:=[]) ⟨ZZS,Tv⟩ Tryz.func216 rfl (by kernel_rfl) Tryz.call216 trivial (rb:=Z63) (ts:=ZA3) (rs:=ZVv) (by kernel_rfl) (t:=λa=>Z61 a.1 a.2) (λa=>by kernel_rfl)
def Z2j (s:QT1) (n:Int):RT (Int):=
 .Lf (Zao s.1.2.1 n)
def ZeL (s:QT1) (n:Int):Int:=(Z2j s n).val
def Zhk:En:=ZiP Z63 ZA3 ZGt (λ_=>none) (λa=>ZeL a.1 a.2)
theorem ZjF:Za prog 215 Zhk:=
 Zh1 (P:=prog) (n:=31) (k:=8) (l:=[(280,ZUq)]) (ol:=[]) ⟨ZUp,Tv⟩ Tryz.func215 rfl (by kernel_rfl) Tryz.call215 trivial (rb:=Z63) (ts:=ZA3) (rs:=ZGt) (by kernel_rfl) (t:=λa=>Z2j a.1 a.2) (λa=>by kernel_rfl)
def ZjI (s:QT1):RT (Option (Int)):=
 .br (qAtC s 1) (Ls (bif s.2.2.2.1.1==14 then (rInr s.1.1 (qAt s 1) s.1.2.1.2.2.2.2.2.2.2.1).1 else (rDcr s.1.1 (qAt s 1) s.1.2.1.2.2.2.2.2.2.2.1).1)) Ln
def ZjJ (s:QT1):Int:=getO ZVv.Df (ZjI s).val
def Zhn (s:QT1):Bool:=okB (ZjI s).val
def Zpe:En:=ZiP Z63 ZAG ZVv (λa=>some (Zhn a.1)) (λa=>ZjJ a.1)
theorem ZE1:Za prog 218 Zpe:=
 ZfS (P:=prog) (n:=15) (k:=8) (l:=[(213,qAtE),(282,ZKy),(283,ZKM)]) (ol:=[]) ⟨ZjL,ZKx,ZKL,Tv⟩ Tryz.func218 rfl (by kernel_rfl) Tryz.call218 trivial (rb:=Z63) (ts:=ZAG) (rs:=ZVv) (by kernel_rfl) (t:=λa=>ZjI a.1) (λa=>by kernel_rfl)
def ZjG (s:QT1):RT (Option (Int)):=
 let x1:=s.2.2.2.1.1==13||s.2.2.2.1.2.2.2.1==6
 .br (!x1||qAtC s 1) (.br (x1) (Ls (qAt s 1)) (Ls (qReg s s.2.2.2.1.2.2.2.1))) Ln
def ZjH (s:QT1):Int:=getO ZVv.Df (ZjG s).val
def Zhl (s:QT1):Bool:=okB (ZjG s).val
def Zpc:En:=ZiP Z63 ZAG ZVv (λa=>some (Zhl a.1)) (λa=>ZjH a.1)
theorem ZEZ:Za prog 293 Zpc:=
 ZfS (P:=prog) (n:=7) (k:=8) (l:=[(213,qAtE),(216,ZAE)]) (ol:=[]) ⟨ZjL,Zwj,Tv⟩ Tryz.func293 rfl (by kernel_rfl) Tryz.call293 trivial (rb:=Z63) (ts:=ZAG) (rs:=ZVv) (by kernel_rfl) (t:=λa=>ZjG a.1) (λa=>by kernel_rfl)
abbrev Z7A:R:=R.Pq Zu (R.Pq R.bool (R.Pq (R.sl Ka) (R.sl (RY))))
def mAtT (s:QT5) (n:Int):RT (Option (Int)):=
 .br (!decide (n< ↑(Le s.2.2.1))||Zg n (Le s.2.2.1)) (.br (decide (n< ↑(Le s.2.2.1))) (Ls (R.get Ka s.2.2.1 n)) (Ls (0))) Ln
def mAt (s:QT5) (n:Int):Int:=getO ZVv.Df (mAtT s n).val
def mAtC (s:QT5) (n:Int):Bool:=okB (mAtT s n).val
def mAtE:En:=ZiP Z7A ZA3 ZVv (λa=>some (mAtC a.1 a.2)) (λa=>mAt a.1 a.2)
theorem ZBY:Za prog 239 mAtE:=
 ZfS (P:=prog) (n:=31) (k:=8) (l:=[]) (ol:=[]) trivial Tryz.func239 rfl (by kernel_rfl) Tryz.call239 trivial (rb:=Z7A) (ts:=ZA3) (rs:=ZVv) (by kernel_rfl) (t:=λa=>mAtT a.1 a.2) (λa=>by kernel_rfl)
def ZK4 (s:QT5) (n:Int):RT (Option (Int)):=
 .br (!mAtC s (i64.wrap (n+1))||mAtC s n) (.br (mAtC s (i64.wrap (n+1))) (Ls (Zdo (mAt s (i64.wrap (n+1))) (mAt s n))) Ln) Ln
def ZfC (s:QT5) (n:Int):Int:=getO ZGt.Df (ZK4 s n).val
def ZcL (s:QT5) (n:Int):Bool:=okB (ZK4 s n).val
def ZqY:En:=ZiP Z7A ZA3 ZGt (λa=>some (ZcL a.1 a.2)) (λa=>ZfC a.1 a.2)
theorem Zyg:Za prog 310 ZqY:=
 ZfS (P:=prog) (n:=31) (k:=8) (l:=[(239,mAtE),(325,Zo2)]) (ol:=[]) ⟨ZBY,ZjC,Tv⟩ Tryz.func310 rfl (by kernel_rfl) Tryz.call310 trivial (rb:=Z7A) (ts:=ZA3) (rs:=ZGt) (by kernel_rfl) (t:=λa=>ZK4 a.1 a.2) (λa=>by kernel_rfl)
def ZLd (s:QT5) (n:Int):RT (Int):=
 .br s.2.1 (.Lf s.1.2.1.2.2.2.2.2.2.2.2.2) (.Lf (u16.wrap (s.1.2.1.2.2.2.2.2.2.2.2.2+u16.wrap n)))
def Zy (s:QT5) (n:Int):Int:=(ZLd s n).val
def Zif:En:=ZiP Z7A ZA3 ZGt (λ_=>none) (λa=>Zy a.1 a.2)
theorem Zly:Za prog 243 Zif:=
 Zh1 (P:=prog) (n:=31) (k:=8) (l:=[]) (ol:=[]) trivial Tryz.func243 rfl (by kernel_rfl) Tryz.call243 trivial (rb:=Z7A) (ts:=ZA3) (rs:=ZGt) (by kernel_rfl) (t:=λa=>ZLd a.1 a.2) (λa=>by kernel_rfl)
abbrev ZK6:List Sh:=[Sh.agg (R.Pq Kc (R.Pq Kc (R.Pq Kc (R.Pq Kc (R.Pq Kc (R.Pq Kc (R.Pq Kc Kc)))))))]
def ZWe (s:QT5) (i:QT7):RT (Bool):=
 .Lf (Zfp i.2.2.2.2.2.2.1 s.1.2.1.2.2.2.2.2.2.2.1)
def Zft (s:QT5) (i:QT7):Bool:=(ZWe s i).val
def Zi0:En:=ZiP Z7A ZK6 ZpN (λ_=>none) (λa=>Zft a.1 a.2)
theorem Zq0:Za prog 309 Zi0:=
 Zh1 (P:=prog) (n:=31) (k:=8) (l:=[(365,ZSA)]) (ol:=[]) ⟨ZSz,Tv⟩ Tryz.func309 rfl (by kernel_rfl) Tryz.call309 trivial (rb:=Z7A) (ts:=ZK6) (rs:=ZpN) (by kernel_rfl) (t:=λa=>ZWe a.1 a.2) (λa=>by kernel_rfl)
abbrev ZsT:List Sh:=[Sh.agg Zu,Sh.agg (R.Pq Kc (R.Pq Kc (R.Pq Kc (R.Pq Kc (R.Pq Kc (R.Pq Kc (R.Pq Kc Kc))))))),So Ka]
def Zz6 (c:TC) (i:QT7) (v:Int):RT (QT3):=
 .br (i.1==14) (.Lf (rInr c.1 v c.2.1.2.2.2.2.2.2.2.1)) (.Lf (rDcr c.1 v c.2.1.2.2.2.2.2.2.2.1))
def Zh2 (c:TC) (i:QT7) (v:Int):QT3:=(Zz6 c i v).val
def Zha:En:=Zf ZsT Zxc (λ_=>none) (λa=>Zh2 a.1 a.2.1 a.2.2)
theorem Zod:Za prog 316 Zha:=
 pureQ 255 [(372,Z6U),(373,Z60)] [] ZsT Zxc ⟨Z39,Z4j,Tv⟩ Tryz.func316 Tryz.call316 trivial (t:=λa=>Zz6 a.1 a.2.1 a.2.2)
def ZGv (chip:Int) (op:Int):RT (Int):=
 .br ((Zb chip op).1==2) (.br (!chip==2&&((Zb chip op).2.2.1 !=6&&(Zb chip op).2.2.2.1 !=6)) (.Lf (5)) (.Lf (4))) (.br (bif (Zb chip op).1==14 then (Zb chip op).1==14 else (Zb chip op).1==15) (.br (!chip==2&&(Zb chip op).2.2.1 !=6) (.Lf (5)) (.Lf (4))) (.br ((Zb chip op).1==37) (.br (chip==2) (.Lf (5)) (.Lf (4))) (.br ((Zb chip op).1==26) (.br ((Zb chip op).2.2.2.2.2.2.1==11) (.Lf (4)) (.br (chip==2) (.Lf (6)) (.Lf (5)))) (.br (bif (Zb chip op).1==16 then (Zb chip op).1==16 else bif (Zb chip op).1==17 then (Zb chip op).1==17 else bif (Zb chip op).1==28 then (Zb chip op).1==28 else bif (Zb chip op).1==29 then (Zb chip op).1==29 else bif (Zb chip op).1==25 then (Zb chip op).1==25 else bif (Zb chip op).1==27 then (Zb chip op).1==27 else bif (Zb chip op).1==45 then (Zb chip op).1==45 else (Zb chip op).1==30) (.br (chip==2) (.Lf (6)) (.Lf (5))) (.Lf (4))))))
def Ztx (chip:Int) (op:Int):Int:=(ZGv chip op).val
def Z46:En:=Zf ZA1 Z2v (λ_=>none) (λa=>Ztx a.1 a.2)
theorem ZU1:Za prog 84 Z46:=
 pureQ 72842913792127 [(154,ZBk)] [] ZA1 Z2v ⟨Zqx,Tv⟩ Tryz.func84 Tryz.call84 trivial (t:=λa=>ZGv a.1 a.2)
def ZEK (chip:Int) (op:Int):RT (Int):=
 let x1:=bif (Zb chip op).1==14 then (Zb chip op).1==14 else (Zb chip op).1==15
 let x2:= !(Zb chip op).1==2&&(!x1&&((bif (Zb chip op).1==16 then (Zb chip op).1==16 else bif (Zb chip op).1==17 then (Zb chip op).1==17 else bif (Zb chip op).1==28 then (Zb chip op).1==28 else bif (Zb chip op).1==29 then (Zb chip op).1==29 else bif (Zb chip op).1==25 then (Zb chip op).1==25 else bif (Zb chip op).1==27 then (Zb chip op).1==27 else bif (Zb chip op).1==30 then (Zb chip op).1==30 else (Zb chip op).1==45)||(Zb chip op).1==26&&(Zb chip op).2.2.2.2.2.2.1 !=11))
 .br (rOn chip&&x2) (.Lf (6)) (.br (rOn chip&&(Zb chip op).1==37) (.Lf (5)) (.br (!rOn chip&&(x2||bif (Zb chip op).1==2 then (Zb chip op).2.2.1 !=6&&(Zb chip op).2.2.2.1 !=6 else x1&&(Zb chip op).2.2.1 !=6)) (.Lf (5)) (.Lf (4))))
def Zhi (chip:Int) (op:Int):Int:=(ZEK chip op).val
def ZEL:En:=Zf ZA1 Z2v (λ_=>none) (λa=>Zhi a.1 a.2)
theorem ZAx:Za prog 168 ZEL:=
 pureQ 144687209545474303 [(171,rOnE),(238,ZAz)] [] ZA1 Z2v ⟨ZeK,Zo8,Tv⟩ Tryz.func168 Tryz.call168 trivial (t:=λa=>ZEK a.1 a.2)
def ZGr (c:TC) (l:QT0):RT TC:=
 .br (c.1 !=2)
 (.Lf (c))
 (.Lf ((c.1,c.2.1,c.2.2.1,c.2.2.2.1,c.2.2.2.2.1,c.2.2.2.2.2.1,l.2.2.2.2.1&&(c.2.2.2.2.2.2.1|| !c.2.2.2.2.2.2.2.2.1),c.2.2.2.2.2.2.2.1||l.2.2.2.2.2.1&& !c.2.2.2.2.2.2.2.2.2.1,l.2.2.2.2.1,l.2.2.2.2.2.1,c.2.2.2.2.2.2.2.2.2.2)))
def ZUN (c:TC) (l:QT0):TC:=(ZGr c l).val
def Z4Z:En:=Zf ZT9 ZTZ (λ_=>none) (λa=>ZUN a.1 a.2)
theorem ZUM:Za prog 191 Z4Z:=
 pureQ 31 [] [] ZT9 ZTZ trivial Tryz.func191 Tryz.call191 trivial (t:=λa=>ZGr a.1 a.2)
def ZEF (c:TC) (l:QT0):RT TC:=
 .br (!rOn c.1)
 (.Lf (c))
 (.Lf ((c.1,c.2.1,c.2.2.1,c.2.2.2.1,c.2.2.2.2.1,c.2.2.2.2.2.1,l.2.2.2.2.1&&(c.2.2.2.2.2.2.1|| !c.2.2.2.2.2.2.2.2.1),c.2.2.2.2.2.2.2.1||l.2.2.2.2.2.1&& !c.2.2.2.2.2.2.2.2.2.1,l.2.2.2.2.1,l.2.2.2.2.2.1,c.2.2.2.2.2.2.2.2.2.2)))
def Zk (c:TC) (l:QT0):TC:=(ZEF c l).val
def Zo1:En:=Zf ZT9 ZTZ (λ_=>none) (λa=>Zk a.1 a.2)
theorem Zo0:Za prog 187 Zo1:=
 pureQ 31 [(171,rOnE)] [] ZT9 ZTZ ⟨ZeK,Tv⟩ Tryz.func187 Tryz.call187 trivial (t:=λa=>ZEF a.1 a.2)
def ZUn (c:TC) (l:QT0):RT (Int):=
 .br (c.1==2&&c.2.2.2.2.2.2.1)
 (.Lf (1))
 (.br (!c.2.2.1||c.2.2.2.1)
  (.Lf (0))
  (.br (c.1==2&&(c.2.2.2.2.2.2.2.1&&andI u8 c.2.2.2.2.2.1 4==0))
  (.Lf (2))
  (.br (c.1==2&&(l.2.2.2.2.2.2.1&&andI u8 c.2.2.2.2.2.1 2==0))
   (.Lf (3))
   (.br (c.1==2&&(l.2.2.2.2.2.2.2.1&&andI u8 c.2.2.2.2.2.1 1==0))
   (.Lf (4))
   (.br l.2.2.2.2.2.2.2.2
    (.Lf (5))
    (.Lf (0)))))))
def Z4Q (c:TC) (l:QT0):Int:=(ZUn c l).val
def Z7b:En:=Zf ZT9 Z2v (λ_=>none) (λa=>Z4Q a.1 a.2)
theorem ZZG:Za prog 194 Z7b:=
 pureQ 576601524159939135 [] [] ZT9 Z2v trivial Tryz.func194 Tryz.call194 trivial (t:=λa=>ZUn a.1 a.2)
def ZR9 (c:TC) (l:QT0):RT (Int):=
 .br (rOn c.1&&c.2.2.2.2.2.2.1)
 (.Lf (1))
 (.br (!c.2.2.1||c.2.2.2.1)
  (.Lf (0))
  (.br (rOn c.1&&(c.2.2.2.2.2.2.2.1&&andI u8 c.2.2.2.2.2.1 4==0))
  (.Lf (2))
  (.br (rOn c.1&&(l.2.2.2.2.2.2.1&&andI u8 c.2.2.2.2.2.1 2==0))
   (.Lf (3))
   (.br (rOn c.1&&(l.2.2.2.2.2.2.2.1&&andI u8 c.2.2.2.2.2.1 1==0))
   (.Lf (4))
   (.br l.2.2.2.2.2.2.2.2
    (.Lf (5))
    (.Lf (0)))))))
def ZeJ (c:TC) (l:QT0):Int:=(ZR9 c l).val
def ZSb:En:=Zf ZT9 Z2v (λ_=>none) (λa=>ZeJ a.1 a.2)
theorem ZJe:Za prog 261 ZSb:=
 pureQ 576601524159939135 [(171,rOnE)] [] ZT9 Z2v ⟨ZeK,Tv⟩ Tryz.func261 Tryz.call261 trivial (t:=λa=>ZR9 a.1 a.2)
abbrev ZqA:List Sh:=[Sh.agg Zu,So Kc]
def Znb (c:TC) (s:Int):RT TC:=
 .br (decide (s<1)||decide (s>5))
 (.Lf (c))
 (.Lf ((c.1,c.2.1,false,false,false,c.2.2.2.2.2.1,!s==1&&c.2.2.2.2.2.2.1,bif s==1 then c.2.2.2.2.2.2.2.1 else !s==2&&c.2.2.2.2.2.2.2.1,c.2.2.2.2.2.2.2.2.1,c.2.2.2.2.2.2.2.2.2.1,s==1||c.2.2.2.2.2.2.2.2.2.2.1,bif s==1 then c.2.2.1 else c.2.2.2.2.2.2.2.2.2.2.2.1,c.2.2.2.2.2.2.2.2.2.2.2.2)))
def Zx3 (c:TC) (s:Int):TC:=(Znb c s).val
def ZZ7:En:=Zf ZqA ZTZ (λ_=>none) (λa=>Zx3 a.1 a.2)
theorem ZOK:Za prog 81 ZZ7:=
 pureQ 1056799 [] [] ZqA ZTZ trivial Tryz.func81 Tryz.call81 trivial (t:=λa=>Znb a.1 a.2)
def ZmZ (c:TC) (s:Int):RT TC:=
 .br (decide (s<1)||decide (s>5))
 (.Lf (c))
 (.Lf ((c.1,c.2.1,false,false,false,c.2.2.2.2.2.1,!s==1&&c.2.2.2.2.2.2.1,!s==2&&c.2.2.2.2.2.2.2.1,c.2.2.2.2.2.2.2.2.1,c.2.2.2.2.2.2.2.2.2.1,s==1||c.2.2.2.2.2.2.2.2.2.2.1,bif s==1 then c.2.2.1 else c.2.2.2.2.2.2.2.2.2.2.2.1,c.2.2.2.2.2.2.2.2.2.2.2.2)))
def ZcD (c:TC) (s:Int):TC:=(ZmZ c s).val
def ZJI:En:=Zf ZqA ZTZ (λ_=>none) (λa=>ZcD a.1 a.2)
theorem ZNt:Za prog 163 ZJI:=
 pureQ 31 [] [] ZqA ZTZ trivial Tryz.func163 Tryz.call163 trivial (t:=λa=>ZmZ a.1 a.2)
abbrev ZwS:List Sh:=[Sh.agg Zu]
def ZFx (c:TC):RT TC:=
 .Lf ((c.1,(c.2.1.1,c.2.1.2.1,c.2.1.2.2.1,c.2.1.2.2.2.1,c.2.1.2.2.2.2.1,c.2.1.2.2.2.2.2.1,c.2.1.2.2.2.2.2.2.1,c.2.1.2.2.2.2.2.2.2.1,c.2.1.2.2.2.2.2.2.2.2.1,0),false,false,false,bif c.1==2 then 7 else 0,false,false,false,false,false,false,false))
def ZUc (c:TC):TC:=(ZFx c).val
def Z4M:En:=Zf ZwS ZTZ (λ_=>none) (λa=>ZUc a)
theorem ZUb:Za prog 80 Z4M:=
 pureQ 15 [] [] ZwS ZTZ trivial Tryz.func80 Tryz.call80 trivial (t:=λa=>ZFx a)
def Zk4 (c:TC):RT TC:=
 .Lf ((c.1,(c.2.1.1,c.2.1.2.1,c.2.1.2.2.1,c.2.1.2.2.2.1,c.2.1.2.2.2.2.1,c.2.1.2.2.2.2.2.1,c.2.1.2.2.2.2.2.2.1,c.2.1.2.2.2.2.2.2.2.1,c.2.1.2.2.2.2.2.2.2.2.1,0),false,false,false,bif rOn c.1 then 7 else 0,false,false,false,false,false,false,false))
def Z1 (c:TC):TC:=(Zk4 c).val
def ZDI:En:=Zf ZwS ZTZ (λ_=>none) (λa=>Z1 a)
theorem ZAh:Za prog 96 ZDI:=
 pureQ 15 [(171,rOnE)] [] ZwS ZTZ ⟨ZeK,Tv⟩ Tryz.func96 Tryz.call96 trivial (t:=λa=>Zk4 a)
def Zu8 (k:Int):RT (Bool):=
 .Lf (k==1||(k==2||(k==4||(k==6||(k==8||k==9)))))
def Zbi (k:Int):Bool:=(Zu8 k).val
def Zoh:En:=Zf ZA3 ZpN (λ_=>none) (λa=>Zbi a)
theorem Zjv:Za prog 167 Zoh:=
 pureQ 7 [] [] ZA3 ZpN trivial Tryz.func167 Tryz.call167 trivial (t:=λa=>Zu8 a)
def ZFy (k:Int):RT (Bool):=
 .br (bif k==1 then k==1 else bif k==2 then k==2 else bif k==4 then k==4 else bif k==6 then k==6 else bif k==8 then k==8 else k==9)
 (.Lf (true))
 (.Lf (false))
def ZUe (k:Int):Bool:=(ZFy k).val
def Z4N:En:=Zf ZA3 ZpN (λ_=>none) (λa=>ZUe a)
theorem ZUd:Za prog 83 Z4N:=
 pureQ 23 [] [] ZA3 ZpN trivial Tryz.func83 Tryz.call83 trivial (t:=λa=>ZFy a)
def ZuU (k:Int):RT (Bool):=
 .Lf (k==3||(k==5||k==7))
def ZcW (k:Int):Bool:=(ZuU k).val
def ZuV:En:=Zf ZA3 ZpN (λ_=>none) (λa=>ZcW a)
theorem ZsR:Za prog 179 ZuV:=
 pureQ 7 [] [] ZA3 ZpN trivial Tryz.func179 Tryz.call179 trivial (t:=λa=>ZuU a)
def ZwG (k:Int):RT (Bool):=
 .Lf (k==3||(k==5||k==7))
def ZFj (k:Int):Bool:=(ZwG k).val
def ZZq:En:=Zf ZA3 ZpN (λ_=>none) (λa=>ZFj a)
theorem ZNH:Za prog 139 ZZq:=
 pureQ 7 [] [] ZA3 ZpN trivial Tryz.func139 Tryz.call139 trivial (t:=λa=>ZwG a)
def ZwM (k:Int):RT (Int):=
 .br (k==1)
 (.Lf (162))
 (.br (k==2)
  (.Lf (130))
  (.br (k==4)
  (.Lf (134))
  (.br (k==5)
   (.Lf (4))
   (.br (k==6)
   (.Lf (66))
   (.br (k==7)
    (.Lf (16))
    (.br (k==8)
    (.Lf (35))
    (.br (k==9)
     (.Lf (3))
     (.br (k==10)
     (.Lf (138))
     (.Lf (0))))))))))
def ZFs (k:Int):Int:=(ZwM k).val
def ZZw:En:=Zf ZA3 ZVv (λ_=>none) (λa=>ZFs a)
theorem ZNO:Za prog 212 ZZw:=
 pureQ 1398103 [] [] ZA3 ZVv trivial Tryz.func212 Tryz.call212 trivial (t:=λa=>ZwM a)
def Zu3 (k:Int):RT (Int):=
 .br (k==1)
 (.Lf (162))
 (.br (k==2)
  (.Lf (130))
  (.br (k==4)
  (.Lf (134))
  (.br (k==5)
   (.Lf (4))
   (.br (k==6)
   (.Lf (66))
   (.br (k==7)
    (.Lf (16))
    (.br (k==8)
    (.Lf (35))
    (.br (k==9)
     (.Lf (3))
     (.br (k==10)
     (.Lf (138))
     (.Lf (0))))))))))
def Zk3 (k:Int):Int:=(Zu3 k).val
def ZIR:En:=Zf ZA3 ZVv (λ_=>none) (λa=>Zk3 a)
theorem ZMq:Za prog 340 ZIR:=
 pureQ 1398103 [] [] ZA3 ZVv trivial Tryz.func340 Tryz.call340 trivial (t:=λa=>Zu3 a)
abbrev Zqt:Rs:=Rs.tup [So R.bool,So R.bool,So R.bool]
def Zxe (k:Int):RT (QT32):=
 .br (k==1)
 (.Lf ((false,true,true)))
 (.br (bif k==2 then k==2 else bif k==4 then k==4 else k==11)
  (.Lf ((false,true,false)))
  (.br (bif k==3 then k==3 else k==5)
  (.Lf ((false,false,true)))
  (.br (k==6)
   (.Lf ((true,true,false)))
   (.br (k==7)
   (.Lf ((true,false,true)))
   (.br (bif k==8 then k==8 else bif k==9 then k==9 else k==12)
    (.Lf ((true,true,true)))
    (.Lf ((false,false,false))))))))
def ZGq (k:Int):QT32:=(Zxe k).val
def ZZP:En:=Zf ZA3 Zqt (λ_=>none) (λa=>ZGq a)
theorem ZN2:Za prog 211 ZZP:=
 pureQ 692575 [] [] ZA3 Zqt trivial Tryz.func211 Tryz.call211 trivial (t:=λa=>Zxe a)
def Zvx (k:Int):RT (QT32):=
 .br (k==1)
 (.Lf ((false,true,true)))
 (.br (bif k==2 then k==2 else bif k==4 then k==4 else k==11)
  (.Lf ((false,true,false)))
  (.br (bif k==3 then k==3 else k==5)
  (.Lf ((false,false,true)))
  (.br (k==6)
   (.Lf ((true,true,false)))
   (.br (k==7)
   (.Lf ((true,false,true)))
   (.br (bif k==8 then k==8 else bif k==9 then k==9 else k==12)
    (.Lf ((true,true,true)))
    (.Lf ((false,false,false))))))))
def ZfA (k:Int):QT32:=(Zvx k).val
def ZJo:En:=Zf ZA3 Zqt (λ_=>none) (λa=>ZfA a)
theorem ZMM:Za prog 339 ZJo:=
 pureQ 692575 [] [] ZA3 Zqt trivial Tryz.func339 Tryz.call339 trivial (t:=λa=>Zvx a)
def Zqz (k:Int):RT (Bool):=
 .Lf (k !=10&&(k !=11&&k !=12))
def Zx2 (k:Int):Bool:=(Zqz k).val
def ZVD:En:=Zf ZA3 ZpN (λ_=>none) (λa=>Zx2 a)
theorem ZGO:Za prog 189 ZVD:=
 pureQ 7 [] [] ZA3 ZpN trivial Tryz.func189 Tryz.call189 trivial (t:=λa=>Zqz a)
def Zpa (k:Int):RT (Bool):=
 .Lf (k !=10&&(k !=11&&k !=12))
def Zb4 (k:Int):Bool:=(Zpa k).val
def ZAB:En:=Zf ZA3 ZpN (λ_=>none) (λa=>Zb4 a)
theorem ZEY:Za prog 58 ZAB:=
 pureQ 7 [] [] ZA3 ZpN trivial Tryz.func58 Tryz.call58 trivial (t:=λa=>Zpa a)
theorem Z0j (c l):ZUN c l=Zk c l:=by simp only[ZUN,ZGr,Zk,ZEF,RT.val,ZaG,bne]
theorem Z4A (c l):Z4Q c l=ZeJ c l:=by simp[Z4Q,ZUn,ZeJ,ZR9,RT.val,ZaG]
theorem ZXI (c) (s:Int):Zx3 c s=ZcD c s:=by
 by_cases h:s=1
 ·subst h;simp[Zx3,Znb,ZcD,ZmZ,RT.val]
 ·have h':(s==1)=false:=by simpa using h
  simp[Zx3,Znb,ZcD,ZmZ,RT.val,h']
theorem ZYx (c):ZUc c=Z1 c:=by simp[ZUc,ZFx,Z1,Zk4,RT.val,ZaG]
theorem ZYy (k):ZUe k=Zbi k:=by simp[ZUe,ZFy,Zbi,Zu8,RT.val]
theorem ZPB (k):ZFj k=ZcW k:=by simp[ZFj,ZwG,ZcW,ZuU,RT.val]
theorem ZRe (k):ZFs k=Zk3 k:=by simp[ZFs,ZwM,Zk3,Zu3,RT.val]
theorem ZWn (k):ZGq k=ZfA k:=by simp[ZGq,Zxe,ZfA,Zvx,RT.val]
theorem ZPx (k):Zx2 k=Zb4 k:=by simp[Zx2,Zqz,Zb4,Zpa,RT.val]
def ZKu:En:=Zf ZT9 ZTZ (λ_=>none) (λa=>Zk a.1 a.2)
theorem ZN3:Za prog 191 ZKu:=ZUM.tot (λa h=>by simp) (λa h=>Z0j _ _)
def ZwY:En:=Zf ZT9 Z2v (λ_=>none) (λa=>ZeJ a.1 a.2)
theorem ZBa:Za prog 194 ZwY:=ZZG.tot (λa h=>by simp) (λa h=>Z4A _ _)
def ZBp:En:=Zf ZqA ZTZ (λ_=>none) (λa=>ZcD a.1 a.2)
theorem ZGP:Za prog 81 ZBp:=ZOK.tot (λa h=>by simp) (λa h=>ZXI _ _)
def ZwU:En:=Zf ZwS ZTZ (λ_=>none) (λa=>Z1 a)
theorem Ztu:Za prog 80 ZwU:=ZUb.tot (λa h=>by simp) (λa h=>ZYx _)
def Zdd:En:=Zf ZA3 ZpN (λ_=>none) (λa=>Zbi a)
theorem Zes:Za prog 83 Zdd:=ZUd.tot (λa h=>by simp) (λa h=>ZYy _)
def ZcK:En:=Zf ZA3 ZpN (λ_=>none) (λa=>ZcW a)
theorem ZeN:Za prog 139 ZcK:=ZNH.tot (λa h=>by simp) (λa h=>ZPB _)
def ZpE:En:=Zf ZA3 ZVv (λ_=>none) (λa=>Zk3 a)
theorem ZFr:Za prog 212 ZpE:=ZNO.tot (λa h=>by simp) (λa h=>ZRe _)
def Zqu:En:=Zf ZA3 Zqt (λ_=>none) (λa=>ZfA a)
theorem ZGp:Za prog 211 Zqu:=ZN2.tot (λa h=>by simp) (λa h=>ZWn _)
def ZtB:En:=Zf ZA3 ZpN (λ_=>none) (λa=>Zb4 a)
theorem ZBo:Za prog 189 ZtB:=ZGO.tot (λa h=>by simp) (λa h=>ZPx _)
def ZcA:En:=.tree (Zq (envX prog [] [] 7 8) Tryz.f146)
theorem Ze3:Za prog 146 ZcA:=ZD trivial Tryz.func146 rfl (by kernel_rfl) Tryz.call146 trivial
def ZbF:En:=.tree (Zq (envX prog [] [] 7 8) Tryz.f147)
theorem ZdP:Za prog 147 ZbF:=ZD trivial Tryz.func147 rfl (by kernel_rfl) Tryz.call147 trivial
def ZhK:En:=.tree (Zq (envX prog [(83,Zdd),(139,ZcK),(146,ZcA),(147,ZbF),(211,Zqu)] [] 63 8) Tryz.f148)
theorem ZlR:Za prog 148 ZhK:=ZD ⟨Zes,ZeN,Ze3,ZdP,ZGp,Tv⟩ Tryz.func148 rfl (by kernel_rfl) Tryz.call148 trivial
def Zf7:En:=.tree (Zq (envX prog [(83,Zdd),(139,ZcK),(147,ZbF),(212,ZpE)] [] 63 8) Tryz.f149)
theorem Zi6:Za prog 149 Zf7:=ZD ⟨Zes,ZeN,ZdP,ZFr,Tv⟩ Tryz.func149 rfl (by kernel_rfl) Tryz.call149 trivial
abbrev ZUj:List Sh:=[So Kc,Sh.agg (R.Pq Kc (R.Pq (RY) (R.Pq Ka (R.Pq Kb (R.Pq R.bool R.bool)))))]
abbrev ZUl:Rs:=Rs.one (Sh.agg (R.Pq Kc (R.Pq Kb (R.Pq Ka (R.Pq R.bool (R.Pq R.bool (R.Pq R.bool (R.Pq R.bool (R.Pq R.bool (R.Pq R.bool (R.Pq R.bool rcF7)))))))))))
def ZUk (chip:Int) (s:Int×TY×Int×Int×Bool×Bool):RT (QT10):=
 let x1:Int:=bif decide (s.1>=1)&&decide (s.1<=7) then s.2.1.2.1 else 0
 let x2:=s.1==2||(s.1==7||s.1==3)
 let x3:=x2&&ZcW s.2.1.1
 let x4:Int:=bif s.1==3&&Zbi s.2.1.1 then s.2.2.1 else bif x3 then s.2.1.2.2.1 else 0
 let x5:=s.1==1&&(s.2.1.1 !=11&&s.2.1.1 !=12)
 .br (chip==2)
 (.Lf ((s.1,x1,bif s.1==1 then u8.wrap s.2.1.2.1 else x4,false,false,false,false,s.1==1,decide (s.1>=1)&&decide (s.1<=7)&&(ZfA s.2.1.1).1,decide (s.1>=1)&&decide (s.1<=7)&&(ZfA s.2.1.1).2.1,decide (s.1>=1)&&decide (s.1<=7)&&(ZfA s.2.1.1).2.2,x2&&(Zbi s.2.1.1&& !(s.2.1.1==8||s.2.1.1==9)),x2&&(s.2.1.1==8||s.2.1.1==9),s.2.2.2.2.2,x3,s.1==8,s.1==8||(s.1==9||s.1==10))))
 (.Lf ((s.1,bif s.1==9 then s.2.2.2.1 else x1,bif x5 then Zk3 s.2.1.1 else x4,x5,x2&&Zbi s.2.1.1,s.1==7||s.1==9,s.2.2.2.2.1,false,false,false,false,false,false,false,bif s.1==7 then ZcW s.2.1.1 else s.1==3&&ZcW s.2.1.1,s.1==8,s.1==8)))
def ZUm (chip:Int) (s:Int×TY×Int×Int×Bool×Bool):QT10:=(ZUk chip s).val
def Z2s:En:=Zf ZUj ZUl (λ_=>none) (λa=>ZUm a.1 a.2)
theorem ZZF:Za prog 79 Z2s:=
 pureQ 63 [(83,Zdd),(139,ZcK),(146,ZcA),(147,ZbF),(148,ZhK),(149,Zf7)] [] ZUj ZUl ⟨Zes,ZeN,Ze3,ZdP,ZlR,Zi6,Tv⟩ Tryz.func79 Tryz.call79 trivial (t:=λa=>ZUk a.1 a.2)
abbrev ZR6:List Sh:=[So Kc,So Kc,Sh.agg (RY),So Ka,So R.bool,So R.bool]
def ZAl (chip:Int) (t:Int) (x:QT12) (d:Int) (i:Bool) (o:Bool):RT (QT10):=
 let x1:QT25:=(!rOn chip&&bif rOn chip then i else i,false,false,false,false,false,false,bif !rOn chip then rOn chip&&o else rOn chip&&o,false,false,rOn chip)
 let x2:=(t==2||(t==7||t==3))&&ZcW x.1
 let x3:Int:=bif t==3&&Zbi x.1 then d else bif x2 then x.2.2.1 else 0
 .br (t==8)
 (.Lf ((t,0,0,false,false,false,!rOn chip&&bif rOn chip then i else i,false,false,false,false,false,false,bif !rOn chip then rOn chip&&o else rOn chip&&o,false,true,true)))
 (.br (t==9)
  (.Lf ((t,bif !rOn chip then x.2.1 else 0,0,false,false,!rOn chip,x1)))
  (.br (t==10)
  (.Lf ((t,0,0,false,false,false,x1)))
  (.br (rOn chip)
   (.Lf ((t,x.2.1,bif t==1 then u8.wrap x.2.1 else x3,false,false,false,!rOn chip&&bif rOn chip then i else i,t==1,(ZfA x.1).1,(ZfA x.1).2.1,(ZfA x.1).2.2,(t==2||(t==7||t==3))&&(Zbi x.1&& !(x.1==8||x.1==9)),(t==2||(t==7||t==3))&&(x.1==8||x.1==9),bif !rOn chip then rOn chip&&o else rOn chip&&o,x2,false,false)))
   (.Lf ((t,x.2.1,bif t==1&&(x.1 !=11&&x.1 !=12) then Zk3 x.1 else x3,t==1&&(x.1 !=11&&x.1 !=12),(t==2||(t==7||t==3))&&Zbi x.1,t==7,!rOn chip&&bif rOn chip then i else i,false,false,false,false,false,false,bif !rOn chip then rOn chip&&o else rOn chip&&o,ZcW x.1&&(t==7||t==3),false,false))))))
def Zjy (chip:Int) (t:Int) (x:QT12) (d:Int) (i:Bool) (o:Bool):QT10:=(ZAl chip t x d i o).val
def Z1L:En:=Zf ZR6 ZUl (λ_=>none) (λa=>Zjy a.1 a.2.1 a.2.2.1 a.2.2.2.1 a.2.2.2.2.1 a.2.2.2.2.2)
theorem ZYQ:Za prog 259 Z1L:=
 pureQ 302250189878107155464191 [(167,Zoh),(171,rOnE),(179,ZuV),(339,ZJo),(340,ZIR)] [] ZR6 ZUl ⟨Zjv,ZeK,ZsR,ZMM,ZMq,Tv⟩ Tryz.func259 Tryz.call259 trivial (t:=λa=>ZAl a.1 a.2.1 a.2.2.1 a.2.2.2.1 a.2.2.2.2.1 a.2.2.2.2.2)
abbrev ZVt:List Sh:=[Sh.agg (R.Pq Zu (R.Pq Kc (R.Pq (R.sl Ka) (R.Pq (RY) (R.Pq Kc R.bool)))))]
def Z2E (c:QT2):RT (Bool):=
 let x1:=decide (iN (Le c.2.2.1)>0)||c.2.1 !=0
 .Lf (bif decide (c.2.2.2.2.1>=2) then decide (c.2.2.2.2.1<=7)||x1 else x1)
def ZZ3 (c:QT2):Bool:=(Z2E c).val
def ZBm:En:=Zf ZVt ZpN (λ_=>none) (λa=>ZZ3 a)
theorem ZKO:Za prog 144 ZBm:=
 pureQ 7 [] [] ZVt ZpN trivial Tryz.func144 Tryz.call144 trivial (t:=λa=>Z2E a)
def Z2c (c:QT2):RT (Bool):=
 let x1:=decide (iN (Le c.2.2.1)>0)||c.2.1 !=0
 .Lf (bif decide (c.2.2.2.2.1>=2) then decide (c.2.2.2.2.1<=7)||x1 else x1)
def ZiS (c:QT2):Bool:=(Z2c c).val
def ZAA:En:=Zf ZVt ZpN (λ_=>none) (λa=>ZiS a)
theorem Zwf:Za prog 113 ZAA:=
 pureQ 7 [] [] ZVt ZpN trivial Tryz.func113 Tryz.call113 trivial (t:=λa=>Z2c a)
def Zc5:En:=.tree (Zq (envX prog [] [] 31 8) Tryz.f115)
theorem Zfd:Za prog 115 Zc5:=ZD trivial Tryz.func115 rfl (by kernel_rfl) Tryz.call115 trivial
abbrev ZRL:List Sh:=[Sh.agg (R.Pq Zu (R.Pq Kc (R.Pq (R.sl Ka) (R.Pq (RY) (R.Pq Kc R.bool))))),Sh.agg (R.Pq Zu (R.Pq Kc (R.Pq (R.sl Ka) (R.Pq (RY) (R.Pq Kc R.bool)))))]
def ZRM (a:QT2) (b:QT2):RT (Bool):=
 let x1:=a.1.2.1.2.2.2.2.2.2.2.1.2.2
 let x2:=b.1.2.1.2.2.2.2.2.2.2.1.2.2
 let x3:=x1.2
 let x4:=x2.2
 let x5:=x3.2
 let x6:=x4.2
 let x7:=x5.2
 let x8:=x6.2
 .Lf (a.1.1==b.1.1&&(a.1.2.1.1==b.1.2.1.1&&(a.1.2.1.2.1==b.1.2.1.2.1&&(a.1.2.1.2.2.1==b.1.2.1.2.2.1&&(a.1.2.1.2.2.2.1==b.1.2.1.2.2.2.1&&(a.1.2.1.2.2.2.2.1==b.1.2.1.2.2.2.2.1&&(a.1.2.1.2.2.2.2.2.1==b.1.2.1.2.2.2.2.2.1&&(a.1.2.1.2.2.2.2.2.2.1==b.1.2.1.2.2.2.2.2.2.1&&(a.1.2.1.2.2.2.2.2.2.2.1.1==b.1.2.1.2.2.2.2.2.2.2.1.1&&(a.1.2.1.2.2.2.2.2.2.2.1.2.1==b.1.2.1.2.2.2.2.2.2.2.1.2.1&&(x1.1==x2.1&&(x3.1==x4.1&&(x5.1==x6.1&&(x7.1==x8.1&&(x7.2==x8.2&&(a.1.2.1.2.2.2.2.2.2.2.2.1==b.1.2.1.2.2.2.2.2.2.2.2.1&&(a.1.2.1.2.2.2.2.2.2.2.2.2==b.1.2.1.2.2.2.2.2.2.2.2.2&&(a.1.2.2.1==b.1.2.2.1&&(a.1.2.2.2.1==b.1.2.2.2.1&&(a.1.2.2.2.2.1==b.1.2.2.2.2.1&&(a.1.2.2.2.2.2.1==b.1.2.2.2.2.2.1&&(a.1.2.2.2.2.2.2.1==b.1.2.2.2.2.2.2.1&&(a.1.2.2.2.2.2.2.2.1==b.1.2.2.2.2.2.2.2.1&&(a.1.2.2.2.2.2.2.2.2.1==b.1.2.2.2.2.2.2.2.2.1&&(a.1.2.2.2.2.2.2.2.2.2.1==b.1.2.2.2.2.2.2.2.2.2.1&&(a.1.2.2.2.2.2.2.2.2.2.2.1==b.1.2.2.2.2.2.2.2.2.2.2.1&&(a.1.2.2.2.2.2.2.2.2.2.2.2.1==b.1.2.2.2.2.2.2.2.2.2.2.2.1&&(a.1.2.2.2.2.2.2.2.2.2.2.2.2==b.1.2.2.2.2.2.2.2.2.2.2.2.2&&true)))))))))))))))))))))))))))&&(a.2.1==b.2.1&&(ByteArray.toList (ZYh a.2.2.1)==ByteArray.toList (ZYh b.2.2.1)&&(a.2.2.2.1.1==b.2.2.2.1.1&&(a.2.2.2.1.2.1==b.2.2.2.1.2.1&&(a.2.2.2.1.2.2.1==b.2.2.2.1.2.2.1&&(a.2.2.2.1.2.2.2==b.2.2.2.1.2.2.2&&true)))&&(a.2.2.2.2.1==b.2.2.2.2.1&&a.2.2.2.2.2==b.2.2.2.2.2)))))
def ZDH (a:QT2) (b:QT2):Bool:=(ZRM a b).val
def Z1I:En:=Zf ZRL ZpN (λ_=>none) (λa=>ZDH a.1 a.2)
theorem ZYG:Za prog 106 Z1I:=
 pureQ 31 [(115,Zc5)] [] ZRL ZpN ⟨Zfd,Tv⟩ Tryz.func106 Tryz.call106 trivial (t:=λa=>ZRM a.1 a.2)
theorem ZTM (chip t:Int) (h1:1<=t) (h2:t<=10) (x:QT12) (d d' pc:Int) (i o:Bool) (hd:t≠10->d'=d):
  ZUm chip (t,x,d,pc,i,o)=Zjy chip t (bif t==9 then (0,pc,0,0) else x) d' i o:=by
 obtain⟨x1,x2,x3,x4⟩:=x;simp only[ZUm,ZUk,Zjy,ZAl,RT.val,ZaG];generalize (chip==2)=b;have:t=1\/t=2\/t=3\/t=4\/t=5\/t=6\/t=7\/t=8\/t=9\/t=10:=by omega
 by_cases h:t=10
 ·subst h;cases b<;>simp
 ·rw[hd h];rcases this with rfl|rfl|rfl|rfl|rfl|rfl|rfl|rfl|rfl|rfl<;>cases b<;>simp<;>(try cases ZcW x1)<;>(try cases Zbi x1)<;>simp
