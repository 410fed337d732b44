import Derived.Test.YtpnjbfjomebppaaGreatLeafs
open Go.Proofs.Tryz (prog)
open Go.IntKind (u8 u16 i64)
open Go Go.S3 Go.Proofs
set_option linter.unusedVariables false
set_option linter.unusedSimpArgs false
set_option maxRecDepth 100000
namespace Go.Proofs.YtpnjbfjomebppaaGreat
noncomputable section
theorem ZBu (b:Int) (h:inR .u8 b):Zni b=true/\Zxu b=ZoH b:=by have h1:=ZgB (λb=>Zni b&&(Zxu b==ZoH b)) (by kernel_rfl) b h;simpa using h1
theorem ZCo (a b c:Bool):pMaj a b c=rMaj a b c:=by cases a<;>cases b<;>cases c<;>rfl
theorem Z3H (a:Bool):pOne a=rOne a:=by cases a<;>rfl
theorem ZR7 (a b:Int) (c:Bool):pSum a b c=rSum a b c:=by simp only[pSum,Z5L,rSum,ZZD,RT.val,Yan,Zp5,Znf,ZeH,ZmZ,Z3H]
theorem ZIm (a b:Int) (c:Bool):ZiY a b c=Zdb a b c:=by
 have h1:=Z83 a;have h2:=Z83 b;have e:IntKind.wrap .i64 (IntKind.wrap .i64 (IntKind.wrap .i64 (IntKind.wrap .i64 (andI .u8 a 15)+15)-IntKind.wrap .i64 (andI .u8 b 15))+1)=IntKind.wrap .i64 (IntKind.wrap .i64 (IntKind.wrap .i64 (andI .u8 a 15)+IntKind.wrap .i64 (IntKind.wrap .u8 (15-andI .u8 b 15)))+1):=by rw[ZDh];rw[wrap_i64 (andI .u8 a 15) (by omega) (by omega),wrap_i64 (andI .u8 b 15) (by omega) (by omega),wrap_i64 ((15-andI .u8 b 15)%256) (by omega) (by omega),wrap_i64 (andI .u8 a 15+15) (by omega) (by omega)];congr 1;rw[wrap_i64 _ (by omega) (by omega),wrap_i64 _ (by omega) (by omega)];omega
 simp only[ZiY,ZWh,Zdb,ZKo,RT.val,Yan,Zp5,Znf,ZeH,ZmZ,Z3H,e]
theorem ZyY (a b:Int):ZVP a b=Zdn a b:=rfl
theorem ZYx (b:Bool) (n:Int) (h:0<=n):Zfp b n=true/\pBit b n=bif b then shlI .u8 1 n else 0:=by cases b<;>simp[Zfp,pBit,Z02,RT.val,h,okB,getO]
theorem ZeE (b:Bool) (n:Int) (h:0<=n):Zel b n=true/\rBit b n=bif b then shlI .u8 1 n else 0:=by cases b<;>simp[Zel,rBit,ZZ6,RT.val,h,okB,getO]
theorem ZaE (chip:Int):rOn chip=(chip==2):=rfl
theorem Z8g (chip:Int) (f):ZLa chip f=true:=by cases h:chip==2<;>simp[ZLa,ZBL,RT.val,ZYx,okB,h]
theorem ZSv (chip:Int) (f):ZJ3 chip f=true:=by cases h:chip==2<;>simp[ZJ3,ZAZ,RT.val,ZeE,ZaE,okB,h]
theorem Z5K (chip:Int) (f):Z0I chip f=ZZS chip f:=by simp only[Z0I,ZBL,ZZS,ZAZ,RT.val,ZYx,ZeE,ZaE];cases chip==2<;>simp[ZYx,ZeE,getO]
theorem of_C (r:Int) (h:inR .u8 r):pOfC r=true:=by simp[pOfC,pOfT,RT.val,ZBu r h,okB]
theorem of_eq (r:Int) (h:inR .u8 r):pOf r=rOf r:=by simp[pOf,pOfT,rOf,rOfT,RT.val,ZBu r h,getO]
theorem Z61 (r) (n:Int):ZFo r n=true:=by
 have:=and7 n;have h:decide (0<=andI .i64 n 7/\andI .i64 n 7<8)=true:=by simp;omega
 simp only[ZFo,ZFm,RT.val,h,Ya,okB]
theorem ZX7 {m:Int} (h:0<=m/\m<=7):m=0\/m=1\/m=2\/m=3\/m=4\/m=5\/m=6\/m=7:=by omega
theorem ZUQ (r) (n:Int):pGet r n=rGet r n:=by
 have h7:=and7 n;have h:decide (0<=andI .i64 n 7/\andI .i64 n 7<8)=true:=by simp;omega
 simp only[pGet,Z6c,rGet,ZFm,RT.val,h,Ya,getO];generalize andI .i64 n 7=m at*;rcases ZX7 h7 with rfl|rfl|rfl|rfl|rfl|rfl|rfl|rfl<;>rfl
theorem ZUk (r) (n v:Int):pSet r n v=rSet r n v:=by have h7:=and7 n;simp only[pSet,Z5O,rSet,Z42,RT.val,Ya,getO];generalize andI .i64 n 7=m at*;rcases ZX7 h7 with rfl|rfl|rfl|rfl|rfl|rfl|rfl|rfl<;>rfl
theorem Z0b (r) (n:Int):Z5Y r n=Zan r n:=by simp only[Z5Y,ZVp,Zan,ZtA,RT.val,ZUQ,Z61,ZyY];cases andI .i64 n 3==3<;>simp[okB,getO]
theorem Z4P (r) (n:Int):ZTa r n=true:=by simp only[ZTa,ZtA,RT.val,Z61];cases andI .i64 n 3==3<;>simp[okB]
theorem ZFJ (r) (n v:Int):Zxh r n v=Zm r n v:=by simp only[Zxh,Zp6,Zm,Zhb,RT.val,ZUk]
theorem ZUt (chip:Int) (r):Z50 chip r=true/\pPSW chip r=rPSW chip r:=by simp[Z50,pPSW,Z0J,rPSW,ZTd,RT.val,Z8g,ZSv,Z5K,ZyY,okB,getO]
theorem Z7M (chip:Int) (r):Z5a chip r=true:=by simp[Z5a,ZTd,RT.val,ZSv,okB]
theorem ZRv (chip:Int) (b:Int):Zxe chip b=Zvu chip b:=by simp only[Zxe,Zxd,Zvu,Zvt,RT.val,ZaE]
theorem ZOs (chip:Int) (r) (v:Int):ZGf chip r v=Zhd chip r v:=by simp only[ZGf,Zxi,Zhd,Zm0,RT.val,ZRv]
theorem Z1A (c:Int) (f):ZVY c f=Zfe c f:=by
 simp only[ZVY,ZHe,Zfe,ZFl,RT.val];by_cases h:0<=c/\c<=11
 ·have:c=0\/c=1\/c=2\/c=3\/c=4\/c=5\/c=6\/c=7\/c=8\/c=9\/c=10\/c=11:=by omega
  rcases this with rfl|rfl|rfl|rfl|rfl|rfl|rfl|rfl|rfl|rfl|rfl|rfl<;>simp
 ·have e:∀k:Int,0<=k->k<=11->(c==k)=false:=λk h1 h2=>by simp;omega
  simp[e]
theorem Zz9 (a b:Int) (c:Bool):inR .u8 (rSum a b c).1:=by simp only[rSum,ZZD,RT.val,Yan];exact Zaw _ _
theorem Zr4 (a b:Int) (c:Bool):inR .u8 (Zdb a b c).1:=by simp only[Zdb,ZKo,RT.val,Yan];exact Zaw _ _
theorem ZlY (a b:Int):inR .u8 (andI .u8 a b)/\inR .u8 (orI .u8 a b)/\inR .u8 (xorI .u8 a b):=Zif _ _ _
theorem ZAr (chip v r:Int) (half over x:Bool) (f) (h:inR .u8 r):Zj3 chip v r half over x f=true/\
  Zqb chip v r half over x f=Zsm chip ((rOf r).1,(rOf r).2.1,(rOf r).2.2.1,half,(rOf r).2.2.2.2.1,(rOf r).2.2.2.2.2.1,f.2.2.2.2.2.2) (rMaj (decide (v>=128)) x (decide (r>=128))) over:=by cases hc:chip==2<;>simp[Zj3,Zqb,Zng,Zsm,ZtB,RT.val,of_C r h,of_eq r h,okB,getO,ZaE,hc,ZCo,rOf,rOfT]
theorem ZUN (chip v:Int) (f):Z6a chip v f=true/\pInr chip v f=rInr chip v f:=by have h:=ZAr chip v (rSum v 1 false).1 (rSum v 1 false).2.2.1 (rSum v 1 false).2.2.2 false f (Zz9 _ _ _);simp only[Z6a,pInr,Z0Q,rInr,Z5g,RT.val,ZR7,h.1,h.2,Ya,okB,getO,and_self]
theorem ZUS (chip v:Int) (f):Z6p chip v f=true/\pDcr chip v f=rDcr chip v f:=by have h:=ZAr chip v (Zdb v 1 false).1 (Zdb v 1 false).2.2.1 (Zdb v 1 false).2.2.2 true f (Zr4 _ _ _);simp only[Z6p,pDcr,Z0Y,rDcr,Z5q,RT.val,ZIm,h.1,h.2,Ya,okB,getO,and_self]
theorem Z5F (chip v:Int) (f):pInx chip v f=rInx chip v f:=by simp only[pInx,Z58,rInx,Z5d,RT.val,ZaE]
theorem Z5I (chip v:Int) (f):pDcx chip v f=rDcx chip v f:=by simp only[pDcx,Z6n,rDcx,Z5n,RT.val,ZaE]
theorem ZUT (chip a:Int) (f):Z6t chip a f=true/\pDaa chip a f=rDaa chip a f:=by
 have h:=λx=>of_C _ (Zz9 a x false)
 have h2:=λx=>of_eq _ (Zz9 a x false)
 cases hc:chip==2<;>simp[Z6t,pDaa,Z00,rDaa,Z5v,Zsm,ZtB,RT.val,ZR7,h,h2,okB,getO,ZaE,hc,ZCo,rOf,rOfT]
theorem ZKY (a b:Int):ZWe a b=true/\Z6i a b=ZA9 a b:=by
 have h:=λx y z=>of_C _ (Zr4 x y z)
 have h2:=λx y z=>of_eq _ (Zr4 x y z)
 simp[ZWe,Z6i,ZLu,ZA9,ZTS,RT.val,ZIm,h,h2,okB,getO,ZCo,ZyY,rOf,rOfT,Yan]
theorem Z0o (v:Int):Z8u v=ZwK v:=rfl
theorem Z3L (c:Bool):pLow c=bif c then 1 else 0:=by cases c<;>rfl
theorem ZUm (op a:Int) (c:Bool):Z5Q op a c=true/\pRot op a c=rRot op a c:=by
 have h3:=and3 op;simp only[Z5Q,pRot,Z0z,rRot,ZSR,RT.val,Z3L,(ZeE c 0 (by decide)).1,(ZeE c 0 (by decide)).2,(ZeE c 7 (by decide)).1,(ZeE c 7 (by decide)).2];generalize andI .i64 op 3=m at*;have:m=0\/m=1\/m=2\/m=3:=by omega
 rcases this with rfl|rfl|rfl|rfl<;>cases c<;>exact⟨rfl,rfl⟩
theorem Z7L (op a:Int) (c:Bool):Z45 op a c=true:=by
 have h3:=and3 op;simp only[Z45,ZSR,RT.val,(ZeE c 0 (by decide)).1,(ZeE c 7 (by decide)).1];generalize andI .i64 op 3=m at*;have:m=0\/m=1\/m=2\/m=3:=by omega
 rcases this with rfl|rfl|rfl|rfl<;>rfl
theorem ZZ9 (v:Int) (c:Bool) (h:inR .u16 v):Z5W v c=ZAU v c:=by
 have hb:=ZeE c 0 (by decide);have e:IntKind.wrap .u16 (bif c then 1 else 0)=IntKind.wrap .u16 (bif c then shlI .u8 1 0 else 0):=by cases c<;>rfl
 have hr:∀x,inR .u16 (orI .u16 x (IntKind.wrap .u16 (bif c then shlI .u8 1 0 else 0))):=λx=>(Zif _ _ _).2.1
 simp only[Z5W,ZVi,ZAU,ZAT,RT.val,Z3L,hb.1,hb.2,Ya,getO,e];rw[Zus _ (Zif _ _ _).2.2,ZR3 _ _ (hr _) h,ZIu _ (hr _),ZIu _ h];cases tb (orI .u16 (shlI .u16 v 1) (IntKind.wrap .u16 (bif c then shlI .u8 1 0 else 0)))<;>cases tb v<;>rfl
theorem Z4N (v:Int) (c:Bool):ZSZ v c=true:=by have hb:=ZeE c 0 (by decide);simp[ZSZ,ZAT,RT.val,hb.1,okB]
theorem Z5J (chip a b:Int) (f) (ha:inR .u16 a) (hb:inR .u16 b):pDad chip a b f=rDad chip a b f:=by
 have hr:inR .u16 (IntKind.wrap .u16 (a+b)):=Zaw _ _;have ha':=ZlJ.1 ha;have hb':=ZlJ.1 hb;simp only[pDad,Z6r,rDad,Z5s,RT.val,ZaE];rw[Zus _ (Zif _ _ _).1,Z2s _ _ (Zif _ _ _).2.2 (Zif _ _ _).2.2,ZR3 _ _ ha hr,ZR3 _ _ hb hr];have e1:decide (IntKind.wrap .u16 (a+b)<a)=decide (IntKind.wrap .i64 (IntKind.wrap .i64 a+IntKind.wrap .i64 b)>65535):=by rw[ZIw,wrap_i64 a (by omega) (by omega),wrap_i64 b (by omega) (by omega),wrap_i64 (a+b) (by omega) (by omega)];simp only[decide_eq_decide];omega
 have e2:(((tb a)^^(tb (IntKind.wrap .u16 (a+b))))&&((tb b)^^(tb (IntKind.wrap .u16 (a+b)))))=(decide (IntKind.wrap .i64 (IntKind.wrap .i64 (IntKind.wrap .i16 a)+IntKind.wrap .i64 (IntKind.wrap .i16 b))< -32768)||decide (IntKind.wrap .i64 (IntKind.wrap .i64 (IntKind.wrap .i16 a)+IntKind.wrap .i64 (IntKind.wrap .i16 b))>32767)):=by
  have ia:=ZIx a;have ib:=ZIx b;have hia: -32768<=IntKind.wrap .i16 a/\IntKind.wrap .i16 a<=32767:=by rw[ia];split<;>omega
  have hib: -32768<=IntKind.wrap .i16 b/\IntKind.wrap .i16 b<=32767:=by rw[ib];split<;>omega
  rw[wrap_i64 (IntKind.wrap .i16 a) (by omega) (by omega),wrap_i64 (IntKind.wrap .i16 b) (by omega) (by omega),wrap_i64 (IntKind.wrap .i16 a+IntKind.wrap .i16 b) (by omega) (by omega)];rw[ia,ib,ZIw];unfold tb;by_cases h1:a>=32768<;>by_cases h2:b>=32768<;>by_cases h3:(a+b)%65536>=32768<;>simp[h1,h2,h3]<;>(try split)<;>(try split)<;>omega
 rw[e1,e2]
theorem ZFK (c l):Z5S c l=true/\pRim c l=rRim c l/\Z47 c l=true:=by
 have h:∀b n,0<=n->Zds b n=true/\ZBH b n=bif b then shlI .u8 1 n else 0:=λb n h=>by cases b<;>simp[Zds,ZBH,ZK6,RT.val,h,okB,getO]
 have h3:∀b,Zaz b 3=true/\Zhj b 3=bif b then shlI .u8 1 3 else 0:=λb=>by cases b<;>exact⟨rfl,rfl⟩
 have h4:∀b,Zaz b 4=true/\Zhj b 4=bif b then shlI .u8 1 4 else 0:=λb=>by cases b<;>exact⟨rfl,rfl⟩
 have h5:∀b,Zaz b 5=true/\Zhj b 5=bif b then shlI .u8 1 5 else 0:=λb=>by cases b<;>exact⟨rfl,rfl⟩
 have h6:∀b,Zaz b 6=true/\Zhj b 6=bif b then shlI .u8 1 6 else 0:=λb=>by cases b<;>exact⟨rfl,rfl⟩
 have h7:∀b,Zaz b 7=true/\Zhj b 7=bif b then shlI .u8 1 7 else 0:=λb=>by cases b<;>exact⟨rfl,rfl⟩
 simp[Z5S,pRim,Z0B,Z47,rRim,ZSU,RT.val,h,h3,h4,h5,h6,h7,okB,getO]
theorem Z5z (c) (a:Int):pSim c a=rSim c a:=by simp only[pSim,Z5N,rSim,ZSI,RT.val]
theorem ZOo (s:Int):ZF8 s=Zi s:=by simp only[ZF8,Zxc,Zi,Zvq,RT.val]
theorem ZUu (chip op a b:Int):ZxH chip op a b=true/\∀f,(andI .i64 op 7=op)->4<=op->op<=6->ZLe chip op a b=rDo chip op a b f:=by
 have h:=λx y=>of_C _ (ZlY x y).1
 have h':=λx y=>of_C _ (ZlY x y).2.1
 have h'':=λx y=>of_C _ (ZlY x y).2.2
 have g:=λx y=>of_eq _ (ZlY x y).1
 have g':=λx y=>of_eq _ (ZlY x y).2.1
 have g'':=λx y=>of_eq _ (ZlY x y).2.2
 have h0:=of_C 0 (by rw[Zfj];omega);constructor
 ·cases h4:op==4<;>cases h5:op==5<;>cases h6:op==6<;>simp[ZxH,ZqR,RT.val,h,h',h'',h0,okB,h4,h5,h6]
 ·intro f e h4 h6;have:op=4\/op=5\/op=6:=by omega
  rcases this with rfl|rfl|rfl<;>cases hc:chip==2<;>simp[ZLe,ZqR,rDo,rDoT,RT.val,h,h',h'',g,g',g'',getO,e,ZaE,hc,Zsm,ZtB,rOf,rOfT,ZCo]
theorem Z3l (chip op a b:Int) (f):pDoC chip op a b f=true/\pDo chip op a b f=rDo chip op a b f:=by
 have h7:=and7 op;have hs:=λx=>of_C _ (Zz9 a b x)
 have hs2:=λx=>of_eq _ (Zz9 a b x)
 have hd:=λx=>of_C _ (Zr4 a b x)
 have hd2:=λx=>of_eq _ (Zr4 a b x)
 have hl:=ZUu chip (andI .i64 op 7) a b;have hlt:decide (b<128)= !decide (128<=b):=by
  by_cases h:b<128
  ·have:¬128<=b:=by omega
   simp[h,this]
  ·have:128<=b:=by omega
   simp[h,this]
 have hr:rDo chip (andI .i64 op 7) a b f=rDo chip op a b f:=by
  have:andI .i64 (andI .i64 op 7) 7=andI .i64 op 7:=by generalize andI .i64 op 7=m at*;rcases ZX7 h7 with rfl|rfl|rfl|rfl|rfl|rfl|rfl|rfl<;>rfl
  simp only[rDo,rDoT,this]
 have he:andI .i64 (andI .i64 op 7) 7=andI .i64 op 7:=by generalize andI .i64 op 7=m at*;rcases ZX7 h7 with rfl|rfl|rfl|rfl|rfl|rfl|rfl|rfl<;>rfl
 rw[<-hr];have hl2:=hl.2 f he;have hl1:=hl.1;clear hl hr;simp only[pDoC,pDo,pDoT,RT.val];generalize andI .i64 op 7=m at*;rcases ZX7 h7 with rfl|rfl|rfl|rfl|rfl|rfl|rfl|rfl
 case inr.inr.inr.inr.inl=>simp[hl1,hl2,okB,getO]
 case inr.inr.inr.inr.inr.inl=>simp[hl1,hl2,okB,getO]
 case inr.inr.inr.inr.inr.inr.inl=>simp[hl1,hl2,okB,getO]
 all_goals cases hc:chip==2<;>simp[rDo,rDoT,RT.val,ZR7,ZIm,hs,hs2,hd,hd2,okB,getO,he,ZaE,hc,Zsm,ZtB,rOf,rOfT,ZCo,hlt]
theorem ZUR (chip op:Int) (h:chip≠2):(Zgn chip op).val=(Zgn 0 op).val:=by
 have h1:(chip==2)=false:=by simpa using h
 have h0:((0:Int)==2)=false:=rfl;simp only[Zgn,RT.val,h1,h0]
theorem Zoq (chip op:Int) (h:chip≠2):(Zgk chip op).val=(Zgk 0 op).val:=by
 have h1:rOn chip=false:=by simpa [ZaE] using h
 have h0:rOn 0=false:=rfl;simp only[Zgk,RT.val,h1,h0]
def decT (chip op:Int):Bool:=okB (Zgn chip op).val&&okB (Zgk chip op).val&&(ZqY chip op==Zb chip op)
theorem dec_ok (chip op:Int) (h:inR .u8 op):Znk chip op=true/\ZqY chip op=Zb chip op/\Zm7 chip op=true:=by
 have fin:∀c,decT c op=true->Znk c op=true/\ZqY c op=Zb c op/\Zm7 c op=true:=by intro c hc;simp only[decT,Yb,Yat] at hc;exact⟨hc.1.1,hc.2,hc.1.2⟩
 by_cases hc:chip=2
 ·subst hc;exact fin 2 (ZgB (decT 2) (by kernel_rfl) op h)
 ·have:=fin 0 (ZgB (decT 0) (by kernel_rfl) op h);unfold Znk ZqY Zb Zm7 at this|-;rw[ZUR chip op hc,Zoq chip op hc];exact this
def ZxL:En:=Zg ZHc ZHd (λ_=>none) (λa=>Zdn a.1 a.2)
theorem ZBO:Za prog 220 ZxL:=Znj.tot (λa h=>by simp) (λa h=>ZyY _ _)
def Z3B:En:=Zg ZV0 ZWw (λ_=>none) (λa=>rGet a.1 a.2)
theorem Z0R:Za prog 281 Z3B:=ZVZ.tot (λa h=>by simp) (λa h=>ZUQ _ _)
def Zpt:En:=Zg ZV0 ZWw (λ_=>none) (λa=>rGet a.1 a.2)
theorem Zv1:Za prog 311 Zpt:=ZTz.tot (λa h=>by have h1:=Z61 a.1 a.2;simp[h1]) (λa h=>rfl)
def ZBE:En:=Zg ZU3 ZU4 (λ_=>none) (λa=>rSet a.1 a.2.1 a.2.2)
theorem ZK3:Za prog 290 ZBE:=ZU2.tot (λa h=>by simp) (λa h=>ZUk _ _ _)
def ZVr:En:=Zg ZV0 ZHd (λ_=>none) (λa=>Zan a.1 a.2)
theorem ZVq:Za prog 280 ZVr:=Z0G.tot (λa h=>by simp) (λa h=>Z0b _ _)
def Zhe:En:=Zg ZV0 ZHd (λ_=>none) (λa=>Zan a.1 a.2)
theorem ZjH:Za prog 244 Zhe:=ZZQ.tot (λa h=>by have h1:=Z4P a.1 a.2;simp[h1]) (λa h=>rfl)
def Zcv:En:=Zg Zlk ZU4 (λ_=>none) (λa=>Zm a.1 a.2.1 a.2.2)
theorem Zff:Za prog 291 Zcv:=ZGd.tot (λa h=>by simp) (λa h=>ZFJ _ _ _)
def ZVu:En:=Zg ZVt ZHd (λ_=>none) (λa=>rPSW a.1 a.2)
theorem Z0K:Za prog 288 ZVu:=Z5Z.tot (λa h=>by have h1:=(ZUt a.1 a.2).1;simp[h1]) (λa h=>(ZUt _ _).2)
def ZTe:En:=Zg ZVt ZHd (λ_=>none) (λa=>rPSW a.1 a.2)
theorem ZZT:Za prog 332 ZTe:=Z49.tot (λa h=>by have h1:=Z7M a.1 a.2;simp[h1]) (λa h=>rfl)
def Zp9:En:=Zg Zp7 ZU4 (λ_=>none) (λa=>Zhd a.1 a.2.1 a.2.2)
theorem ZGe:Za prog 299 Zp9:=ZOI.tot (λa h=>by simp) (λa h=>ZOs _ _ _)
def Z6l:En:=Zg Z6j ZxG (λ_=>none) (λa=>rDo a.1 a.2.1 a.2.2.1 a.2.2.2.1 a.2.2.2.2)
theorem Z6k:Za prog 292 Z6l:=Z8r.tot (λa h=>by have h1:=(Z3l a.1 a.2.1 a.2.2.1 a.2.2.2.1 a.2.2.2.2).1;simp[h1]) (λa h=>(Z3l _ _ _ _ _).2)
def ZLl:En:=Zg ZVT ZxG (λ_=>none) (λa=>rInr a.1 a.2.1 a.2.2)
theorem ZLk:Za prog 282 ZLl:=Z59.tot (λa h=>by have h1:=(ZUN a.1 a.2.1 a.2.2).1;simp[h1]) (λa h=>(ZUN _ _ _).2)
def ZLz:En:=Zg ZVT ZxG (λ_=>none) (λa=>rDcr a.1 a.2.1 a.2.2)
theorem ZLy:Za prog 283 ZLz:=Z6o.tot (λa h=>by have h1:=(ZUS a.1 a.2.1 a.2.2).1;simp[h1]) (λa h=>(ZUS _ _ _).2)
def ZVS:En:=Zg ZVQ ZVR (λ_=>none) (λa=>rInx a.1 a.2.1 a.2.2)
theorem Z0P:Za prog 294 ZVS:=Z57.tot (λa h=>by simp) (λa h=>Z5F _ _ _)
def ZWl:En:=Zg ZVQ ZVR (λ_=>none) (λa=>rDcx a.1 a.2.1 a.2.2)
theorem Z0X:Za prog 295 ZWl:=Z6m.tot (λa h=>by simp) (λa h=>Z5I _ _ _)
def ZWr:En:=Zg ZVT ZxG (λ_=>none) (λa=>rDaa a.1 a.2.1 a.2.2)
theorem Z01:Za prog 297 ZWr:=Z6s.tot (λa h=>by have h1:=(ZUT a.1 a.2.1 a.2.2).1;simp[h1]) (λa h=>(ZUT _ _ _).2)
def ZWp:En:=Zg ZWn ZVR (λ_=>none) (λa=>rDad a.1 a.2.1 a.2.2.1 a.2.2.2)
theorem Z0Z:Za prog 296 ZWp:=Z6q.tot (λa h=>by simp) (λa h=>Z5J _ _ _ _ h.2.1 h.2.2.1)
def ZHs:En:=Zg ZHr ZVR (λ_=>none) (λa=>ZA9 a.1 a.2)
theorem ZWf:Za prog 301 ZHs:=Z0U.tot (λa h=>by have h1:=(ZKY a.1 a.2).1;simp[h1]) (λa h=>(ZKY _ _).2)
def ZHw:En:=Zg ZHu ZHv (λ_=>none) (λa=>ZwK a)
theorem ZWy:Za prog 302 ZHw:=Z03.tot (λa h=>by simp) (λa h=>Z0o _)
def ZU9:En:=Zg ZU8 ZK7 (λ_=>none) (λa=>rRot a.1 a.2.1 a.2.2)
theorem Z0A:Za prog 298 ZU9:=Z5P.tot (λa h=>by have h1:=(ZUm a.1 a.2.1 a.2.2).1;simp[h1]) (λa h=>(ZUm _ _ _).2)
def ZSS:En:=Zg ZU8 ZK7 (λ_=>none) (λa=>rRot a.1 a.2.1 a.2.2)
theorem ZZG:Za prog 321 ZSS:=Z44.tot (λa h=>by have h1:=Z7L a.1 a.2.1 a.2.2;simp[h1]) (λa h=>rfl)
def ZGm:En:=Zg ZGk ZGl (λ_=>none) (λa=>ZAU a.1 a.2)
theorem ZVj:Za prog 303 ZGm:=Z0D.tot (λa h=>by simp) (λa h=>ZZ9 _ _ h.1)
def ZEs:En:=Zg ZGk ZGl (λ_=>none) (λa=>ZAU a.1 a.2)
theorem ZS0:Za prog 324 ZEs:=ZZJ.tot (λa h=>by have h1:=Z4N a.1 a.2;simp[h1]) (λa h=>rfl)
def ZVb:En:=Zg ZVa ZK8 (λ_=>none) (λa=>rRim a.1 a.2)
theorem Z0C:Za prog 231 ZVb:=Z5R.tot (λa h=>by have h1:=(ZFK a.1 a.2).1;simp[h1]) (λa h=>(ZFK _ _).2.1)
def Z2H:En:=Zg ZVa ZK8 (λ_=>none) (λa=>rRim a.1 a.2)
theorem ZZH:Za prog 245 Z2H:=Z46.tot (λa h=>by have h1:=(ZFK a.1 a.2).2.2;simp[h1]) (λa h=>rfl)
def ZU1:En:=Zg ZUZ ZU0 (λ_=>none) (λa=>rSim a.1 a.2)
theorem Z0w:Za prog 232 ZU1:=Z5M.tot (λa h=>by simp) (λa h=>Z5z _ _)
def ZLo:En:=Zg ZVs Zqd (λ_=>none) (λa=>Zfe a.1 a.2)
theorem ZOY:Za prog 353 ZLo:=ZVX.tot (λa h=>by simp) (λa h=>Z1A _ _)
def ZBx:En:=Zg ZBC ZHd (λ_=>none) (λa=>Zi a)
theorem ZF7:Za prog 155 ZBx:=ZOD.tot (λa h=>by simp) (λa h=>ZOo _)
def ZBT:En:=Zg ZBA ZGs (λ_=>none) (λa=>Zb a.1 a.2)
theorem ZqX:Za prog 154 ZBT:=ZPD.tot (λa h=>by have h1:=(dec_ok a.1 a.2 h.2).1;simp[h1]) (λa h=>(dec_ok a.1 a.2 h.2).2.1)
def ZBa:En:=Zg ZBA ZGs (λ_=>none) (λa=>Zb a.1 a.2)
theorem Zpw:Za prog 238 ZBa:=ZOj.tot (λa h=>by have h1:=(dec_ok a.1 a.2 h.2).2.2;simp[h1]) (λa h=>rfl)
abbrev Z3T:R:=R.Pq (.int .i64) (R.Pq (.int .i64) (R.Pq (.int .i64) (R.Pq (.int .i64) (R.Pq (.int .i64) (R.Pq (.int .i64) (.int .i64))))))
def ZBU (k:Int):En:=pinE ZBA Z3T (λa=>Zb a.1 a.2) k
theorem ZLw (k:Int):Za Tryz.prog 154 (ZBU k):=ZUO ZqX k
def ZTX (k:Int):En:=pinE ZBA Z3T (λa=>Zb a.1 a.2) k
theorem ZKq (k:Int):Za Tryz.prog 238 (ZTX k):=ZUO Zpw k
def pcOf (c:TC):Int:=c.2.1.2.2.2.2.2.2.2.2.2
def spOf (c:TC):Int:=c.2.1.2.2.2.2.2.2.2.2.1
def rgx (r:TR) (f:TF) (sp pc:Int):TR:=(r.1,r.2.1,r.2.2.1,r.2.2.2.1,r.2.2.2.2.1,r.2.2.2.2.2.1,r.2.2.2.2.2.2.1,f,sp,pc)
def fin3 (g:List Int) (l:List TY):RT (Option (TY×Bool)):=.br (decide (iN (Le g)>=iN (Le l))) (Ls (((0,0,0,0),false))) (.br (Ze (iN (Le g)) (Le l)) (Ls ((R.get RY l (iN (Le g)),true))) Ln)
def ZtZ (s:Int):RT (Bool):=
 .Lf (decide (s>=1)&&decide (s<=4))
def Zf (s:Int):Bool:=(ZtZ s).val
def Zlm:En:=Zg ZBC Zqd (λ_=>none) (λa=>Zf a)
theorem Zmc:Za prog 151 Zlm:=
 pureQ 7 [] [] _ _ trivial Tryz.func151 Tryz.call151 trivial
abbrev Z79:R:=R.Pq Zq (R.Pq R.bool (R.Pq (R.sl Ka) (R.Pq (R.Pq Kc (R.Pq Kc (R.Pq Kc (R.Pq Kc (R.Pq Kc (R.Pq Kc (R.Pq Kc Kc))))))) (R.sl (RY)))))
def qAtT (s:QT1) (n:Int):RT (Option (Int)):=
 .br (!decide (n< ↑(Le s.2.2.1))||Ze n (Le s.2.2.1)) (.br (decide (n< ↑(Le s.2.2.1))) (Ls (R.get Ka s.2.2.1 n)) (Ls (0))) Ln
def qAt (s:QT1) (n:Int):Int:=getO ZWw.Df (qAtT s n).val
def qAtC (s:QT1) (n:Int):Bool:=okB (qAtT s n).val
def qAtE:En:=ZiP Z79 ZBC ZWw (λa=>some (qAtC a.1 a.2)) (λa=>qAt a.1 a.2)
theorem ZjT:Za prog 213 qAtE:=
 ZfL (P:=prog) (n:=31) (k:=8) (l:=[]) (ol:=[]) trivial Tryz.func213 rfl (by kernel_rfl) Tryz.call213 trivial (rb:=Z79) (ts:=ZBC) (rs:=ZWw) (by kernel_rfl) (t:=λa=>qAtT a.1 a.2) (λa=>by kernel_rfl)
def ZBg (s:QT1) (n:Int):RT (Option (Int)):=
 .br (!qAtC s (i64.wrap (n+1))||qAtC s n) (.br (qAtC s (i64.wrap (n+1))) (Ls (Zdn (qAt s (i64.wrap (n+1))) (qAt s n))) Ln) Ln
def Zhm (s:QT1) (n:Int):Int:=getO ZHd.Df (ZBg s n).val
def Zdr (s:QT1) (n:Int):Bool:=okB (ZBg s n).val
def ZpB:En:=ZiP Z79 ZBC ZHd (λa=>some (Zdr a.1 a.2)) (λa=>Zhm a.1 a.2)
theorem ZwM:Za prog 284 ZpB:=
 ZfL (P:=prog) (n:=31) (k:=8) (l:=[(213,qAtE),(220,ZxL)]) (ol:=[]) ⟨ZjT,ZBO,Tv⟩ Tryz.func284 rfl (by kernel_rfl) Tryz.call284 trivial (rb:=Z79) (ts:=ZBC) (rs:=ZHd) (by kernel_rfl) (t:=λa=>ZBg a.1 a.2) (λa=>by kernel_rfl)
abbrev ZBh:List Sh:=[]
def ZKz (s:QT1):RT (Int):=
 .br s.2.1 (.Lf s.1.2.1.2.2.2.2.2.2.2.2.2) (.Lf (u16.wrap (s.1.2.1.2.2.2.2.2.2.2.2.2+u16.wrap s.2.2.2.1.2.1)))
def ZD (s:QT1):Int:=(ZKz s).val
def ZjS:En:=ZiP Z79 ZBh ZHd (λ_=>none) (λa=>ZD a.1)
theorem ZtN:Za prog 227 ZjS:=
 ZhZ (P:=prog) (n:=7) (k:=8) (l:=[]) (ol:=[]) trivial Tryz.func227 rfl (by kernel_rfl) Tryz.call227 trivial (rb:=Z79) (ts:=ZBh) (rs:=ZHd) (by kernel_rfl) (t:=λa=>ZKz a.1) (λa=>by kernel_rfl)
def ZT9 (s:QT1):RT (Bool):=
 .Lf (Zfe s.2.2.2.1.2.2.2.2.2.2.1 s.1.2.1.2.2.2.2.2.2.2.1)
def Ziv (s:QT1):Bool:=(ZT9 s).val
def ZiU:En:=ZiP Z79 ZBh Zqd (λ_=>none) (λa=>Ziv a.1)
theorem Zpz:Za prog 286 ZiU:=
 ZhZ (P:=prog) (n:=7) (k:=8) (l:=[(353,ZLo)]) (ol:=[]) ⟨ZOY,Tv⟩ Tryz.func286 rfl (by kernel_rfl) Tryz.call286 trivial (rb:=Z79) (ts:=ZBh) (rs:=Zqd) (by kernel_rfl) (t:=λa=>ZT9 a.1) (λa=>by kernel_rfl)
def Z77 (s:QT1) (n:Int):RT (Int):=
 .Lf (rGet s.1.2.1 n)
def qReg (s:QT1) (n:Int):Int:=(Z77 s n).val
def ZBf:En:=ZiP Z79 ZBC ZWw (λ_=>none) (λa=>qReg a.1 a.2)
theorem ZwL:Za prog 216 ZBf:=
 ZhZ (P:=prog) (n:=31) (k:=8) (l:=[(281,Z3B)]) (ol:=[]) ⟨Z0R,Tv⟩ Tryz.func216 rfl (by kernel_rfl) Tryz.call216 trivial (rb:=Z79) (ts:=ZBC) (rs:=ZWw) (by kernel_rfl) (t:=λa=>Z77 a.1 a.2) (λa=>by kernel_rfl)
def Z3h (s:QT1) (n:Int):RT (Int):=
 .Lf (Zan s.1.2.1 n)
def ZeJ (s:QT1) (n:Int):Int:=(Z3h s n).val
def Zhk:En:=ZiP Z79 ZBC ZHd (λ_=>none) (λa=>ZeJ a.1 a.2)
theorem ZjN:Za prog 215 Zhk:=
 ZhZ (P:=prog) (n:=31) (k:=8) (l:=[(280,ZVr)]) (ol:=[]) ⟨ZVq,Tv⟩ Tryz.func215 rfl (by kernel_rfl) Tryz.call215 trivial (rb:=Z79) (ts:=ZBC) (rs:=ZHd) (by kernel_rfl) (t:=λa=>Z3h a.1 a.2) (λa=>by kernel_rfl)
def ZjQ (s:QT1):RT (Option (Int)):=
 .br (qAtC s 1) (Ls (bif s.2.2.2.1.1==14 then (rInr s.1.1 (qAt s 1) s.1.2.1.2.2.2.2.2.2.2.1).1 else (rDcr s.1.1 (qAt s 1) s.1.2.1.2.2.2.2.2.2.2.1).1)) Ln
def ZjR (s:QT1):Int:=getO ZWw.Df (ZjQ s).val
def Zhn (s:QT1):Bool:=okB (ZjQ s).val
def ZpC:En:=ZiP Z79 ZBh ZWw (λa=>some (Zhn a.1)) (λa=>ZjR a.1)
theorem ZFG:Za prog 218 ZpC:=
 ZfL (P:=prog) (n:=15) (k:=8) (l:=[(213,qAtE),(282,ZLl),(283,ZLz)]) (ol:=[]) ⟨ZjT,ZLk,ZLy,Tv⟩ Tryz.func218 rfl (by kernel_rfl) Tryz.call218 trivial (rb:=Z79) (ts:=ZBh) (rs:=ZWw) (by kernel_rfl) (t:=λa=>ZjQ a.1) (λa=>by kernel_rfl)
def ZjO (s:QT1):RT (Option (Int)):=
 let x1:=s.2.2.2.1.1==13||s.2.2.2.1.2.2.2.1==6
 .br (!x1||qAtC s 1) (.br (x1) (Ls (qAt s 1)) (Ls (qReg s s.2.2.2.1.2.2.2.1))) Ln
def ZjP (s:QT1):Int:=getO ZWw.Df (ZjO s).val
def Zhl (s:QT1):Bool:=okB (ZjO s).val
def ZpA:En:=ZiP Z79 ZBh ZWw (λa=>some (Zhl a.1)) (λa=>ZjP a.1)
theorem ZFE:Za prog 293 ZpA:=
 ZfL (P:=prog) (n:=7) (k:=8) (l:=[(213,qAtE),(216,ZBf)]) (ol:=[]) ⟨ZjT,ZwL,Tv⟩ Tryz.func293 rfl (by kernel_rfl) Tryz.call293 trivial (rb:=Z79) (ts:=ZBh) (rs:=ZWw) (by kernel_rfl) (t:=λa=>ZjO a.1) (λa=>by kernel_rfl)
abbrev Z8I:R:=R.Pq Zq (R.Pq R.bool (R.Pq (R.sl Ka) (R.sl (RY))))
def mAtT (s:QT5) (n:Int):RT (Option (Int)):=
 .br (!decide (n< ↑(Le s.2.2.1))||Ze n (Le s.2.2.1)) (.br (decide (n< ↑(Le s.2.2.1))) (Ls (R.get Ka s.2.2.1 n)) (Ls (0))) Ln
def mAt (s:QT5) (n:Int):Int:=getO ZWw.Df (mAtT s n).val
def mAtC (s:QT5) (n:Int):Bool:=okB (mAtT s n).val
def mAtE:En:=ZiP Z8I ZBC ZWw (λa=>some (mAtC a.1 a.2)) (λa=>mAt a.1 a.2)
theorem ZCw:Za prog 239 mAtE:=
 ZfL (P:=prog) (n:=31) (k:=8) (l:=[]) (ol:=[]) trivial Tryz.func239 rfl (by kernel_rfl) Tryz.call239 trivial (rb:=Z8I) (ts:=ZBC) (rs:=ZWw) (by kernel_rfl) (t:=λa=>mAtT a.1 a.2) (λa=>by kernel_rfl)
def ZLQ (s:QT5) (n:Int):RT (Option (Int)):=
 .br (!mAtC s (i64.wrap (n+1))||mAtC s n) (.br (mAtC s (i64.wrap (n+1))) (Ls (Zdn (mAt s (i64.wrap (n+1))) (mAt s n))) Ln) Ln
def Zfq (s:QT5) (n:Int):Int:=getO ZHd.Df (ZLQ s n).val
def ZcK (s:QT5) (n:Int):Bool:=okB (ZLQ s n).val
def Zrq:En:=ZiP Z8I ZBC ZHd (λa=>some (ZcK a.1 a.2)) (λa=>Zfq a.1 a.2)
theorem ZyM:Za prog 310 Zrq:=
 ZfL (P:=prog) (n:=31) (k:=8) (l:=[(239,mAtE),(325,Zpq)]) (ol:=[]) ⟨ZCw,ZjJ,Tv⟩ Tryz.func310 rfl (by kernel_rfl) Tryz.call310 trivial (rb:=Z8I) (ts:=ZBC) (rs:=ZHd) (by kernel_rfl) (t:=λa=>ZLQ a.1 a.2) (λa=>by kernel_rfl)
def ZLZ (s:QT5) (n:Int):RT (Int):=
 .br s.2.1 (.Lf s.1.2.1.2.2.2.2.2.2.2.2.2) (.Lf (u16.wrap (s.1.2.1.2.2.2.2.2.2.2.2.2+u16.wrap n)))
def Zz (s:QT5) (n:Int):Int:=(ZLZ s n).val
def Zid:En:=ZiP Z8I ZBC ZHd (λ_=>none) (λa=>Zz a.1 a.2)
theorem ZlA:Za prog 243 Zid:=
 ZhZ (P:=prog) (n:=31) (k:=8) (l:=[]) (ol:=[]) trivial Tryz.func243 rfl (by kernel_rfl) Tryz.call243 trivial (rb:=Z8I) (ts:=ZBC) (rs:=ZHd) (by kernel_rfl) (t:=λa=>ZLZ a.1 a.2) (λa=>by kernel_rfl)
abbrev ZLS:List Sh:=[Sh.agg (R.Pq Kc (R.Pq Kc (R.Pq Kc (R.Pq Kc (R.Pq Kc (R.Pq Kc (R.Pq Kc Kc)))))))]
def ZXc (s:QT5) (i:QT7):RT (Bool):=
 .Lf (Zfe i.2.2.2.2.2.2.1 s.1.2.1.2.2.2.2.2.2.2.1)
def Zfh (s:QT5) (i:QT7):Bool:=(ZXc s i).val
def Zi1:En:=ZiP Z8I ZLS Zqd (λ_=>none) (λa=>Zfh a.1 a.2)
theorem Zrs:Za prog 309 Zi1:=
 ZhZ (P:=prog) (n:=31) (k:=8) (l:=[(365,ZTy)]) (ol:=[]) ⟨ZTx,Tv⟩ Tryz.func309 rfl (by kernel_rfl) Tryz.call309 trivial (rb:=Z8I) (ts:=ZLS) (rs:=Zqd) (by kernel_rfl) (t:=λa=>ZXc a.1 a.2) (λa=>by kernel_rfl)
abbrev Ztm:List Sh:=[Sh.agg Zq,Sh.agg (R.Pq Kc (R.Pq Kc (R.Pq Kc (R.Pq Kc (R.Pq Kc (R.Pq Kc (R.Pq Kc Kc))))))),So Ka]
def ZAD (c:TC) (i:QT7) (v:Int):RT (QT3):=
 .br (i.1==14) (.Lf (rInr c.1 v c.2.1.2.2.2.2.2.2.2.1)) (.Lf (rDcr c.1 v c.2.1.2.2.2.2.2.2.2.1))
def Zh0 (c:TC) (i:QT7) (v:Int):QT3:=(ZAD c i v).val
def Zha:En:=Zg Ztm ZxG (λ_=>none) (λa=>Zh0 a.1 a.2.1 a.2.2)
theorem Zoy:Za prog 316 Zha:=
 pureQ 255 [(372,Z70),(373,Z76)] [] _ _ ⟨Z5f,Z5p,Tv⟩ Tryz.func316 Tryz.call316 trivial
def ZHf (chip:Int) (op:Int):RT (Int):=
 .br ((Zb chip op).1==2) (.br (!chip==2&&((Zb chip op).2.2.1 !=6&&(Zb chip op).2.2.2.1 !=6)) (.Lf (5)) (.Lf (4))) (.br (bif (Zb chip op).1==14 then (Zb chip op).1==14 else (Zb chip op).1==15) (.br (!chip==2&&(Zb chip op).2.2.1 !=6) (.Lf (5)) (.Lf (4))) (.br ((Zb chip op).1==37) (.br (chip==2) (.Lf (5)) (.Lf (4))) (.br ((Zb chip op).1==26) (.br ((Zb chip op).2.2.2.2.2.2.1==11) (.Lf (4)) (.br (chip==2) (.Lf (6)) (.Lf (5)))) (.br (bif (Zb chip op).1==16 then (Zb chip op).1==16 else bif (Zb chip op).1==17 then (Zb chip op).1==17 else bif (Zb chip op).1==28 then (Zb chip op).1==28 else bif (Zb chip op).1==29 then (Zb chip op).1==29 else bif (Zb chip op).1==25 then (Zb chip op).1==25 else bif (Zb chip op).1==27 then (Zb chip op).1==27 else bif (Zb chip op).1==45 then (Zb chip op).1==45 else (Zb chip op).1==30) (.br (chip==2) (.Lf (6)) (.Lf (5))) (.Lf (4))))))
def Zt0 (chip:Int) (op:Int):Int:=(ZHf chip op).val
def Z6d:En:=Zg ZBA Z3u (λ_=>none) (λa=>Zt0 a.1 a.2)
theorem ZV2:Za prog 84 Z6d:=
 pureQ 72842913792127 [(154,ZBT)] [] _ _ ⟨ZqX,Tv⟩ Tryz.func84 Tryz.call84 trivial
def ZFp (chip:Int) (op:Int):RT (Int):=
 let x1:=bif (Zb chip op).1==14 then (Zb chip op).1==14 else (Zb chip op).1==15
 let x2:= !(Zb chip op).1==2&&(!x1&&((bif (Zb chip op).1==16 then (Zb chip op).1==16 else bif (Zb chip op).1==17 then (Zb chip op).1==17 else bif (Zb chip op).1==28 then (Zb chip op).1==28 else bif (Zb chip op).1==29 then (Zb chip op).1==29 else bif (Zb chip op).1==25 then (Zb chip op).1==25 else bif (Zb chip op).1==27 then (Zb chip op).1==27 else bif (Zb chip op).1==30 then (Zb chip op).1==30 else (Zb chip op).1==45)||(Zb chip op).1==26&&(Zb chip op).2.2.2.2.2.2.1 !=11))
 .br (rOn chip&&x2) (.Lf (6)) (.br (rOn chip&&(Zb chip op).1==37) (.Lf (5)) (.br (!rOn chip&&(x2||bif (Zb chip op).1==2 then (Zb chip op).2.2.1 !=6&&(Zb chip op).2.2.2.1 !=6 else x1&&(Zb chip op).2.2.1 !=6)) (.Lf (5)) (.Lf (4))))
def ZgG (chip:Int) (op:Int):Int:=(ZFp chip op).val
def ZFq:En:=Zg ZBA Z3u (λ_=>none) (λa=>ZgG a.1 a.2)
theorem ZA8:Za prog 168 ZFq:=
 pureQ 144687209545474303 [(171,rOnE),(238,ZBa)] [] _ _ ⟨ZeI,Zpw,Tv⟩ Tryz.func168 Tryz.call168 trivial
def ZHb (c:TC) (l:QT0):RT TC:=
 .br (c.1 !=2)
 (.Lf (c))
 (.Lf ((c.1,c.2.1,c.2.2.1,c.2.2.2.1,c.2.2.2.2.1,c.2.2.2.2.2.1,l.2.2.2.2.1&&(c.2.2.2.2.2.2.1|| !c.2.2.2.2.2.2.2.2.1),c.2.2.2.2.2.2.2.1||l.2.2.2.2.2.1&& !c.2.2.2.2.2.2.2.2.2.1,l.2.2.2.2.1,l.2.2.2.2.2.1,c.2.2.2.2.2.2.2.2.2.2)))
def ZVO (c:TC) (l:QT0):TC:=(ZHb c l).val
def Z56:En:=Zg ZVa ZU0 (λ_=>none) (λa=>ZVO a.1 a.2)
theorem ZVN:Za prog 191 Z56:=
 pureQ 31 [] [] _ _ trivial Tryz.func191 Tryz.call191 trivial
def Zv0 (c:TC) (l:QT0):RT TC:=
 .br (!rOn c.1)
 (.Lf (c))
 (.Lf ((c.1,c.2.1,c.2.2.1,c.2.2.2.1,c.2.2.2.2.1,c.2.2.2.2.2.1,l.2.2.2.2.1&&(c.2.2.2.2.2.2.1|| !c.2.2.2.2.2.2.2.2.1),c.2.2.2.2.2.2.2.1||l.2.2.2.2.2.1&& !c.2.2.2.2.2.2.2.2.2.1,l.2.2.2.2.1,l.2.2.2.2.2.1,c.2.2.2.2.2.2.2.2.2.2)))
def Zh (c:TC) (l:QT0):TC:=(Zv0 c l).val
def Zpp:En:=Zg ZVa ZU0 (λ_=>none) (λa=>Zh a.1 a.2)
theorem Zpo:Za prog 187 Zpp:=
 pureQ 31 [(171,rOnE)] [] _ _ ⟨ZeI,Tv⟩ Tryz.func187 Tryz.call187 trivial
def ZVo (c:TC) (l:QT0):RT (Int):=
 .br (c.1==2&&c.2.2.2.2.2.2.1)
 (.Lf (1))
 (.br (!c.2.2.1||c.2.2.2.1)
  (.Lf (0))
  (.br (c.1==2&&(c.2.2.2.2.2.2.2.1&&andI u8 c.2.2.2.2.2.1 4==0))
  (.Lf (2))
  (.br (c.1==2&&(l.2.2.2.2.2.2.1&&andI u8 c.2.2.2.2.2.1 2==0))
   (.Lf (3))
   (.br (c.1==2&&(l.2.2.2.2.2.2.2.1&&andI u8 c.2.2.2.2.2.1 1==0))
   (.Lf (4))
   (.br l.2.2.2.2.2.2.2.2
    (.Lf (5))
    (.Lf (0)))))))
def Z5X (c:TC) (l:QT0):Int:=(ZVo c l).val
def Z8j:En:=Zg ZVa Z3u (λ_=>none) (λa=>Z5X a.1 a.2)
theorem Z0F:Za prog 194 Z8j:=
 pureQ 576601524159939135 [] [] _ _ trivial Tryz.func194 Tryz.call194 trivial
def ZAW (c:TC) (l:QT0):RT (Int):=
 .br (rOn c.1&&c.2.2.2.2.2.2.1)
 (.Lf (1))
 (.br (!c.2.2.1||c.2.2.2.1)
  (.Lf (0))
  (.br (rOn c.1&&(c.2.2.2.2.2.2.2.1&&andI u8 c.2.2.2.2.2.1 4==0))
  (.Lf (2))
  (.br (rOn c.1&&(l.2.2.2.2.2.2.1&&andI u8 c.2.2.2.2.2.1 2==0))
   (.Lf (3))
   (.br (rOn c.1&&(l.2.2.2.2.2.2.2.1&&andI u8 c.2.2.2.2.2.1 1==0))
   (.Lf (4))
   (.br l.2.2.2.2.2.2.2.2
    (.Lf (5))
    (.Lf (0)))))))
def ZcU (c:TC) (l:QT0):Int:=(ZAW c l).val
def ZS9:En:=Zg ZVa Z3u (λ_=>none) (λa=>ZcU a.1 a.2)
theorem ZJ1:Za prog 261 ZS9:=
 pureQ 576601524159939135 [(171,rOnE)] [] _ _ ⟨ZeI,Tv⟩ Tryz.func261 Tryz.call261 trivial
abbrev Zq0:List Sh:=[Sh.agg Zq,So Kc]
def Znm (c:TC) (s:Int):RT TC:=
 .br (decide (s<1)||decide (s>5))
 (.Lf (c))
 (.Lf ((c.1,c.2.1,false,false,false,c.2.2.2.2.2.1,!s==1&&c.2.2.2.2.2.2.1,bif s==1 then c.2.2.2.2.2.2.2.1 else !s==2&&c.2.2.2.2.2.2.2.1,c.2.2.2.2.2.2.2.2.1,c.2.2.2.2.2.2.2.2.2.1,s==1||c.2.2.2.2.2.2.2.2.2.2.1,bif s==1 then c.2.2.1 else c.2.2.2.2.2.2.2.2.2.2.2.1,c.2.2.2.2.2.2.2.2.2.2.2.2)))
def Zyz (c:TC) (s:Int):TC:=(Znm c s).val
def Z05:En:=Zg Zq0 ZU0 (λ_=>none) (λa=>Zyz a.1 a.2)
theorem ZPF:Za prog 81 Z05:=
 pureQ 1056799 [] [] _ _ trivial Tryz.func81 Tryz.call81 trivial
def Zm9 (c:TC) (s:Int):RT TC:=
 .br (decide (s<1)||decide (s>5))
 (.Lf (c))
 (.Lf ((c.1,c.2.1,false,false,false,c.2.2.2.2.2.1,!s==1&&c.2.2.2.2.2.2.1,!s==2&&c.2.2.2.2.2.2.2.1,c.2.2.2.2.2.2.2.2.1,c.2.2.2.2.2.2.2.2.2.1,s==1||c.2.2.2.2.2.2.2.2.2.2.1,bif s==1 then c.2.2.1 else c.2.2.2.2.2.2.2.2.2.2.2.1,c.2.2.2.2.2.2.2.2.2.2.2.2)))
def Zbo (c:TC) (s:Int):TC:=(Zm9 c s).val
def ZKv:En:=Zg Zq0 ZU0 (λ_=>none) (λa=>Zbo a.1 a.2)
theorem ZOl:Za prog 163 ZKv:=
 pureQ 31 [] [] _ _ trivial Tryz.func163 Tryz.call163 trivial
abbrev Zxl:List Sh:=[Sh.agg Zq]
def ZGh (c:TC):RT TC:=
 .Lf ((c.1,(c.2.1.1,c.2.1.2.1,c.2.1.2.2.1,c.2.1.2.2.2.1,c.2.1.2.2.2.2.1,c.2.1.2.2.2.2.2.1,c.2.1.2.2.2.2.2.2.1,c.2.1.2.2.2.2.2.2.2.1,c.2.1.2.2.2.2.2.2.2.2.1,0),false,false,false,bif c.1==2 then 7 else 0,false,false,false,false,false,false,false))
def ZVd (c:TC):TC:=(ZGh c).val
def Z5T:En:=Zg Zxl ZU0 (λ_=>none) (λa=>ZVd a)
theorem ZVc:Za prog 80 Z5T:=
 pureQ 15 [] [] _ _ trivial Tryz.func80 Tryz.call80 trivial
def Zk9 (c:TC):RT TC:=
 .Lf ((c.1,(c.2.1.1,c.2.1.2.1,c.2.1.2.2.1,c.2.1.2.2.2.1,c.2.1.2.2.2.2.1,c.2.1.2.2.2.2.2.1,c.2.1.2.2.2.2.2.2.1,c.2.1.2.2.2.2.2.2.2.1,c.2.1.2.2.2.2.2.2.2.2.1,0),false,false,false,bif rOn c.1 then 7 else 0,false,false,false,false,false,false,false))
def Z3 (c:TC):TC:=(Zk9 c).val
def ZEo:En:=Zg Zxl ZU0 (λ_=>none) (λa=>Z3 a)
theorem ZAS:Za prog 96 ZEo:=
 pureQ 15 [(171,rOnE)] [] _ _ ⟨ZeI,Tv⟩ Tryz.func96 Tryz.call96 trivial
def ZvA (k:Int):RT (Bool):=
 .Lf (k==1||(k==2||(k==4||(k==6||(k==8||k==9)))))
def Zbi (k:Int):Bool:=(ZvA k).val
def ZoE:En:=Zg ZBC Zqd (λ_=>none) (λa=>Zbi a)
theorem ZjE:Za prog 167 ZoE:=
 pureQ 7 [] [] _ _ trivial Tryz.func167 Tryz.call167 trivial
def ZGi (k:Int):RT (Bool):=
 .br (bif k==1 then k==1 else bif k==2 then k==2 else bif k==4 then k==4 else bif k==6 then k==6 else bif k==8 then k==8 else k==9)
 (.Lf (true))
 (.Lf (false))
def ZVf (k:Int):Bool:=(ZGi k).val
def Z5U:En:=Zg ZBC Zqd (λ_=>none) (λa=>ZVf a)
theorem ZVe:Za prog 83 Z5U:=
 pureQ 23 [] [] _ _ trivial Tryz.func83 Tryz.call83 trivial
def Zvm (k:Int):RT (Bool):=
 .Lf (k==3||(k==5||k==7))
def Zce (k:Int):Bool:=(Zvm k).val
def Zvn:En:=Zg ZBC Zqd (λ_=>none) (λa=>Zce a)
theorem Ztk:Za prog 179 Zvn:=
 pureQ 7 [] [] _ _ trivial Tryz.func179 Tryz.call179 trivial
def Zw9 (k:Int):RT (Bool):=
 .Lf (k==3||(k==5||k==7))
def ZF2 (k:Int):Bool:=(Zw9 k).val
def Z0p:En:=Zg ZBC Zqd (λ_=>none) (λa=>ZF2 a)
theorem ZOA:Za prog 139 Z0p:=
 pureQ 7 [] [] _ _ trivial Tryz.func139 Tryz.call139 trivial
def Zxf (k:Int):RT (Int):=
 .br (k==1)
 (.Lf (162))
 (.br (k==2)
  (.Lf (130))
  (.br (k==4)
  (.Lf (134))
  (.br (k==5)
   (.Lf (4))
   (.br (k==6)
   (.Lf (66))
   (.br (k==7)
    (.Lf (16))
    (.br (k==8)
    (.Lf (35))
    (.br (k==9)
     (.Lf (3))
     (.br (k==10)
     (.Lf (138))
     (.Lf (0))))))))))
def ZGc (k:Int):Int:=(Zxf k).val
def Z0v:En:=Zg ZBC ZWw (λ_=>none) (λa=>ZGc a)
theorem ZOH:Za prog 212 Z0v:=
 pureQ 1398103 [] [] _ _ trivial Tryz.func212 Tryz.call212 trivial
def Zvv (k:Int):RT (Int):=
 .br (k==1)
 (.Lf (162))
 (.br (k==2)
  (.Lf (130))
  (.br (k==4)
  (.Lf (134))
  (.br (k==5)
   (.Lf (4))
   (.br (k==6)
   (.Lf (66))
   (.br (k==7)
    (.Lf (16))
    (.br (k==8)
    (.Lf (35))
    (.br (k==9)
     (.Lf (3))
     (.br (k==10)
     (.Lf (138))
     (.Lf (0))))))))))
def Zk8 (k:Int):Int:=(Zvv k).val
def ZJD:En:=Zg ZBC ZWw (λ_=>none) (λa=>Zk8 a)
theorem ZNg:Za prog 340 ZJD:=
 pureQ 1398103 [] [] _ _ trivial Tryz.func340 Tryz.call340 trivial
abbrev ZqT:Rs:=Rs.tup [So R.bool,So R.bool,So R.bool]
def ZxI (k:Int):RT (QT33):=
 .br (k==1)
 (.Lf ((false,true,true)))
 (.br (bif k==2 then k==2 else bif k==4 then k==4 else k==11)
  (.Lf ((false,true,false)))
  (.br (bif k==3 then k==3 else k==5)
  (.Lf ((false,false,true)))
  (.br (k==6)
   (.Lf ((true,true,false)))
   (.br (k==7)
   (.Lf ((true,false,true)))
   (.br (bif k==8 then k==8 else bif k==9 then k==9 else k==12)
    (.Lf ((true,true,true)))
    (.Lf ((false,false,false))))))))
def ZHa (k:Int):QT33:=(ZxI k).val
def Z0O:En:=Zg ZBC ZqT (λ_=>none) (λa=>ZHa a)
theorem ZOW:Za prog 211 Z0O:=
 pureQ 692575 [] [] _ _ trivial Tryz.func211 Tryz.call211 trivial
def ZvZ (k:Int):RT (QT33):=
 .br (k==1)
 (.Lf ((false,true,true)))
 (.br (bif k==2 then k==2 else bif k==4 then k==4 else k==11)
  (.Lf ((false,true,false)))
  (.br (bif k==3 then k==3 else k==5)
  (.Lf ((false,false,true)))
  (.br (k==6)
   (.Lf ((true,true,false)))
   (.br (k==7)
   (.Lf ((true,false,true)))
   (.br (bif k==8 then k==8 else bif k==9 then k==9 else k==12)
    (.Lf ((true,true,true)))
    (.Lf ((false,false,false))))))))
def Zfo (k:Int):QT33:=(ZvZ k).val
def ZKb:En:=Zg ZBC ZqT (λ_=>none) (λa=>Zfo a)
theorem ZNE:Za prog 339 ZKb:=
 pureQ 692575 [] [] _ _ trivial Tryz.func339 Tryz.call339 trivial
def ZqZ (k:Int):RT (Bool):=
 .Lf (k !=10&&(k !=11&&k !=12))
def Zyy (k:Int):Bool:=(ZqZ k).val
def ZWE:En:=Zg ZBC Zqd (λ_=>none) (λa=>Zyy a)
theorem ZHy:Za prog 189 ZWE:=
 pureQ 7 [] [] _ _ trivial Tryz.func189 Tryz.call189 trivial
def Zpy (k:Int):RT (Bool):=
 .Lf (k !=10&&(k !=11&&k !=12))
def Z6 (k:Int):Bool:=(Zpy k).val
def ZBc:En:=Zg ZBC Zqd (λ_=>none) (λa=>Z6 a)
theorem ZFD:Za prog 58 ZBc:=
 pureQ 7 [] [] _ _ trivial Tryz.func58 Tryz.call58 trivial
theorem Z1i (c l):ZVO c l=Zh c l:=by simp only[ZVO,ZHb,Zh,Zv0,RT.val,ZaE,bne]
theorem Z5H (c l):Z5X c l=ZcU c l:=by simp[Z5X,ZVo,ZcU,ZAW,RT.val,ZaE]
theorem ZYI (c) (s:Int):Zyz c s=Zbo c s:=by
 by_cases h:s=1
 ·subst h;simp[Zyz,Znm,Zbo,Zm9,RT.val]
 ·have h':(s==1)=false:=by simpa using h
  simp[Zyz,Znm,Zbo,Zm9,RT.val,h']
theorem ZZv (c):ZVd c=Z3 c:=by simp[ZVd,ZGh,Z3,Zk9,RT.val,ZaE]
theorem ZZw (k):ZVf k=Zbi k:=by simp[ZVf,ZGi,Zbi,ZvA,RT.val]
theorem ZQw (k):ZF2 k=Zce k:=by simp[ZF2,Zw9,Zce,Zvm,RT.val]
theorem ZR9 (k):ZGc k=Zk8 k:=by simp[ZGc,Zxf,Zk8,Zvv,RT.val]
theorem ZXl (k):ZHa k=Zfo k:=by simp[ZHa,ZxI,Zfo,ZvZ,RT.val]
theorem ZQr (k):Zyy k=Z6 k:=by simp[Zyy,ZqZ,Z6,Zpy,RT.val]
def ZLh:En:=Zg ZVa ZU0 (λ_=>none) (λa=>Zh a.1 a.2)
theorem ZOX:Za prog 191 ZLh:=ZVN.tot (λa h=>by simp) (λa h=>Z1i _ _)
def Zxs:En:=Zg ZVa Z3u (λ_=>none) (λa=>ZcU a.1 a.2)
theorem ZBJ:Za prog 194 Zxs:=Z0F.tot (λa h=>by simp) (λa h=>Z5H _ _)
def ZBY:En:=Zg Zq0 ZU0 (λ_=>none) (λa=>Zbo a.1 a.2)
theorem ZHz:Za prog 81 ZBY:=ZPF.tot (λa h=>by simp) (λa h=>ZYI _ _)
def Zxn:En:=Zg Zxl ZU0 (λ_=>none) (λa=>Z3 a)
theorem ZtY:Za prog 80 Zxn:=ZVc.tot (λa h=>by simp) (λa h=>ZZv _)
def Zem:En:=Zg ZBC Zqd (λ_=>none) (λa=>Zbi a)
theorem ZfR:Za prog 83 Zem:=ZVe.tot (λa h=>by simp) (λa h=>ZZw _)
def ZdY:En:=Zg ZBC Zqd (λ_=>none) (λa=>Zce a)
theorem Zgm:Za prog 139 ZdY:=ZOA.tot (λa h=>by simp) (λa h=>ZQw _)
def Zp2:En:=Zg ZBC ZWw (λ_=>none) (λa=>Zk8 a)
theorem ZGb:Za prog 212 Zp2:=ZOH.tot (λa h=>by simp) (λa h=>ZR9 _)
def ZqU:En:=Zg ZBC ZqT (λ_=>none) (λa=>Zfo a)
theorem ZG9:Za prog 211 ZqU:=ZOW.tot (λa h=>by simp) (λa h=>ZXl _)
def Zt3:En:=Zg ZBC Zqd (λ_=>none) (λa=>Z6 a)
theorem ZBX:Za prog 189 Zt3:=ZHy.tot (λa h=>by simp) (λa h=>ZQr _)
def Zcz:En:=.tree (Zt (envX prog [] [] 7 8) Tryz.f146)
theorem ZeZ:Za prog 146 Zcz:=ZL trivial Tryz.func146 rfl (by kernel_rfl) Tryz.call146 trivial
def ZbE:En:=.tree (Zt (envX prog [] [] 7 8) Tryz.f147)
theorem ZdN:Za prog 147 ZbE:=ZL trivial Tryz.func147 rfl (by kernel_rfl) Tryz.call147 trivial
def ZhH:En:=.tree (Zt (envX prog [(83,Zem),(139,ZdY),(146,Zcz),(147,ZbE),(211,ZqU)] [] 63 8) Tryz.f148)
theorem ZlW:Za prog 148 ZhH:=ZL ⟨ZfR,Zgm,ZeZ,ZdN,ZG9,Tv⟩ Tryz.func148 rfl (by kernel_rfl) Tryz.call148 trivial
def Zf5:En:=.tree (Zt (envX prog [(83,Zem),(139,ZdY),(147,ZbE),(212,Zp2)] [] 63 8) Tryz.f149)
theorem Zi8:Za prog 149 Zf5:=ZL ⟨ZfR,Zgm,ZdN,ZGb,Tv⟩ Tryz.func149 rfl (by kernel_rfl) Tryz.call149 trivial
abbrev ZVk:List Sh:=[So Kc,Sh.agg (R.Pq Kc (R.Pq (RY) (R.Pq Ka (R.Pq Kb (R.Pq R.bool R.bool)))))]
abbrev ZVm:Rs:=Rs.one (Sh.agg (R.Pq Kc (R.Pq Kb (R.Pq Ka (R.Pq R.bool (R.Pq R.bool (R.Pq R.bool (R.Pq R.bool (R.Pq R.bool (R.Pq R.bool (R.Pq R.bool rcF7)))))))))))
def ZVl (chip:Int) (s:Int×TY×Int×Int×Bool×Bool):RT (QT10):=
 let x1:Int:=bif decide (s.1>=1)&&decide (s.1<=7) then s.2.1.2.1 else 0
 let x2:=s.1==2||(s.1==7||s.1==3)
 let x3:=x2&&Zce s.2.1.1
 let x4:Int:=bif s.1==3&&Zbi s.2.1.1 then s.2.2.1 else bif x3 then s.2.1.2.2.1 else 0
 let x5:=s.1==1&&(s.2.1.1 !=11&&s.2.1.1 !=12)
 .br (chip==2)
 (.Lf ((s.1,x1,bif s.1==1 then u8.wrap s.2.1.2.1 else x4,false,false,false,false,s.1==1,decide (s.1>=1)&&decide (s.1<=7)&&(Zfo s.2.1.1).1,decide (s.1>=1)&&decide (s.1<=7)&&(Zfo s.2.1.1).2.1,decide (s.1>=1)&&decide (s.1<=7)&&(Zfo s.2.1.1).2.2,x2&&(Zbi s.2.1.1&& !(s.2.1.1==8||s.2.1.1==9)),x2&&(s.2.1.1==8||s.2.1.1==9),s.2.2.2.2.2,x3,s.1==8,s.1==8||(s.1==9||s.1==10))))
 (.Lf ((s.1,bif s.1==9 then s.2.2.2.1 else x1,bif x5 then Zk8 s.2.1.1 else x4,x5,x2&&Zbi s.2.1.1,s.1==7||s.1==9,s.2.2.2.2.1,false,false,false,false,false,false,false,bif s.1==7 then Zce s.2.1.1 else s.1==3&&Zce s.2.1.1,s.1==8,s.1==8)))
def ZVn (chip:Int) (s:Int×TY×Int×Int×Bool×Bool):QT10:=(ZVl chip s).val
def Z3r:En:=Zg ZVk ZVm (λ_=>none) (λa=>ZVn a.1 a.2)
theorem Z0E:Za prog 79 Z3r:=
 pureQ 63 [(83,Zem),(139,ZdY),(146,Zcz),(147,ZbE),(148,ZhH),(149,Zf5)] [] _ _ ⟨ZfR,Zgm,ZeZ,ZdN,ZlW,Zi8,Tv⟩ Tryz.func79 Tryz.call79 trivial
abbrev ZS5:List Sh:=[So Kc,So Kc,Sh.agg (RY),So Ka,So R.bool,So R.bool]
def ZoG (chip:Int) (t:Int) (x:QT12) (d:Int) (i:Bool) (o:Bool):RT (QT10):=
 let x1:QT25:=(!rOn chip&&bif rOn chip then i else i,false,false,false,false,false,false,bif !rOn chip then rOn chip&&o else rOn chip&&o,false,false,rOn chip)
 let x2:=(t==2||(t==7||t==3))&&Zce x.1
 let x3:Int:=bif t==3&&Zbi x.1 then d else bif x2 then x.2.2.1 else 0
 .br (t==8)
 (.Lf ((t,0,0,false,false,false,!rOn chip&&bif rOn chip then i else i,false,false,false,false,false,false,bif !rOn chip then rOn chip&&o else rOn chip&&o,false,true,true)))
 (.br (t==9)
  (.Lf ((t,bif !rOn chip then x.2.1 else 0,0,false,false,!rOn chip,x1)))
  (.br (t==10)
  (.Lf ((t,0,0,false,false,false,x1)))
  (.br (rOn chip)
   (.Lf ((t,x.2.1,bif t==1 then u8.wrap x.2.1 else x3,false,false,false,!rOn chip&&bif rOn chip then i else i,t==1,(Zfo x.1).1,(Zfo x.1).2.1,(Zfo x.1).2.2,(t==2||(t==7||t==3))&&(Zbi x.1&& !(x.1==8||x.1==9)),(t==2||(t==7||t==3))&&(x.1==8||x.1==9),bif !rOn chip then rOn chip&&o else rOn chip&&o,x2,false,false)))
   (.Lf ((t,x.2.1,bif t==1&&(x.1 !=11&&x.1 !=12) then Zk8 x.1 else x3,t==1&&(x.1 !=11&&x.1 !=12),(t==2||(t==7||t==3))&&Zbi x.1,t==7,!rOn chip&&bif rOn chip then i else i,false,false,false,false,false,false,bif !rOn chip then rOn chip&&o else rOn chip&&o,Zce x.1&&(t==7||t==3),false,false))))))
def ZgK (chip:Int) (t:Int) (x:QT12) (d:Int) (i:Bool) (o:Bool):QT10:=(ZoG chip t x d i o).val
def Z2J:En:=Zg ZS5 ZVm (λ_=>none) (λa=>ZgK a.1 a.2.1 a.2.2.1 a.2.2.2.1 a.2.2.2.2.1 a.2.2.2.2.2)
theorem ZZP:Za prog 259 Z2J:=
 pureQ 302250189878107155464191 [(167,ZoE),(171,rOnE),(179,Zvn),(339,ZKb),(340,ZJD)] [] _ _ ⟨ZjE,ZeI,Ztk,ZNE,ZNg,Tv⟩ Tryz.func259 Tryz.call259 trivial
abbrev ZWu:List Sh:=[Sh.agg (R.Pq Zq (R.Pq Kc (R.Pq (R.sl Ka) (R.Pq (RY) (R.Pq Kc R.bool)))))]
def Z3D (c:QT2):RT (Bool):=
 let x1:=decide (iN (Le c.2.2.1)>0)||c.2.1 !=0
 .Lf (bif decide (c.2.2.2.2.1>=2) then decide (c.2.2.2.2.1<=7)||x1 else x1)
def Zyx (c:QT2):Bool:=(Z3D c).val
def ZBV:En:=Zg ZWu Zqd (λ_=>none) (λa=>Zyx a)
theorem ZLB:Za prog 144 ZBV:=
 pureQ 7 [] [] _ _ trivial Tryz.func144 Tryz.call144 trivial
def Z3a (c:QT2):RT (Bool):=
 let x1:=decide (iN (Le c.2.2.1)>0)||c.2.1 !=0
 .Lf (bif decide (c.2.2.2.2.1>=2) then decide (c.2.2.2.2.1<=7)||x1 else x1)
def Zhi (c:QT2):Bool:=(Z3a c).val
def ZBb:En:=Zg ZWu Zqd (λ_=>none) (λa=>Zhi a)
theorem ZwH:Za prog 113 ZBb:=
 pureQ 7 [] [] _ _ trivial Tryz.func113 Tryz.call113 trivial
def Zc2:En:=.tree (Zt (envX prog [] [] 31 8) Tryz.f115)
theorem Ze6:Za prog 115 Zc2:=ZL trivial Tryz.func115 rfl (by kernel_rfl) Tryz.call115 trivial
abbrev ZSK:List Sh:=[Sh.agg (R.Pq Zq (R.Pq Kc (R.Pq (R.sl Ka) (R.Pq (RY) (R.Pq Kc R.bool))))),Sh.agg (R.Pq Zq (R.Pq Kc (R.Pq (R.sl Ka) (R.Pq (RY) (R.Pq Kc R.bool)))))]
def ZSL (a:QT2) (b:QT2):RT (Bool):=
 let x1:=a.1.2.1.2.2.2.2.2.2.2.1.2.2
 let x2:=b.1.2.1.2.2.2.2.2.2.2.1.2.2
 let x3:=x1.2
 let x4:=x2.2
 let x5:=x3.2
 let x6:=x4.2
 let x7:=x5.2
 let x8:=x6.2
 .Lf (a.1.1==b.1.1&&(a.1.2.1.1==b.1.2.1.1&&(a.1.2.1.2.1==b.1.2.1.2.1&&(a.1.2.1.2.2.1==b.1.2.1.2.2.1&&(a.1.2.1.2.2.2.1==b.1.2.1.2.2.2.1&&(a.1.2.1.2.2.2.2.1==b.1.2.1.2.2.2.2.1&&(a.1.2.1.2.2.2.2.2.1==b.1.2.1.2.2.2.2.2.1&&(a.1.2.1.2.2.2.2.2.2.1==b.1.2.1.2.2.2.2.2.2.1&&(a.1.2.1.2.2.2.2.2.2.2.1.1==b.1.2.1.2.2.2.2.2.2.2.1.1&&(a.1.2.1.2.2.2.2.2.2.2.1.2.1==b.1.2.1.2.2.2.2.2.2.2.1.2.1&&(x1.1==x2.1&&(x3.1==x4.1&&(x5.1==x6.1&&(x7.1==x8.1&&(x7.2==x8.2&&(a.1.2.1.2.2.2.2.2.2.2.2.1==b.1.2.1.2.2.2.2.2.2.2.2.1&&(a.1.2.1.2.2.2.2.2.2.2.2.2==b.1.2.1.2.2.2.2.2.2.2.2.2&&(a.1.2.2.1==b.1.2.2.1&&(a.1.2.2.2.1==b.1.2.2.2.1&&(a.1.2.2.2.2.1==b.1.2.2.2.2.1&&(a.1.2.2.2.2.2.1==b.1.2.2.2.2.2.1&&(a.1.2.2.2.2.2.2.1==b.1.2.2.2.2.2.2.1&&(a.1.2.2.2.2.2.2.2.1==b.1.2.2.2.2.2.2.2.1&&(a.1.2.2.2.2.2.2.2.2.1==b.1.2.2.2.2.2.2.2.2.1&&(a.1.2.2.2.2.2.2.2.2.2.1==b.1.2.2.2.2.2.2.2.2.2.1&&(a.1.2.2.2.2.2.2.2.2.2.2.1==b.1.2.2.2.2.2.2.2.2.2.2.1&&(a.1.2.2.2.2.2.2.2.2.2.2.2.1==b.1.2.2.2.2.2.2.2.2.2.2.2.1&&(a.1.2.2.2.2.2.2.2.2.2.2.2.2==b.1.2.2.2.2.2.2.2.2.2.2.2.2&&true)))))))))))))))))))))))))))&&(a.2.1==b.2.1&&(ByteArray.toList (ZAa a.2.2.1)==ByteArray.toList (ZAa b.2.2.1)&&(a.2.2.2.1.1==b.2.2.2.1.1&&(a.2.2.2.1.2.1==b.2.2.2.1.2.1&&(a.2.2.2.1.2.2.1==b.2.2.2.1.2.2.1&&(a.2.2.2.1.2.2.2==b.2.2.2.1.2.2.2&&true)))&&(a.2.2.2.2.1==b.2.2.2.2.1&&a.2.2.2.2.2==b.2.2.2.2.2)))))
def ZEn (a:QT2) (b:QT2):Bool:=(ZSL a b).val
def Z2G:En:=Zg ZSK Zqd (λ_=>none) (λa=>ZEn a.1 a.2)
theorem ZZF:Za prog 106 Z2G:=
 pureQ 31 [(115,Zc2)] [] _ _ ⟨Ze6,Tv⟩ Tryz.func106 Tryz.call106 trivial
theorem ZUM (chip t:Int) (h1:1<=t) (h2:t<=10) (x:QT12) (d d' pc:Int) (i o:Bool) (hd:t≠10->d'=d):
  ZVn chip (t,x,d,pc,i,o)=ZgK chip t (bif t==9 then (0,pc,0,0) else x) d' i o:=by
 obtain⟨x1,x2,x3,x4⟩:=x;simp only[ZVn,ZVl,ZgK,ZoG,RT.val,ZaE];generalize (chip==2)=b;have:t=1\/t=2\/t=3\/t=4\/t=5\/t=6\/t=7\/t=8\/t=9\/t=10:=by omega
 by_cases h:t=10
 ·subst h;cases b<;>simp
 ·rw[hd h];rcases this with rfl|rfl|rfl|rfl|rfl|rfl|rfl|rfl|rfl|rfl<;>cases b<;>simp<;>(try cases Zce x1)<;>(try cases Zbi x1)<;>simp
