import Derived.Test.YtpnjbfjomebppaaGreatPinsEq
import Derived.Test.YtpnjbfjomebppaaGreatS3Nil
set_option linter.unusedVariables false
set_option linter.unusedSimpArgs false
open Go Go.S3 Go.Proofs
set_option maxRecDepth 100000
namespace Go.Proofs.YtpnjbfjomebppaaGreat
noncomputable section
end
end Go.Proofs.YtpnjbfjomebppaaGreat
open Go.IntKind (u8 u16 i64)
namespace Go.Proofs.YtpnjbfjomebppaaGreat
noncomputable section
abbrev Cyc:=QT11
abbrev cycR:R:=R.Pq (R.int i64) (R.Pq (R.int u16) (R.Pq (R.int u8) (R.int i64)))
theorem ZcW (st) (n:Int) (h:0<=n):qAtC st n=true/\qAt st n=st.2.2.1.getD n.toNat 0:=by
 by_cases hn:n<(st.2.2.1.length:Int)
 ·simp[qAtC,qAt,qAtT,RT.val,iN,Ze,h,hn,okB,getO,R.get,R.Df]
 ·have:st.2.2.1.length<=n.toNat:=by omega
  simp[qAtC,qAt,qAtT,RT.val,iN,Ze,h,hn,okB,getO,R.get,R.Df,Yo,YM this]
theorem ZdL (st) (n:Int) (h:0<=n):mAtC st n=true/\mAt st n=st.2.2.1.getD n.toNat 0:=by
 by_cases hn:n<(st.2.2.1.length:Int)
 ·simp[mAtC,mAt,mAtT,RT.val,iN,Ze,h,hn,okB,getO,R.get,R.Df]
 ·have:st.2.2.1.length<=n.toNat:=by omega
  simp[mAtC,mAt,mAtT,RT.val,iN,Ze,h,hn,okB,getO,R.get,R.Df,Yo,YM this]
theorem qat0 (st):qAtC st 0=true/\qAt st 0=st.2.2.1.getD 0 0:=ZcW st 0 (by decide)
theorem qat1 (st):qAtC st 1=true/\qAt st 1=st.2.2.1.getD 1 0:=ZcW st 1 (by decide)
theorem mat0 (st):mAtC st 0=true/\mAt st 0=st.2.2.1.getD 0 0:=ZdL st 0 (by decide)
theorem mat1 (st):mAtC st 1=true/\mAt st 1=st.2.2.1.getD 1 0:=ZdL st 1 (by decide)
theorem rg0 (g:List Int):R.get (.int .u8) g 0=g.getD 0 0:=rfl
def pick (l:List Cyc) (n:Nat):Cyc×Bool:=(l.getD n (0,0,0,0),decide (n<l.length))
theorem pk (l:List Cyc) (n:Nat):(cond (decide (iN n>=iN l.length)) (some (((0,0,0,0):Cyc),false)) (cond (Ze (iN n) l.length) (some (R.get cycR l (iN n),true)) none))=some (pick l n):=by
 by_cases h:n<l.length
 ·have h1:¬(l.length:Int)<=n:=by omega
  simp[pick,h,h1,Ze,iN,R.get,R.Df]
 ·have h1:(l.length:Int)<=n:=by omega
  simp[pick,h,h1,Ze,iN]
theorem Zbp (x:Cyc) (l) (n:Nat):pick (x::l) (n+1)=pick l n:=by simp[pick]
theorem Zbo (x:Cyc) (l):pick (x::l) 0=(x,true):=by simp[pick]
theorem Zz (s:Int):Zh s=Za s:=rfl
theorem len0 (g:List Int) (a:Int):(iN (a::g).length==0)=false/\decide (iN (a::g).length>0)=true/\Ze 0 (a::g).length=true:=by
 have:((g.length:Int)+1==0)=false:=by simp;omega
 simp[iN,Ze,this]
theorem ZlP:(iN ([]:List Int).length==0)=true/\decide (iN ([]:List Int).length>0)=false/\Ze 0 ([]:List Int).length=false:=by decide
theorem Zag (s) (n):Zk5 s n=Zae s.1.2.1 n:=rfl
theorem ZaM (s) (n):qReg s n=rGet s.1.2.1 n:=rfl
theorem ZY (s):Zsc s=Zf4 s.2.2.2.1.2.2.2.2.2.2.1 s.1.2.1.2.2.2.2.2.2.2.1:=rfl
theorem ZZ (s i):ZdM s i=Zf4 i.2.2.2.2.2.2.1 s.1.2.1.2.2.2.2.2.2.2.1:=rfl
theorem ZL (s):ZpK s=cond s.2.1 s.1.2.1.2.2.2.2.2.2.2.2.2 (IntKind.wrap .u16 (s.1.2.1.2.2.2.2.2.2.2.2.2+IntKind.wrap .u16 s.2.2.2.1.2.1)):=rfl
theorem ZM (s n):Zq s n=cond s.2.1 s.1.2.1.2.2.2.2.2.2.2.2.2 (IntKind.wrap .u16 (s.1.2.1.2.2.2.2.2.2.2.2.2+IntKind.wrap .u16 n)):=rfl
theorem Zc2:IntKind.wrap .i64 2=2/\IntKind.wrap .i64 4=4:=by decide
theorem ZbK (s):Zhd s 1=true/\Zse s 1=ZcG (s.2.2.1.getD 2 0) (s.2.2.1.getD 1 0):=by simp[Zhd,Zse,Zy2,RT.val,Zc2,ZcW s 2 (by decide),ZcW s 1 (by decide),okB,getO]
theorem Zf6 (s):Zhd s 3=true/\Zse s 3=ZcG (s.2.2.1.getD 4 0) (s.2.2.1.getD 3 0):=by simp[Zhd,Zse,Zy2,RT.val,Zc2,ZcW s 4 (by decide),ZcW s 3 (by decide),okB,getO]
theorem ZbN (s):ZbM s 1=true/\ZdW s 1=ZcG (s.2.2.1.getD 2 0) (s.2.2.1.getD 1 0):=by simp[ZbM,ZdW,Zzz,RT.val,Zc2,ZdL s 2 (by decide),ZdL s 1 (by decide),okB,getO]
theorem ZaF (s):Zhe s=true/\Zjm s=cond (s.2.2.2.1.1==14) (rInr s.1.1 (s.2.2.1.getD 1 0) s.1.2.1.2.2.2.2.2.2.2.1).1 (rDcr s.1.1 (s.2.2.1.getD 1 0) s.1.2.1.2.2.2.2.2.2.2.1).1:=by simp[Zhe,Zjm,Zk7,RT.val,qat1,okB,getO]
theorem Zy (c i v):ZfA c i v=cond (i.1==14) (rInr c.1 v c.2.1.2.2.2.2.2.2.2.1) (rDcr c.1 v c.2.1.2.2.2.2.2.2.2.1):=rfl
abbrev FlgT:=Bool×Bool×Bool×Bool×Bool×Bool×Bool
abbrev RegT:=Int×Int×Int×Int×Int×Int×Int×FlgT×Int×Int
abbrev CpuT:=Int×RegT×Bool×Bool×Bool×Int×Bool×Bool×Bool×Bool×Bool×Bool×Bool
abbrev InsT:=QT5
def opC (c:CpuT) (inj:Bool) (k:Int):Cyc:=bif inj then (9,pcOf c,0,3) else (2,IntKind.wrap .u16 (pcOf c+IntKind.wrap .u16 k),0,3)
def Zb5 (c:CpuT) (w:Int):List Cyc:=[(5,IntKind.wrap .u16 (spOf c-1),IntKind.wrap .u8 (shrI .u16 w 8),3),(5,IntKind.wrap .u16 (spOf c-2),IntKind.wrap .u8 w,3)]
def popX (c:CpuT):List Cyc:=[(4,spOf c,0,3),(4,IntKind.wrap .u16 (spOf c+1),0,3)]
def ZO (c:CpuT) (inj:Bool) (i:InsT):Int:=bif inj then pcOf c else IntKind.wrap .u16 (pcOf c+IntKind.wrap .u16 i.2.1)
def Za0 (c:CpuT) (i:InsT):Bool:=Zf4 i.2.2.2.2.2.2.1 c.2.1.2.2.2.2.2.2.2.1
def ZgS (a:Int):List Cyc:=[(2,a,0,3),(2,IntKind.wrap .u16 (a+1),0,3)]
def Zdj (c:CpuT) (a:Int):List Cyc:=[(3,a,c.2.1.2.2.2.2.2.2.1,3),(3,IntKind.wrap .u16 (a+1),c.2.1.2.2.2.2.2.1,3)]
def ZbE (c:CpuT) (inj:Bool) (i:InsT):List Cyc:=bif c.1==2&& !Za0 c i then [opC c inj 1] else [opC c inj 1,opC c inj 2]
def ZbB (g:List Int) (n:Nat):Int:=ZcG (g.getD (n+1) 0) (g.getD n 0)
def Zfg (c:CpuT):Cyc:=(11,pcOf c,0,3)
def Zem (c:CpuT) (i:InsT) (v:Int):Int:=bif i.1==14 then (rInr c.1 v c.2.1.2.2.2.2.2.2.2.1).1 else (rDcr c.1 v c.2.1.2.2.2.2.2.2.2.1).1
def Zfp (c:CpuT) (inj:Bool) (g:List Int) (i:InsT):List Cyc:=
 let hl:=Zae c.2.1 2
 let dst:=i.2.2.1
 let src:=i.2.2.2.1
 let pr:=i.2.2.2.2.1
 bif i.1==2 then (bif src==6 then [(2,hl,0,3)] else bif dst==6 then [(3,hl,rGet c.2.1 src,3)] else []) else
 bif i.1==3 then opC c inj 1::(bif dst==6 then [(3,hl,g.getD 1 0,3)] else []) else
 bif i.1==4 then [opC c inj 1,opC c inj 2] else
 bif i.1==5 then [opC c inj 1,opC c inj 2,(2,ZbB g 1,0,3)] else
 bif i.1==6 then [opC c inj 1,opC c inj 2,(3,ZbB g 1,c.2.1.1,3)] else
 bif i.1==7 then opC c inj 1::opC c inj 2::ZgS (ZbB g 1) else
 bif i.1==8 then opC c inj 1::opC c inj 2::Zdj c (ZbB g 1) else
 bif i.1==9 then [(2,Zae c.2.1 pr,0,3)] else
 bif i.1==10 then [(3,Zae c.2.1 pr,c.2.1.1,3)] else
 bif i.1==12 then (bif src==6 then [(2,hl,0,3)] else []) else
 bif i.1==13 then [opC c inj 1] else
 bif i.1==14||i.1==15 then (bif dst==6 then [(2,hl,0,3),(3,hl,Zem c i (g.getD 1 0),3)] else []) else
 bif i.1==18||i.1==40||i.1==42 then [Zfg c,Zfg c] else
 bif i.1==24 then ZbE c inj i else
 bif i.1==25 then ZbE c inj i++(bif Za0 c i then Zb5 c (ZO c inj i) else []) else
 bif i.1==26 then (bif Za0 c i then popX c else []) else
 bif i.1==27 then Zb5 c (ZO c inj i) else
 bif i.1==45 then (bif Za0 c i then Zb5 c (ZO c inj i) else []) else
 bif i.1==30 then Zb5 c (bif pr==3 then rPSW c.1 c.2.1 else Zae c.2.1 pr) else
 bif i.1==31 then popX c else
 bif i.1==32 then popX c++[(5,IntKind.wrap .u16 (spOf c+1),c.2.1.2.2.2.2.2.1,3),(5,spOf c,c.2.1.2.2.2.2.2.2.1,bif c.1==2 then 3 else 5)] else
 bif i.1==33 then [opC c inj 1,(6,ZcG (g.getD 1 0) (g.getD 1 0),0,3)] else
 bif i.1==34 then [opC c inj 1,(7,ZcG (g.getD 1 0) (g.getD 1 0),c.2.1.1,3)] else
 bif i.1==37 then (bif c.1==2 then [] else [(10,pcOf c,0,3)]) else
 bif i.1==41 then [Zfg c] else
 bif i.1==43||i.1==44 then [opC c inj 1,Zfg c] else
 bif i.1==46 then Zdj c (Zae c.2.1 1) else
 bif i.1==47 then ZgS (Zae c.2.1 1) else
 []
def ZdV (c:CpuT) (s:Int) (g:List Int):List Cyc:=
 bif Za s then (12,pcOf c,0,6)::Zb5 c (pcOf c)
 else (bif s==5 then 8 else 1,pcOf c,0,4)::match g with
  |[]=>[]
  |o::_=>Zfp c (s==5) g (Zc c.1 o)
def Zg (c:CpuT) (s:Int) (g:List Int):Cyc×Bool:=pick (ZdV c s g) g.length
def sk (x:Cyc):Cyc:=(x.1,0,0,x.2.2.2)
def ZGs (c op:Int):Bool:=decide (1<=(Zc c op).1)&&decide ((Zc c op).1<=47)
theorem ZGr (c op:Int) (h:inR .u8 op):1<=(Zc c op).1/\(Zc c op).1<=47:=by
 have fin:ZGs c op=true->1<=(Zc c op).1/\(Zc c op).1<=47:=by intro hc;simpa [ZGs] using hc
 by_cases hc:c=2
 ·subst hc;exact fin (ZhH (ZGs 2) (by kernel_rfl) op h)
 ·have h0:=ZhH (ZGs 0) (by kernel_rfl) op h;have e:Zc c op=Zc 0 op:=by unfold Zc;rw[Zrw c op hc]
  refine fin ?_;simp only[ZGs,e] at h0|-;exact h0
theorem ZGI {g:List Int} (h:(R.sl (.int .u8)).ok g):inR .u8 (g.getD 0 0):=by
 cases g with
 |nil=>rw[Zhx];simp
 |cons x l=>exact h.2 x (by simp)
theorem ZGq {n:Int} (h1:1<=n) (h2:n<=47):n=1\/n=2\/n=3\/n=4\/n=5\/n=6\/n=7\/n=8\/n=9\/n=10\/n=11\/n=12\/n=13\/n=14\/n=15\/n=16\/n=17\/n=18\/n=19\/n=20\/n=21\/n=22\/n=23\/n=24\/n=25\/n=26\/n=27\/n=28\/n=29\/n=30\/n=31\/n=32\/n=33\/n=34\/n=35\/n=36\/n=37\/n=38\/n=39\/n=40\/n=41\/n=42\/n=43\/n=44\/n=45\/n=46\/n=47:=by omega
end
end Go.Proofs.YtpnjbfjomebppaaGreat
