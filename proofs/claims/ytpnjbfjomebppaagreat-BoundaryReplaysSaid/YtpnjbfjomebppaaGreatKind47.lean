import Derived.Test.YtpnjbfjomebppaaGreatPinsEq
import Derived.Test.YtpnjbfjomebppaaGreatS3Nil
set_option linter.unusedVariables false
set_option linter.unusedSimpArgs false
open Go Go.S3 Go.Proofs
set_option maxRecDepth 100000
namespace Go.Proofs.YtpnjbfjomebppaaGreat
noncomputable section
end
end Go.Proofs.YtpnjbfjomebppaaGreat
open Go.IntKind (u8 u16 i64)
namespace Go.Proofs.YtpnjbfjomebppaaGreat
noncomputable section
abbrev Cyc:=QT11
abbrev cycR:R:=R.Pq Kc (R.Pq Kb (R.Pq Ka Kc))
theorem Zbi (st) (n:Int) (h:0<=n):qAtC st n=true/\qAt st n=st.2.2.1.getD n.toNat 0:=by
 by_cases hn:n<(st.2.2.1.length:Int)
 ·simp[qAtC,qAt,qAtT,RT.val,iN,Le,Ze,h,hn,okB,getO,R.get,R.Df]
 ·have:st.2.2.1.length<=n.toNat:=by omega
  simp[qAtC,qAt,qAtT,RT.val,iN,Le,Ze,h,hn,okB,getO,R.get,R.Df,Yq,YO this]
theorem Zby (st) (n:Int) (h:0<=n):mAtC st n=true/\mAt st n=st.2.2.1.getD n.toNat 0:=by
 by_cases hn:n<(st.2.2.1.length:Int)
 ·simp[mAtC,mAt,mAtT,RT.val,iN,Le,Ze,h,hn,okB,getO,R.get,R.Df]
 ·have:st.2.2.1.length<=n.toNat:=by omega
  simp[mAtC,mAt,mAtT,RT.val,iN,Le,Ze,h,hn,okB,getO,R.get,R.Df,Yq,YO this]
theorem qat0 (st):qAtC st 0=true/\qAt st 0=st.2.2.1.getD 0 0:=Zbi st 0 (by decide)
theorem qat1 (st):qAtC st 1=true/\qAt st 1=st.2.2.1.getD 1 0:=Zbi st 1 (by decide)
theorem mat0 (st):mAtC st 0=true/\mAt st 0=st.2.2.1.getD 0 0:=Zby st 0 (by decide)
theorem mat1 (st):mAtC st 1=true/\mAt st 1=st.2.2.1.getD 1 0:=Zby st 1 (by decide)
theorem rg0 (g:List Int):R.get (.int .u8) g 0=g.getD 0 0:=rfl
def pick (l:List Cyc) (n:Nat):Cyc×Bool:=(l.getD n (0,0,0,0),decide (n<l.length))
theorem pk (l:List Cyc) (n:Nat):(cond (decide (iN n>=iN l.length)) (some (((0,0,0,0):Cyc),false)) (cond (Ze (iN n) l.length) (some (R.get cycR l (iN n),true)) none))=some (pick l n):=by
 by_cases h:n<l.length
 ·have h1:¬(l.length:Int)<=n:=by omega
  simp[pick,h,h1,Ze,iN,Le,R.get,R.Df]
 ·have h1:(l.length:Int)<=n:=by omega
  simp[pick,h,h1,Ze,iN,Le]
theorem ZbF (x:Cyc) (l) (n:Nat):pick (x::l) (n+1)=pick l n:=by simp[pick]
theorem ZbE (x:Cyc) (l):pick (x::l) 0=(x,true):=by simp[pick]
theorem Zq (s:Int):Zf s=Zc s:=rfl
theorem len0 (g:List Int) (a:Int):(iN (a::g).length==0)=false/\decide (iN (a::g).length>0)=true/\Ze 0 (a::g).length=true:=by
 have:((g.length:Int)+1==0)=false:=by simp;omega
 simp[iN,Le,Ze,this]
theorem ZpE:(iN ([]:List Int).length==0)=true/\decide (iN ([]:List Int).length>0)=false/\Ze 0 ([]:List Int).length=false:=by decide
theorem ZX (s) (n):Zd0 s n=Zab s.1.2.1 n:=rfl
theorem Z5 (s) (n):qReg s n=rGet s.1.2.1 n:=rfl
theorem ZD (s):ZhA s=Zen s.2.2.2.1.2.2.2.2.2.2.1 s.1.2.1.2.2.2.2.2.2.2.1:=rfl
theorem ZE (s i):Zeq s i=Zen i.2.2.2.2.2.2.1 s.1.2.1.2.2.2.2.2.2.2.1:=rfl
theorem Zt (s):ZA s=cond s.2.1 s.1.2.1.2.2.2.2.2.2.2.2.2 (IntKind.wrap .u16 (s.1.2.1.2.2.2.2.2.2.2.2.2+IntKind.wrap .u16 s.2.2.2.1.2.1)):=rfl
theorem Zu (s n):Zw s n=cond s.2.1 s.1.2.1.2.2.2.2.2.2.2.2.2 (IntKind.wrap .u16 (s.1.2.1.2.2.2.2.2.2.2.2.2+IntKind.wrap .u16 n)):=rfl
theorem ZbM:IntKind.wrap .i64 2=2/\IntKind.wrap .i64 4=4:=by decide
theorem ZaK (s):ZcA s 1=true/\Zgq s 1=Zcx (s.2.2.1.getD 2 0) (s.2.2.1.getD 1 0):=by simp[ZcA,Zgq,ZyK,RT.val,ZbM,Zbi s 2 (by decide),Zbi s 1 (by decide),okB,getO]
theorem Zcg (s):ZcA s 3=true/\Zgq s 3=Zcx (s.2.2.1.getD 4 0) (s.2.2.1.getD 3 0):=by simp[ZcA,Zgq,ZyK,RT.val,ZbM,Zbi s 4 (by decide),Zbi s 3 (by decide),okB,getO]
theorem ZaN (s):Zb3 s 1=true/\Zew s 1=Zcx (s.2.2.1.getD 2 0) (s.2.2.1.getD 1 0):=by simp[Zb3,Zew,ZHV,RT.val,ZbM,Zby s 2 (by decide),Zby s 1 (by decide),okB,getO]
theorem ZaL (s):Zgr s=true/\Zi0 s=cond (s.2.2.2.1.1==14) (rInr s.1.1 (s.2.2.1.getD 1 0) s.1.2.1.2.2.2.2.2.2.2.1).1 (rDcr s.1.1 (s.2.2.1.getD 1 0) s.1.2.1.2.2.2.2.2.2.2.1).1:=by simp[Zgr,Zi0,ZiZ,RT.val,qat1,okB,getO]
theorem Zp (c i v):Zg2 c i v=cond (i.1==14) (rInr c.1 v c.2.1.2.2.2.2.2.2.2.1) (rDcr c.1 v c.2.1.2.2.2.2.2.2.2.1):=rfl
abbrev FlgT:=Bool×Bool×Bool×Bool×Bool×Bool×Bool
abbrev RegT:=Int×Int×Int×Int×Int×Int×Int×FlgT×Int×Int
abbrev CpuT:=Int×RegT×Bool×Bool×Bool×Int×Bool×Bool×Bool×Bool×Bool×Bool×Bool
abbrev InsT:=QT6
def opC (c:CpuT) (inj:Bool) (k:Int):Cyc:=bif inj then (9,pcOf c,0,3) else (2,IntKind.wrap .u16 (pcOf c+IntKind.wrap .u16 k),0,3)
def Zch (c:CpuT) (w:Int):List Cyc:=[(5,IntKind.wrap .u16 (spOf c-1),IntKind.wrap .u8 (shrI .u16 w 8),3),(5,IntKind.wrap .u16 (spOf c-2),IntKind.wrap .u8 w,3)]
def popX (c:CpuT):List Cyc:=[(4,spOf c,0,3),(4,IntKind.wrap .u16 (spOf c+1),0,3)]
def ZH (c:CpuT) (inj:Bool) (i:InsT):Int:=bif inj then pcOf c else IntKind.wrap .u16 (pcOf c+IntKind.wrap .u16 i.2.1)
def Zbe (c:CpuT) (i:InsT):Bool:=Zen i.2.2.2.2.2.2.1 c.2.1.2.2.2.2.2.2.2.1
def ZiE (a:Int):List Cyc:=[(2,a,0,3),(2,IntKind.wrap .u16 (a+1),0,3)]
def Zei (c:CpuT) (a:Int):List Cyc:=[(3,a,c.2.1.2.2.2.2.2.2.1,3),(3,IntKind.wrap .u16 (a+1),c.2.1.2.2.2.2.2.1,3)]
def Zcj (c:CpuT) (inj:Bool) (i:InsT):List Cyc:=bif c.1==2&& !Zbe c i then [opC c inj 1] else [opC c inj 1,opC c inj 2]
def Za3 (g:List Int) (n:Nat):Int:=Zcx (g.getD (n+1) 0) (g.getD n 0)
def Zh6 (c:CpuT):Cyc:=(11,pcOf c,0,3)
def ZfL (c:CpuT) (i:InsT) (v:Int):Int:=bif i.1==14 then (rInr c.1 v c.2.1.2.2.2.2.2.2.2.1).1 else (rDcr c.1 v c.2.1.2.2.2.2.2.2.2.1).1
def ZjB (c:CpuT) (inj:Bool) (g:List Int) (i:InsT):List Cyc:=
 let hl:=Zab c.2.1 2
 let dst:=i.2.2.1
 let src:=i.2.2.2.1
 let pr:=i.2.2.2.2.1
 bif i.1==2 then (bif src==6 then [(2,hl,0,3)] else bif dst==6 then [(3,hl,rGet c.2.1 src,3)] else []) else
 bif i.1==3 then opC c inj 1::(bif dst==6 then [(3,hl,g.getD 1 0,3)] else []) else
 bif i.1==4 then [opC c inj 1,opC c inj 2] else
 bif i.1==5 then [opC c inj 1,opC c inj 2,(2,Za3 g 1,0,3)] else
 bif i.1==6 then [opC c inj 1,opC c inj 2,(3,Za3 g 1,c.2.1.1,3)] else
 bif i.1==7 then opC c inj 1::opC c inj 2::ZiE (Za3 g 1) else
 bif i.1==8 then opC c inj 1::opC c inj 2::Zei c (Za3 g 1) else
 bif i.1==9 then [(2,Zab c.2.1 pr,0,3)] else
 bif i.1==10 then [(3,Zab c.2.1 pr,c.2.1.1,3)] else
 bif i.1==12 then (bif src==6 then [(2,hl,0,3)] else []) else
 bif i.1==13 then [opC c inj 1] else
 bif i.1==14||i.1==15 then (bif dst==6 then [(2,hl,0,3),(3,hl,ZfL c i (g.getD 1 0),3)] else []) else
 bif i.1==18||i.1==40||i.1==42 then [Zh6 c,Zh6 c] else
 bif i.1==24 then Zcj c inj i else
 bif i.1==25 then Zcj c inj i++(bif Zbe c i then Zch c (ZH c inj i) else []) else
 bif i.1==26 then (bif Zbe c i then popX c else []) else
 bif i.1==27 then Zch c (ZH c inj i) else
 bif i.1==45 then (bif Zbe c i then Zch c (ZH c inj i) else []) else
 bif i.1==30 then Zch c (bif pr==3 then rPSW c.1 c.2.1 else Zab c.2.1 pr) else
 bif i.1==31 then popX c else
 bif i.1==32 then popX c++[(5,IntKind.wrap .u16 (spOf c+1),c.2.1.2.2.2.2.2.1,3),(5,spOf c,c.2.1.2.2.2.2.2.2.1,bif c.1==2 then 3 else 5)] else
 bif i.1==33 then [opC c inj 1,(6,Zcx (g.getD 1 0) (g.getD 1 0),0,3)] else
 bif i.1==34 then [opC c inj 1,(7,Zcx (g.getD 1 0) (g.getD 1 0),c.2.1.1,3)] else
 bif i.1==37 then (bif c.1==2 then [] else [(10,pcOf c,0,3)]) else
 bif i.1==41 then [Zh6 c] else
 bif i.1==43||i.1==44 then [opC c inj 1,Zh6 c] else
 bif i.1==46 then Zei c (Zab c.2.1 1) else
 bif i.1==47 then ZiE (Zab c.2.1 1) else
 []
def Zh0 (c:CpuT) (s:Int) (g:List Int):List Cyc:=
 bif Zc s then (12,pcOf c,0,6)::Zch c (pcOf c)
 else (bif s==5 then 8 else 1,pcOf c,0,4)::match g with
  |[]=>[]
  |o::_=>ZjB c (s==5) g (Zb c.1 o)
def Zi (c:CpuT) (s:Int) (g:List Int):Cyc×Bool:=pick (Zh0 c s g) g.length
def sk (x:Cyc):Cyc:=(x.1,0,0,x.2.2.2)
def ZSf (c op:Int):Bool:=decide (1<=(Zb c op).1)&&decide ((Zb c op).1<=47)
theorem Zws (c op:Int) (h:inR .u8 op):1<=(Zb c op).1/\(Zb c op).1<=47:=by
 have fin:ZSf c op=true->1<=(Zb c op).1/\(Zb c op).1<=47:=by intro hc;simpa [ZSf] using hc
 by_cases hc:c=2
 ·subst hc;exact fin (ZfC (ZSf 2) (by kernel_rfl) op h)
 ·have h0:=ZfC (ZSf 0) (by kernel_rfl) op h;have e:Zb c op=Zb 0 op:=by unfold Zb;rw[ZmU c op hc]
  refine fin ?_;simp only[ZSf,e] at h0|-;exact h0
theorem Zww {g:List Int} (h:(R.sl (.int .u8)).ok g):inR .u8 (g.getD 0 0):=by
 cases g with
 |nil=>rw[ZgH];simp
 |cons x l=>exact h.2 x (by simp)
theorem Zwr {n:Int} (h1:1<=n) (h2:n<=47):n=1\/n=2\/n=3\/n=4\/n=5\/n=6\/n=7\/n=8\/n=9\/n=10\/n=11\/n=12\/n=13\/n=14\/n=15\/n=16\/n=17\/n=18\/n=19\/n=20\/n=21\/n=22\/n=23\/n=24\/n=25\/n=26\/n=27\/n=28\/n=29\/n=30\/n=31\/n=32\/n=33\/n=34\/n=35\/n=36\/n=37\/n=38\/n=39\/n=40\/n=41\/n=42\/n=43\/n=44\/n=45\/n=46\/n=47:=by omega
