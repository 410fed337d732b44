import Derived.Test.YteaflmalcclnoaaGreatDoorPinsEq
import Derived.Test.YteaflmalcclnoaaGreatDoorS3F
set_option linter.unusedVariables false
set_option linter.unusedSimpArgs false
open Go Go.S3 Go.Proofs
open Go.S3.R (Pq)
set_option maxRecDepth 100000
namespace Go.Proofs.YteaflmalcclnoaaGreatDoor
noncomputable section
abbrev ZkQ:En:=Zrj (.int .u8) 5
theorem Zpz:Za Tryz.prog 79 ZkQ:=
 Zri (P:=Tryz.prog) (n:=15) (k:=8) (l:=[]) (ol:=[]) trivial Tryz.func79 rfl (by kernel_rfl) Tryz.call79 trivial
  (λm=>⟨{chk:=none,v:=.w (.one .nilsl),m:=m,bd:=[],sd:=[]},by kernel_rfl,rfl,rfl⟩)
  (λm l h=>⟨{chk:=none,v:=.w (.one (.tip (len m.Sg) 0)),m:={m with Sg:=m.Sg++[ZhZ (.int .u8) 5 l]},bd:=[],sd:=[]},by
   have e:(Zo (envX Tryz.prog [] [] 15 8) Tryz.f79 [.w (.one (.lst (.int .u8) false false true l))] m).val=cond (Nat.ble ([]++l).length most) (some {chk:=none,v:=.w (.one (.tip (len m.Sg) 0)),m:={m with Sg:=m.Sg++[ZhZ (.int .u8) 5 ([]++l)]},bd:=[],sd:=[]}) none:=by kernel_rfl
   rw[e,List.nil_append,h];rfl,rfl,rfl⟩)
end
end Go.Proofs.YteaflmalcclnoaaGreatDoor
open Go.IntKind (u8 u16 i64 wrap)
namespace Go.Proofs.YteaflmalcclnoaaGreatDoor
noncomputable section
abbrev Cyc:=QT15
abbrev cycR:R:=Pq Kc (Pq Kb (Pq Ka Kc))
theorem ZdO (st) (n:Int) (h:0<=n):qAtC st n=true/\qAt st n=st.2.2.1.getD n.toNat 0:=by
 by_cases hn:n<(st.2.2.1.length:Int)
 ·simp[qAtC,qAt,qAtT,RT.val,iN,Le,Zh,h,hn,okB,getO,R.get,R.Df]
 ·have:st.2.2.1.length<=n.toNat:=by omega
  simp[qAtC,qAt,qAtT,RT.val,iN,Le,Zh,h,hn,okB,getO,R.get,R.Df,Yl,Y0 this]
theorem ZeS (st) (n:Int) (h:0<=n):mAtC st n=true/\mAt st n=st.2.2.1.getD n.toNat 0:=by
 by_cases hn:n<(st.2.2.1.length:Int)
 ·simp[mAtC,mAt,mAtT,RT.val,iN,Le,Zh,h,hn,okB,getO,R.get,R.Df]
 ·have:st.2.2.1.length<=n.toNat:=by omega
  simp[mAtC,mAt,mAtT,RT.val,iN,Le,Zh,h,hn,okB,getO,R.get,R.Df,Yl,Y0 this]
theorem qat0 (st):qAtC st 0=true/\qAt st 0=st.2.2.1.getD 0 0:=ZdO st 0 (by decide)
theorem qat1 (st):qAtC st 1=true/\qAt st 1=st.2.2.1.getD 1 0:=ZdO st 1 (by decide)
theorem mat0 (st):mAtC st 0=true/\mAt st 0=st.2.2.1.getD 0 0:=ZeS st 0 (by decide)
theorem mat1 (st):mAtC st 1=true/\mAt st 1=st.2.2.1.getD 1 0:=ZeS st 1 (by decide)
theorem rg0 (g:List Int):R.get (.int .u8) g 0=g.getD 0 0:=rfl
def pick (l:List Cyc) (n:Nat):Cyc×Bool:=(l.getD n (0,0,0,0),decide (n<l.length))
theorem pk (l:List Cyc) (n:Nat):(cond (decide (iN n>=iN l.length)) (some (((0,0,0,0):Cyc),false)) (cond (Zh (iN n) l.length) (some (R.get cycR l (iN n),true)) none))=some (pick l n):=by
 by_cases h:n<l.length
 ·have h1:¬(l.length:Int)<=n:=by omega
  simp[pick,h,h1,Zh,iN,Le,R.get,R.Df]
 ·have h1:(l.length:Int)<=n:=by omega
  simp[pick,h,h1,Zh,iN,Le]
theorem ZbW (x:Cyc) (l) (n:Nat):pick (x::l) (n+1)=pick l n:=by simp[pick]
theorem ZbV (x:Cyc) (l):pick (x::l) 0=(x,true):=by simp[pick]
theorem ZG (s:Int):Zd s=Zz s:=rfl
theorem len0 (g:List Int) (a:Int):(iN (a::g).length==0)=false/\decide (iN (a::g).length>0)=true/\Zh 0 (a::g).length=true:=by
 have:((g.length:Int)+1==0)=false:=by simp;omega
 simp[iN,Le,Zh,this]
theorem ZoZ:(iN ([]:List Int).length==0)=true/\decide (iN ([]:List Int).length>0)=false/\Zh 0 ([]:List Int).length=false:=by decide
theorem Zap (s) (n):Zek s n=ZeJ s.1.2.1 n:=rfl
theorem Za3 (s) (n):qReg s n=rGet s.1.2.1 n:=rfl
theorem Z7 (s):ZhT s=Zga s.2.2.2.1.2.2.2.2.2.2.1 s.1.2.1.2.2.2.2.2.2.2.1:=rfl
theorem Z8 (s i):ZYP s i=Zga i.2.2.2.2.2.2.1 s.1.2.1.2.2.2.2.2.2.2.1:=rfl
theorem ZU (s):Zx s=cond s.2.1 s.1.2.1.2.2.2.2.2.2.2.2.2 (wrap .u16 (s.1.2.1.2.2.2.2.2.2.2.2.2+wrap .u16 s.2.2.2.1.2.1)):=rfl
theorem ZV (s n):ZWC s n=cond s.2.1 s.1.2.1.2.2.2.2.2.2.2.2.2 (wrap .u16 (s.1.2.1.2.2.2.2.2.2.2.2.2+wrap .u16 n)):=rfl
theorem ZdU:wrap .i64 2=2/\wrap .i64 4=4:=by decide
theorem Zcr (s):Zc4 s 1=true/\ZgG s 1=Zid (s.2.2.1.getD 2 0) (s.2.2.1.getD 1 0):=by simp[Zc4,ZgG,Zv4,RT.val,ZdU,ZdO s 2 (by decide),ZdO s 1 (by decide),okB,getO]
theorem ZhV (s):Zc4 s 3=true/\ZgG s 3=Zid (s.2.2.1.getD 4 0) (s.2.2.1.getD 3 0):=by simp[Zc4,ZgG,Zv4,RT.val,ZdU,ZdO s 4 (by decide),ZdO s 3 (by decide),okB,getO]
theorem Zct (s):ZTC s 1=true/\ZYN s 1=Zid (s.2.2.1.getD 2 0) (s.2.2.1.getD 1 0):=by simp[ZTC,ZYN,ZNf,RT.val,ZdU,ZeS s 2 (by decide),ZeS s 1 (by decide),okB,getO]
theorem ZaQ (s):ZgH s=true/\ZiX s=cond (s.2.2.2.1.1==14) (rInr s.1.1 (s.2.2.1.getD 1 0) s.1.2.1.2.2.2.2.2.2.2.1).1 (rDcr s.1.1 (s.2.2.1.getD 1 0) s.1.2.1.2.2.2.2.2.2.2.1).1:=by simp[ZgH,ZiX,ZiW,RT.val,qat1,okB,getO]
theorem ZF (c i v):ZQa c i v=cond (i.1==14) (rInr c.1 v c.2.1.2.2.2.2.2.2.2.1) (rDcr c.1 v c.2.1.2.2.2.2.2.2.2.1):=rfl
abbrev FlgT:=Bool×Bool×Bool×Bool×Bool×Bool×Bool
abbrev RegT:=Int×Int×Int×Int×Int×Int×Int×FlgT×Int×Int
abbrev CpuT:=Int×RegT×Bool×Bool×Bool×Int×Bool×Bool×Bool×Bool×Bool×Bool×Bool
abbrev InsT:=QT4
def opC (c:CpuT) (inj:Bool) (k:Int):Cyc:=bif inj then (9,pcOf c,0,3) else (2,wrap .u16 (pcOf c+wrap .u16 k),0,3)
def ZcP (c:CpuT) (w:Int):List Cyc:=[(5,wrap .u16 (spOf c-1),wrap .u8 (shrI .u16 w 8),3),(5,wrap .u16 (spOf c-2),wrap .u8 w,3)]
def popX (c:CpuT):List Cyc:=[(4,spOf c,0,3),(4,wrap .u16 (spOf c+1),0,3)]
def ZW (c:CpuT) (inj:Bool) (i:InsT):Int:=bif inj then pcOf c else wrap .u16 (pcOf c+wrap .u16 i.2.1)
def Zbn (c:CpuT) (i:InsT):Bool:=Zga i.2.2.2.2.2.2.1 c.2.1.2.2.2.2.2.2.2.1
def ZiM (a:Int):List Cyc:=[(2,a,0,3),(2,wrap .u16 (a+1),0,3)]
def Zec (c:CpuT) (a:Int):List Cyc:=[(3,a,c.2.1.2.2.2.2.2.2.1,3),(3,wrap .u16 (a+1),c.2.1.2.2.2.2.2.1,3)]
def Zcj (c:CpuT) (inj:Bool) (i:InsT):List Cyc:=bif c.1==2&& !Zbn c i then [opC c inj 1] else [opC c inj 1,opC c inj 2]
def Zce (g:List Int) (n:Nat):Int:=Zid (g.getD (n+1) 0) (g.getD n 0)
def ZgX (c:CpuT):Cyc:=(11,pcOf c,0,3)
def ZfB (c:CpuT) (i:InsT) (v:Int):Int:=bif i.1==14 then (rInr c.1 v c.2.1.2.2.2.2.2.2.2.1).1 else (rDcr c.1 v c.2.1.2.2.2.2.2.2.2.1).1
def Zg5 (c:CpuT) (inj:Bool) (g:List Int) (i:InsT):List Cyc:=
 let hl:=ZeJ c.2.1 2
 let dst:=i.2.2.1
 let src:=i.2.2.2.1
 let pr:=i.2.2.2.2.1
 bif i.1==2 then (bif src==6 then [(2,hl,0,3)] else bif dst==6 then [(3,hl,rGet c.2.1 src,3)] else []) else
 bif i.1==3 then opC c inj 1::(bif dst==6 then [(3,hl,g.getD 1 0,3)] else []) else
 bif i.1==4 then [opC c inj 1,opC c inj 2] else
 bif i.1==5 then [opC c inj 1,opC c inj 2,(2,Zce g 1,0,3)] else
 bif i.1==6 then [opC c inj 1,opC c inj 2,(3,Zce g 1,c.2.1.1,3)] else
 bif i.1==7 then opC c inj 1::opC c inj 2::ZiM (Zce g 1) else
 bif i.1==8 then opC c inj 1::opC c inj 2::Zec c (Zce g 1) else
 bif i.1==9 then [(2,ZeJ c.2.1 pr,0,3)] else
 bif i.1==10 then [(3,ZeJ c.2.1 pr,c.2.1.1,3)] else
 bif i.1==12 then (bif src==6 then [(2,hl,0,3)] else []) else
 bif i.1==13 then [opC c inj 1] else
 bif i.1==14||i.1==15 then (bif dst==6 then [(2,hl,0,3),(3,hl,ZfB c i (g.getD 1 0),3)] else []) else
 bif i.1==18||i.1==40||i.1==42 then [ZgX c,ZgX c] else
 bif i.1==24 then Zcj c inj i else
 bif i.1==25 then Zcj c inj i++(bif Zbn c i then ZcP c (ZW c inj i) else []) else
 bif i.1==26 then (bif Zbn c i then popX c else []) else
 bif i.1==27 then ZcP c (ZW c inj i) else
 bif i.1==45 then (bif Zbn c i then ZcP c (ZW c inj i) else []) else
 bif i.1==30 then ZcP c (bif pr==3 then rPSW c.1 c.2.1 else ZeJ c.2.1 pr) else
 bif i.1==31 then popX c else
 bif i.1==32 then popX c++[(5,wrap .u16 (spOf c+1),c.2.1.2.2.2.2.2.1,3),(5,spOf c,c.2.1.2.2.2.2.2.2.1,bif c.1==2 then 3 else 5)] else
 bif i.1==33 then [opC c inj 1,(6,Zid (g.getD 1 0) (g.getD 1 0),0,3)] else
 bif i.1==34 then [opC c inj 1,(7,Zid (g.getD 1 0) (g.getD 1 0),c.2.1.1,3)] else
 bif i.1==37 then (bif c.1==2 then [] else [(10,pcOf c,0,3)]) else
 bif i.1==41 then [ZgX c] else
 bif i.1==43||i.1==44 then [opC c inj 1,ZgX c] else
 bif i.1==46 then Zec c (ZeJ c.2.1 1) else
 bif i.1==47 then ZiM (ZeJ c.2.1 1) else
 []
def Ze1 (c:CpuT) (s:Int) (g:List Int):List Cyc:=
 bif Zz s then (12,pcOf c,0,6)::ZcP c (pcOf c)
 else (bif s==5 then 8 else 1,pcOf c,0,4)::match g with
  |[]=>[]
  |o::_=>Zg5 c (s==5) g (Zc c.1 o)
def Zm (c:CpuT) (s:Int) (g:List Int):Cyc×Bool:=pick (Ze1 c s g) g.length
def sk (x:Cyc):Cyc:=(x.1,0,0,x.2.2.2)
def ZNF (c op:Int):Bool:=decide (1<=(Zc c op).1)&&decide ((Zc c op).1<=47)
theorem ZNE (c op:Int) (h:inR .u8 op):1<=(Zc c op).1/\(Zc c op).1<=47:=by
 have fin:ZNF c op=true->1<=(Zc c op).1/\(Zc c op).1<=47:=by intro hc;simpa [ZNF] using hc
 by_cases hc:c=2
 ·subst hc;exact fin (Zf5 (ZNF 2) (by kernel_rfl) op h)
 ·have h0:=Zf5 (ZNF 0) (by kernel_rfl) op h;have e:Zc c op=Zc 0 op:=by unfold Zc;rw[ZmO c op hc]
  refine fin ?_;simp only[ZNF,e] at h0|-;exact h0
theorem ZN2 {g:List Int} (h:(R.sl (.int .u8)).ok g):inR .u8 (g.getD 0 0):=by
 cases g with
 |nil=>rw[Zgc];simp
 |cons x l=>exact h.2 x (by simp)
theorem ZND {n:Int} (h1:1<=n) (h2:n<=47):n=1\/n=2\/n=3\/n=4\/n=5\/n=6\/n=7\/n=8\/n=9\/n=10\/n=11\/n=12\/n=13\/n=14\/n=15\/n=16\/n=17\/n=18\/n=19\/n=20\/n=21\/n=22\/n=23\/n=24\/n=25\/n=26\/n=27\/n=28\/n=29\/n=30\/n=31\/n=32\/n=33\/n=34\/n=35\/n=36\/n=37\/n=38\/n=39\/n=40\/n=41\/n=42\/n=43\/n=44\/n=45\/n=46\/n=47:=by omega
end
end Go.Proofs.YteaflmalcclnoaaGreatDoor
open Go.Proofs.Tryz (prog)
namespace Go.Proofs.YteaflmalcclnoaaGreatDoor
noncomputable section
def ZdD (k:Int):En:=.tree (Zo (envX prog [(37,ZwJ k),(116,qAtE)] [] 255 8) Tryz.f43)
theorem ZfW (k:Int):Za prog 43 (ZdD k):=ZL (P:=prog) (n:=255) (k:=8) (l:=[(37,ZwJ k),(116,qAtE)]) (ol:=[]) ⟨(ZEm k),ZiZ,Tv⟩ Tryz.func43 rfl (by kernel_rfl) Tryz.call43 trivial
def Zk:En:=.tree (Zo (envX prog [] [] 255 8) Tryz.f117)
theorem ZQ:Za prog 117 Zk:=ZL trivial Tryz.func117 rfl (by kernel_rfl) Tryz.call117 trivial
def Zbm:En:=.tree (Zo (envX prog [(117,Zk)] [] 15 8) Tryz.f45)
theorem Zc6:Za prog 45 Zbm:=ZL ⟨ZQ,Tv⟩ Tryz.func45 rfl (by kernel_rfl) Tryz.call45 trivial
def Zv:En:=.tree (Zo (envX prog [(117,Zk)] [] 31 8) Tryz.f120)
theorem Zam:Za prog 120 Zv:=ZL ⟨ZQ,Tv⟩ Tryz.func120 rfl (by kernel_rfl) Tryz.call120 trivial
def Zas:En:=.tree (Zo (envX prog [(117,Zk)] [] 63 8) Tryz.f124)
theorem ZcW:Za prog 124 Zas:=ZL ⟨ZQ,Tv⟩ Tryz.func124 rfl (by kernel_rfl) Tryz.call124 trivial
def Za4:En:=.tree (Zo (envX prog [(117,Zk),(120,Zv),(124,Zas),(185,Zm0)] [] 268570631 8) Tryz.f122)
theorem ZdZ:Za prog 122 Za4:=ZL ⟨ZQ,Zam,ZcW,Zsl,Tv⟩ Tryz.func122 rfl (by kernel_rfl) Tryz.call122 trivial
def Zcm:En:=.tree (Zo (envX prog [(120,Zv),(187,Zie)] [] 15 8) Tryz.f186)
theorem Zgl:Za prog 186 Zcm:=ZL ⟨Zam,ZmY,Tv⟩ Tryz.func186 rfl (by kernel_rfl) Tryz.call186 trivial
def ZcI:En:=.tree (Zo (envX prog [(117,Zk)] [] 3 8) Tryz.f188)
theorem ZgY:Za prog 188 ZcI:=ZL ⟨ZQ,Tv⟩ Tryz.func188 rfl (by kernel_rfl) Tryz.call188 trivial
def Zcn:En:=.tree (Zo (envX prog [(117,Zk)] [] 15 8) Tryz.f190)
theorem Zgm:Za prog 190 Zcn:=ZL ⟨ZQ,Tv⟩ Tryz.func190 rfl (by kernel_rfl) Tryz.call190 trivial
def ZaS:En:=.tree (Zo (envX prog [(45,Zbm),(117,Zk),(118,ZgE),(120,Zv),(126,ZiY),(186,Zcm),(187,Zie),(188,ZcI),(189,ZLB),(190,Zcn)] [] 1517844491342638470129438826421819271357141255 8) Tryz.f125)
theorem ZdJ:Za prog 125 ZaS:=ZL ⟨Zc6,ZQ,ZiT,Zam,ZqE,Zgl,ZmY,ZgY,ZQ2,Zgm,Tv⟩ Tryz.func125 rfl (by kernel_rfl) Tryz.call125 trivial
def ZdS:En:=.tree (Zo (envX prog [(116,qAtE),(117,Zk),(118,ZgE),(119,Zv3),(120,Zv),(121,Zm1),(122,Za4),(123,Ztk),(124,Zas),(125,ZaS)] [] 2854495396045824897803138545268610783927869455 8) Tryz.f46)
theorem Zgn:Za prog 46 ZdS:=ZL ⟨ZiZ,ZQ,ZiT,Zsk,Zam,Zze,ZdZ,ZwD,ZcW,ZdJ,Tv⟩ Tryz.func46 rfl (by kernel_rfl) Tryz.call46 trivial
abbrev Zu:List Sh:=[Sh.agg Zbc,So Kc,So (R.sl Ka)]
abbrev ZAG:Rs:=Rs.tup [Sh.agg (RY),So R.bool]
def ZLK (k:Int):List (FuncId×En):=[(43,ZdD k),(44,Zkj),(45,Zbm),(46,ZdS)]
theorem ZLJ (k:Int):ZdM prog (ZLK k):=⟨(ZfW k),Zk1,Zc6,Zgn,Tv⟩
abbrev EV1 (k:Int) (a:HL Zu):=Zg1 (envX prog (ZLK k) [] 1125900980585471 8) Tryz.f16 Zu ZAG a
