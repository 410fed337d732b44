import Derived.Test.YtpnjbfjomebppaaGreatBnd3
import Derived.Test.YtpnjbfjomebppaaGreatS3Okr
open Go Go.S3 Go.Proofs Go.Proofs.Cells
set_option linter.unusedVariables false
set_option linter.unusedSimpArgs false
set_option maxRecDepth 100000
namespace Go.Proofs.YtpnjbfjomebppaaGreat
noncomputable section
theorem lvalB {t:RT (Option Bool)} (h:t.val=some true):okB t.val=true/\getO false t.val=true:=by rw[h];exact⟨rfl,rfl⟩
theorem Z2g:kKbC=true/\kKb=true:=lvalB (t:=kKbT) (by kernel_rfl)
def Z0V (K:BRDT×RUNT):Prop:=(∀r∈K.1.2.1,inR .u16 r.1/\inR .u16 r.2.1)/\∀c∈K.1.2.2.2.2.2.2,inR .u16 c.1
open Classical in
def Z2 (n:List Int) (h:Bool):BRDT×RUNT:=if Z0V (ZEC n h) then ZEC n h else ((0,[],0,0,0,false,[]),([],[],[],[],ZAs))
def ZSk:En:=Zg ZEB Zwt (λa=>some (ZzJ a.1 a.2)) (λa=>Z2 a.1 a.2)
theorem ZSj:Za Tryz.prog 38 ZSk:=ZVA.pure_pick (by decide) (λa h hp ho=>by
 have hin:Z0V (ZEC a.1 a.2):=⟨λr hr=>⟨(ho.1.2.1.2 r hr).1,(ho.1.2.1.2 r hr).2.1⟩,λc hc=>(ho.1.2.2.2.2.2.2.2 c hc).1⟩;show ZEC a.1 a.2=Z2 a.1 a.2;unfold Z2
 rw[YT hin])
def scrK (n:List Int):List INPT:=Za7 (Zd6 (ZaG (n,0)).2 90).1
theorem ZYL (b:BRDT) (l:List INPT) (hg:smG b.2.1=true) (hm:b.2.2.2.2.2.2.length<=100000) (hl:l.length<=1000):(ZBc b l).1.2.2.1.length<=2001:=by
 obtain⟨_,_,h0⟩:=ZMo b hg hm;unfold ZBc;cases hx:(wNew b).2 !=0
 ·have h0:=(h0 (by simpa using hx)).1;have hf:=(ZwD b (Zdk b) l (Zjo b) 0 h0).ev;rw[Yu] at hf;show (endS (Zdk b) (Zcs b (Zdk b) (Zjo b) l)).2.2.1.length<=2001;unfold endS;cases ZhX (Zcs b (Zdk b) (Zjo b) l).1.1
  ·simp only[Yc];omega
  ·simp;omega
 ·exact Ys _
theorem Z1n (n:List Int):ZzJ n true=true/\smG (Z2 n true).1.2.1=true/\Zlo (Z2 n true).1.2.1/\(Z2 n true).1.2.2.2.2.2.2.length<=200/\In16 (Z2 n true).1.2.2.2.2.2.2/\(Z2 n true).2.2.2.1.length<=2001:=by
 obtain⟨c1,b1,⟨s1,bs1,hr⟩,hch,_,l,hl,hi⟩:=ZRS (Z0I n) (by omega);obtain⟨c2,_,l2⟩:=ZRI bs1 (by omega);obtain⟨c3,b3,l3,_⟩:=ZLs b1 (by omega) 90 (by omega);have hg:smG (ZaG (n,0)).1.2.1=true:=by rw[hr];exact smGb (by omega)
 have hm:(ZaG (n,0)).1.2.2.2.2.2.2.length<=200:=by rw[hi];exact YS (Zd4 l) hl
 have l3:(Zd6 (ZaG (n,0)).2 90).1.length<=4*90:=l3;have hd:=(ZqJ (Zd6 (ZaG (n,0)).2 90).1 (by omega)).2;have hsl:(scrK n).length<=90:=by unfold scrK;rw[hd];omega
 obtain⟨w1,w2⟩:=ZX8 (ZaG (n,0)).1 (Zd6 (ZaG (n,0)).2 90).1 hg (by omega) (by omega);have c3':Zhc (ZaG (n,0)).2 90=true:=c3;have hv:(ZzI n true).val=some ((ZaG (n,0)).1,(ZBc (ZaG (n,0)).1 (scrK n)).1):=by simp only[ZzI,RT.val,c1,c3',Yg,Yc,w1,w2,Yf,Ya];rfl
 have e:ZEC n true=((ZaG (n,0)).1,(ZBc (ZaG (n,0)).1 (scrK n)).1):=by simp only[ZEC,hv,getO]
 refine⟨by simp only[ZzJ,hv];rfl,?_⟩;unfold Z2;split
 ·rename_i hin;unfold Z0V at hin;rw[e] at hin|-;exact⟨hg,λr hr=>by obtain⟨h1,h2⟩:=hin.1 r hr;rw[Zfs] at h1 h2;omega,hm,λc hc=>by have:=hin.2 c hc;rwa [Zfs] at this,ZYL _ _ hg (by omega) (by omega)⟩
 ·exact⟨smGb (by simp),λr hr=>(by cases hr),by simp,λc hc=>(by cases hc),by simp⟩
end
end Go.Proofs.YtpnjbfjomebppaaGreat
open Go.IntKind (u8 u16 i64)
open Go Go.S3 Go.Proofs
namespace Go.Proofs.YtpnjbfjomebppaaGreat
noncomputable section
abbrev ZlX:List Sh:=[Sh.agg Zr,So (R.sl Zau),So rcCE,So (R.sl Kc)]
def Zkt (c:TC) (l:List EVTT) (m:List (Int×Int)) (n:List Int):RT (Option (Bool)):=
 let p1:=(!Zmc (ZhF c l) (Ze4 c l))::(!Zih (ZhF c l) (Ze4 c l))::(!ZeA c l)::(!Ze6 c l)::[]
 let p2:=(!ZgO c (Z2 n true).1.2.1 m l)::p1
 let p3:=(!ZeB c (Z2 n true).1.2.1 m l)::p2
 let x1:= !ZL8 l||(decide (iN (Le m)>40)||decide (iN (Le n)>250))
 let x2:=decide (ZhG c (Z2 n true).1.2.1 m l=Zie c (Z2 n true).1.2.1 m l)
 let x3:= !x2
 let p4:=x3::(!smC (ZhG c (Z2 n true).1.2.1 m l))::p3
 let x4:=ZgO (Zk3 (Z2 n true).1) (Z2 n true).1.2.1 (Z2 n true).1.2.2.2.2.2.2 (Z2 n true).2.2.2.1
 let x5:= !x4
 let p5:=x5::p4
 let x6:=ZeB (Zk3 (Z2 n true).1) (Z2 n true).1.2.1 (Z2 n true).1.2.2.2.2.2.2 (Z2 n true).2.2.2.1
 let x7:= !x6
 let p6:=x7::p5
 let x8:=ZhG (Zk3 (Z2 n true).1) (Z2 n true).1.2.1 (Z2 n true).1.2.2.2.2.2.2 (Z2 n true).2.2.2.1
 let x9:=smC x8
 let x10:=decide (x8=Zie (Zk3 (Z2 n true).1) (Z2 n true).1.2.1 (Z2 n true).1.2.2.2.2.2.2 (Z2 n true).2.2.2.1)
 let p7:=(!x10)::(!x9)::p6
 .br (ZAv l) (.br (!x1||kKbC) (.br (x1) (Ls (true)) (.br (ZzJ n true) (.br (orR p7 kKbC) (.br (orR p6 x9) (.br (orR p5 x6) (.br (orR p4 x4) (.br (orR p3 (smC (ZhG c (Z2 n true).1.2.1 m l))) (.br (orR p2 (ZeB c (Z2 n true).1.2.1 m l)) (.br (orR p1 (ZgO c (Z2 n true).1.2.1 m l)) (.br (!Ze6 c l||(!ZeA c l||Zih (ZhF c l) (Ze4 c l))) (.br (!Ze6 c l||ZeA c l) (.br (Ze6 c l) (Ls (Zmc (ZhF c l) (Ze4 c l)&&(x2&&(x10&&kKb)))) Ln) Ln) Ln) Ln) Ln) Ln) Ln) Ln) Ln) Ln) Ln)) Ln) Ln
def ZH8 (c:TC) (l:List EVTT) (m:List (Int×Int)) (n:List Int):Bool:=getO Zof.Df (Zkt c l m n).val
def Zwq (c:TC) (l:List EVTT) (m:List (Int×Int)) (n:List Int):Bool:=okB (Zkt c l m n).val
def Z0t:En:=Zg ZlX Zof (λa=>some (Zwq a.1 a.2.1 a.2.2.1 a.2.2.2)) (λa=>ZH8 a.1 a.2.1 a.2.2.1 a.2.2.2)
theorem lRepl2_ok:Za Tryz.prog 6 Z0t:=
 pureP 2047 [(34,Ztv),(35,ZE4),(36,ZL7),(37,kKbE),(38,ZSk),(39,ZE2),(40,ZE3),(41,ZwZ),(42,Zw0),(43,ZSi)] [] ZlX Zof ⟨Zrr,ZII,ZL5,Z2k,ZSj,ZIE,ZIG,ZAn,ZAp,ZSg,Tv⟩ Tryz.func6 Tryz.call6 trivial (t:=λa=>Zkt a.1 a.2.1 a.2.2.1 a.2.2.2)
